/-
  The walk of calm: rounds without losses.
-/
import Derived.Test.YtmjdkgpckcdndaaNWp
namespace Go.Proofs.Ytmjdkgpckcdndaa
open Go.RowKit
set_option linter.unusedSimpArgs false
set_option linter.unusedVariables false
attribute [local irreducible] Res.blk Res.sl Res.all Res.ex Res.pure Res.star

/-- What a round without losses leaves as it is. -/
structure Still (x x' : Net) : Prop where
  home : x'.home = x.home
  lag : x'.lag = x.lag
  acked : x'.acked = x.acked
  req : ∀ i, i < 2 → (x'.sd i).req = (x.sd i).req
set_option maxHeartbeats 16000000 in
set_option maxRecDepth 10000 in
theorem netcalm_z (gx : Nat) (x : Net) (sv : Nat → List ShV) (B : Nat) (r : World) (F : List Res) (w : World) (hS : Sep r [] (NTR gx x sv :: F) w) (hI0 : NInv x B) (hB : B ≤ 200) :
    Calls Try.prog 42 #[.pointer (some ⟨gx, 0, .none⟩), .int .i64 40] w fun e w' => ∃ x', e = .returned (.bool true) ∧ NInv x' B ∧ Near x' 0 40 ∧ Near x' 1 40 ∧ Still x x' ∧
      Sep r [] (NTR gx x' sv :: F) w' := by
  refine Z.enter Try.func42 Try.ntmps42 rfl rfl ?_
  repeat' (first|refine VP ?_|refine Sh.la hS ?_|refine Sh.lb ?_|refine Sh.lc ?_|refine Sh.su ?_|(refine Sh.sa hS ?_;clear hS;intro w hS)|((first|refine Sh.aa hS ?_|refine Sh.ab hS ?_|refine Sh.ac hS ?_);clear hS;intro g w hS hge)|refine Sh.ix ?_|refine Sh.up ?_|refine Sh.sl1 ?_|refine Sh.sl2 ?_|refine Sh.sl5 ?_|refine Sh.sl3 ?_|refine Sh.sl4 ?_|refine Sh.eq ?_|refine Sh.ne ?_|refine Sh.ix2 ?_|refine Sh.ix3 ?_|refine Z.bu rfl rfl ?_|refine VM ?_|refine Z.pl (R.cap rfl rfl) ?_|refine Z.pl R.mf ?_|refine Z.pl (R.min2 rfl rfl) ?_|refine G1 ?_|refine G2 ?_|refine G3 ?_|refine G4 ?_|with_reducible (first|refine V0 ?_|refine Z.block ?_)|((with_reducible refine Z.blX ?_ ?_);rotate_left;rfl)|refine VT ?_|refine VF ?_|((first|refine GS ?_ ?_|refine VB ?_ ?_)<;>intro hb<;>(try simp only [J1,J2,J3,J4,J5,J6] at hb)<;>(try (exfalso;first|omega|exact hb trivial))))
  refine Z.lpS [4, 5, 6, 7, 8, 9, 11, 12, 13, 14, 15, 16, 17, 18, 19, 20, 21, 22, 23, 24, 25, 26, 27, 28, 29, 30, 31, 32, 33, 34, 35, 36, 37, 38, 39, 40, 41, 42, 43, 44, 45, 46, 47, 48, 49, 50, 51, 52, 53, 54, 55, 56, 57, 58, 59, 60] (fun m w s => ∃ (q : Nat) (y : Net), s = [(11, .int .i64 q)] ∧ q ≤ 40 ∧ m = 40 - q ∧ NInv y B ∧ Near y 0 q ∧ Near y 1 q ∧ Still x y ∧ Sep r [] (NTR gx y sv :: F) w) _ [(11, .int .i64 (0 : Nat))] (by repeat (first | exact trivial | refine ⟨rfl, ?_⟩)) ⟨0, x, rfl, by omega, rfl, hI0, .inl rfl, .inl rfl, ⟨rfl, rfl, rfl, fun _ _ => rfl⟩, hS⟩ ?_
  clear hS
  rintro m f0' w _ ⟨q, y, rfl, hq, rfl, hI, hn0, hn1, hst, hS⟩
  by_cases hlt : q < 40
  · obtain ⟨p, hS⟩ := Sep.NT_open.1 hS
    obtain ⟨gh, gw, gl, c0, c1, f0, f1, vh, vw, v0, v1, A0, A1, B0, B1, k0, k1, m0, m1⟩ := p
    simp only [NR, NB, List.cons_append, List.nil_append] at hS
    repeat' (first|refine VP ?_|refine Sh.la hS ?_|refine Sh.lb ?_|refine Sh.lc ?_|refine Sh.su ?_|(refine Sh.sa hS ?_;clear hS;intro w hS)|((first|refine Sh.aa hS ?_|refine Sh.ab hS ?_|refine Sh.ac hS ?_);clear hS;intro g w hS hge)|refine Sh.ix ?_|refine Sh.up ?_|refine Sh.sl1 ?_|refine Sh.sl2 ?_|refine Sh.sl5 ?_|refine Sh.sl3 ?_|refine Sh.sl4 ?_|refine Sh.eq ?_|refine Sh.ne ?_|refine Sh.ix2 ?_|refine Sh.ix3 ?_|refine Z.bu rfl rfl ?_|refine VM ?_|refine Z.pl (R.cap rfl rfl) ?_|refine Z.pl R.mf ?_|refine Z.pl (R.min2 rfl rfl) ?_|refine G1 ?_|refine G2 ?_|refine G3 ?_|refine G4 ?_|with_reducible (first|refine V0 ?_|refine Z.block ?_)|((with_reducible refine Z.blX ?_ ?_);rotate_left;rfl)|refine VT ?_|refine VF ?_|((first|refine GS ?_ ?_|refine VB ?_ ?_)<;>intro hb<;>(try simp only [J1,J2,J3,J4,J5,J6] at hb)<;>(try (exfalso;first|omega|exact hb trivial))))
    refine Z.unr 3 ?_
    repeat' (first|refine VP ?_|refine Sh.la hS ?_|refine Sh.lb ?_|refine Sh.lc ?_|refine Sh.su ?_|(refine Sh.sa hS ?_;clear hS;intro w hS)|((first|refine Sh.aa hS ?_|refine Sh.ab hS ?_|refine Sh.ac hS ?_);clear hS;intro g w hS hge)|refine Sh.ix ?_|refine Sh.up ?_|refine Sh.sl1 ?_|refine Sh.sl2 ?_|refine Sh.sl5 ?_|refine Sh.sl3 ?_|refine Sh.sl4 ?_|refine Sh.eq ?_|refine Sh.ne ?_|refine Sh.ix2 ?_|refine Sh.ix3 ?_|refine Z.bu rfl rfl ?_|refine VM ?_|refine Z.pl (R.cap rfl rfl) ?_|refine Z.pl R.mf ?_|refine Z.pl (R.min2 rfl rfl) ?_|refine G1 ?_|refine G2 ?_|refine G3 ?_|refine G4 ?_|with_reducible (first|refine V0 ?_|refine Z.block ?_)|((with_reducible refine Z.blX ?_ ?_);rotate_left;rfl)|refine VT ?_|refine VF ?_|((first|refine GS ?_ ?_|refine VB ?_ ?_)<;>intro hb<;>(try simp only [J1,J2,J3,J4,J5,J6] at hb)<;>(try (exfalso;first|omega|exact hb trivial))))
    have hgI := (hI.each 0 (by omega)).elim fun j hj => (hj.len hI.isH).2.2
    have hhl := hI.hB
    have hsl : shipL y.ld 2 y.home.h = (shipS y.ep (y.sd 0) y.home.h, true) := by unfold shipL; rw [(ld_at (hI.cell 0 (by omega)) (hI.cell 1 (by omega))).1]; rfl
    obtain ⟨hI2, hn2, he0, ha1, ha2, ha3⟩ := hI.calm (i := 0) (by omega) hn0
    have hhr := ld_hear0 (hI.cell 0 (by omega)) (hI.cell 1 (by omega)) ha1 ha2 (by omega : (takeF (y.fo 0) (shipS y.ep (y.sd 0) y.home.h)).2.1.applied ≤ 4096)
    refine Z.cut [6, 7, 16, 17, 18, 19, 20, 21, 22, 23, 24, 25, 26, 27, 28, 29, 30] (fun w s => ∃ g7 A6 c6, s = [(6, .pointer (some ⟨g7, 0, .none⟩)), (7, .bool true)] ∧ Sep r [] (.blk g7 28 (ShV.cells ⟨shipS y.ep (y.sd 0) y.home.h, A6, c6⟩) :: .sl 51 8 (.slice A6 (shipS y.ep (y.sd 0) y.home.h).ch.length c6) ((shipS y.ep (y.sd 0) y.home.h).ch.map Ch.cells) :: .blk gx 79 [.pointer (some ⟨gh, 0, .none⟩), .pointer (some ⟨gw, 0, .none⟩), .pointer (some ⟨gl, 0, .none⟩), .pointer (some ⟨c0, 0, .none⟩), .pointer (some ⟨c1, 0, .none⟩), .pointer (some ⟨f0, 0, .none⟩), .pointer (some ⟨f1, 0, .none⟩), .slice A0 (sv 0).length k0, .slice A1 (sv 1).length k1, .slice B0 (y.he 0).length m0, .slice B1 (y.he 1).length m1, .int .i64 y.ep] :: PC gh 1 0 vh y.home :: CR gw 1 0 vw y.home :: PL gl y.ld :: PC c0 2 0 v0 (y.fo 0).c :: PC c1 3 0 v1 (y.fo 1).c :: .blk f0 102 [.pointer (some ⟨c0, 0, .none⟩), .int .i64 (y.fo 0).seen, .int .i64 (y.fo 0).agreed] :: .blk f1 102 [.pointer (some ⟨c1, 0, .none⟩), .int .i64 (y.fo 1).seen, .int .i64 (y.fo 1).agreed] :: .sl 28 4 (.slice A0 (sv 0).length k0) ((sv 0).map ShV.cells) :: .sl 28 4 (.slice A1 (sv 1).length k1) ((sv 1).map ShV.cells) :: .sl 53 3 (.slice B0 (y.he 0).length m0) ((y.he 0).map He.cells) :: .sl 53 3 (.slice B1 (y.he 1).length m1) ((y.he 1).map He.cells) :: F) w) ?_ ?_
    · refine D.startS (Lr := [.blk gx 79 _]) (hS.sb) 16 18 (by kernel_rfl) rfl ?_
      replace hS := hS.drew
      refine Sh.dp 0 1 ?_
      refine Sh.dp 1 3 ?_
      refine Sh.dp 2 7 ?_
      refine Sh.dp 4 23 ?_
      first | refine D.sum 5 55 rfl D.wantedN (by kernel_rfl) rfl (by constructor <;> omega) ?_ | refine D.sumW 5 55 rfl D.wantedN (by kernel_rfl) rfl ?_
      refine Sh.dp 6 119 ?_
      refine Sh.dp 7 247 ?_
      refine Sh.dp 8 503 ?_
      refine Sh.dl 3 511 ?_
      refine Sh.dl 9 1023 ?_
      refine D.each [10, 15] (by kernel_rfl) rfl ?_
      refine D.econs 10 2047 rfl D.wantedN (by kernel_rfl) (fun _ _ h => h) ?_ ?_
      · replace hS := hS.fo (R := PC gh _ _ _ _)
        refine Z.cl (phist0_z gh 1 0 vh y.home _ _ _ hS (by omega)) rfl ?_
        clear hS
        rintro e w ⟨A5, c5, rfl, hS⟩
        refine ⟨_, rfl, ?_⟩
        refine ⟨HM.s (hS.sb), ?_⟩
        refine D.each [11, 15] (by kernel_rfl) rfl ?_
        refine D.econs 11 4095 rfl D.wantedN (by kernel_rfl) (fun _ _ h => h) ?_ ?_
        · replace hS := hS.fo (R := PL gl _)
          refine Z.cl (plship_z gl y.ld 2 (by unfold I64; omega) y.home.h _ _ _ _ hS hI.ld (Reads.of_at (e := 51) (v := .slice A5 y.home.h.length c5) (by repeat (first | exact At.here | apply At.next))) (by omega)) rfl ?_
          clear hS
          rintro e w ⟨A6, c6, rfl, hS⟩
          refine ⟨_, rfl, ?_⟩
          rw [hsl] at hS ⊢
          dsimp only at hS ⊢
          refine ⟨HM.s (hS.sb), ?_⟩
          refine Sh.dp 12 8191 ?_
          refine Sh.dp 13 16383 ?_
          refine Sh.dp 14 32767 ?_
          refine D.eff 15 65535 rfl D.wantedN (by kernel_rfl) (by kernel_rfl) (fun _ _ h => h) ?_
          refine Z.al hS ?_
          clear hS; intro g w hS hge
          refine ⟨HM.s (hS.sb), ?_⟩
          refine D.eff 16 131071 rfl D.wantedN (by kernel_rfl) (by kernel_rfl) (fun _ _ h => h) ?_
          refine Z.st hS rfl (by repeat (first | exact At.here | apply At.next)) rfl rfl ?_
          clear hS; intro w hS
          refine ⟨HM.last (by kernel_rfl), ?_⟩
          refine Sh.dp 17 262143 ?_
          refine D.done (by kernel_rfl) ?_
          refine Sh.cut [(6, _), (7, _)] ?_
          exact ⟨_, A6, c6, rfl, hS.sb⟩
        refine D.econs 15 34815 rfl D.wantedN (by kernel_rfl) (fun _ _ h => h) ?_ ?_
        · refine Z.al hS ?_
          clear hS; intro g w hS hge
          refine ⟨HM.s (hS.sb), ?_⟩
          refine D.eff 11 36863 rfl D.wantedN (by kernel_rfl) (by kernel_rfl) (fun _ _ h => h) ?_
          replace hS := hS.fo (R := PL gl _)
          refine Z.cl (plship_z gl y.ld 2 (by unfold I64; omega) y.home.h _ _ _ _ hS hI.ld (Reads.of_at (e := 51) (v := .slice A5 y.home.h.length c5) (by repeat (first | exact At.here | apply At.next))) (by omega)) rfl ?_
          clear hS
          rintro e w ⟨A6, c6, rfl, hS⟩
          refine ⟨_, rfl, ?_⟩
          rw [hsl] at hS ⊢
          dsimp only at hS ⊢
          refine ⟨HM.s (hS.sb), ?_⟩
          refine Sh.dp 12 40959 ?_
          refine Sh.dp 13 49151 ?_
          refine Sh.dp 14 65535 ?_
          refine D.eff 16 131071 rfl D.wantedN (by kernel_rfl) (by kernel_rfl) (fun _ _ h => h) ?_
          refine Z.st hS rfl (by repeat (first | exact At.here | apply At.next)) rfl rfl ?_
          clear hS; intro w hS
          refine ⟨HM.last (by kernel_rfl), ?_⟩
          refine Sh.dp 17 262143 ?_
          refine D.done (by kernel_rfl) ?_
          refine Sh.cut [(6, _), (7, _)] ?_
          exact ⟨_, A6, c6, rfl, hS.sb⟩
        exact D.enil
      refine D.econs 15 33791 rfl D.wantedN (by kernel_rfl) (fun _ _ h => h) ?_ ?_
      · refine Z.al hS ?_
        clear hS; intro g w hS hge
        refine ⟨HM.s (hS.sb), ?_⟩
        refine D.eff 10 34815 rfl D.wantedN (by kernel_rfl) (by kernel_rfl) (fun _ _ h => h) ?_
        replace hS := hS.fo (R := PC gh _ _ _ _)
        refine Z.cl (phist0_z gh 1 0 vh y.home _ _ _ hS (by omega)) rfl ?_
        clear hS
        rintro e w ⟨A5, c5, rfl, hS⟩
        refine ⟨_, rfl, ?_⟩
        refine ⟨HM.s (hS.sb), ?_⟩
        refine D.eff 11 36863 rfl D.wantedN (by kernel_rfl) (by kernel_rfl) (fun _ _ h => h) ?_
        replace hS := hS.fo (R := PL gl _)
        refine Z.cl (plship_z gl y.ld 2 (by unfold I64; omega) y.home.h _ _ _ _ hS hI.ld (Reads.of_at (e := 51) (v := .slice A5 y.home.h.length c5) (by repeat (first | exact At.here | apply At.next))) (by omega)) rfl ?_
        clear hS
        rintro e w ⟨A6, c6, rfl, hS⟩
        refine ⟨_, rfl, ?_⟩
        rw [hsl] at hS ⊢
        dsimp only at hS ⊢
        refine ⟨HM.s (hS.sb), ?_⟩
        refine Sh.dp 12 40959 ?_
        refine Sh.dp 13 49151 ?_
        refine Sh.dp 14 65535 ?_
        refine D.eff 16 131071 rfl D.wantedN (by kernel_rfl) (by kernel_rfl) (fun _ _ h => h) ?_
        refine Z.st hS rfl (by repeat (first | exact At.here | apply At.next)) rfl rfl ?_
        clear hS; intro w hS
        refine ⟨HM.last (by kernel_rfl), ?_⟩
        refine Sh.dp 17 262143 ?_
        refine D.done (by kernel_rfl) ?_
        refine Sh.cut [(6, _), (7, _)] ?_
        exact ⟨_, A6, c6, rfl, hS.sb⟩
      exact D.enil
    clear hS
    rintro q3 w _ ⟨g7, A6, c6, rfl, hS⟩
    repeat' (first|refine VP ?_|refine Sh.la hS ?_|refine Sh.lb ?_|refine Sh.lc ?_|refine Sh.su ?_|(refine Sh.sa hS ?_;clear hS;intro w hS)|((first|refine Sh.aa hS ?_|refine Sh.ab hS ?_|refine Sh.ac hS ?_);clear hS;intro g w hS hge)|refine Sh.ix ?_|refine Sh.up ?_|refine Sh.sl1 ?_|refine Sh.sl2 ?_|refine Sh.sl5 ?_|refine Sh.sl3 ?_|refine Sh.sl4 ?_|refine Sh.eq ?_|refine Sh.ne ?_|refine Sh.ix2 ?_|refine Sh.ix3 ?_|refine Z.bu rfl rfl ?_|refine VM ?_|refine Z.pl (R.cap rfl rfl) ?_|refine Z.pl R.mf ?_|refine Z.pl (R.min2 rfl rfl) ?_|refine G1 ?_|refine G2 ?_|refine G3 ?_|refine G4 ?_|with_reducible (first|refine V0 ?_|refine Z.block ?_)|((with_reducible refine Z.blX ?_ ?_);rotate_left;rfl)|refine VT ?_|refine VF ?_|((first|refine GS ?_ ?_|refine VB ?_ ?_)<;>intro hb<;>(try simp only [J1,J2,J3,J4,J5,J6] at hb)<;>(try (exfalso;first|omega|exact hb trivial))))
    refine Z.cut [8, 9, 31, 32, 33, 34, 35, 36, 37, 38, 39, 40, 41] (fun w s => ∃ g9, s = [(8, .pointer (some ⟨g9, 0, .none⟩)), (9, .int .i64 0)] ∧ Sep r [] (.blk g9 53 (takeF (y.fo 0) (shipS y.ep (y.sd 0) y.home.h)).2.1.cells :: PC c0 2 0 v0 (takeF (y.fo 0) (shipS y.ep (y.sd 0) y.home.h)).1.c :: .blk f0 102 [.pointer (some ⟨c0, 0, .none⟩), .int .i64 (takeF (y.fo 0) (shipS y.ep (y.sd 0) y.home.h)).1.seen, .int .i64 (takeF (y.fo 0) (shipS y.ep (y.sd 0) y.home.h)).1.agreed] :: .blk gx 79 [.pointer (some ⟨gh, 0, .none⟩), .pointer (some ⟨gw, 0, .none⟩), .pointer (some ⟨gl, 0, .none⟩), .pointer (some ⟨c0, 0, .none⟩), .pointer (some ⟨c1, 0, .none⟩), .pointer (some ⟨f0, 0, .none⟩), .pointer (some ⟨f1, 0, .none⟩), .slice A0 (sv 0).length k0, .slice A1 (sv 1).length k1, .slice B0 (y.he 0).length m0, .slice B1 (y.he 1).length m1, .int .i64 y.ep] :: PC gh 1 0 vh y.home :: CR gw 1 0 vw y.home :: PL gl y.ld :: PC c1 3 0 v1 (y.fo 1).c :: .blk f1 102 [.pointer (some ⟨c1, 0, .none⟩), .int .i64 (y.fo 1).seen, .int .i64 (y.fo 1).agreed] :: .sl 28 4 (.slice A0 (sv 0).length k0) ((sv 0).map ShV.cells) :: .sl 28 4 (.slice A1 (sv 1).length k1) ((sv 1).map ShV.cells) :: .sl 53 3 (.slice B0 (y.he 0).length m0) ((y.he 0).map He.cells) :: .sl 53 3 (.slice B1 (y.he 1).length m1) ((y.he 1).map He.cells) :: F) w) ?_ ?_
    · refine D.startS (Lr := [.blk gx 79 _, .blk g7 28 _]) (hS.sb) 12 14 (by kernel_rfl) rfl ?_
      replace hS := hS.drew
      refine Sh.dp 0 1 ?_
      refine Sh.dp 1 3 ?_
      refine Sh.dp 2 7 ?_
      refine Sh.dp 3 15 ?_
      first | refine D.ixn 4 31 rfl D.wantedN (by kernel_rfl) rfl rfl rfl (by omega) ?_ | refine D.ix 4 31 rfl D.wantedN (by kernel_rfl) rfl rfl rfl (by omega) ?_ | refine D.ia 4 31 rfl D.wantedN (by kernel_rfl) rfl rfl rfl (by omega) ?_
      refine Sh.dl 5 63 ?_
      refine Sh.dl 6 127 ?_
      refine D.each [7, 11] (by kernel_rfl) rfl ?_
      refine D.econs 7 255 rfl D.wantedN (by kernel_rfl) (fun _ _ h => h) ?_ ?_
      · replace hS := hS.fo (R := PC c0 _ _ _ _)
        replace hS := hS.fo (R := .blk f0 _ _)
        refine Z.cl (ptake_z f0 c0 2 0 _ (y.fo 0) (shipS y.ep (y.sd 0) y.home.h) _ _ _ _ hS (Reads.of_at (e := 51) (v := .slice A6 _ c6) (by repeat (first | exact At.here | apply At.next))) hgI) rfl ?_
        clear hS
        rintro e w ⟨rfl, hS⟩
        refine ⟨_, rfl, ?_⟩
        rw [he0]
        refine ⟨HM.s (hS.sb), ?_⟩
        refine Sh.dp 8 511 ?_
        refine Sh.dp 9 1023 ?_
        refine Sh.dp 10 2047 ?_
        refine D.eff 11 4095 rfl D.wantedN (by kernel_rfl) (by kernel_rfl) (fun _ _ h => h) ?_
        refine Z.al hS ?_
        clear hS; intro g w hS hge
        refine ⟨HM.s (hS.sb), ?_⟩
        refine D.eff 12 8191 rfl D.wantedN (by kernel_rfl) (by kernel_rfl) (fun _ _ h => h) ?_
        refine Z.st hS rfl (by repeat (first | exact At.here | apply At.next)) rfl rfl ?_
        clear hS; intro w hS
        refine ⟨HM.last (by kernel_rfl), ?_⟩
        refine Sh.dp 13 16383 ?_
        refine D.done (by kernel_rfl) ?_
        refine Sh.cut [(8, _), (9, _)] ?_
        exact ⟨_, rfl, hS.sb⟩
      refine D.econs 11 2175 rfl D.wantedN (by kernel_rfl) (fun _ _ h => h) ?_ ?_
      · refine Z.al hS ?_
        clear hS; intro g w hS hge
        refine ⟨HM.s (hS.sb), ?_⟩
        refine D.eff 7 2303 rfl D.wantedN (by kernel_rfl) (by kernel_rfl) (fun _ _ h => h) ?_
        replace hS := hS.fo (R := PC c0 _ _ _ _)
        replace hS := hS.fo (R := .blk f0 _ _)
        refine Z.cl (ptake_z f0 c0 2 0 _ (y.fo 0) (shipS y.ep (y.sd 0) y.home.h) _ _ _ _ hS (Reads.of_at (e := 51) (v := .slice A6 _ c6) (by repeat (first | exact At.here | apply At.next))) hgI) rfl ?_
        clear hS
        rintro e w ⟨rfl, hS⟩
        refine ⟨_, rfl, ?_⟩
        rw [he0]
        refine ⟨HM.s (hS.sb), ?_⟩
        refine Sh.dp 8 2559 ?_
        refine Sh.dp 9 3071 ?_
        refine Sh.dp 10 4095 ?_
        refine D.eff 12 8191 rfl D.wantedN (by kernel_rfl) (by kernel_rfl) (fun _ _ h => h) ?_
        refine Z.st hS rfl (by repeat (first | exact At.here | apply At.next)) rfl rfl ?_
        clear hS; intro w hS
        refine ⟨HM.last (by kernel_rfl), ?_⟩
        refine Sh.dp 13 16383 ?_
        refine D.done (by kernel_rfl) ?_
        refine Sh.cut [(8, _), (9, _)] ?_
        exact ⟨_, rfl, hS.sb⟩
      exact D.enil
    clear hS
    rintro q4 w _ ⟨g9, rfl, hS⟩
    repeat' (first|refine VP ?_|refine Sh.la hS ?_|refine Sh.lb ?_|refine Sh.lc ?_|refine Sh.su ?_|(refine Sh.sa hS ?_;clear hS;intro w hS)|((first|refine Sh.aa hS ?_|refine Sh.ab hS ?_|refine Sh.ac hS ?_);clear hS;intro g w hS hge)|refine Sh.ix ?_|refine Sh.up ?_|refine Sh.sl1 ?_|refine Sh.sl2 ?_|refine Sh.sl5 ?_|refine Sh.sl3 ?_|refine Sh.sl4 ?_|refine Sh.eq ?_|refine Sh.ne ?_|refine Sh.ix2 ?_|refine Sh.ix3 ?_|refine Z.bu rfl rfl ?_|refine VM ?_|refine Z.pl (R.cap rfl rfl) ?_|refine Z.pl R.mf ?_|refine Z.pl (R.min2 rfl rfl) ?_|refine G1 ?_|refine G2 ?_|refine G3 ?_|refine G4 ?_|with_reducible (first|refine V0 ?_|refine Z.block ?_)|((with_reducible refine Z.blX ?_ ?_);rotate_left;rfl)|refine VT ?_|refine VF ?_|((first|refine GS ?_ ?_|refine VB ?_ ?_)<;>intro hb<;>(try simp only [J1,J2,J3,J4,J5,J6] at hb)<;>(try (exfalso;first|omega|exact hb trivial))))
    refine D.startS (Lr := [.blk gx 79 _, .blk g9 53 _]) (hS.sb) 17 17 (by kernel_rfl) rfl ?_
    replace hS := hS.drew
    refine Sh.dp 0 1 ?_
    refine Sh.dp 1 3 ?_
    refine Sh.dp 2 7 ?_
    refine D.slot 44 rfl (fun hb => by exfalso; (try simp only [decide_eq_true_eq, decide_eq_false_iff_not, Bool.not_eq_true', Bool.not_eq_false', Int.not_lt, Int.not_le] at hb) <;> first | omega | exact hb trivial | cases hb) (fun hb => ?_)
    (try simp only [decide_eq_true_eq, decide_eq_false_iff_not, Bool.not_eq_true', Bool.not_eq_false', Int.not_lt, Int.not_le] at hb)
    refine Sh.dp 3 15 ?_
    first | refine D.pr 4 31 rfl (D.wantedT rfl rfl) (by kernel_rfl) rfl ?_ | refine D.pl 4 31 rfl (D.wantedT rfl rfl) (by kernel_rfl) (R.nea rfl rfl rfl rfl) ?_
    refine Sh.dp 5 63 ?_
    refine Sh.dp 6 127 ?_
    refine D.slot 48 rfl (fun hb => by exfalso; (try simp only [decide_eq_true_eq, decide_eq_false_iff_not, Bool.not_eq_true', Bool.not_eq_false', Int.not_lt, Int.not_le] at hb) <;> first | omega | exact hb trivial | cases hb) (fun hb => ?_)
    (try simp only [decide_eq_true_eq, decide_eq_false_iff_not, Bool.not_eq_true', Bool.not_eq_false', Int.not_lt, Int.not_le] at hb)
    refine Sh.dp 7 255 ?_
    refine Sh.dp 8 511 ?_
    refine Sh.dp 9 1023 ?_
    refine Sh.dp 11 3071 ?_
    first | refine D.sum 12 7167 rfl (D.wantedT rfl rfl) (by kernel_rfl) rfl (by constructor <;> omega) ?_ | refine D.sumW 12 7167 rfl (D.wantedT rfl rfl) (by kernel_rfl) rfl ?_
    refine Sh.dl 10 8191 ?_
    refine Sh.dl 13 16383 ?_
    refine D.eff 14 32767 rfl (D.wantedT rfl rfl) (by kernel_rfl) (by kernel_rfl) (fun _ _ h => h) ?_
    refine WE.guard ?_
    replace hS := hS.fo (R := PL gl _)
    refine Z.cl (plhear_z gl y.ld 2 (by unfold I64; omega) (takeF (y.fo 0) (shipS y.ep (y.sd 0) y.home.h)).2.1 _ _ _ hS hI.ld) rfl ?_
    clear hS
    rintro e w ⟨rfl, hS⟩
    refine ⟨_, rfl, ?_⟩
    rw [hhr] at hS ⊢
    refine ⟨HM.s (hS.sb), ?_⟩
    refine Sh.dp 15 65535 ?_
    refine Sh.dp 16 131071 ?_
    refine D.done (by kernel_rfl) ?_
    replace hn1 := hn1.other (i := 0) (by omega)
    replace hn0 := hn2
    clear hn2
    replace hS : Sep r [] (.blk gx 79 [.pointer (some ⟨gh, 0, .none⟩), .pointer (some ⟨gw, 0, .none⟩), .pointer (some ⟨gl, 0, .none⟩), .pointer (some ⟨c0, 0, .none⟩), .pointer (some ⟨c1, 0, .none⟩), .pointer (some ⟨f0, 0, .none⟩), .pointer (some ⟨f1, 0, .none⟩), .slice A0 (sv 0).length k0, .slice A1 (sv 1).length k1, .slice B0 ((y.calm 0).he 0).length m0, .slice B1 ((y.calm 0).he 1).length m1, .int .i64 (y.calm 0).ep] :: PC gh 1 0 vh (y.calm 0).home :: CR gw 1 0 vw (y.calm 0).home :: PL gl (y.calm 0).ld :: PC c0 2 0 v0 ((y.calm 0).fo 0).c :: PC c1 3 0 v1 ((y.calm 0).fo 1).c :: .blk f0 102 [.pointer (some ⟨c0, 0, .none⟩), .int .i64 ((y.calm 0).fo 0).seen, .int .i64 ((y.calm 0).fo 0).agreed] :: .blk f1 102 [.pointer (some ⟨c1, 0, .none⟩), .int .i64 ((y.calm 0).fo 1).seen, .int .i64 ((y.calm 0).fo 1).agreed] :: .sl 28 4 (.slice A0 (sv 0).length k0) ((sv 0).map ShV.cells) :: .sl 28 4 (.slice A1 (sv 1).length k1) ((sv 1).map ShV.cells) :: .sl 53 3 (.slice B0 ((y.calm 0).he 0).length m0) (((y.calm 0).he 0).map He.cells) :: .sl 53 3 (.slice B1 ((y.calm 0).he 1).length m1) (((y.calm 0).he 1).map He.cells) :: F) w := hS.sb
    have hfz : (y.calm 0).home = y.home ∧ (y.calm 0).lag = y.lag ∧ (y.calm 0).acked = y.acked ∧ ∀ k, k < 2 → ((y.calm 0).sd k).req = (y.sd k).req := ⟨rfl, rfl, rfl, fun k hk => by
      by_cases e : k = 0
      · subst e
        simp only [Net.calm, up2_at]
        exact (hearS_app _ _).2.1
      · simp only [Net.calm, up2_ne _ _ e]⟩
    replace hI := hI2
    clear hI2 hgI hhl hsl he0 ha1 ha2 ha3 hhr
    generalize y.calm 0 = y1 at *

    have hfz0 := hfz
    repeat' (first|refine VP ?_|refine Sh.la hS ?_|refine Sh.lb ?_|refine Sh.lc ?_|refine Sh.su ?_|(refine Sh.sa hS ?_;clear hS;intro w hS)|((first|refine Sh.aa hS ?_|refine Sh.ab hS ?_|refine Sh.ac hS ?_);clear hS;intro g w hS hge)|refine Sh.ix ?_|refine Sh.up ?_|refine Sh.sl1 ?_|refine Sh.sl2 ?_|refine Sh.sl5 ?_|refine Sh.sl3 ?_|refine Sh.sl4 ?_|refine Sh.eq ?_|refine Sh.ne ?_|refine Sh.ix2 ?_|refine Sh.ix3 ?_|refine Z.bu rfl rfl ?_|refine VM ?_|refine Z.pl (R.cap rfl rfl) ?_|refine Z.pl R.mf ?_|refine Z.pl (R.min2 rfl rfl) ?_|refine G1 ?_|refine G2 ?_|refine G3 ?_|refine G4 ?_|with_reducible (first|refine V0 ?_|refine Z.block ?_)|((with_reducible refine Z.blX ?_ ?_);rotate_left;rfl)|refine VT ?_|refine VF ?_|((first|refine GS ?_ ?_|refine VB ?_ ?_)<;>intro hb<;>(try simp only [J1,J2,J3,J4,J5,J6] at hb)<;>(try (exfalso;first|omega|exact hb trivial))))
    have hgI := (hI.each 1 (by omega)).elim fun j hj => (hj.len hI.isH).2.2
    have hhl := hI.hB
    have hsl : shipL y1.ld 3 y1.home.h = (shipS y1.ep (y1.sd 1) y1.home.h, true) := by unfold shipL; rw [(ld_at (hI.cell 0 (by omega)) (hI.cell 1 (by omega))).2.1]; rfl
    obtain ⟨hI2, hn2, he0, ha1, ha2, ha3⟩ := hI.calm (i := 1) (by omega) hn1
    have hhr := ld_hear1 (hI.cell 0 (by omega)) (hI.cell 1 (by omega)) ha1 ha2 (by omega : (takeF (y1.fo 1) (shipS y1.ep (y1.sd 1) y1.home.h)).2.1.applied ≤ 4096)
    refine Z.cut [6, 7, 16, 17, 18, 19, 20, 21, 22, 23, 24, 25, 26, 27, 28, 29, 30] (fun w s => ∃ g7 A6 c6, s = [(6, .pointer (some ⟨g7, 0, .none⟩)), (7, .bool true)] ∧ Sep r [] (.blk g7 28 (ShV.cells ⟨shipS y1.ep (y1.sd 1) y1.home.h, A6, c6⟩) :: .sl 51 8 (.slice A6 (shipS y1.ep (y1.sd 1) y1.home.h).ch.length c6) ((shipS y1.ep (y1.sd 1) y1.home.h).ch.map Ch.cells) :: .blk gx 79 [.pointer (some ⟨gh, 0, .none⟩), .pointer (some ⟨gw, 0, .none⟩), .pointer (some ⟨gl, 0, .none⟩), .pointer (some ⟨c0, 0, .none⟩), .pointer (some ⟨c1, 0, .none⟩), .pointer (some ⟨f0, 0, .none⟩), .pointer (some ⟨f1, 0, .none⟩), .slice A0 (sv 0).length k0, .slice A1 (sv 1).length k1, .slice B0 (y1.he 0).length m0, .slice B1 (y1.he 1).length m1, .int .i64 y1.ep] :: PC gh 1 0 vh y1.home :: CR gw 1 0 vw y1.home :: PL gl y1.ld :: PC c0 2 0 v0 (y1.fo 0).c :: PC c1 3 0 v1 (y1.fo 1).c :: .blk f0 102 [.pointer (some ⟨c0, 0, .none⟩), .int .i64 (y1.fo 0).seen, .int .i64 (y1.fo 0).agreed] :: .blk f1 102 [.pointer (some ⟨c1, 0, .none⟩), .int .i64 (y1.fo 1).seen, .int .i64 (y1.fo 1).agreed] :: .sl 28 4 (.slice A0 (sv 0).length k0) ((sv 0).map ShV.cells) :: .sl 28 4 (.slice A1 (sv 1).length k1) ((sv 1).map ShV.cells) :: .sl 53 3 (.slice B0 (y1.he 0).length m0) ((y1.he 0).map He.cells) :: .sl 53 3 (.slice B1 (y1.he 1).length m1) ((y1.he 1).map He.cells) :: F) w) ?_ ?_
    · refine D.startS (Lr := [.blk gx 79 _]) (hS.sb) 16 18 (by kernel_rfl) rfl ?_
      replace hS := hS.drew
      refine Sh.dp 0 1 ?_
      refine Sh.dp 1 3 ?_
      refine Sh.dp 2 7 ?_
      refine Sh.dp 4 23 ?_
      first | refine D.sum 5 55 rfl D.wantedN (by kernel_rfl) rfl (by constructor <;> omega) ?_ | refine D.sumW 5 55 rfl D.wantedN (by kernel_rfl) rfl ?_
      refine Sh.dp 6 119 ?_
      refine Sh.dp 7 247 ?_
      refine Sh.dp 8 503 ?_
      refine Sh.dl 3 511 ?_
      refine Sh.dl 9 1023 ?_
      refine D.each [10, 15] (by kernel_rfl) rfl ?_
      refine D.econs 10 2047 rfl D.wantedN (by kernel_rfl) (fun _ _ h => h) ?_ ?_
      · replace hS := hS.fo (R := PC gh _ _ _ _)
        refine Z.cl (phist0_z gh 1 0 vh y1.home _ _ _ hS (by omega)) rfl ?_
        clear hS
        rintro e w ⟨A5, c5, rfl, hS⟩
        refine ⟨_, rfl, ?_⟩
        refine ⟨HM.s (hS.sb), ?_⟩
        refine D.each [11, 15] (by kernel_rfl) rfl ?_
        refine D.econs 11 4095 rfl D.wantedN (by kernel_rfl) (fun _ _ h => h) ?_ ?_
        · replace hS := hS.fo (R := PL gl _)
          refine Z.cl (plship_z gl y1.ld 3 (by unfold I64; omega) y1.home.h _ _ _ _ hS hI.ld (Reads.of_at (e := 51) (v := .slice A5 y1.home.h.length c5) (by repeat (first | exact At.here | apply At.next))) (by omega)) rfl ?_
          clear hS
          rintro e w ⟨A6, c6, rfl, hS⟩
          refine ⟨_, rfl, ?_⟩
          rw [hsl] at hS ⊢
          dsimp only at hS ⊢
          refine ⟨HM.s (hS.sb), ?_⟩
          refine Sh.dp 12 8191 ?_
          refine Sh.dp 13 16383 ?_
          refine Sh.dp 14 32767 ?_
          refine D.eff 15 65535 rfl D.wantedN (by kernel_rfl) (by kernel_rfl) (fun _ _ h => h) ?_
          refine Z.al hS ?_
          clear hS; intro g w hS hge
          refine ⟨HM.s (hS.sb), ?_⟩
          refine D.eff 16 131071 rfl D.wantedN (by kernel_rfl) (by kernel_rfl) (fun _ _ h => h) ?_
          refine Z.st hS rfl (by repeat (first | exact At.here | apply At.next)) rfl rfl ?_
          clear hS; intro w hS
          refine ⟨HM.last (by kernel_rfl), ?_⟩
          refine Sh.dp 17 262143 ?_
          refine D.done (by kernel_rfl) ?_
          refine Sh.cut [(6, _), (7, _)] ?_
          exact ⟨_, A6, c6, rfl, hS.sb⟩
        refine D.econs 15 34815 rfl D.wantedN (by kernel_rfl) (fun _ _ h => h) ?_ ?_
        · refine Z.al hS ?_
          clear hS; intro g w hS hge
          refine ⟨HM.s (hS.sb), ?_⟩
          refine D.eff 11 36863 rfl D.wantedN (by kernel_rfl) (by kernel_rfl) (fun _ _ h => h) ?_
          replace hS := hS.fo (R := PL gl _)
          refine Z.cl (plship_z gl y1.ld 3 (by unfold I64; omega) y1.home.h _ _ _ _ hS hI.ld (Reads.of_at (e := 51) (v := .slice A5 y1.home.h.length c5) (by repeat (first | exact At.here | apply At.next))) (by omega)) rfl ?_
          clear hS
          rintro e w ⟨A6, c6, rfl, hS⟩
          refine ⟨_, rfl, ?_⟩
          rw [hsl] at hS ⊢
          dsimp only at hS ⊢
          refine ⟨HM.s (hS.sb), ?_⟩
          refine Sh.dp 12 40959 ?_
          refine Sh.dp 13 49151 ?_
          refine Sh.dp 14 65535 ?_
          refine D.eff 16 131071 rfl D.wantedN (by kernel_rfl) (by kernel_rfl) (fun _ _ h => h) ?_
          refine Z.st hS rfl (by repeat (first | exact At.here | apply At.next)) rfl rfl ?_
          clear hS; intro w hS
          refine ⟨HM.last (by kernel_rfl), ?_⟩
          refine Sh.dp 17 262143 ?_
          refine D.done (by kernel_rfl) ?_
          refine Sh.cut [(6, _), (7, _)] ?_
          exact ⟨_, A6, c6, rfl, hS.sb⟩
        exact D.enil
      refine D.econs 15 33791 rfl D.wantedN (by kernel_rfl) (fun _ _ h => h) ?_ ?_
      · refine Z.al hS ?_
        clear hS; intro g w hS hge
        refine ⟨HM.s (hS.sb), ?_⟩
        refine D.eff 10 34815 rfl D.wantedN (by kernel_rfl) (by kernel_rfl) (fun _ _ h => h) ?_
        replace hS := hS.fo (R := PC gh _ _ _ _)
        refine Z.cl (phist0_z gh 1 0 vh y1.home _ _ _ hS (by omega)) rfl ?_
        clear hS
        rintro e w ⟨A5, c5, rfl, hS⟩
        refine ⟨_, rfl, ?_⟩
        refine ⟨HM.s (hS.sb), ?_⟩
        refine D.eff 11 36863 rfl D.wantedN (by kernel_rfl) (by kernel_rfl) (fun _ _ h => h) ?_
        replace hS := hS.fo (R := PL gl _)
        refine Z.cl (plship_z gl y1.ld 3 (by unfold I64; omega) y1.home.h _ _ _ _ hS hI.ld (Reads.of_at (e := 51) (v := .slice A5 y1.home.h.length c5) (by repeat (first | exact At.here | apply At.next))) (by omega)) rfl ?_
        clear hS
        rintro e w ⟨A6, c6, rfl, hS⟩
        refine ⟨_, rfl, ?_⟩
        rw [hsl] at hS ⊢
        dsimp only at hS ⊢
        refine ⟨HM.s (hS.sb), ?_⟩
        refine Sh.dp 12 40959 ?_
        refine Sh.dp 13 49151 ?_
        refine Sh.dp 14 65535 ?_
        refine D.eff 16 131071 rfl D.wantedN (by kernel_rfl) (by kernel_rfl) (fun _ _ h => h) ?_
        refine Z.st hS rfl (by repeat (first | exact At.here | apply At.next)) rfl rfl ?_
        clear hS; intro w hS
        refine ⟨HM.last (by kernel_rfl), ?_⟩
        refine Sh.dp 17 262143 ?_
        refine D.done (by kernel_rfl) ?_
        refine Sh.cut [(6, _), (7, _)] ?_
        exact ⟨_, A6, c6, rfl, hS.sb⟩
      exact D.enil
    clear hS
    rintro q3 w _ ⟨g7, A6, c6, rfl, hS⟩
    repeat' (first|refine VP ?_|refine Sh.la hS ?_|refine Sh.lb ?_|refine Sh.lc ?_|refine Sh.su ?_|(refine Sh.sa hS ?_;clear hS;intro w hS)|((first|refine Sh.aa hS ?_|refine Sh.ab hS ?_|refine Sh.ac hS ?_);clear hS;intro g w hS hge)|refine Sh.ix ?_|refine Sh.up ?_|refine Sh.sl1 ?_|refine Sh.sl2 ?_|refine Sh.sl5 ?_|refine Sh.sl3 ?_|refine Sh.sl4 ?_|refine Sh.eq ?_|refine Sh.ne ?_|refine Sh.ix2 ?_|refine Sh.ix3 ?_|refine Z.bu rfl rfl ?_|refine VM ?_|refine Z.pl (R.cap rfl rfl) ?_|refine Z.pl R.mf ?_|refine Z.pl (R.min2 rfl rfl) ?_|refine G1 ?_|refine G2 ?_|refine G3 ?_|refine G4 ?_|with_reducible (first|refine V0 ?_|refine Z.block ?_)|((with_reducible refine Z.blX ?_ ?_);rotate_left;rfl)|refine VT ?_|refine VF ?_|((first|refine GS ?_ ?_|refine VB ?_ ?_)<;>intro hb<;>(try simp only [J1,J2,J3,J4,J5,J6] at hb)<;>(try (exfalso;first|omega|exact hb trivial))))
    refine Z.cut [8, 9, 31, 32, 33, 34, 35, 36, 37, 38, 39, 40, 41] (fun w s => ∃ g9, s = [(8, .pointer (some ⟨g9, 0, .none⟩)), (9, .int .i64 0)] ∧ Sep r [] (.blk g9 53 (takeF (y1.fo 1) (shipS y1.ep (y1.sd 1) y1.home.h)).2.1.cells :: PC c1 3 0 v1 (takeF (y1.fo 1) (shipS y1.ep (y1.sd 1) y1.home.h)).1.c :: .blk f1 102 [.pointer (some ⟨c1, 0, .none⟩), .int .i64 (takeF (y1.fo 1) (shipS y1.ep (y1.sd 1) y1.home.h)).1.seen, .int .i64 (takeF (y1.fo 1) (shipS y1.ep (y1.sd 1) y1.home.h)).1.agreed] :: .blk gx 79 [.pointer (some ⟨gh, 0, .none⟩), .pointer (some ⟨gw, 0, .none⟩), .pointer (some ⟨gl, 0, .none⟩), .pointer (some ⟨c0, 0, .none⟩), .pointer (some ⟨c1, 0, .none⟩), .pointer (some ⟨f0, 0, .none⟩), .pointer (some ⟨f1, 0, .none⟩), .slice A0 (sv 0).length k0, .slice A1 (sv 1).length k1, .slice B0 (y1.he 0).length m0, .slice B1 (y1.he 1).length m1, .int .i64 y1.ep] :: PC gh 1 0 vh y1.home :: CR gw 1 0 vw y1.home :: PL gl y1.ld :: PC c0 2 0 v0 (y1.fo 0).c :: .blk f0 102 [.pointer (some ⟨c0, 0, .none⟩), .int .i64 (y1.fo 0).seen, .int .i64 (y1.fo 0).agreed] :: .sl 28 4 (.slice A0 (sv 0).length k0) ((sv 0).map ShV.cells) :: .sl 28 4 (.slice A1 (sv 1).length k1) ((sv 1).map ShV.cells) :: .sl 53 3 (.slice B0 (y1.he 0).length m0) ((y1.he 0).map He.cells) :: .sl 53 3 (.slice B1 (y1.he 1).length m1) ((y1.he 1).map He.cells) :: F) w) ?_ ?_
    · refine D.startS (Lr := [.blk gx 79 _, .blk g7 28 _]) (hS.sb) 12 14 (by kernel_rfl) rfl ?_
      replace hS := hS.drew
      refine Sh.dp 0 1 ?_
      refine Sh.dp 1 3 ?_
      refine Sh.dp 2 7 ?_
      refine Sh.dp 3 15 ?_
      first | refine D.ixn 4 31 rfl D.wantedN (by kernel_rfl) rfl rfl rfl (by omega) ?_ | refine D.ix 4 31 rfl D.wantedN (by kernel_rfl) rfl rfl rfl (by omega) ?_ | refine D.ia 4 31 rfl D.wantedN (by kernel_rfl) rfl rfl rfl (by omega) ?_
      refine Sh.dl 5 63 ?_
      refine Sh.dl 6 127 ?_
      refine D.each [7, 11] (by kernel_rfl) rfl ?_
      refine D.econs 7 255 rfl D.wantedN (by kernel_rfl) (fun _ _ h => h) ?_ ?_
      · replace hS := hS.fo (R := PC c1 _ _ _ _)
        replace hS := hS.fo (R := .blk f1 _ _)
        refine Z.cl (ptake_z f1 c1 3 0 _ (y1.fo 1) (shipS y1.ep (y1.sd 1) y1.home.h) _ _ _ _ hS (Reads.of_at (e := 51) (v := .slice A6 _ c6) (by repeat (first | exact At.here | apply At.next))) hgI) rfl ?_
        clear hS
        rintro e w ⟨rfl, hS⟩
        refine ⟨_, rfl, ?_⟩
        rw [he0]
        refine ⟨HM.s (hS.sb), ?_⟩
        refine Sh.dp 8 511 ?_
        refine Sh.dp 9 1023 ?_
        refine Sh.dp 10 2047 ?_
        refine D.eff 11 4095 rfl D.wantedN (by kernel_rfl) (by kernel_rfl) (fun _ _ h => h) ?_
        refine Z.al hS ?_
        clear hS; intro g w hS hge
        refine ⟨HM.s (hS.sb), ?_⟩
        refine D.eff 12 8191 rfl D.wantedN (by kernel_rfl) (by kernel_rfl) (fun _ _ h => h) ?_
        refine Z.st hS rfl (by repeat (first | exact At.here | apply At.next)) rfl rfl ?_
        clear hS; intro w hS
        refine ⟨HM.last (by kernel_rfl), ?_⟩
        refine Sh.dp 13 16383 ?_
        refine D.done (by kernel_rfl) ?_
        refine Sh.cut [(8, _), (9, _)] ?_
        exact ⟨_, rfl, hS.sb⟩
      refine D.econs 11 2175 rfl D.wantedN (by kernel_rfl) (fun _ _ h => h) ?_ ?_
      · refine Z.al hS ?_
        clear hS; intro g w hS hge
        refine ⟨HM.s (hS.sb), ?_⟩
        refine D.eff 7 2303 rfl D.wantedN (by kernel_rfl) (by kernel_rfl) (fun _ _ h => h) ?_
        replace hS := hS.fo (R := PC c1 _ _ _ _)
        replace hS := hS.fo (R := .blk f1 _ _)
        refine Z.cl (ptake_z f1 c1 3 0 _ (y1.fo 1) (shipS y1.ep (y1.sd 1) y1.home.h) _ _ _ _ hS (Reads.of_at (e := 51) (v := .slice A6 _ c6) (by repeat (first | exact At.here | apply At.next))) hgI) rfl ?_
        clear hS
        rintro e w ⟨rfl, hS⟩
        refine ⟨_, rfl, ?_⟩
        rw [he0]
        refine ⟨HM.s (hS.sb), ?_⟩
        refine Sh.dp 8 2559 ?_
        refine Sh.dp 9 3071 ?_
        refine Sh.dp 10 4095 ?_
        refine D.eff 12 8191 rfl D.wantedN (by kernel_rfl) (by kernel_rfl) (fun _ _ h => h) ?_
        refine Z.st hS rfl (by repeat (first | exact At.here | apply At.next)) rfl rfl ?_
        clear hS; intro w hS
        refine ⟨HM.last (by kernel_rfl), ?_⟩
        refine Sh.dp 13 16383 ?_
        refine D.done (by kernel_rfl) ?_
        refine Sh.cut [(8, _), (9, _)] ?_
        exact ⟨_, rfl, hS.sb⟩
      exact D.enil
    clear hS
    rintro q4 w _ ⟨g9, rfl, hS⟩
    repeat' (first|refine VP ?_|refine Sh.la hS ?_|refine Sh.lb ?_|refine Sh.lc ?_|refine Sh.su ?_|(refine Sh.sa hS ?_;clear hS;intro w hS)|((first|refine Sh.aa hS ?_|refine Sh.ab hS ?_|refine Sh.ac hS ?_);clear hS;intro g w hS hge)|refine Sh.ix ?_|refine Sh.up ?_|refine Sh.sl1 ?_|refine Sh.sl2 ?_|refine Sh.sl5 ?_|refine Sh.sl3 ?_|refine Sh.sl4 ?_|refine Sh.eq ?_|refine Sh.ne ?_|refine Sh.ix2 ?_|refine Sh.ix3 ?_|refine Z.bu rfl rfl ?_|refine VM ?_|refine Z.pl (R.cap rfl rfl) ?_|refine Z.pl R.mf ?_|refine Z.pl (R.min2 rfl rfl) ?_|refine G1 ?_|refine G2 ?_|refine G3 ?_|refine G4 ?_|with_reducible (first|refine V0 ?_|refine Z.block ?_)|((with_reducible refine Z.blX ?_ ?_);rotate_left;rfl)|refine VT ?_|refine VF ?_|((first|refine GS ?_ ?_|refine VB ?_ ?_)<;>intro hb<;>(try simp only [J1,J2,J3,J4,J5,J6] at hb)<;>(try (exfalso;first|omega|exact hb trivial))))
    refine D.startS (Lr := [.blk gx 79 _, .blk g9 53 _]) (hS.sb) 17 17 (by kernel_rfl) rfl ?_
    replace hS := hS.drew
    refine Sh.dp 0 1 ?_
    refine Sh.dp 1 3 ?_
    refine Sh.dp 2 7 ?_
    refine D.slot 44 rfl (fun hb => by exfalso; (try simp only [decide_eq_true_eq, decide_eq_false_iff_not, Bool.not_eq_true', Bool.not_eq_false', Int.not_lt, Int.not_le] at hb) <;> first | omega | exact hb trivial | cases hb) (fun hb => ?_)
    (try simp only [decide_eq_true_eq, decide_eq_false_iff_not, Bool.not_eq_true', Bool.not_eq_false', Int.not_lt, Int.not_le] at hb)
    refine Sh.dp 3 15 ?_
    first | refine D.pr 4 31 rfl (D.wantedT rfl rfl) (by kernel_rfl) rfl ?_ | refine D.pl 4 31 rfl (D.wantedT rfl rfl) (by kernel_rfl) (R.nea rfl rfl rfl rfl) ?_
    refine Sh.dp 5 63 ?_
    refine Sh.dp 6 127 ?_
    refine D.slot 48 rfl (fun hb => by exfalso; (try simp only [decide_eq_true_eq, decide_eq_false_iff_not, Bool.not_eq_true', Bool.not_eq_false', Int.not_lt, Int.not_le] at hb) <;> first | omega | exact hb trivial | cases hb) (fun hb => ?_)
    (try simp only [decide_eq_true_eq, decide_eq_false_iff_not, Bool.not_eq_true', Bool.not_eq_false', Int.not_lt, Int.not_le] at hb)
    refine Sh.dp 7 255 ?_
    refine Sh.dp 8 511 ?_
    refine Sh.dp 9 1023 ?_
    refine Sh.dp 11 3071 ?_
    first | refine D.sum 12 7167 rfl (D.wantedT rfl rfl) (by kernel_rfl) rfl (by constructor <;> omega) ?_ | refine D.sumW 12 7167 rfl (D.wantedT rfl rfl) (by kernel_rfl) rfl ?_
    refine Sh.dl 10 8191 ?_
    refine Sh.dl 13 16383 ?_
    refine D.eff 14 32767 rfl (D.wantedT rfl rfl) (by kernel_rfl) (by kernel_rfl) (fun _ _ h => h) ?_
    refine WE.guard ?_
    replace hS := hS.fo (R := PL gl _)
    refine Z.cl (plhear_z gl y1.ld 3 (by unfold I64; omega) (takeF (y1.fo 1) (shipS y1.ep (y1.sd 1) y1.home.h)).2.1 _ _ _ hS hI.ld) rfl ?_
    clear hS
    rintro e w ⟨rfl, hS⟩
    refine ⟨_, rfl, ?_⟩
    rw [hhr] at hS ⊢
    refine ⟨HM.s (hS.sb), ?_⟩
    refine Sh.dp 15 65535 ?_
    refine Sh.dp 16 131071 ?_
    refine D.done (by kernel_rfl) ?_
    replace hn0 := hn0.other (i := 1) (by omega)
    replace hn1 := hn2
    clear hn2
    replace hS : Sep r [] (.blk gx 79 [.pointer (some ⟨gh, 0, .none⟩), .pointer (some ⟨gw, 0, .none⟩), .pointer (some ⟨gl, 0, .none⟩), .pointer (some ⟨c0, 0, .none⟩), .pointer (some ⟨c1, 0, .none⟩), .pointer (some ⟨f0, 0, .none⟩), .pointer (some ⟨f1, 0, .none⟩), .slice A0 (sv 0).length k0, .slice A1 (sv 1).length k1, .slice B0 ((y1.calm 1).he 0).length m0, .slice B1 ((y1.calm 1).he 1).length m1, .int .i64 (y1.calm 1).ep] :: PC gh 1 0 vh (y1.calm 1).home :: CR gw 1 0 vw (y1.calm 1).home :: PL gl (y1.calm 1).ld :: PC c0 2 0 v0 ((y1.calm 1).fo 0).c :: PC c1 3 0 v1 ((y1.calm 1).fo 1).c :: .blk f0 102 [.pointer (some ⟨c0, 0, .none⟩), .int .i64 ((y1.calm 1).fo 0).seen, .int .i64 ((y1.calm 1).fo 0).agreed] :: .blk f1 102 [.pointer (some ⟨c1, 0, .none⟩), .int .i64 ((y1.calm 1).fo 1).seen, .int .i64 ((y1.calm 1).fo 1).agreed] :: .sl 28 4 (.slice A0 (sv 0).length k0) ((sv 0).map ShV.cells) :: .sl 28 4 (.slice A1 (sv 1).length k1) ((sv 1).map ShV.cells) :: .sl 53 3 (.slice B0 ((y1.calm 1).he 0).length m0) (((y1.calm 1).he 0).map He.cells) :: .sl 53 3 (.slice B1 ((y1.calm 1).he 1).length m1) (((y1.calm 1).he 1).map He.cells) :: F) w := hS.sb
    have hfz : (y1.calm 1).home = y1.home ∧ (y1.calm 1).lag = y1.lag ∧ (y1.calm 1).acked = y1.acked ∧ ∀ k, k < 2 → ((y1.calm 1).sd k).req = (y1.sd k).req := ⟨rfl, rfl, rfl, fun k hk => by
      by_cases e : k = 1
      · subst e
        simp only [Net.calm, up2_at]
        exact (hearS_app _ _).2.1
      · simp only [Net.calm, up2_ne _ _ e]⟩
    replace hI := hI2
    clear hI2 hgI hhl hsl he0 ha1 ha2 ha3 hhr
    generalize y1.calm 1 = y2 at *

    repeat' (first|refine VP ?_|refine Sh.la hS ?_|refine Sh.lb ?_|refine Sh.lc ?_|refine Sh.su ?_|(refine Sh.sa hS ?_;clear hS;intro w hS)|((first|refine Sh.aa hS ?_|refine Sh.ab hS ?_|refine Sh.ac hS ?_);clear hS;intro g w hS hge)|refine Sh.ix ?_|refine Sh.up ?_|refine Sh.sl1 ?_|refine Sh.sl2 ?_|refine Sh.sl5 ?_|refine Sh.sl3 ?_|refine Sh.sl4 ?_|refine Sh.eq ?_|refine Sh.ne ?_|refine Sh.ix2 ?_|refine Sh.ix3 ?_|refine Z.bu rfl rfl ?_|refine VM ?_|refine Z.pl (R.cap rfl rfl) ?_|refine Z.pl R.mf ?_|refine Z.pl (R.min2 rfl rfl) ?_|refine G1 ?_|refine G2 ?_|refine G3 ?_|refine G4 ?_|with_reducible (first|refine V0 ?_|refine Z.block ?_)|((with_reducible refine Z.blX ?_ ?_);rotate_left;rfl)|refine VT ?_|refine VF ?_|((first|refine GS ?_ ?_|refine VB ?_ ?_)<;>intro hb<;>(try simp only [J1,J2,J3,J4,J5,J6] at hb)<;>(try (exfalso;first|omega|exact hb trivial))))
    refine Sh.again (40 - (q + 1)) [(11, .int .i64 (q + 1 : Nat))] ?_
    refine ⟨q + 1, y2, rfl, by omega, rfl, hI, hn0, hn1, ⟨by rw [hfz.1, hfz0.1, hst.home], by rw [hfz.2.1, hfz0.2.1, hst.lag], by rw [hfz.2.2.1, hfz0.2.2.1, hst.acked], fun k hk => by rw [hfz.2.2.2 k hk, hfz0.2.2.2 k hk, hst.req k hk]⟩, Sep.NT_open.2 ⟨⟨gh, gw, gl, c0, c1, f0, f1, vh, vw, v0, v1, A0, A1, B0, B1, k0, k1, m0, m1⟩, ?_⟩⟩
    simp only [NR, NB, List.cons_append, List.nil_append]
    exact hS.sb
  · have hq40 : q = 40 := by omega
    subst hq40
    repeat' (first|refine VP ?_|refine Sh.la hS ?_|refine Sh.lb ?_|refine Sh.lc ?_|refine Sh.su ?_|(refine Sh.sa hS ?_;clear hS;intro w hS)|((first|refine Sh.aa hS ?_|refine Sh.ab hS ?_|refine Sh.ac hS ?_);clear hS;intro g w hS hge)|refine Sh.ix ?_|refine Sh.up ?_|refine Sh.sl1 ?_|refine Sh.sl2 ?_|refine Sh.sl5 ?_|refine Sh.sl3 ?_|refine Sh.sl4 ?_|refine Sh.eq ?_|refine Sh.ne ?_|refine Sh.ix2 ?_|refine Sh.ix3 ?_|refine Z.bu rfl rfl ?_|refine VM ?_|refine Z.pl (R.cap rfl rfl) ?_|refine Z.pl R.mf ?_|refine Z.pl (R.min2 rfl rfl) ?_|refine G1 ?_|refine G2 ?_|refine G3 ?_|refine G4 ?_|with_reducible (first|refine V0 ?_|refine Z.block ?_)|((with_reducible refine Z.blX ?_ ?_);rotate_left;rfl)|refine VT ?_|refine VF ?_|((first|refine GS ?_ ?_|refine VB ?_ ?_)<;>intro hb<;>(try simp only [J1,J2,J3,J4,J5,J6] at hb)<;>(try (exfalso;first|omega|exact hb trivial))))
    first | refine Z.done hS Try.results42 (Z.RV.tmp rfl Z.RV.nil) ?_ | refine Z.doneN hS Try.results42 (Z.RV.tmp rfl Z.RV.nil) ?_
    exact ⟨y, rfl, hI, hn0, hn1, hst, hS⟩
end Go.Proofs.Ytmjdkgpckcdndaa
