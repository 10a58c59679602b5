/-
  The walk of a step of the net.
-/
import Derived.Test.YtmjdkgpckcdndaaNWn
namespace Go.Proofs.Ytmjdkgpckcdndaa
open Go.RowKit
set_option linter.unusedSimpArgs false
set_option linter.unusedVariables false
attribute [local irreducible] Res.blk Res.sl Res.all Res.ex Res.pure Res.star

/-- What is known of a net beside its resource. -/
structure NOk (r : World) (x : Net) (sv : Nat → List ShV) (G : Res) (B : Nat) : Prop where
  inv : NInv x B
  msg : ∀ i, i < 2 → x.sh i = (sv i).map ShV.m
  rd : ∀ i, i < 2 → ∀ m, m ∈ sv i → Reads r [G] 8 m.v (m.m.ch.map Ch.cells)
theorem NOk.ship {r : World} {x : Net} {sv : Nat → List ShV} {G : Res} {B : Nat} (h : NOk r x sv G B) {i : Nat} (hi : i < 2) {A : Option Addr} {c e : Nat} :
    NOk r (x.ship i) (up2 sv i (sv i ++ [⟨shipS x.ep (x.sd i) x.home.h, A, c⟩])) (Res.star (.sl e 8 (.slice A (shipS x.ep (x.sd i) x.home.h).ch.length c) ((shipS x.ep (x.sd i) x.home.h).ch.map Ch.cells)) G) (B + 1) := by
  refine ⟨(h.inv.ship hi).1, fun k hk => ?_, fun k hk m hm => ?_⟩
  · by_cases e : k = i
    · subst e
      simp only [Net.ship, up2_at, List.map_append, List.map_cons, List.map_nil, h.msg k hk]
    · simp only [Net.ship, up2_ne _ _ e]
      exact h.msg k hk
  · by_cases e : k = i
    · subst e
      rw [up2_at] at hm
      rcases List.mem_append.1 hm with hm | hm
      · exact (h.rd k hk m hm).starR
      · simp only [List.mem_singleton] at hm
        rw [hm]
        exact Reads.starL
    · rw [up2_ne _ _ e] at hm
      exact (h.rd k hk m hm).starR
theorem NOk.drop {r : World} {x : Net} {sv : Nat → List ShV} {G : Res} {B : Nat} (h : NOk r x sv G B) {i : Nat} (hi : i < 2) (q : Nat) :
    NOk r (x.drop i q) (up2 sv i ((sv i).take q ++ (sv i).drop (q + 1))) G (B + 1) := by
  refine ⟨(h.inv.drop hi q).1, fun k hk => ?_, fun k hk m hm => ?_⟩
  · by_cases e : k = i
    · subst e
      simp only [Net.drop, up2_at, List.map_append, h.msg k hk, List.map_take, List.map_drop]
    · simp only [Net.drop, up2_ne _ _ e]
      exact h.msg k hk
  · by_cases e : k = i
    · subst e
      rw [up2_at] at hm
      refine h.rd k hk m ?_
      rcases List.mem_append.1 hm with hm | hm
      · exact List.mem_of_mem_take hm
      · exact List.mem_of_mem_drop hm
    · rw [up2_ne _ _ e] at hm
      exact h.rd k hk m hm
theorem ld_hear0 {x : Net} {a : He} (c0 : (x.sd 0).cell = 2) (c1 : (x.sd 1).cell = 3) (h1 : a.ep = x.ep) (h2 : 0 ≤ a.applied) (h3 : a.applied ≤ 4096) : hearL x.ld 2 a = ((x.hear 0 a).ld, true) := by
  unfold hearL
  rw [(ld_at c0 c1).1]
  dsimp only
  rw [if_neg (by simp only [Net.ld]; omega), (ld_at c0 c1).2.2.1]
  rfl
theorem ld_hear1 {x : Net} {a : He} (c0 : (x.sd 0).cell = 2) (c1 : (x.sd 1).cell = 3) (h1 : a.ep = x.ep) (h2 : 0 ≤ a.applied) (h3 : a.applied ≤ 4096) : hearL x.ld 3 a = ((x.hear 1 a).ld, true) := by
  unfold hearL
  rw [(ld_at c0 c1).2.1]
  dsimp only
  rw [if_neg (by simp only [Net.ld]; omega), (ld_at c0 c1).2.2.2]
  rfl
set_option maxHeartbeats 16000000 in
set_option maxRecDepth 10000 in
theorem netstep_z (gx gt : Nat) (x : Net) (sv : Nat → List ShV) (G : Res) (B : Nat) (l : List Int) (i : Nat) (r : World) (F : List Res) (w : World) (hS : Sep r [] (TpR r gt l i :: NTR gx x sv :: G :: F) w) (hN : NOk r x sv G B) (hB : B ≤ 200) (hi : i < l.length) :
    Calls Try.prog 36 #[.pointer (some ⟨gx, 0, .none⟩), .pointer (some ⟨gt, 0, .none⟩)] w fun e w' => ∃ x' sv' G' i', e = .returned (.bool true) ∧ NOk r x' sv' G' (B + 1) ∧ Mono x x' ∧ i < i' ∧
      Sep r [] (TpR r gt l i' :: NTR gx x' sv' :: G' :: F) w' := by
  obtain ⟨hI, hsv, hrd⟩ := hN
  have hj1 : adv l i = i + 1 := by unfold adv; rw [if_pos hi]
  have hj2 := adv_ge l (i + 1)
  have hb2 := nxt_bd l i 2 (by omega)
  have hb8 := nxt_bd l (i + 1) 8 (by omega)
  have hhl := hI.hB
  have hok0 := hI.good.ok
  obtain ⟨p, hS⟩ := Sep.NT_open.1 (hS.focus (R := NTR gx x sv) (.next .here))
  obtain ⟨gh, gw, gl, c0, c1, f0, f1, vh, vw, v0, v1, A0, A1, B0, B1, k0, k1, m0, m1⟩ := p
  simp only [NR, NB, List.cons_append, List.nil_append] at hS
  replace hS := hS.focus (R := TpR r gt l i) (by repeat (first | exact At.here | apply At.next))
  refine Z.enter Try.func36 Try.ntmps36 rfl rfl ?_
  repeat' (first|refine VP ?_|refine Sh.la hS ?_|refine Sh.lb ?_|refine Sh.lc ?_|refine Sh.su ?_|(refine Sh.sa hS ?_;clear hS;intro w hS)|((first|refine Sh.aa hS ?_|refine Sh.ab hS ?_|refine Sh.ac hS ?_);clear hS;intro g w hS hge)|refine Sh.ix ?_|refine Sh.up ?_|refine Sh.sl1 ?_|refine Sh.sl2 ?_|refine Sh.sl5 ?_|refine Sh.sl3 ?_|refine Sh.sl4 ?_|refine Sh.eq ?_|refine Sh.ne ?_|refine Sh.ix2 ?_|refine Sh.ix3 ?_|refine Z.bu rfl rfl ?_|refine VM ?_|refine Z.pl (R.cap rfl rfl) ?_|refine Z.pl R.mf ?_|refine Z.pl (R.min2 rfl rfl) ?_|refine G1 ?_|refine G2 ?_|refine G3 ?_|refine G4 ?_|with_reducible (first|refine V0 ?_|refine Z.block ?_)|((with_reducible refine Z.blX ?_ ?_);rotate_left;rfl)|refine VT ?_|refine VF ?_|((first|refine GS ?_ ?_|refine VB ?_ ?_)<;>intro hb<;>(try simp only [J1,J2,J3,J4,J5,J6] at hb)<;>(try (exfalso;first|omega|exact hb trivial))))
  refine Z.eff (Z.cl (next_z 2 hS (by omega) (by omega)) rfl ?_) rfl
  clear hS
  rintro e w ⟨rfl, hS⟩
  refine ⟨_, rfl, ?_⟩
  rw [hj1] at hS
  repeat' (first|refine VP ?_|refine Sh.la hS ?_|refine Sh.lb ?_|refine Sh.lc ?_|refine Sh.su ?_|(refine Sh.sa hS ?_;clear hS;intro w hS)|((first|refine Sh.aa hS ?_|refine Sh.ab hS ?_|refine Sh.ac hS ?_);clear hS;intro g w hS hge)|refine Sh.ix ?_|refine Sh.up ?_|refine Sh.sl1 ?_|refine Sh.sl2 ?_|refine Sh.sl5 ?_|refine Sh.sl3 ?_|refine Sh.sl4 ?_|refine Sh.eq ?_|refine Sh.ne ?_|refine Sh.ix2 ?_|refine Sh.ix3 ?_|refine Z.bu rfl rfl ?_|refine VM ?_|refine Z.pl (R.cap rfl rfl) ?_|refine Z.pl R.mf ?_|refine Z.pl (R.min2 rfl rfl) ?_|refine G1 ?_|refine G2 ?_|refine G3 ?_|refine G4 ?_|with_reducible (first|refine V0 ?_|refine Z.block ?_)|((with_reducible refine Z.blX ?_ ?_);rotate_left;rfl)|refine VT ?_|refine VF ?_|((first|refine GS ?_ ?_|refine VB ?_ ?_)<;>intro hb<;>(try simp only [J1,J2,J3,J4,J5,J6] at hb)<;>(try (exfalso;first|omega|exact hb trivial))))
  refine Z.eff (Z.cl (next_z 8 hS (by omega) (by omega)) rfl ?_) rfl
  clear hS
  rintro e w ⟨rfl, hS⟩
  refine ⟨_, rfl, ?_⟩
  generalize nxt l (i + 1) 8 = k8 at *
  generalize adv l (i + 1) = j2 at *
  repeat' (first
    | refine Z.pr rfl ?_ | refine Sh.la hS ?_ | refine Sh.lb ?_ | refine Sh.lc ?_ | refine Sh.su ?_
    | (refine Sh.sa hS ?_; clear hS; intro w hS)
    | ((first | refine Sh.aa hS ?_ | refine Sh.ab hS ?_ | refine Sh.ac hS ?_); clear hS; intro g w hS hge)
    | refine Sh.ix ?_ | refine Sh.up ?_ | refine Sh.sl1 ?_ | refine Sh.sl2 ?_ | refine Sh.sl5 ?_ | refine Sh.sl3 ?_ | refine Sh.sl4 ?_ | refine Z.pl (R.min2 rfl rfl) ?_ | refine Sh.ix2 ?_ | refine Sh.ix3 ?_
    | refine Z.bu rfl rfl ?_ | refine Z.pl (R.max2 rfl rfl) ?_ | refine Z.pl (R.cap rfl rfl) ?_ | refine Z.pl R.mf ?_
    | refine Z.gT rfl rfl ?_ | refine Z.gF rfl rfl ?_ | refine Z.gF0 rfl rfl ?_ | refine Z.gU rfl rfl ?_
    | with_reducible (first | refine Z.seq ?_ | refine Z.reg ?_ | refine Z.nil ?_ | refine Z.skip ?_ | refine Z.exit ?_ | refine Z.ret ?_ | refine Z.block ?_ | refine Z.thU ?_ | refine Z.thE ?_ | refine Z.thR ?_ | refine Z.blN ?_ | refine Z.blR ?_ | refine Z.blE ?_ | refine Z.label ?_ | refine Z.scope ?_ | refine Z.ngN ?_ | refine Z.ngR ?_ | refine Z.ngE ?_)
    | ((with_reducible refine Z.blX ?_ ?_); rotate_left; rfl)
    | refine Z.brT rfl ?_ | refine Z.brF rfl ?_
    | ((first | refine Z.gS rfl rfl ?_ ?_ | refine Z.br rfl ?_ ?_) <;> intro hb <;> (try simp only [decide_eq_true_eq, decide_eq_false_iff_not, Bool.not_eq_true', Bool.not_eq_false', Int.not_lt, Int.not_le] at hb) <;> (try (exfalso; first | omega | exact hb trivial))))
  refine Z.thN ?_
  refine Z.block ?_
  rcases (by omega : nxt l i 2 = 0 ∨ nxt l i 2 = 1) with h01 | h01 <;> rw [h01]
  ·
    have hcI := hI.cell 0 (by omega)
    have hgI := (hI.each 0 (by omega)).elim fun j hj => (hj.len hI.isH).2.2
    have hvI := hsv 0 (by omega)
    have hlI : (sv 0).length ≤ 400 := by have h1 := hI.shB 0 (by omega); rw [hvI, List.length_map] at h1; omega
    have hmI : (x.he 0).length ≤ 400 := by have h1 := hI.heB 0 (by omega); omega
    refine Z.seq ?_
    refine Z.cut [59, 58, 60] (fun w s => s = [(58, .bool (decide (k8 = 0 ∨ k8 = 1)))] ∧ Sep r [] (TpR r gt l j2 :: .blk gx 79 [.pointer (some ⟨gh, 0, .none⟩), .pointer (some ⟨gw, 0, .none⟩), .pointer (some ⟨gl, 0, .none⟩), .pointer (some ⟨c0, 0, .none⟩), .pointer (some ⟨c1, 0, .none⟩), .pointer (some ⟨f0, 0, .none⟩), .pointer (some ⟨f1, 0, .none⟩), .slice A0 (sv 0).length k0, .slice A1 (sv 1).length k1, .slice B0 (x.he 0).length m0, .slice B1 (x.he 1).length m1, .int .i64 x.ep] :: PC gh 1 0 vh x.home :: CR gw 1 0 vw x.home :: PL gl x.ld :: PC c0 2 0 v0 (x.fo 0).c :: PC c1 3 0 v1 (x.fo 1).c :: .blk f0 102 [.pointer (some ⟨c0, 0, .none⟩), .int .i64 (x.fo 0).seen, .int .i64 (x.fo 0).agreed] :: .blk f1 102 [.pointer (some ⟨c1, 0, .none⟩), .int .i64 (x.fo 1).seen, .int .i64 (x.fo 1).agreed] :: .sl 28 4 (.slice A0 (sv 0).length k0) ((sv 0).map ShV.cells) :: .sl 28 4 (.slice A1 (sv 1).length k1) ((sv 1).map ShV.cells) :: .sl 53 3 (.slice B0 (x.he 0).length m0) ((x.he 0).map He.cells) :: .sl 53 3 (.slice B1 (x.he 1).length m1) ((x.he 1).map He.cells) :: G :: F) w) ?_ ?_
    · repeat' (first|refine VP ?_|refine Sh.la hS ?_|refine Sh.lb ?_|refine Sh.lc ?_|refine Sh.su ?_|(refine Sh.sa hS ?_;clear hS;intro w hS)|((first|refine Sh.aa hS ?_|refine Sh.ab hS ?_|refine Sh.ac hS ?_);clear hS;intro g w hS hge)|refine Sh.ix ?_|refine Sh.up ?_|refine Sh.sl1 ?_|refine Sh.sl2 ?_|refine Sh.sl5 ?_|refine Sh.sl3 ?_|refine Sh.sl4 ?_|refine Sh.eq ?_|refine Sh.ne ?_|refine Sh.ix2 ?_|refine Sh.ix3 ?_|refine Z.bu rfl rfl ?_|refine VM ?_|refine Z.pl (R.cap rfl rfl) ?_|refine Z.pl R.mf ?_|refine Z.pl (R.min2 rfl rfl) ?_|refine G1 ?_|refine G2 ?_|refine G3 ?_|refine G4 ?_|with_reducible (first|refine V0 ?_|refine Z.block ?_)|((with_reducible refine Z.blX ?_ ?_);rotate_left;rfl)|refine VT ?_|refine VF ?_|((first|refine GS ?_ ?_|refine VB ?_ ?_)<;>intro hb<;>(try simp only [J1,J2,J3,J4,J5,J6] at hb)<;>(try (exfalso;first|omega|exact hb trivial))))
      · refine Sh.cut [(58, _)] ?_
        exact ⟨by rw [decide_eq_true (by omega : k8 = 0), decide_eq_true (by omega : k8 = 0 ∨ k8 = 1)], hS⟩
      · refine Sh.cut [(58, _)] ?_
        refine ⟨?_, hS⟩
        have e : decide (k8 = 1) = decide (k8 = 0 ∨ k8 = 1) := decide_eq_decide.2 (by omega)
        rw [e]
    clear hS
    rintro q1 w _ ⟨rfl, hS⟩
    refine VB ?_ ?_ <;> intro hb <;> (try simp only [J1,J2,J3,J4,J5,J6] at hb)
    · refine Z.seq ?_
      refine Z.cut [6, 61, 62, 63, 64, 65, 66, 67, 68, 69, 70] (fun w s => ∃ g6, s = [(6, .pointer (some ⟨g6, 0, .none⟩))] ∧ Sep r [] (.blk g6 51 (mkChange l j2 x.home x.ep).1.cells :: TpR r gt l (mkChange l j2 x.home x.ep).2 :: .blk gx 79 [.pointer (some ⟨gh, 0, .none⟩), .pointer (some ⟨gw, 0, .none⟩), .pointer (some ⟨gl, 0, .none⟩), .pointer (some ⟨c0, 0, .none⟩), .pointer (some ⟨c1, 0, .none⟩), .pointer (some ⟨f0, 0, .none⟩), .pointer (some ⟨f1, 0, .none⟩), .slice A0 (sv 0).length k0, .slice A1 (sv 1).length k1, .slice B0 (x.he 0).length m0, .slice B1 (x.he 1).length m1, .int .i64 x.ep] :: PC gh 1 0 vh x.home :: CR gw 1 0 vw x.home :: PL gl x.ld :: PC c0 2 0 v0 (x.fo 0).c :: PC c1 3 0 v1 (x.fo 1).c :: .blk f0 102 [.pointer (some ⟨c0, 0, .none⟩), .int .i64 (x.fo 0).seen, .int .i64 (x.fo 0).agreed] :: .blk f1 102 [.pointer (some ⟨c1, 0, .none⟩), .int .i64 (x.fo 1).seen, .int .i64 (x.fo 1).agreed] :: .sl 28 4 (.slice A0 (sv 0).length k0) ((sv 0).map ShV.cells) :: .sl 28 4 (.slice A1 (sv 1).length k1) ((sv 1).map ShV.cells) :: .sl 53 3 (.slice B0 (x.he 0).length m0) ((x.he 0).map He.cells) :: .sl 53 3 (.slice B1 (x.he 1).length m1) ((x.he 1).map He.cells) :: G :: F) w) ?_ ?_
      · refine D.startS (Lr := [.blk gx 79 [.pointer (some ⟨gh, 0, .none⟩), .pointer (some ⟨gw, 0, .none⟩), .pointer (some ⟨gl, 0, .none⟩), .pointer (some ⟨c0, 0, .none⟩), .pointer (some ⟨c1, 0, .none⟩), .pointer (some ⟨f0, 0, .none⟩), .pointer (some ⟨f1, 0, .none⟩), .slice A0 (sv 0).length k0, .slice A1 (sv 1).length k1, .slice B0 (x.he 0).length m0, .slice B1 (x.he 1).length m1, .int .i64 x.ep]]) (hS.sb) 11 12 (by kernel_rfl) rfl ?_
        replace hS := hS.drew
        refine Sh.dp 0 1 ?_
        refine Sh.dp 1 3 ?_
        refine Sh.dp 2 7 ?_
        refine Sh.dp 3 15 ?_
        refine Sh.dp 5 47 ?_
        refine Sh.dp 6 111 ?_
        refine Sh.dp 7 239 ?_
        refine Sh.dl 4 255 ?_
        refine Sh.dl 8 511 ?_
        refine D.each [9, 10] (by kernel_rfl) rfl ?_
        refine D.econs 9 1023 rfl D.wantedN (by kernel_rfl) (fun _ _ h => h) ?_ ?_
        · replace hS := hS.fo (R := CR gw _ _ _ _)
          replace hS := hS.fo (R := TpR r gt l _)
          refine Z.cl (change_z gt gw 1 0 vw l j2 x.home x.ep _ _ _ hS hok0.1 (by omega) (by omega) (by omega)) rfl ?_
          clear hS
          rintro e w ⟨rfl, hS⟩
          refine ⟨_, rfl, ?_⟩
          refine ⟨HM.s (hS.sb), ?_⟩
          refine D.eff 10 2047 rfl D.wantedN (by kernel_rfl) (by kernel_rfl) (fun _ _ h => h) ?_
          refine Z.al hS ?_
          clear hS; intro g w hS hge
          refine ⟨HM.s (hS.sb), ?_⟩
          refine D.eff 11 4095 rfl D.wantedN (by kernel_rfl) (by kernel_rfl) (fun _ _ h => h) ?_
          refine Z.st hS rfl (by repeat (first | exact At.here | apply At.next)) rfl rfl ?_
          clear hS; intro w hS
          refine ⟨HM.last (by kernel_rfl), ?_⟩
          refine D.done (by kernel_rfl) ?_
          refine Sh.cut [(6, _)] ?_
          exact ⟨_, rfl, hS.sb⟩
        refine D.econs 10 1535 rfl D.wantedN (by kernel_rfl) (fun _ _ h => h) ?_ ?_
        · refine Z.al hS ?_
          clear hS; intro g w hS hge
          refine ⟨HM.s (hS.sb), ?_⟩
          refine D.eff 9 2047 rfl D.wantedN (by kernel_rfl) (by kernel_rfl) (fun _ _ h => h) ?_
          replace hS := hS.fo (R := CR gw _ _ _ _)
          replace hS := hS.fo (R := TpR r gt l _)
          refine Z.cl (change_z gt gw 1 0 vw l j2 x.home x.ep _ _ _ hS hok0.1 (by omega) (by omega) (by omega)) rfl ?_
          clear hS
          rintro e w ⟨rfl, hS⟩
          refine ⟨_, rfl, ?_⟩
          refine ⟨HM.s (hS.sb), ?_⟩
          refine D.eff 11 4095 rfl D.wantedN (by kernel_rfl) (by kernel_rfl) (fun _ _ h => h) ?_
          refine Z.st hS rfl (by repeat (first | exact At.here | apply At.next)) rfl rfl ?_
          clear hS; intro w hS
          refine ⟨HM.last (by kernel_rfl), ?_⟩
          refine D.done (by kernel_rfl) ?_
          refine Sh.cut [(6, _)] ?_
          exact ⟨_, rfl, hS.sb⟩
        exact D.enil
      clear hS
      rintro q2 w _ ⟨g6, rfl, hS⟩
      have hye := mkChange_epoch l j2 x.home x.ep
      have hyg := mkChange_ge l j2 x.home x.ep
      generalize (mkChange l j2 x.home x.ep).1 = y at *
      generalize (mkChange l j2 x.home x.ep).2 = j3 at *
      obtain ⟨hI2, hM2⟩ := hI.change hye
      repeat' (first|refine VP ?_|refine Sh.la hS ?_|refine Sh.lb ?_|refine Sh.lc ?_|refine Sh.su ?_|(refine Sh.sa hS ?_;clear hS;intro w hS)|((first|refine Sh.aa hS ?_|refine Sh.ab hS ?_|refine Sh.ac hS ?_);clear hS;intro g w hS hge)|refine Sh.ix ?_|refine Sh.up ?_|refine Sh.sl1 ?_|refine Sh.sl2 ?_|refine Sh.sl5 ?_|refine Sh.sl3 ?_|refine Sh.sl4 ?_|refine Sh.eq ?_|refine Sh.ne ?_|refine Sh.ix2 ?_|refine Sh.ix3 ?_|refine Z.bu rfl rfl ?_|refine VM ?_|refine Z.pl (R.cap rfl rfl) ?_|refine Z.pl R.mf ?_|refine Z.pl (R.min2 rfl rfl) ?_|refine G1 ?_|refine G2 ?_|refine G3 ?_|refine G4 ?_|with_reducible (first|refine V0 ?_|refine Z.block ?_)|((with_reducible refine Z.blX ?_ ?_);rotate_left;rfl)|refine VT ?_|refine VF ?_|((first|refine GS ?_ ?_|refine VB ?_ ?_)<;>intro hb<;>(try simp only [J1,J2,J3,J4,J5,J6] at hb)<;>(try (exfalso;first|omega|exact hb trivial))))
      refine D.startS (Lr := [.blk gx 79 [.pointer (some ⟨gh, 0, .none⟩), .pointer (some ⟨gw, 0, .none⟩), .pointer (some ⟨gl, 0, .none⟩), .pointer (some ⟨c0, 0, .none⟩), .pointer (some ⟨c1, 0, .none⟩), .pointer (some ⟨f0, 0, .none⟩), .pointer (some ⟨f1, 0, .none⟩), .slice A0 (sv 0).length k0, .slice A1 (sv 1).length k1, .slice B0 (x.he 0).length m0, .slice B1 (x.he 1).length m1, .int .i64 x.ep], .blk g6 51 y.cells]) (hS.sb) 13 13 (by kernel_rfl) rfl ?_
      replace hS := hS.drew
      refine Sh.dp 0 1 ?_
      refine Sh.dp 1 3 ?_
      refine Sh.dp 2 7 ?_
      refine Sh.dp 6 71 ?_
      refine Sh.dp 7 199 ?_
      refine Sh.dp 8 455 ?_
      refine Sh.dl 3 463 ?_
      refine Sh.dl 4 479 ?_
      refine Sh.dl 9 991 ?_
      refine Sh.dl 10 2015 ?_
      refine D.eff 5 2047 rfl D.wantedN (by kernel_rfl) (by kernel_rfl) (fun _ _ h => h) ?_
      replace hS := hS.fo (R := PC gh _ _ _ _)
      refine Z.cl (pcapply_z gh 1 0 vh x.home y _ _ _ hS hI.good.cok (by omega)) rfl ?_
      clear hS
      rintro e w ⟨rfl, hS⟩
      refine ⟨_, rfl, ?_⟩
      refine ⟨HM.s (hS.sb), ?_⟩
      refine D.eff 11 4095 rfl D.wantedN (by kernel_rfl) (by kernel_rfl) (fun _ _ h => h) ?_
      replace hS := hS.fo (R := CR gw _ _ _ _)
      refine Z.cl (capply_z gw 1 0 vw x.home y _ _ _ hS hok0.1 (by omega) (by omega) (by omega) (by rw [hok0.2.2.2]; simp)) rfl ?_
      clear hS
      rintro e w ⟨rfl, hS⟩
      refine ⟨_, rfl, ?_⟩
      refine ⟨HM.s (hS.sb), ?_⟩
      first | refine D.pr 12 8191 rfl D.wantedN (by kernel_rfl) rfl ?_ | refine D.pl 12 8191 rfl D.wantedN (by kernel_rfl) (R.nea rfl rfl rfl rfl) ?_
      refine D.done (by kernel_rfl) ?_
      repeat' (first|refine VP ?_|refine Sh.la hS ?_|refine Sh.lb ?_|refine Sh.lc ?_|refine Sh.su ?_|(refine Sh.sa hS ?_;clear hS;intro w hS)|((first|refine Sh.aa hS ?_|refine Sh.ab hS ?_|refine Sh.ac hS ?_);clear hS;intro g w hS hge)|refine Sh.ix ?_|refine Sh.up ?_|refine Sh.sl1 ?_|refine Sh.sl2 ?_|refine Sh.sl5 ?_|refine Sh.sl3 ?_|refine Sh.sl4 ?_|refine Sh.eq ?_|refine Sh.ne ?_|refine Sh.ix2 ?_|refine Sh.ix3 ?_|refine Z.bu rfl rfl ?_|refine VM ?_|refine Z.pl (R.cap rfl rfl) ?_|refine Z.pl R.mf ?_|refine Z.pl (R.min2 rfl rfl) ?_|refine G1 ?_|refine G2 ?_|refine G3 ?_|refine G4 ?_|with_reducible (first|refine V0 ?_|refine Z.block ?_)|((with_reducible refine Z.blX ?_ ?_);rotate_left;rfl)|refine VT ?_|refine VF ?_|((first|refine GS ?_ ?_|refine VB ?_ ?_)<;>intro hb<;>(try simp only [J1,J2,J3,J4,J5,J6] at hb)<;>(try (exfalso;first|omega|exact hb trivial))))
      first | refine Z.done hS Try.results36 (Z.RV.tmp rfl Z.RV.nil) ?_ | refine Z.doneN hS Try.results36 (Z.RV.tmp rfl Z.RV.nil) ?_
      refine ⟨x.change y, sv, G, j3, rfl, ⟨hI2, hsv, hrd⟩, hM2, by omega, (Sep.NT_open.2 ⟨⟨gh, gw, gl, c0, c1, f0, f1, vh, vw, v0, v1, A0, A1, B0, B1, k0, k1, m0, m1⟩, ?_⟩).swap⟩
      simp only [NR, NB, List.cons_append, List.nil_append]
      exact hS.sb
    refine Z.seq ?_
    refine Z.cut [85, 84, 86] (fun w s => s = [(84, .bool (decide (k8 = 2 ∨ k8 = 3)))] ∧ Sep r [] (TpR r gt l j2 :: .blk gx 79 [.pointer (some ⟨gh, 0, .none⟩), .pointer (some ⟨gw, 0, .none⟩), .pointer (some ⟨gl, 0, .none⟩), .pointer (some ⟨c0, 0, .none⟩), .pointer (some ⟨c1, 0, .none⟩), .pointer (some ⟨f0, 0, .none⟩), .pointer (some ⟨f1, 0, .none⟩), .slice A0 (sv 0).length k0, .slice A1 (sv 1).length k1, .slice B0 (x.he 0).length m0, .slice B1 (x.he 1).length m1, .int .i64 x.ep] :: PC gh 1 0 vh x.home :: CR gw 1 0 vw x.home :: PL gl x.ld :: PC c0 2 0 v0 (x.fo 0).c :: PC c1 3 0 v1 (x.fo 1).c :: .blk f0 102 [.pointer (some ⟨c0, 0, .none⟩), .int .i64 (x.fo 0).seen, .int .i64 (x.fo 0).agreed] :: .blk f1 102 [.pointer (some ⟨c1, 0, .none⟩), .int .i64 (x.fo 1).seen, .int .i64 (x.fo 1).agreed] :: .sl 28 4 (.slice A0 (sv 0).length k0) ((sv 0).map ShV.cells) :: .sl 28 4 (.slice A1 (sv 1).length k1) ((sv 1).map ShV.cells) :: .sl 53 3 (.slice B0 (x.he 0).length m0) ((x.he 0).map He.cells) :: .sl 53 3 (.slice B1 (x.he 1).length m1) ((x.he 1).map He.cells) :: G :: F) w) ?_ ?_
    · repeat' (first|refine VP ?_|refine Sh.la hS ?_|refine Sh.lb ?_|refine Sh.lc ?_|refine Sh.su ?_|(refine Sh.sa hS ?_;clear hS;intro w hS)|((first|refine Sh.aa hS ?_|refine Sh.ab hS ?_|refine Sh.ac hS ?_);clear hS;intro g w hS hge)|refine Sh.ix ?_|refine Sh.up ?_|refine Sh.sl1 ?_|refine Sh.sl2 ?_|refine Sh.sl5 ?_|refine Sh.sl3 ?_|refine Sh.sl4 ?_|refine Sh.eq ?_|refine Sh.ne ?_|refine Sh.ix2 ?_|refine Sh.ix3 ?_|refine Z.bu rfl rfl ?_|refine VM ?_|refine Z.pl (R.cap rfl rfl) ?_|refine Z.pl R.mf ?_|refine Z.pl (R.min2 rfl rfl) ?_|refine G1 ?_|refine G2 ?_|refine G3 ?_|refine G4 ?_|with_reducible (first|refine V0 ?_|refine Z.block ?_)|((with_reducible refine Z.blX ?_ ?_);rotate_left;rfl)|refine VT ?_|refine VF ?_|((first|refine GS ?_ ?_|refine VB ?_ ?_)<;>intro hb<;>(try simp only [J1,J2,J3,J4,J5,J6] at hb)<;>(try (exfalso;first|omega|exact hb trivial))))
      · refine Sh.cut [(84, _)] ?_
        exact ⟨by rw [decide_eq_true (by omega : k8 = 2), decide_eq_true (by omega : k8 = 2 ∨ k8 = 3)], hS⟩
      · refine Sh.cut [(84, _)] ?_
        refine ⟨?_, hS⟩
        have e : decide (k8 = 3) = decide (k8 = 2 ∨ k8 = 3) := decide_eq_decide.2 (by omega)
        rw [e]
    clear hS
    rintro q2 w _ ⟨rfl, hS⟩
    refine VB ?_ ?_ <;> intro hb <;> (try simp only [J1,J2,J3,J4,J5,J6] at hb)
    · have hsl : shipL x.ld 2 x.home.h = (shipS x.ep (x.sd 0) x.home.h, true) := by unfold shipL; rw [(ld_at (hI.cell 0 (by omega)) (hI.cell 1 (by omega))).1]; rfl
      have hN2 := fun A c => (NOk.mk (G := G) hI hsv hrd).ship (i := 0) (by omega) (A := A) (c := c) (e := 51)
      have hM2 := (hI.ship (i := 0) (by omega)).2
      refine Z.seq ?_
      refine Z.cut [7, 8, 87, 88, 89, 90, 91, 92, 93, 94, 95, 96, 97, 98, 99, 100, 101] (fun w s => ∃ g7 A6 c6, s = [(7, .pointer (some ⟨g7, 0, .none⟩)), (8, .bool true)] ∧ Sep r [] (.blk g7 28 (ShV.cells ⟨shipS x.ep (x.sd 0) x.home.h, A6, c6⟩) :: .sl 51 8 (.slice A6 (shipS x.ep (x.sd 0) x.home.h).ch.length c6) ((shipS x.ep (x.sd 0) x.home.h).ch.map Ch.cells) :: G :: TpR r gt l j2 :: .blk gx 79 [.pointer (some ⟨gh, 0, .none⟩), .pointer (some ⟨gw, 0, .none⟩), .pointer (some ⟨gl, 0, .none⟩), .pointer (some ⟨c0, 0, .none⟩), .pointer (some ⟨c1, 0, .none⟩), .pointer (some ⟨f0, 0, .none⟩), .pointer (some ⟨f1, 0, .none⟩), .slice A0 (sv 0).length k0, .slice A1 (sv 1).length k1, .slice B0 (x.he 0).length m0, .slice B1 (x.he 1).length m1, .int .i64 x.ep] :: PC gh 1 0 vh x.home :: CR gw 1 0 vw x.home :: PL gl x.ld :: PC c0 2 0 v0 (x.fo 0).c :: PC c1 3 0 v1 (x.fo 1).c :: .blk f0 102 [.pointer (some ⟨c0, 0, .none⟩), .int .i64 (x.fo 0).seen, .int .i64 (x.fo 0).agreed] :: .blk f1 102 [.pointer (some ⟨c1, 0, .none⟩), .int .i64 (x.fo 1).seen, .int .i64 (x.fo 1).agreed] :: .sl 28 4 (.slice A0 (sv 0).length k0) ((sv 0).map ShV.cells) :: .sl 28 4 (.slice A1 (sv 1).length k1) ((sv 1).map ShV.cells) :: .sl 53 3 (.slice B0 (x.he 0).length m0) ((x.he 0).map He.cells) :: .sl 53 3 (.slice B1 (x.he 1).length m1) ((x.he 1).map He.cells) :: F) w) ?_ ?_
      · refine D.startS (Lr := [.blk gx 79 [.pointer (some ⟨gh, 0, .none⟩), .pointer (some ⟨gw, 0, .none⟩), .pointer (some ⟨gl, 0, .none⟩), .pointer (some ⟨c0, 0, .none⟩), .pointer (some ⟨c1, 0, .none⟩), .pointer (some ⟨f0, 0, .none⟩), .pointer (some ⟨f1, 0, .none⟩), .slice A0 (sv 0).length k0, .slice A1 (sv 1).length k1, .slice B0 (x.he 0).length m0, .slice B1 (x.he 1).length m1, .int .i64 x.ep]]) (hS.sb) 16 18 (by kernel_rfl) rfl ?_
        replace hS := hS.drew
        refine Sh.dp 0 1 ?_
        refine Sh.dp 1 3 ?_
        refine Sh.dp 2 7 ?_
        refine Sh.dp 4 23 ?_
        first | refine D.sum 5 55 rfl D.wantedN (by kernel_rfl) rfl (by constructor <;> omega) ?_ | refine D.sumW 5 55 rfl D.wantedN (by kernel_rfl) rfl ?_
        refine Sh.dp 6 119 ?_
        refine Sh.dp 7 247 ?_
        refine Sh.dp 8 503 ?_
        refine Sh.dl 3 511 ?_
        refine Sh.dl 9 1023 ?_
        refine D.each [10, 15] (by kernel_rfl) rfl ?_
        refine D.econs 10 2047 rfl D.wantedN (by kernel_rfl) (fun _ _ h => h) ?_ ?_
        · replace hS := hS.fo (R := PC gh _ _ _ _)
          refine Z.cl (phist0_z gh 1 0 vh x.home _ _ _ hS (by omega)) rfl ?_
          clear hS
          rintro e w ⟨A5, c5, rfl, hS⟩
          refine ⟨_, rfl, ?_⟩
          refine ⟨HM.s (hS.sb), ?_⟩
          refine D.each [11, 15] (by kernel_rfl) rfl ?_
          refine D.econs 11 4095 rfl D.wantedN (by kernel_rfl) (fun _ _ h => h) ?_ ?_
          · replace hS := hS.fo (R := PL gl _)
            refine Z.cl (plship_z gl x.ld 2 (by unfold I64; omega) x.home.h _ _ _ _ hS hI.ld (Reads.of_at (e := 51) (v := .slice A5 x.home.h.length c5) (by repeat (first | exact At.here | apply At.next))) (by omega)) rfl ?_
            clear hS
            rintro e w ⟨A6, c6, rfl, hS⟩
            refine ⟨_, rfl, ?_⟩
            rw [hsl] at hS ⊢
            dsimp only at hS ⊢
            refine ⟨HM.s (hS.sb), ?_⟩
            refine Sh.dp 12 8191 ?_
            refine Sh.dp 13 16383 ?_
            refine Sh.dp 14 32767 ?_
            refine D.eff 15 65535 rfl D.wantedN (by kernel_rfl) (by kernel_rfl) (fun _ _ h => h) ?_
            refine Z.al hS ?_
            clear hS; intro g w hS hge
            refine ⟨HM.s (hS.sb), ?_⟩
            refine D.eff 16 131071 rfl D.wantedN (by kernel_rfl) (by kernel_rfl) (fun _ _ h => h) ?_
            refine Z.st hS rfl (by repeat (first | exact At.here | apply At.next)) rfl rfl ?_
            clear hS; intro w hS
            refine ⟨HM.last (by kernel_rfl), ?_⟩
            refine Sh.dp 17 262143 ?_
            refine D.done (by kernel_rfl) ?_
            refine Sh.cut [(7, _), (8, _)] ?_
            exact ⟨_, A6, c6, rfl, hS.sb⟩
          refine D.econs 15 34815 rfl D.wantedN (by kernel_rfl) (fun _ _ h => h) ?_ ?_
          · refine Z.al hS ?_
            clear hS; intro g w hS hge
            refine ⟨HM.s (hS.sb), ?_⟩
            refine D.eff 11 36863 rfl D.wantedN (by kernel_rfl) (by kernel_rfl) (fun _ _ h => h) ?_
            replace hS := hS.fo (R := PL gl _)
            refine Z.cl (plship_z gl x.ld 2 (by unfold I64; omega) x.home.h _ _ _ _ hS hI.ld (Reads.of_at (e := 51) (v := .slice A5 x.home.h.length c5) (by repeat (first | exact At.here | apply At.next))) (by omega)) rfl ?_
            clear hS
            rintro e w ⟨A6, c6, rfl, hS⟩
            refine ⟨_, rfl, ?_⟩
            rw [hsl] at hS ⊢
            dsimp only at hS ⊢
            refine ⟨HM.s (hS.sb), ?_⟩
            refine Sh.dp 12 40959 ?_
            refine Sh.dp 13 49151 ?_
            refine Sh.dp 14 65535 ?_
            refine D.eff 16 131071 rfl D.wantedN (by kernel_rfl) (by kernel_rfl) (fun _ _ h => h) ?_
            refine Z.st hS rfl (by repeat (first | exact At.here | apply At.next)) rfl rfl ?_
            clear hS; intro w hS
            refine ⟨HM.last (by kernel_rfl), ?_⟩
            refine Sh.dp 17 262143 ?_
            refine D.done (by kernel_rfl) ?_
            refine Sh.cut [(7, _), (8, _)] ?_
            exact ⟨_, A6, c6, rfl, hS.sb⟩
          exact D.enil
        refine D.econs 15 33791 rfl D.wantedN (by kernel_rfl) (fun _ _ h => h) ?_ ?_
        · refine Z.al hS ?_
          clear hS; intro g w hS hge
          refine ⟨HM.s (hS.sb), ?_⟩
          refine D.eff 10 34815 rfl D.wantedN (by kernel_rfl) (by kernel_rfl) (fun _ _ h => h) ?_
          replace hS := hS.fo (R := PC gh _ _ _ _)
          refine Z.cl (phist0_z gh 1 0 vh x.home _ _ _ hS (by omega)) rfl ?_
          clear hS
          rintro e w ⟨A5, c5, rfl, hS⟩
          refine ⟨_, rfl, ?_⟩
          refine ⟨HM.s (hS.sb), ?_⟩
          refine D.eff 11 36863 rfl D.wantedN (by kernel_rfl) (by kernel_rfl) (fun _ _ h => h) ?_
          replace hS := hS.fo (R := PL gl _)
          refine Z.cl (plship_z gl x.ld 2 (by unfold I64; omega) x.home.h _ _ _ _ hS hI.ld (Reads.of_at (e := 51) (v := .slice A5 x.home.h.length c5) (by repeat (first | exact At.here | apply At.next))) (by omega)) rfl ?_
          clear hS
          rintro e w ⟨A6, c6, rfl, hS⟩
          refine ⟨_, rfl, ?_⟩
          rw [hsl] at hS ⊢
          dsimp only at hS ⊢
          refine ⟨HM.s (hS.sb), ?_⟩
          refine Sh.dp 12 40959 ?_
          refine Sh.dp 13 49151 ?_
          refine Sh.dp 14 65535 ?_
          refine D.eff 16 131071 rfl D.wantedN (by kernel_rfl) (by kernel_rfl) (fun _ _ h => h) ?_
          refine Z.st hS rfl (by repeat (first | exact At.here | apply At.next)) rfl rfl ?_
          clear hS; intro w hS
          refine ⟨HM.last (by kernel_rfl), ?_⟩
          refine Sh.dp 17 262143 ?_
          refine D.done (by kernel_rfl) ?_
          refine Sh.cut [(7, _), (8, _)] ?_
          exact ⟨_, A6, c6, rfl, hS.sb⟩
        exact D.enil
      clear hS
      rintro q3 w _ ⟨g7, A6, c6, rfl, hS⟩
      replace hN2 := hN2 A6 c6
      generalize shipS x.ep (x.sd 0) x.home.h = mm at *
      repeat' (first|refine VP ?_|refine Sh.la hS ?_|refine Sh.lb ?_|refine Sh.lc ?_|refine Sh.su ?_|(refine Sh.sa hS ?_;clear hS;intro w hS)|((first|refine Sh.aa hS ?_|refine Sh.ab hS ?_|refine Sh.ac hS ?_);clear hS;intro g w hS hge)|refine Sh.ix ?_|refine Sh.up ?_|refine Sh.sl1 ?_|refine Sh.sl2 ?_|refine Sh.sl5 ?_|refine Sh.sl3 ?_|refine Sh.sl4 ?_|refine Sh.eq ?_|refine Sh.ne ?_|refine Sh.ix2 ?_|refine Sh.ix3 ?_|refine Z.bu rfl rfl ?_|refine VM ?_|refine Z.pl (R.cap rfl rfl) ?_|refine Z.pl R.mf ?_|refine Z.pl (R.min2 rfl rfl) ?_|refine G1 ?_|refine G2 ?_|refine G3 ?_|refine G4 ?_|with_reducible (first|refine V0 ?_|refine Z.block ?_)|((with_reducible refine Z.blX ?_ ?_);rotate_left;rfl)|refine VT ?_|refine VF ?_|((first|refine GS ?_ ?_|refine VB ?_ ?_)<;>intro hb<;>(try simp only [J1,J2,J3,J4,J5,J6] at hb)<;>(try (exfalso;first|omega|exact hb trivial))))
      refine D.startS (Lr := [.blk gx 79 [.pointer (some ⟨gh, 0, .none⟩), .pointer (some ⟨gw, 0, .none⟩), .pointer (some ⟨gl, 0, .none⟩), .pointer (some ⟨c0, 0, .none⟩), .pointer (some ⟨c1, 0, .none⟩), .pointer (some ⟨f0, 0, .none⟩), .pointer (some ⟨f1, 0, .none⟩), .slice A0 (sv 0).length k0, .slice A1 (sv 1).length k1, .slice B0 (x.he 0).length m0, .slice B1 (x.he 1).length m1, .int .i64 x.ep], .blk g7 28 _]) (hS.sb) 14 15 (by kernel_rfl) rfl ?_
      replace hS := hS.drew
      refine Sh.dp 0 1 ?_
      refine Sh.dp 1 3 ?_
      refine Sh.dp 2 7 ?_
      refine Sh.dp 3 15 ?_
      refine Sh.dp 4 31 ?_
      refine Sh.dp 5 63 ?_
      first | refine D.ixn 6 127 rfl D.wantedN (by kernel_rfl) rfl rfl rfl (by omega) ?_ | refine D.ix 6 127 rfl D.wantedN (by kernel_rfl) rfl rfl rfl (by omega) ?_ | refine D.ia 6 127 rfl D.wantedN (by kernel_rfl) rfl rfl rfl (by omega) ?_
      refine Sh.dp 11 2175 ?_
      refine Sh.dp 12 6271 ?_
      refine Sh.dl 7 6399 ?_
      refine Sh.dl 8 6655 ?_
      refine D.eff 9 7167 rfl D.wantedN (by kernel_rfl) (by kernel_rfl) (fun _ _ h => h) ?_
      refine Z.bs hS rfl rfl rfl ?_
      clear hS; intro g w hS hge
      refine ⟨HM.s (hS.sb), ?_⟩
      refine D.eff 10 8191 rfl D.wantedN (by kernel_rfl) (by kernel_rfl) (fun _ _ h => h) ?_
      refine Z.apm (fc := ShV.cells) (l' := [⟨mm, A6, c6⟩]) hS rfl rfl rfl (by repeat (first | exact At.here | apply At.next)) (hS.lit1 (by repeat (first | exact At.here | apply At.next)) rfl rfl) (by (try simp only [maxLen, List.length_take, List.length_drop, List.length_append, List.length_cons, List.length_nil, List.length_map]); omega) (by (try simp only [maxLen, List.length_take, List.length_drop, List.length_append, List.length_cons, List.length_nil, List.length_map]); omega) ?_
      clear hS; intro A9 k9 w hS
      rw [← List.length_append] at hS ⊢
      refine ⟨HM.s (hS.sb), ?_⟩
      first | refine D.ixn 13 16383 rfl D.wantedN (by kernel_rfl) rfl rfl rfl (by omega) ?_ | refine D.ix 13 16383 rfl D.wantedN (by kernel_rfl) rfl rfl rfl (by omega) ?_ | refine D.ia 13 16383 rfl D.wantedN (by kernel_rfl) rfl rfl rfl (by omega) ?_
      refine D.eff 14 32767 rfl D.wantedN (by kernel_rfl) (by kernel_rfl) (fun _ _ h => h) ?_
      refine Z.st hS rfl (by repeat (first | exact At.here | apply At.next)) rfl rfl ?_
      clear hS; intro w hS
      refine ⟨HM.last (by kernel_rfl), ?_⟩
      refine D.done (by kernel_rfl) ?_
      repeat' (first|refine VP ?_|refine Sh.la hS ?_|refine Sh.lb ?_|refine Sh.lc ?_|refine Sh.su ?_|(refine Sh.sa hS ?_;clear hS;intro w hS)|((first|refine Sh.aa hS ?_|refine Sh.ab hS ?_|refine Sh.ac hS ?_);clear hS;intro g w hS hge)|refine Sh.ix ?_|refine Sh.up ?_|refine Sh.sl1 ?_|refine Sh.sl2 ?_|refine Sh.sl5 ?_|refine Sh.sl3 ?_|refine Sh.sl4 ?_|refine Sh.eq ?_|refine Sh.ne ?_|refine Sh.ix2 ?_|refine Sh.ix3 ?_|refine Z.bu rfl rfl ?_|refine VM ?_|refine Z.pl (R.cap rfl rfl) ?_|refine Z.pl R.mf ?_|refine Z.pl (R.min2 rfl rfl) ?_|refine G1 ?_|refine G2 ?_|refine G3 ?_|refine G4 ?_|with_reducible (first|refine V0 ?_|refine Z.block ?_)|((with_reducible refine Z.blX ?_ ?_);rotate_left;rfl)|refine VT ?_|refine VF ?_|((first|refine GS ?_ ?_|refine VB ?_ ?_)<;>intro hb<;>(try simp only [J1,J2,J3,J4,J5,J6] at hb)<;>(try (exfalso;first|omega|exact hb trivial))))
      first | refine Z.done hS Try.results36 (Z.RV.tmp rfl Z.RV.nil) ?_ | refine Z.doneN hS Try.results36 (Z.RV.tmp rfl Z.RV.nil) ?_
      replace hS := hS.fo (R := G)
      replace hS := hS.fo (R := .sl 51 8 (.slice A6 _ c6) _)
      replace hS := Sep.star_open.2 hS
      refine ⟨_, _, _, j2, rfl, hN2, hM2, by omega, (Sep.NT_open.2 ⟨⟨gh, gw, gl, c0, c1, f0, f1, vh, vw, v0, v1, A9, A1, B0, B1, k9, k1, m0, m1⟩, ?_⟩).swap⟩
      simp only [NR, NB, List.cons_append, List.nil_append]
      exact hS.sb
    refine Z.seq ?_
    refine Z.cut [119, 118, 120] (fun w s => s = [(118, .bool (decide (k8 = 4 ∨ k8 = 5)))] ∧ Sep r [] (TpR r gt l j2 :: .blk gx 79 [.pointer (some ⟨gh, 0, .none⟩), .pointer (some ⟨gw, 0, .none⟩), .pointer (some ⟨gl, 0, .none⟩), .pointer (some ⟨c0, 0, .none⟩), .pointer (some ⟨c1, 0, .none⟩), .pointer (some ⟨f0, 0, .none⟩), .pointer (some ⟨f1, 0, .none⟩), .slice A0 (sv 0).length k0, .slice A1 (sv 1).length k1, .slice B0 (x.he 0).length m0, .slice B1 (x.he 1).length m1, .int .i64 x.ep] :: PC gh 1 0 vh x.home :: CR gw 1 0 vw x.home :: PL gl x.ld :: PC c0 2 0 v0 (x.fo 0).c :: PC c1 3 0 v1 (x.fo 1).c :: .blk f0 102 [.pointer (some ⟨c0, 0, .none⟩), .int .i64 (x.fo 0).seen, .int .i64 (x.fo 0).agreed] :: .blk f1 102 [.pointer (some ⟨c1, 0, .none⟩), .int .i64 (x.fo 1).seen, .int .i64 (x.fo 1).agreed] :: .sl 28 4 (.slice A0 (sv 0).length k0) ((sv 0).map ShV.cells) :: .sl 28 4 (.slice A1 (sv 1).length k1) ((sv 1).map ShV.cells) :: .sl 53 3 (.slice B0 (x.he 0).length m0) ((x.he 0).map He.cells) :: .sl 53 3 (.slice B1 (x.he 1).length m1) ((x.he 1).map He.cells) :: G :: F) w) ?_ ?_
    · repeat' (first|refine VP ?_|refine Sh.la hS ?_|refine Sh.lb ?_|refine Sh.lc ?_|refine Sh.su ?_|(refine Sh.sa hS ?_;clear hS;intro w hS)|((first|refine Sh.aa hS ?_|refine Sh.ab hS ?_|refine Sh.ac hS ?_);clear hS;intro g w hS hge)|refine Sh.ix ?_|refine Sh.up ?_|refine Sh.sl1 ?_|refine Sh.sl2 ?_|refine Sh.sl5 ?_|refine Sh.sl3 ?_|refine Sh.sl4 ?_|refine Sh.eq ?_|refine Sh.ne ?_|refine Sh.ix2 ?_|refine Sh.ix3 ?_|refine Z.bu rfl rfl ?_|refine VM ?_|refine Z.pl (R.cap rfl rfl) ?_|refine Z.pl R.mf ?_|refine Z.pl (R.min2 rfl rfl) ?_|refine G1 ?_|refine G2 ?_|refine G3 ?_|refine G4 ?_|with_reducible (first|refine V0 ?_|refine Z.block ?_)|((with_reducible refine Z.blX ?_ ?_);rotate_left;rfl)|refine VT ?_|refine VF ?_|((first|refine GS ?_ ?_|refine VB ?_ ?_)<;>intro hb<;>(try simp only [J1,J2,J3,J4,J5,J6] at hb)<;>(try (exfalso;first|omega|exact hb trivial))))
      · refine Sh.cut [(118, _)] ?_
        exact ⟨by rw [decide_eq_true (by omega : k8 = 4), decide_eq_true (by omega : k8 = 4 ∨ k8 = 5)], hS⟩
      · refine Sh.cut [(118, _)] ?_
        refine ⟨?_, hS⟩
        have e : decide (k8 = 5) = decide (k8 = 4 ∨ k8 = 5) := decide_eq_decide.2 (by omega)
        rw [e]
    clear hS
    rintro q3 w _ ⟨rfl, hS⟩
    refine VB ?_ ?_ <;> intro hb <;> (try simp only [J1,J2,J3,J4,J5,J6] at hb)
    · clear hb
      by_cases hq0 : 0 < (sv 0).length
      · have hbn := nxt_bd l j2 ((sv 0).length : Int) (by omega)
        have hj3 := adv_ge l j2
        have hq1 : (nxt l j2 ((sv 0).length : Int)).toNat < (sv 0).length := by omega
        obtain ⟨gb, o, rfl, _, _⟩ := (hS.slrows (e := 28) (v := .slice A0 (sv 0).length k0) (by repeat (first | exact At.here | apply At.next))).mat (by omega) hq1
        have hrx := hrd 0 (by omega) ((sv 0)[(nxt l j2 ((sv 0).length : Int)).toNat]) (by simp)
        have hmem : ((sv 0)[(nxt l j2 ((sv 0).length : Int)).toNat]).m ∈ x.sh 0 := by rw [hvI]; exact List.mem_map.2 ⟨_, by simp, rfl⟩
        obtain ⟨hI2, hM2, he0⟩ := hI.take (i := 0) (by omega) hmem
        generalize hxm : (sv 0)[(nxt l j2 ((sv 0).length : Int)).toNat] = xm at *
        repeat' (first|refine VP ?_|refine Sh.la hS ?_|refine Sh.lb ?_|refine Sh.lc ?_|refine Sh.su ?_|(refine Sh.sa hS ?_;clear hS;intro w hS)|((first|refine Sh.aa hS ?_|refine Sh.ab hS ?_|refine Sh.ac hS ?_);clear hS;intro g w hS hge)|refine Sh.ix ?_|refine Sh.up ?_|refine Sh.sl1 ?_|refine Sh.sl2 ?_|refine Sh.sl5 ?_|refine Sh.sl3 ?_|refine Sh.sl4 ?_|refine Sh.eq ?_|refine Sh.ne ?_|refine Sh.ix2 ?_|refine Sh.ix3 ?_|refine Z.bu rfl rfl ?_|refine VM ?_|refine Z.pl (R.cap rfl rfl) ?_|refine Z.pl R.mf ?_|refine Z.pl (R.min2 rfl rfl) ?_|refine G1 ?_|refine G2 ?_|refine G3 ?_|refine G4 ?_|with_reducible (first|refine V0 ?_|refine Z.block ?_)|((with_reducible refine Z.blX ?_ ?_);rotate_left;rfl)|refine VT ?_|refine VF ?_|((first|refine GS ?_ ?_|refine VB ?_ ?_)<;>intro hb<;>(try simp only [J1,J2,J3,J4,J5,J6] at hb)<;>(try (exfalso;first|omega|exact hb trivial))))
        refine Z.cut [9, 10, 129, 130, 131, 132, 133, 134, 135, 136, 137, 138, 139, 140, 141, 142, 143, 144, 145, 146, 147, 148, 149, 150, 151, 152, 153, 154, 155] (fun w s => ∃ g9, s = [(9, .pointer (some ⟨g9, 0, .none⟩)), (10, .int .i64 0)] ∧ Sep r [] (.blk g9 53 (takeF (x.fo 0) xm.m).2.1.cells :: TpR r gt l (adv l j2) :: G :: .blk gx 79 [.pointer (some ⟨gh, 0, .none⟩), .pointer (some ⟨gw, 0, .none⟩), .pointer (some ⟨gl, 0, .none⟩), .pointer (some ⟨c0, 0, .none⟩), .pointer (some ⟨c1, 0, .none⟩), .pointer (some ⟨f0, 0, .none⟩), .pointer (some ⟨f1, 0, .none⟩), .slice (some ⟨gb, o, .none⟩) (sv 0).length k0, .slice A1 (sv 1).length k1, .slice B0 (x.he 0).length m0, .slice B1 (x.he 1).length m1, .int .i64 x.ep] :: PC gh 1 0 vh x.home :: CR gw 1 0 vw x.home :: PL gl x.ld :: PC c0 2 0 v0 ((takeF (x.fo 0) xm.m).1).c :: PC c1 3 0 v1 (x.fo 1).c :: .blk f0 102 [.pointer (some ⟨c0, 0, .none⟩), .int .i64 ((takeF (x.fo 0) xm.m).1).seen, .int .i64 ((takeF (x.fo 0) xm.m).1).agreed] :: .blk f1 102 [.pointer (some ⟨c1, 0, .none⟩), .int .i64 (x.fo 1).seen, .int .i64 (x.fo 1).agreed] :: .sl 28 4 (.slice (some ⟨gb, o, .none⟩) (sv 0).length k0) ((sv 0).map ShV.cells) :: .sl 28 4 (.slice A1 (sv 1).length k1) ((sv 1).map ShV.cells) :: .sl 53 3 (.slice B0 (x.he 0).length m0) ((x.he 0).map He.cells) :: .sl 53 3 (.slice B1 (x.he 1).length m1) ((x.he 1).map He.cells) :: F) w) ?_ ?_
        · refine D.startS (Lr := [.blk gx 79 [.pointer (some ⟨gh, 0, .none⟩), .pointer (some ⟨gw, 0, .none⟩), .pointer (some ⟨gl, 0, .none⟩), .pointer (some ⟨c0, 0, .none⟩), .pointer (some ⟨c1, 0, .none⟩), .pointer (some ⟨f0, 0, .none⟩), .pointer (some ⟨f1, 0, .none⟩), .slice (some ⟨gb, o, .none⟩) (sv 0).length k0, .slice A1 (sv 1).length k1, .slice B0 (x.he 0).length m0, .slice B1 (x.he 1).length m1, .int .i64 x.ep], .sl 28 4 (.slice (some ⟨gb, o, .none⟩) (sv 0).length k0) ((sv 0).map ShV.cells)]) (hS.sb) 28 30 (by kernel_rfl) rfl ?_
          replace hS := hS.drew
          refine Sh.dp 0 1 ?_
          refine Sh.dp 1 3 ?_
          refine Sh.dp 2 7 ?_
          refine Sh.dp 3 15 ?_
          first | refine D.ixn 4 31 rfl D.wantedN (by kernel_rfl) rfl rfl rfl (by omega) ?_ | refine D.ix 4 31 rfl D.wantedN (by kernel_rfl) rfl rfl rfl (by omega) ?_ | refine D.ia 4 31 rfl D.wantedN (by kernel_rfl) rfl rfl rfl (by omega) ?_
          refine Sh.dp 6 95 ?_
          refine Sh.dp 7 223 ?_
          refine Sh.dp 8 479 ?_
          refine Sh.dp 9 991 ?_
          first | refine D.ixn 10 2015 rfl D.wantedN (by kernel_rfl) rfl rfl rfl (by omega) ?_ | refine D.ix 10 2015 rfl D.wantedN (by kernel_rfl) rfl rfl rfl (by omega) ?_ | refine D.ia 10 2015 rfl D.wantedN (by kernel_rfl) rfl rfl rfl (by omega) ?_
          refine Sh.dp 12 6111 ?_
          refine Sh.dp 13 14303 ?_
          refine Sh.dp 14 30687 ?_
          refine Sh.dp 15 63455 ?_
          refine Sh.dp 16 128991 ?_
          first | refine D.ixn 17 260063 rfl D.wantedN (by kernel_rfl) rfl rfl rfl (by omega) ?_ | refine D.ix 17 260063 rfl D.wantedN (by kernel_rfl) rfl rfl rfl (by omega) ?_ | refine D.ia 17 260063 rfl D.wantedN (by kernel_rfl) rfl rfl rfl (by omega) ?_
          refine Sh.dl 5 260095 ?_
          refine Sh.dl 11 262143 ?_
          refine Sh.dl 18 524287 ?_
          refine Sh.dp 19 1048575 ?_
          refine D.each [20, 27] (by kernel_rfl) rfl ?_
          refine D.econs 20 2097151 rfl D.wantedN (by kernel_rfl) (fun _ _ h => h) ?_ ?_
          · replace hS := hS.fo (R := TpR r gt l _)
            refine Z.cl (next_z _ hS (by omega) (by omega)) rfl ?_
            clear hS
            rintro e w ⟨rfl, hS⟩
            refine ⟨_, rfl, ?_⟩
            refine ⟨HM.s (hS.sb), ?_⟩
            first | refine D.ixn 21 4194303 rfl D.wantedN (by kernel_rfl) rfl rfl rfl (by omega) ?_ | refine D.ix 21 4194303 rfl D.wantedN (by kernel_rfl) rfl rfl rfl (by omega) ?_ | refine D.ia 21 4194303 rfl D.wantedN (by kernel_rfl) rfl rfl rfl (by omega) ?_
            refine D.ldR 22 8388607 rfl D.wantedN (by kernel_rfl) rfl (fun W h => by have h1 := (h.slrows (e := 28) (v := .slice (some ⟨gb, o, .none⟩) (sv 0).length k0) (by repeat (first | exact At.here | apply At.next))).elem (by omega) hq1; rw [hxm] at h1; exact h1) rfl ?_
            refine D.each [23, 27] (by kernel_rfl) rfl ?_
            refine D.econs 23 16777215 rfl D.wantedN (by kernel_rfl) (fun _ _ h => h) ?_ ?_
            · replace hS := hS.fo (R := PC c0 _ _ _ _)
              replace hS := hS.fo (R := .blk f0 _ _)
              refine Z.cl (ptake_z f0 c0 2 0 _ (x.fo 0) xm.m xm.v _ _ _ hS (hrx.sub (by repeat (first | exact Sub.rest | exact Sub.nil | exact .skip .rest | exact .skip (.skip .rest) | exact .skip (.skip (.skip .rest)) | apply Sub.keep | refine Sub.cons (by repeat (first | exact At.here | apply At.next)) ?_ | apply Sub.skip))) hgI) rfl ?_
              clear hS
              rintro e w ⟨rfl, hS⟩
              refine ⟨_, rfl, ?_⟩
              rw [he0]
              refine ⟨HM.s (hS.sb), ?_⟩
              refine Sh.dp 24 33554431 ?_
              refine Sh.dp 25 67108863 ?_
              refine Sh.dp 26 134217727 ?_
              refine D.eff 27 268435455 rfl D.wantedN (by kernel_rfl) (by kernel_rfl) (fun _ _ h => h) ?_
              refine Z.al hS ?_
              clear hS; intro g w hS hge
              refine ⟨HM.s (hS.sb), ?_⟩
              refine D.eff 28 536870911 rfl D.wantedN (by kernel_rfl) (by kernel_rfl) (fun _ _ h => h) ?_
              refine Z.st hS rfl (by repeat (first | exact At.here | apply At.next)) rfl rfl ?_
              clear hS; intro w hS
              refine ⟨HM.last (by kernel_rfl), ?_⟩
              refine Sh.dp 29 1073741823 ?_
              refine D.done (by kernel_rfl) ?_
              refine Sh.cut [(9, _), (10, _)] ?_
              exact ⟨_, rfl, hS.sb⟩
            refine D.econs 27 142606335 rfl D.wantedN (by kernel_rfl) (fun _ _ h => h) ?_ ?_
            · refine Z.al hS ?_
              clear hS; intro g w hS hge
              refine ⟨HM.s (hS.sb), ?_⟩
              refine D.eff 23 150994943 rfl D.wantedN (by kernel_rfl) (by kernel_rfl) (fun _ _ h => h) ?_
              replace hS := hS.fo (R := PC c0 _ _ _ _)
              replace hS := hS.fo (R := .blk f0 _ _)
              refine Z.cl (ptake_z f0 c0 2 0 _ (x.fo 0) xm.m xm.v _ _ _ hS (hrx.sub (by repeat (first | exact Sub.rest | exact Sub.nil | exact .skip .rest | exact .skip (.skip .rest) | exact .skip (.skip (.skip .rest)) | apply Sub.keep | refine Sub.cons (by repeat (first | exact At.here | apply At.next)) ?_ | apply Sub.skip))) hgI) rfl ?_
              clear hS
              rintro e w ⟨rfl, hS⟩
              refine ⟨_, rfl, ?_⟩
              rw [he0]
              refine ⟨HM.s (hS.sb), ?_⟩
              refine Sh.dp 24 167772159 ?_
              refine Sh.dp 25 201326591 ?_
              refine Sh.dp 26 268435455 ?_
              refine D.eff 28 536870911 rfl D.wantedN (by kernel_rfl) (by kernel_rfl) (fun _ _ h => h) ?_
              refine Z.st hS rfl (by repeat (first | exact At.here | apply At.next)) rfl rfl ?_
              clear hS; intro w hS
              refine ⟨HM.last (by kernel_rfl), ?_⟩
              refine Sh.dp 29 1073741823 ?_
              refine D.done (by kernel_rfl) ?_
              refine Sh.cut [(9, _), (10, _)] ?_
              exact ⟨_, rfl, hS.sb⟩
            exact D.enil
          refine D.econs 27 135266303 rfl D.wantedN (by kernel_rfl) (fun _ _ h => h) ?_ ?_
          · refine Z.al hS ?_
            clear hS; intro g w hS hge
            refine ⟨HM.s (hS.sb), ?_⟩
            refine D.eff 20 136314879 rfl D.wantedN (by kernel_rfl) (by kernel_rfl) (fun _ _ h => h) ?_
            replace hS := hS.fo (R := TpR r gt l _)
            refine Z.cl (next_z _ hS (by omega) (by omega)) rfl ?_
            clear hS
            rintro e w ⟨rfl, hS⟩
            refine ⟨_, rfl, ?_⟩
            refine ⟨HM.s (hS.sb), ?_⟩
            first | refine D.ixn 21 138412031 rfl D.wantedN (by kernel_rfl) rfl rfl rfl (by omega) ?_ | refine D.ix 21 138412031 rfl D.wantedN (by kernel_rfl) rfl rfl rfl (by omega) ?_ | refine D.ia 21 138412031 rfl D.wantedN (by kernel_rfl) rfl rfl rfl (by omega) ?_
            refine D.ldR 22 142606335 rfl D.wantedN (by kernel_rfl) rfl (fun W h => by have h1 := (h.slrows (e := 28) (v := .slice (some ⟨gb, o, .none⟩) (sv 0).length k0) (by repeat (first | exact At.here | apply At.next))).elem (by omega) hq1; rw [hxm] at h1; exact h1) rfl ?_
            refine D.eff 23 150994943 rfl D.wantedN (by kernel_rfl) (by kernel_rfl) (fun _ _ h => h) ?_
            replace hS := hS.fo (R := PC c0 _ _ _ _)
            replace hS := hS.fo (R := .blk f0 _ _)
            refine Z.cl (ptake_z f0 c0 2 0 _ (x.fo 0) xm.m xm.v _ _ _ hS (hrx.sub (by repeat (first | exact Sub.rest | exact Sub.nil | exact .skip .rest | exact .skip (.skip .rest) | exact .skip (.skip (.skip .rest)) | apply Sub.keep | refine Sub.cons (by repeat (first | exact At.here | apply At.next)) ?_ | apply Sub.skip))) hgI) rfl ?_
            clear hS
            rintro e w ⟨rfl, hS⟩
            refine ⟨_, rfl, ?_⟩
            rw [he0]
            refine ⟨HM.s (hS.sb), ?_⟩
            refine Sh.dp 24 167772159 ?_
            refine Sh.dp 25 201326591 ?_
            refine Sh.dp 26 268435455 ?_
            refine D.eff 28 536870911 rfl D.wantedN (by kernel_rfl) (by kernel_rfl) (fun _ _ h => h) ?_
            refine Z.st hS rfl (by repeat (first | exact At.here | apply At.next)) rfl rfl ?_
            clear hS; intro w hS
            refine ⟨HM.last (by kernel_rfl), ?_⟩
            refine Sh.dp 29 1073741823 ?_
            refine D.done (by kernel_rfl) ?_
            refine Sh.cut [(9, _), (10, _)] ?_
            exact ⟨_, rfl, hS.sb⟩
          exact D.enil
        clear hS
        rintro q4 w _ ⟨g9, rfl, hS⟩
        repeat' (first|refine VP ?_|refine Sh.la hS ?_|refine Sh.lb ?_|refine Sh.lc ?_|refine Sh.su ?_|(refine Sh.sa hS ?_;clear hS;intro w hS)|((first|refine Sh.aa hS ?_|refine Sh.ab hS ?_|refine Sh.ac hS ?_);clear hS;intro g w hS hge)|refine Sh.ix ?_|refine Sh.up ?_|refine Sh.sl1 ?_|refine Sh.sl2 ?_|refine Sh.sl5 ?_|refine Sh.sl3 ?_|refine Sh.sl4 ?_|refine Sh.eq ?_|refine Sh.ne ?_|refine Sh.ix2 ?_|refine Sh.ix3 ?_|refine Z.bu rfl rfl ?_|refine VM ?_|refine Z.pl (R.cap rfl rfl) ?_|refine Z.pl R.mf ?_|refine Z.pl (R.min2 rfl rfl) ?_|refine G1 ?_|refine G2 ?_|refine G3 ?_|refine G4 ?_|with_reducible (first|refine V0 ?_|refine Z.block ?_)|((with_reducible refine Z.blX ?_ ?_);rotate_left;rfl)|refine VT ?_|refine VF ?_|((first|refine GS ?_ ?_|refine VB ?_ ?_)<;>intro hb<;>(try simp only [J1,J2,J3,J4,J5,J6] at hb)<;>(try (exfalso;first|omega|exact hb trivial))))
        refine D.startS (Lr := [.blk gx 79 [.pointer (some ⟨gh, 0, .none⟩), .pointer (some ⟨gw, 0, .none⟩), .pointer (some ⟨gl, 0, .none⟩), .pointer (some ⟨c0, 0, .none⟩), .pointer (some ⟨c1, 0, .none⟩), .pointer (some ⟨f0, 0, .none⟩), .pointer (some ⟨f1, 0, .none⟩), .slice (some ⟨gb, o, .none⟩) (sv 0).length k0, .slice A1 (sv 1).length k1, .slice B0 (x.he 0).length m0, .slice B1 (x.he 1).length m1, .int .i64 x.ep], .blk g9 53 _]) (hS.sb) 14 15 (by kernel_rfl) rfl ?_
        replace hS := hS.drew
        refine Sh.dp 0 1 ?_
        refine Sh.dp 1 3 ?_
        refine Sh.dp 2 7 ?_
        refine Sh.dp 3 15 ?_
        refine Sh.dp 4 31 ?_
        refine Sh.dp 5 63 ?_
        first | refine D.ixn 6 127 rfl D.wantedN (by kernel_rfl) rfl rfl rfl (by omega) ?_ | refine D.ix 6 127 rfl D.wantedN (by kernel_rfl) rfl rfl rfl (by omega) ?_ | refine D.ia 6 127 rfl D.wantedN (by kernel_rfl) rfl rfl rfl (by omega) ?_
        refine Sh.dp 11 2175 ?_
        refine Sh.dp 12 6271 ?_
        refine Sh.dl 7 6399 ?_
        refine Sh.dl 8 6655 ?_
        refine D.eff 9 7167 rfl D.wantedN (by kernel_rfl) (by kernel_rfl) (fun _ _ h => h) ?_
        refine Z.bs hS rfl rfl rfl ?_
        clear hS; intro g w hS hge
        refine ⟨HM.s (hS.sb), ?_⟩
        refine D.eff 10 8191 rfl D.wantedN (by kernel_rfl) (by kernel_rfl) (fun _ _ h => h) ?_
        refine Z.apm (fc := He.cells) (l' := [(takeF (x.fo 0) xm.m).2.1]) hS rfl rfl rfl (by repeat (first | exact At.here | apply At.next)) (hS.lit1 (by repeat (first | exact At.here | apply At.next)) rfl rfl) (by (try simp only [maxLen, List.length_take, List.length_drop, List.length_append, List.length_cons, List.length_nil, List.length_map]); omega) (by (try simp only [maxLen, List.length_take, List.length_drop, List.length_append, List.length_cons, List.length_nil, List.length_map]); omega) ?_
        clear hS; intro B9 m9 w hS
        rw [← List.length_append] at hS ⊢
        refine ⟨HM.s (hS.sb), ?_⟩
        first | refine D.ixn 13 16383 rfl D.wantedN (by kernel_rfl) rfl rfl rfl (by omega) ?_ | refine D.ix 13 16383 rfl D.wantedN (by kernel_rfl) rfl rfl rfl (by omega) ?_ | refine D.ia 13 16383 rfl D.wantedN (by kernel_rfl) rfl rfl rfl (by omega) ?_
        refine D.eff 14 32767 rfl D.wantedN (by kernel_rfl) (by kernel_rfl) (fun _ _ h => h) ?_
        refine Z.st hS rfl (by repeat (first | exact At.here | apply At.next)) rfl rfl ?_
        clear hS; intro w hS
        refine ⟨HM.last (by kernel_rfl), ?_⟩
        refine D.done (by kernel_rfl) ?_
        repeat' (first|refine VP ?_|refine Sh.la hS ?_|refine Sh.lb ?_|refine Sh.lc ?_|refine Sh.su ?_|(refine Sh.sa hS ?_;clear hS;intro w hS)|((first|refine Sh.aa hS ?_|refine Sh.ab hS ?_|refine Sh.ac hS ?_);clear hS;intro g w hS hge)|refine Sh.ix ?_|refine Sh.up ?_|refine Sh.sl1 ?_|refine Sh.sl2 ?_|refine Sh.sl5 ?_|refine Sh.sl3 ?_|refine Sh.sl4 ?_|refine Sh.eq ?_|refine Sh.ne ?_|refine Sh.ix2 ?_|refine Sh.ix3 ?_|refine Z.bu rfl rfl ?_|refine VM ?_|refine Z.pl (R.cap rfl rfl) ?_|refine Z.pl R.mf ?_|refine Z.pl (R.min2 rfl rfl) ?_|refine G1 ?_|refine G2 ?_|refine G3 ?_|refine G4 ?_|with_reducible (first|refine V0 ?_|refine Z.block ?_)|((with_reducible refine Z.blX ?_ ?_);rotate_left;rfl)|refine VT ?_|refine VF ?_|((first|refine GS ?_ ?_|refine VB ?_ ?_)<;>intro hb<;>(try simp only [J1,J2,J3,J4,J5,J6] at hb)<;>(try (exfalso;first|omega|exact hb trivial))))
        first | refine Z.done hS Try.results36 (Z.RV.tmp rfl Z.RV.nil) ?_ | refine Z.doneN hS Try.results36 (Z.RV.tmp rfl Z.RV.nil) ?_
        refine ⟨x.take 0 xm.m, sv, G, adv l j2, rfl, ⟨hI2, hsv, hrd⟩, hM2, by omega, (Sep.NT_open.2 ⟨⟨gh, gw, gl, c0, c1, f0, f1, vh, vw, v0, v1, (some ⟨gb, o, .none⟩), A1, B9, B1, k0, k1, m9, m1⟩, ?_⟩).swap⟩
        simp only [NR, NB, List.cons_append, List.nil_append]
        exact hS.sb
      · repeat' (first|refine VP ?_|refine Sh.la hS ?_|refine Sh.lb ?_|refine Sh.lc ?_|refine Sh.su ?_|(refine Sh.sa hS ?_;clear hS;intro w hS)|((first|refine Sh.aa hS ?_|refine Sh.ab hS ?_|refine Sh.ac hS ?_);clear hS;intro g w hS hge)|refine Sh.ix ?_|refine Sh.up ?_|refine Sh.sl1 ?_|refine Sh.sl2 ?_|refine Sh.sl5 ?_|refine Sh.sl3 ?_|refine Sh.sl4 ?_|refine Sh.eq ?_|refine Sh.ne ?_|refine Sh.ix2 ?_|refine Sh.ix3 ?_|refine Z.bu rfl rfl ?_|refine VM ?_|refine Z.pl (R.cap rfl rfl) ?_|refine Z.pl R.mf ?_|refine Z.pl (R.min2 rfl rfl) ?_|refine G1 ?_|refine G2 ?_|refine G3 ?_|refine G4 ?_|with_reducible (first|refine V0 ?_|refine Z.block ?_)|((with_reducible refine Z.blX ?_ ?_);rotate_left;rfl)|refine VT ?_|refine VF ?_|((first|refine GS ?_ ?_|refine VB ?_ ?_)<;>intro hb<;>(try simp only [J1,J2,J3,J4,J5,J6] at hb)<;>(try (exfalso;first|omega|exact hb trivial))))
        first | refine Z.done hS Try.results36 (Z.RV.tmp rfl Z.RV.nil) ?_ | refine Z.doneN hS Try.results36 (Z.RV.tmp rfl Z.RV.nil) ?_
        refine ⟨x, sv, G, j2, rfl, ⟨hI.more (by omega), hsv, hrd⟩, Mono.refl x, by omega, (Sep.NT_open.2 ⟨⟨gh, gw, gl, c0, c1, f0, f1, vh, vw, v0, v1, A0, A1, B0, B1, k0, k1, m0, m1⟩, ?_⟩).swap⟩
        simp only [NR, NB, List.cons_append, List.nil_append]
        exact hS.sb
    refine Z.seq ?_
    refine Z.cut [172, 173] (fun w s => s = [(172, .bool (decide (k8 = 6)))] ∧ Sep r [] (TpR r gt l j2 :: .blk gx 79 [.pointer (some ⟨gh, 0, .none⟩), .pointer (some ⟨gw, 0, .none⟩), .pointer (some ⟨gl, 0, .none⟩), .pointer (some ⟨c0, 0, .none⟩), .pointer (some ⟨c1, 0, .none⟩), .pointer (some ⟨f0, 0, .none⟩), .pointer (some ⟨f1, 0, .none⟩), .slice A0 (sv 0).length k0, .slice A1 (sv 1).length k1, .slice B0 (x.he 0).length m0, .slice B1 (x.he 1).length m1, .int .i64 x.ep] :: PC gh 1 0 vh x.home :: CR gw 1 0 vw x.home :: PL gl x.ld :: PC c0 2 0 v0 (x.fo 0).c :: PC c1 3 0 v1 (x.fo 1).c :: .blk f0 102 [.pointer (some ⟨c0, 0, .none⟩), .int .i64 (x.fo 0).seen, .int .i64 (x.fo 0).agreed] :: .blk f1 102 [.pointer (some ⟨c1, 0, .none⟩), .int .i64 (x.fo 1).seen, .int .i64 (x.fo 1).agreed] :: .sl 28 4 (.slice A0 (sv 0).length k0) ((sv 0).map ShV.cells) :: .sl 28 4 (.slice A1 (sv 1).length k1) ((sv 1).map ShV.cells) :: .sl 53 3 (.slice B0 (x.he 0).length m0) ((x.he 0).map He.cells) :: .sl 53 3 (.slice B1 (x.he 1).length m1) ((x.he 1).map He.cells) :: G :: F) w) ?_ ?_
    · repeat' (first|refine VP ?_|refine Sh.la hS ?_|refine Sh.lb ?_|refine Sh.lc ?_|refine Sh.su ?_|(refine Sh.sa hS ?_;clear hS;intro w hS)|((first|refine Sh.aa hS ?_|refine Sh.ab hS ?_|refine Sh.ac hS ?_);clear hS;intro g w hS hge)|refine Sh.ix ?_|refine Sh.up ?_|refine Sh.sl1 ?_|refine Sh.sl2 ?_|refine Sh.sl5 ?_|refine Sh.sl3 ?_|refine Sh.sl4 ?_|refine Sh.eq ?_|refine Sh.ne ?_|refine Sh.ix2 ?_|refine Sh.ix3 ?_|refine Z.bu rfl rfl ?_|refine VM ?_|refine Z.pl (R.cap rfl rfl) ?_|refine Z.pl R.mf ?_|refine Z.pl (R.min2 rfl rfl) ?_|refine G1 ?_|refine G2 ?_|refine G3 ?_|refine G4 ?_|with_reducible (first|refine V0 ?_|refine Z.block ?_)|((with_reducible refine Z.blX ?_ ?_);rotate_left;rfl)|refine VT ?_|refine VF ?_|((first|refine GS ?_ ?_|refine VB ?_ ?_)<;>intro hb<;>(try simp only [J1,J2,J3,J4,J5,J6] at hb)<;>(try (exfalso;first|omega|exact hb trivial))))
      refine Sh.cut [(172, _)] ?_
      exact ⟨rfl, hS⟩
    clear hS
    rintro q4 w _ ⟨rfl, hS⟩
    refine VB ?_ ?_ <;> intro hb <;> (try simp only [J1,J2,J3,J4,J5,J6] at hb)
    · clear hb
      by_cases hq0 : 0 < (x.he 0).length
      · have hbn := nxt_bd l j2 ((x.he 0).length : Int) (by omega)
        have hj3 := adv_ge l j2
        have hq1 : (nxt l j2 ((x.he 0).length : Int)).toNat < (x.he 0).length := by omega
        obtain ⟨gb, o, rfl, _, _⟩ := (hS.slrows (e := 53) (v := .slice B0 (x.he 0).length m0) (by repeat (first | exact At.here | apply At.next))).mat (by omega) hq1
        have hmem : (x.he 0)[(nxt l j2 ((x.he 0).length : Int)).toNat] ∈ x.he 0 := by simp
        obtain ⟨hI2, hM2, ha1, ha2, ha3⟩ := hI.hear (i := 0) (by omega) hmem
        generalize hxa : (x.he 0)[(nxt l j2 ((x.he 0).length : Int)).toNat] = a at *
        have hhr := ld_hear0 (hI.cell 0 (by omega)) (hI.cell 1 (by omega)) ha1 ha2 (by omega : a.applied ≤ 4096)
        repeat' (first|refine VP ?_|refine Sh.la hS ?_|refine Sh.lb ?_|refine Sh.lc ?_|refine Sh.su ?_|(refine Sh.sa hS ?_;clear hS;intro w hS)|((first|refine Sh.aa hS ?_|refine Sh.ab hS ?_|refine Sh.ac hS ?_);clear hS;intro g w hS hge)|refine Sh.ix ?_|refine Sh.up ?_|refine Sh.sl1 ?_|refine Sh.sl2 ?_|refine Sh.sl5 ?_|refine Sh.sl3 ?_|refine Sh.sl4 ?_|refine Sh.eq ?_|refine Sh.ne ?_|refine Sh.ix2 ?_|refine Sh.ix3 ?_|refine Z.bu rfl rfl ?_|refine VM ?_|refine Z.pl (R.cap rfl rfl) ?_|refine Z.pl R.mf ?_|refine Z.pl (R.min2 rfl rfl) ?_|refine G1 ?_|refine G2 ?_|refine G3 ?_|refine G4 ?_|with_reducible (first|refine V0 ?_|refine Z.block ?_)|((with_reducible refine Z.blX ?_ ?_);rotate_left;rfl)|refine VT ?_|refine VF ?_|((first|refine GS ?_ ?_|refine VB ?_ ?_)<;>intro hb<;>(try simp only [J1,J2,J3,J4,J5,J6] at hb)<;>(try (exfalso;first|omega|exact hb trivial))))
        refine D.startS (Lr := [.blk gx 79 [.pointer (some ⟨gh, 0, .none⟩), .pointer (some ⟨gw, 0, .none⟩), .pointer (some ⟨gl, 0, .none⟩), .pointer (some ⟨c0, 0, .none⟩), .pointer (some ⟨c1, 0, .none⟩), .pointer (some ⟨f0, 0, .none⟩), .pointer (some ⟨f1, 0, .none⟩), .slice A0 (sv 0).length k0, .slice A1 (sv 1).length k1, .slice (some ⟨gb, o, .none⟩) (x.he 0).length m0, .slice B1 (x.he 1).length m1, .int .i64 x.ep], .sl 53 3 (.slice (some ⟨gb, o, .none⟩) (x.he 0).length m0) ((x.he 0).map He.cells)]) (hS.sb) 35 35 (by kernel_rfl) rfl ?_
        replace hS := hS.drew
        refine Sh.dp 0 1 ?_
        refine Sh.dp 1 3 ?_
        refine Sh.dp 2 7 ?_
        refine Sh.dp 3 15 ?_
        first | refine D.ixn 4 31 rfl D.wantedN (by kernel_rfl) rfl rfl rfl (by omega) ?_ | refine D.ix 4 31 rfl D.wantedN (by kernel_rfl) rfl rfl rfl (by omega) ?_ | refine D.ia 4 31 rfl D.wantedN (by kernel_rfl) rfl rfl rfl (by omega) ?_
        refine Sh.dl 5 63 ?_
        refine Sh.dp 6 127 ?_
        refine Sh.dp 7 255 ?_
        refine Sh.dp 8 511 ?_
        refine D.slot 182 rfl (fun hb => ?_) (fun hb => by exfalso; (try simp only [decide_eq_true_eq, decide_eq_false_iff_not, Bool.not_eq_true', Bool.not_eq_false', Int.not_lt, Int.not_le] at hb) <;> first | omega | exact hb trivial | cases hb)
        (try simp only [decide_eq_true_eq, decide_eq_false_iff_not, Bool.not_eq_true', Bool.not_eq_false', Int.not_lt, Int.not_le] at hb)
        refine Sh.dp 9 1023 ?_
        refine Sh.dp 10 2047 ?_
        refine Sh.dp 11 4095 ?_
        refine Sh.dp 13 12287 ?_
        first | refine D.sum 14 28671 rfl (D.wantedT rfl rfl) (by kernel_rfl) rfl (by constructor <;> omega) ?_ | refine D.sumW 14 28671 rfl (D.wantedT rfl rfl) (by kernel_rfl) rfl ?_
        refine Sh.dp 15 61439 ?_
        refine Sh.dp 16 126975 ?_
        refine Sh.dp 17 258047 ?_
        refine Sh.dp 18 520191 ?_
        first | refine D.ixn 19 1044479 rfl (D.wantedT rfl rfl) (by kernel_rfl) rfl rfl rfl (by omega) ?_ | refine D.ix 19 1044479 rfl (D.wantedT rfl rfl) (by kernel_rfl) rfl rfl rfl (by omega) ?_ | refine D.ia 19 1044479 rfl (D.wantedT rfl rfl) (by kernel_rfl) rfl rfl rfl (by omega) ?_
        refine Sh.dp 21 3141631 ?_
        refine Sh.dp 22 7335935 ?_
        refine Sh.dp 23 15724543 ?_
        refine Sh.dp 24 32501759 ?_
        refine Sh.dp 25 66056191 ?_
        first | refine D.ixn 26 133165055 rfl (D.wantedT rfl rfl) (by kernel_rfl) rfl rfl rfl (by omega) ?_ | refine D.ix 26 133165055 rfl (D.wantedT rfl rfl) (by kernel_rfl) rfl rfl rfl (by omega) ?_ | refine D.ia 26 133165055 rfl (D.wantedT rfl rfl) (by kernel_rfl) rfl rfl rfl (by omega) ?_
        refine Sh.dl 12 133169151 ?_
        refine Sh.dl 20 134217727 ?_
        refine Sh.dl 27 268435455 ?_
        refine Sh.dp 28 536870911 ?_
        refine D.eff 29 1073741823 rfl (D.wantedT rfl rfl) (by kernel_rfl) (by kernel_rfl) (fun _ _ h => h) ?_
        refine WE.guard ?_
        replace hS := hS.fo (R := TpR r gt l _)
        refine Z.cl (next_z _ hS (by omega) (by omega)) rfl ?_
        clear hS
        rintro e w ⟨rfl, hS⟩
        refine ⟨_, rfl, ?_⟩
        refine ⟨HM.s (hS.sb), ?_⟩
        first | refine D.ixn 30 2147483647 rfl (D.wantedT rfl rfl) (by kernel_rfl) rfl rfl rfl (by omega) ?_ | refine D.ix 30 2147483647 rfl (D.wantedT rfl rfl) (by kernel_rfl) rfl rfl rfl (by omega) ?_ | refine D.ia 30 2147483647 rfl (D.wantedT rfl rfl) (by kernel_rfl) rfl rfl rfl (by omega) ?_
        refine D.ldR 31 4294967295 rfl (D.wantedT rfl rfl) (by kernel_rfl) rfl (fun W h => by have h1 := (h.slrows (e := 53) (v := .slice (some ⟨gb, o, .none⟩) (x.he 0).length m0) (by repeat (first | exact At.here | apply At.next))).elem (by omega) hq1; rw [hxa] at h1; exact h1) rfl ?_
        refine D.eff 32 8589934591 rfl (D.wantedT rfl rfl) (by kernel_rfl) (by kernel_rfl) (fun _ _ h => h) ?_
        refine WE.guard ?_
        replace hS := hS.fo (R := PL gl _)
        refine Z.cl (plhear_z gl x.ld 2 (by unfold I64; omega) a _ _ _ hS hI.ld) rfl ?_
        clear hS
        rintro e w ⟨rfl, hS⟩
        refine ⟨_, rfl, ?_⟩
        rw [hhr] at hS ⊢
        refine ⟨HM.s (hS.sb), ?_⟩
        refine Sh.dp 33 17179869183 ?_
        refine Sh.dp 34 34359738367 ?_
        refine D.done (by kernel_rfl) ?_
        repeat' (first|refine VP ?_|refine Sh.la hS ?_|refine Sh.lb ?_|refine Sh.lc ?_|refine Sh.su ?_|(refine Sh.sa hS ?_;clear hS;intro w hS)|((first|refine Sh.aa hS ?_|refine Sh.ab hS ?_|refine Sh.ac hS ?_);clear hS;intro g w hS hge)|refine Sh.ix ?_|refine Sh.up ?_|refine Sh.sl1 ?_|refine Sh.sl2 ?_|refine Sh.sl5 ?_|refine Sh.sl3 ?_|refine Sh.sl4 ?_|refine Sh.eq ?_|refine Sh.ne ?_|refine Sh.ix2 ?_|refine Sh.ix3 ?_|refine Z.bu rfl rfl ?_|refine VM ?_|refine Z.pl (R.cap rfl rfl) ?_|refine Z.pl R.mf ?_|refine Z.pl (R.min2 rfl rfl) ?_|refine G1 ?_|refine G2 ?_|refine G3 ?_|refine G4 ?_|with_reducible (first|refine V0 ?_|refine Z.block ?_)|((with_reducible refine Z.blX ?_ ?_);rotate_left;rfl)|refine VT ?_|refine VF ?_|((first|refine GS ?_ ?_|refine VB ?_ ?_)<;>intro hb<;>(try simp only [J1,J2,J3,J4,J5,J6] at hb)<;>(try (exfalso;first|omega|exact hb trivial))))
        first | refine Z.done hS Try.results36 (Z.RV.tmp rfl Z.RV.nil) ?_ | refine Z.doneN hS Try.results36 (Z.RV.tmp rfl Z.RV.nil) ?_
        refine ⟨x.hear 0 a, sv, G, adv l j2, rfl, ⟨hI2, hsv, hrd⟩, hM2, by omega, (Sep.NT_open.2 ⟨⟨gh, gw, gl, c0, c1, f0, f1, vh, vw, v0, v1, A0, A1, (some ⟨gb, o, .none⟩), B1, k0, k1, m0, m1⟩, ?_⟩).swap⟩
        simp only [NR, NB, List.cons_append, List.nil_append]
        exact hS.sb
      · repeat' (first|refine VP ?_|refine Sh.la hS ?_|refine Sh.lb ?_|refine Sh.lc ?_|refine Sh.su ?_|(refine Sh.sa hS ?_;clear hS;intro w hS)|((first|refine Sh.aa hS ?_|refine Sh.ab hS ?_|refine Sh.ac hS ?_);clear hS;intro g w hS hge)|refine Sh.ix ?_|refine Sh.up ?_|refine Sh.sl1 ?_|refine Sh.sl2 ?_|refine Sh.sl5 ?_|refine Sh.sl3 ?_|refine Sh.sl4 ?_|refine Sh.eq ?_|refine Sh.ne ?_|refine Sh.ix2 ?_|refine Sh.ix3 ?_|refine Z.bu rfl rfl ?_|refine VM ?_|refine Z.pl (R.cap rfl rfl) ?_|refine Z.pl R.mf ?_|refine Z.pl (R.min2 rfl rfl) ?_|refine G1 ?_|refine G2 ?_|refine G3 ?_|refine G4 ?_|with_reducible (first|refine V0 ?_|refine Z.block ?_)|((with_reducible refine Z.blX ?_ ?_);rotate_left;rfl)|refine VT ?_|refine VF ?_|((first|refine GS ?_ ?_|refine VB ?_ ?_)<;>intro hb<;>(try simp only [J1,J2,J3,J4,J5,J6] at hb)<;>(try (exfalso;first|omega|exact hb trivial))))
        refine D.startS (Lr := [.blk gx 79 [.pointer (some ⟨gh, 0, .none⟩), .pointer (some ⟨gw, 0, .none⟩), .pointer (some ⟨gl, 0, .none⟩), .pointer (some ⟨c0, 0, .none⟩), .pointer (some ⟨c1, 0, .none⟩), .pointer (some ⟨f0, 0, .none⟩), .pointer (some ⟨f1, 0, .none⟩), .slice A0 (sv 0).length k0, .slice A1 (sv 1).length k1, .slice B0 (x.he 0).length m0, .slice B1 (x.he 1).length m1, .int .i64 x.ep]]) (hS.sb) 35 35 (by kernel_rfl) rfl ?_
        replace hS := hS.drew
        refine Sh.dp 0 1 ?_
        refine Sh.dp 1 3 ?_
        refine Sh.dp 2 7 ?_
        refine Sh.dp 3 15 ?_
        first | refine D.ixn 4 31 rfl D.wantedN (by kernel_rfl) rfl rfl rfl (by omega) ?_ | refine D.ix 4 31 rfl D.wantedN (by kernel_rfl) rfl rfl rfl (by omega) ?_ | refine D.ia 4 31 rfl D.wantedN (by kernel_rfl) rfl rfl rfl (by omega) ?_
        refine Sh.dl 5 63 ?_
        refine Sh.dp 6 127 ?_
        refine Sh.dp 7 255 ?_
        refine Sh.dp 8 511 ?_
        refine D.slot 182 rfl (fun hb => by exfalso; (try simp only [decide_eq_true_eq, decide_eq_false_iff_not, Bool.not_eq_true', Bool.not_eq_false', Int.not_lt, Int.not_le] at hb) <;> first | omega | exact hb trivial | cases hb) (fun hb => ?_)
        (try simp only [decide_eq_true_eq, decide_eq_false_iff_not, Bool.not_eq_true', Bool.not_eq_false', Int.not_lt, Int.not_le] at hb)
        refine D.skF 9 1023 rfl (by kernel_rfl) rfl rfl ?_
        refine D.skF 10 2047 rfl (by kernel_rfl) rfl rfl ?_
        refine D.skF 11 4095 rfl (by kernel_rfl) rfl rfl ?_
        refine D.skF 12 8191 rfl (by kernel_rfl) rfl rfl ?_
        refine D.skF 13 16383 rfl (by kernel_rfl) rfl rfl ?_
        refine D.skF 14 32767 rfl (by kernel_rfl) rfl rfl ?_
        refine D.skF 15 65535 rfl (by kernel_rfl) rfl rfl ?_
        refine D.skF 16 131071 rfl (by kernel_rfl) rfl rfl ?_
        refine D.skF 17 262143 rfl (by kernel_rfl) rfl rfl ?_
        refine D.skF 18 524287 rfl (by kernel_rfl) rfl rfl ?_
        refine D.skF 19 1048575 rfl (by kernel_rfl) rfl rfl ?_
        refine D.skF 20 2097151 rfl (by kernel_rfl) rfl rfl ?_
        refine D.skF 21 4194303 rfl (by kernel_rfl) rfl rfl ?_
        refine D.skF 22 8388607 rfl (by kernel_rfl) rfl rfl ?_
        refine D.skF 23 16777215 rfl (by kernel_rfl) rfl rfl ?_
        refine D.skF 24 33554431 rfl (by kernel_rfl) rfl rfl ?_
        refine D.skF 25 67108863 rfl (by kernel_rfl) rfl rfl ?_
        refine D.skF 26 134217727 rfl (by kernel_rfl) rfl rfl ?_
        refine D.skF 27 268435455 rfl (by kernel_rfl) rfl rfl ?_
        refine D.skF 28 536870911 rfl (by kernel_rfl) rfl rfl ?_
        refine D.skF 29 1073741823 rfl (by kernel_rfl) rfl rfl ?_
        refine D.skF 30 2147483647 rfl (by kernel_rfl) rfl rfl ?_
        refine D.skF 31 4294967295 rfl (by kernel_rfl) rfl rfl ?_
        refine D.skF 32 8589934591 rfl (by kernel_rfl) rfl rfl ?_
        refine D.skF 33 17179869183 rfl (by kernel_rfl) rfl rfl ?_
        refine Sh.dp 34 34359738367 ?_
        refine D.done (by kernel_rfl) ?_
        repeat' (first|refine VP ?_|refine Sh.la hS ?_|refine Sh.lb ?_|refine Sh.lc ?_|refine Sh.su ?_|(refine Sh.sa hS ?_;clear hS;intro w hS)|((first|refine Sh.aa hS ?_|refine Sh.ab hS ?_|refine Sh.ac hS ?_);clear hS;intro g w hS hge)|refine Sh.ix ?_|refine Sh.up ?_|refine Sh.sl1 ?_|refine Sh.sl2 ?_|refine Sh.sl5 ?_|refine Sh.sl3 ?_|refine Sh.sl4 ?_|refine Sh.eq ?_|refine Sh.ne ?_|refine Sh.ix2 ?_|refine Sh.ix3 ?_|refine Z.bu rfl rfl ?_|refine VM ?_|refine Z.pl (R.cap rfl rfl) ?_|refine Z.pl R.mf ?_|refine Z.pl (R.min2 rfl rfl) ?_|refine G1 ?_|refine G2 ?_|refine G3 ?_|refine G4 ?_|with_reducible (first|refine V0 ?_|refine Z.block ?_)|((with_reducible refine Z.blX ?_ ?_);rotate_left;rfl)|refine VT ?_|refine VF ?_|((first|refine GS ?_ ?_|refine VB ?_ ?_)<;>intro hb<;>(try simp only [J1,J2,J3,J4,J5,J6] at hb)<;>(try (exfalso;first|omega|exact hb trivial))))
        first | refine Z.done hS Try.results36 (Z.RV.tmp rfl Z.RV.nil) ?_ | refine Z.doneN hS Try.results36 (Z.RV.tmp rfl Z.RV.nil) ?_
        refine ⟨x, sv, G, j2, rfl, ⟨hI.more (by omega), hsv, hrd⟩, Mono.refl x, by omega, (Sep.NT_open.2 ⟨⟨gh, gw, gl, c0, c1, f0, f1, vh, vw, v0, v1, A0, A1, B0, B1, k0, k1, m0, m1⟩, ?_⟩).swap⟩
        simp only [NR, NB, List.cons_append, List.nil_append]
        exact hS.sb
    · by_cases hq0 : 0 < (sv 0).length
      · have hbn := nxt_bd l j2 ((sv 0).length : Int) (by omega)
        have hj3 := adv_ge l j2
        generalize hkk : nxt l j2 ((sv 0).length : Int) = kk at *
        obtain ⟨q, rfl⟩ := Int.eq_ofNat_of_zero_le hbn.1
        have hcap : (sv 0).length ≤ k0 := by
          obtain ⟨_, _, he, h1⟩ := (hS.slrows (e := 28) (v := .slice A0 (sv 0).length k0) (by repeat (first | exact At.here | apply At.next))).mform
          injection he with _ _ e3
          rw [e3]
          exact h1
        have hN2 := (NOk.mk (G := G) hI hsv hrd).drop (i := 0) (by omega) q
        have hM2 := (hI.drop (i := 0) (by omega) q).2
        repeat' (first|refine VP ?_|refine Sh.la hS ?_|refine Sh.lb ?_|refine Sh.lc ?_|refine Sh.su ?_|(refine Sh.sa hS ?_;clear hS;intro w hS)|((first|refine Sh.aa hS ?_|refine Sh.ab hS ?_|refine Sh.ac hS ?_);clear hS;intro g w hS hge)|refine Sh.ix ?_|refine Sh.up ?_|refine Sh.sl1 ?_|refine Sh.sl2 ?_|refine Sh.sl5 ?_|refine Sh.sl3 ?_|refine Sh.sl4 ?_|refine Sh.eq ?_|refine Sh.ne ?_|refine Sh.ix2 ?_|refine Sh.ix3 ?_|refine Z.bu rfl rfl ?_|refine VM ?_|refine Z.pl (R.cap rfl rfl) ?_|refine Z.pl R.mf ?_|refine Z.pl (R.min2 rfl rfl) ?_|refine G1 ?_|refine G2 ?_|refine G3 ?_|refine G4 ?_|with_reducible (first|refine V0 ?_|refine Z.block ?_)|((with_reducible refine Z.blX ?_ ?_);rotate_left;rfl)|refine VT ?_|refine VF ?_|((first|refine GS ?_ ?_|refine VB ?_ ?_)<;>intro hb<;>(try simp only [J1,J2,J3,J4,J5,J6] at hb)<;>(try (exfalso;first|omega|exact hb trivial))))
        replace hS := hS.fo (R := TpR r gt l _)
        refine Z.eff (Z.cl (next_z _ hS (by omega) (by omega)) rfl ?_) rfl
        clear hS
        rintro e w ⟨rfl, hS⟩
        refine ⟨_, rfl, ?_⟩
        rw [hkk]
        repeat' (first|refine VP ?_|refine Sh.la hS ?_|refine Sh.lb ?_|refine Sh.lc ?_|refine Sh.su ?_|(refine Sh.sa hS ?_;clear hS;intro w hS)|((first|refine Sh.aa hS ?_|refine Sh.ab hS ?_|refine Sh.ac hS ?_);clear hS;intro g w hS hge)|refine Sh.ix ?_|refine Sh.up ?_|refine Sh.sl1 ?_|refine Sh.sl2 ?_|refine Sh.sl5 ?_|refine Sh.sl3 ?_|refine Sh.sl4 ?_|refine Sh.eq ?_|refine Sh.ne ?_|refine Sh.ix2 ?_|refine Sh.ix3 ?_|refine Z.bu rfl rfl ?_|refine VM ?_|refine Z.pl (R.cap rfl rfl) ?_|refine Z.pl R.mf ?_|refine Z.pl (R.min2 rfl rfl) ?_|refine G1 ?_|refine G2 ?_|refine G3 ?_|refine G4 ?_|with_reducible (first|refine V0 ?_|refine Z.block ?_)|((with_reducible refine Z.blX ?_ ?_);rotate_left;rfl)|refine VT ?_|refine VF ?_|((first|refine GS ?_ ?_|refine VB ?_ ?_)<;>intro hb<;>(try simp only [J1,J2,J3,J4,J5,J6] at hb)<;>(try (exfalso;first|omega|exact hb trivial))))
        refine D.startS (Lr := [.blk gx 79 [.pointer (some ⟨gh, 0, .none⟩), .pointer (some ⟨gw, 0, .none⟩), .pointer (some ⟨gl, 0, .none⟩), .pointer (some ⟨c0, 0, .none⟩), .pointer (some ⟨c1, 0, .none⟩), .pointer (some ⟨f0, 0, .none⟩), .pointer (some ⟨f1, 0, .none⟩), .slice A0 (sv 0).length k0, .slice A1 (sv 1).length k1, .slice B0 (x.he 0).length m0, .slice B1 (x.he 1).length m1, .int .i64 x.ep]]) (hS.sb) 25 26 (by kernel_rfl) rfl ?_
        replace hS := hS.drew
        refine Sh.dp 0 1 ?_
        refine Sh.dp 1 3 ?_
        refine Sh.dp 3 11 ?_
        refine Sh.dp 4 27 ?_
        refine Sh.dp 5 59 ?_
        refine Sh.dp 6 123 ?_
        first | refine D.ixn 7 251 rfl D.wantedN (by kernel_rfl) rfl rfl rfl (by omega) ?_ | refine D.ix 7 251 rfl D.wantedN (by kernel_rfl) rfl rfl rfl (by omega) ?_ | refine D.ia 7 251 rfl D.wantedN (by kernel_rfl) rfl rfl rfl (by omega) ?_
        refine Sh.dp 9 763 ?_
        refine Sh.dp 12 4859 ?_
        refine Sh.dp 13 13051 ?_
        refine Sh.dp 14 29435 ?_
        refine Sh.dp 15 62203 ?_
        first | refine D.ixn 16 127739 rfl D.wantedN (by kernel_rfl) rfl rfl rfl (by omega) ?_ | refine D.ix 16 127739 rfl D.wantedN (by kernel_rfl) rfl rfl rfl (by omega) ?_ | refine D.ia 16 127739 rfl D.wantedN (by kernel_rfl) rfl rfl rfl (by omega) ?_
        refine Sh.dp 18 389883 ?_
        first | refine D.sum 19 914171 rfl D.wantedN (by kernel_rfl) rfl (by constructor <;> omega) ?_ | refine D.sumW 19 914171 rfl D.wantedN (by kernel_rfl) rfl ?_
        refine Sh.dp 22 5108475 ?_
        refine Sh.dp 23 13497083 ?_
        refine Sh.dl 8 13497339 ?_
        refine D.pl 10 13498363 rfl D.wantedN (by kernel_rfl) (R.upto rfl rfl rfl (by omega)) ?_
        refine Sh.dl 17 13629435 ?_
        refine D.pl 20 14678011 rfl D.wantedN (by kernel_rfl) (R.since rfl rfl rfl (by omega)) ?_
        refine D.eff 2 14678015 rfl D.wantedN (by kernel_rfl) (by kernel_rfl) (fun _ _ h => h) ?_
        refine Z.bs hS rfl rfl rfl ?_
        clear hS; intro g w hS hge
        refine ⟨HM.s (hS.sb), ?_⟩
        refine D.eff 11 14680063 rfl D.wantedN (by kernel_rfl) (by kernel_rfl) (fun _ _ h => h) ?_
        refine Z.ap0m (fc := ShV.cells) (l := (sv 0).take q) hS rfl rfl rfl ((hS.slrows (e := 28) (v := .slice A0 (sv 0).length k0) (by repeat (first | exact At.here | apply At.next))).mtake (by omega)) (by (try simp only [maxLen, List.length_take, List.length_drop, List.length_append, List.length_cons, List.length_nil, List.length_map]); omega) (by (try simp only [maxLen, List.length_take, List.length_drop, List.length_append, List.length_cons, List.length_nil, List.length_map]); omega) ?_
        clear hS; intro A8 k8' w hS
        refine ⟨HM.s (hS.sb), ?_⟩
        refine D.eff 21 16777215 rfl D.wantedN (by kernel_rfl) (by kernel_rfl) (fun _ _ h => h) ?_
        refine Z.apm (fc := ShV.cells) (l' := (sv 0).drop (q + 1)) hS rfl rfl rfl (by repeat (first | exact At.here | apply At.next)) ((hS.slrows (e := 28) (v := .slice A0 (sv 0).length k0) (by repeat (first | exact At.here | apply At.next))).mdrop (by omega)) (by (try simp only [maxLen, List.length_take, List.length_drop, List.length_append, List.length_cons, List.length_nil, List.length_map]); omega) (by (try simp only [maxLen, List.length_take, List.length_drop, List.length_append, List.length_cons, List.length_nil, List.length_map]); omega) ?_
        clear hS; intro A9 k9 w hS
        rw [← List.length_append] at hS ⊢
        refine ⟨HM.s (hS.sb), ?_⟩
        first | refine D.ixn 24 33554431 rfl D.wantedN (by kernel_rfl) rfl rfl rfl (by omega) ?_ | refine D.ix 24 33554431 rfl D.wantedN (by kernel_rfl) rfl rfl rfl (by omega) ?_ | refine D.ia 24 33554431 rfl D.wantedN (by kernel_rfl) rfl rfl rfl (by omega) ?_
        refine D.eff 25 67108863 rfl D.wantedN (by kernel_rfl) (by kernel_rfl) (fun _ _ h => h) ?_
        refine Z.st hS rfl (by repeat (first | exact At.here | apply At.next)) rfl rfl ?_
        clear hS; intro w hS
        refine ⟨HM.last (by kernel_rfl), ?_⟩
        refine D.done (by kernel_rfl) ?_
        repeat' (first|refine VP ?_|refine Sh.la hS ?_|refine Sh.lb ?_|refine Sh.lc ?_|refine Sh.su ?_|(refine Sh.sa hS ?_;clear hS;intro w hS)|((first|refine Sh.aa hS ?_|refine Sh.ab hS ?_|refine Sh.ac hS ?_);clear hS;intro g w hS hge)|refine Sh.ix ?_|refine Sh.up ?_|refine Sh.sl1 ?_|refine Sh.sl2 ?_|refine Sh.sl5 ?_|refine Sh.sl3 ?_|refine Sh.sl4 ?_|refine Sh.eq ?_|refine Sh.ne ?_|refine Sh.ix2 ?_|refine Sh.ix3 ?_|refine Z.bu rfl rfl ?_|refine VM ?_|refine Z.pl (R.cap rfl rfl) ?_|refine Z.pl R.mf ?_|refine Z.pl (R.min2 rfl rfl) ?_|refine G1 ?_|refine G2 ?_|refine G3 ?_|refine G4 ?_|with_reducible (first|refine V0 ?_|refine Z.block ?_)|((with_reducible refine Z.blX ?_ ?_);rotate_left;rfl)|refine VT ?_|refine VF ?_|((first|refine GS ?_ ?_|refine VB ?_ ?_)<;>intro hb<;>(try simp only [J1,J2,J3,J4,J5,J6] at hb)<;>(try (exfalso;first|omega|exact hb trivial))))
        first | refine Z.done hS Try.results36 (Z.RV.tmp rfl Z.RV.nil) ?_ | refine Z.doneN hS Try.results36 (Z.RV.tmp rfl Z.RV.nil) ?_
        refine ⟨_, _, G, adv l j2, rfl, hN2, hM2, by omega, (Sep.NT_open.2 ⟨⟨gh, gw, gl, c0, c1, f0, f1, vh, vw, v0, v1, A9, A1, B0, B1, k9, k1, m0, m1⟩, ?_⟩).swap⟩
        simp only [NR, NB, List.cons_append, List.nil_append]
        exact hS.sb
      · repeat' (first|refine VP ?_|refine Sh.la hS ?_|refine Sh.lb ?_|refine Sh.lc ?_|refine Sh.su ?_|(refine Sh.sa hS ?_;clear hS;intro w hS)|((first|refine Sh.aa hS ?_|refine Sh.ab hS ?_|refine Sh.ac hS ?_);clear hS;intro g w hS hge)|refine Sh.ix ?_|refine Sh.up ?_|refine Sh.sl1 ?_|refine Sh.sl2 ?_|refine Sh.sl5 ?_|refine Sh.sl3 ?_|refine Sh.sl4 ?_|refine Sh.eq ?_|refine Sh.ne ?_|refine Sh.ix2 ?_|refine Sh.ix3 ?_|refine Z.bu rfl rfl ?_|refine VM ?_|refine Z.pl (R.cap rfl rfl) ?_|refine Z.pl R.mf ?_|refine Z.pl (R.min2 rfl rfl) ?_|refine G1 ?_|refine G2 ?_|refine G3 ?_|refine G4 ?_|with_reducible (first|refine V0 ?_|refine Z.block ?_)|((with_reducible refine Z.blX ?_ ?_);rotate_left;rfl)|refine VT ?_|refine VF ?_|((first|refine GS ?_ ?_|refine VB ?_ ?_)<;>intro hb<;>(try simp only [J1,J2,J3,J4,J5,J6] at hb)<;>(try (exfalso;first|omega|exact hb trivial))))
        first | refine Z.done hS Try.results36 (Z.RV.tmp rfl Z.RV.nil) ?_ | refine Z.doneN hS Try.results36 (Z.RV.tmp rfl Z.RV.nil) ?_
        refine ⟨x, sv, G, j2, rfl, ⟨hI.more (by omega), hsv, hrd⟩, Mono.refl x, by omega, (Sep.NT_open.2 ⟨⟨gh, gw, gl, c0, c1, f0, f1, vh, vw, v0, v1, A0, A1, B0, B1, k0, k1, m0, m1⟩, ?_⟩).swap⟩
        simp only [NR, NB, List.cons_append, List.nil_append]
        exact hS.sb

  ·
    have hcI := hI.cell 1 (by omega)
    have hgI := (hI.each 1 (by omega)).elim fun j hj => (hj.len hI.isH).2.2
    have hvI := hsv 1 (by omega)
    have hlI : (sv 1).length ≤ 400 := by have h1 := hI.shB 1 (by omega); rw [hvI, List.length_map] at h1; omega
    have hmI : (x.he 1).length ≤ 400 := by have h1 := hI.heB 1 (by omega); omega
    refine Z.seq ?_
    refine Z.cut [59, 58, 60] (fun w s => s = [(58, .bool (decide (k8 = 0 ∨ k8 = 1)))] ∧ Sep r [] (TpR r gt l j2 :: .blk gx 79 [.pointer (some ⟨gh, 0, .none⟩), .pointer (some ⟨gw, 0, .none⟩), .pointer (some ⟨gl, 0, .none⟩), .pointer (some ⟨c0, 0, .none⟩), .pointer (some ⟨c1, 0, .none⟩), .pointer (some ⟨f0, 0, .none⟩), .pointer (some ⟨f1, 0, .none⟩), .slice A0 (sv 0).length k0, .slice A1 (sv 1).length k1, .slice B0 (x.he 0).length m0, .slice B1 (x.he 1).length m1, .int .i64 x.ep] :: PC gh 1 0 vh x.home :: CR gw 1 0 vw x.home :: PL gl x.ld :: PC c0 2 0 v0 (x.fo 0).c :: PC c1 3 0 v1 (x.fo 1).c :: .blk f0 102 [.pointer (some ⟨c0, 0, .none⟩), .int .i64 (x.fo 0).seen, .int .i64 (x.fo 0).agreed] :: .blk f1 102 [.pointer (some ⟨c1, 0, .none⟩), .int .i64 (x.fo 1).seen, .int .i64 (x.fo 1).agreed] :: .sl 28 4 (.slice A0 (sv 0).length k0) ((sv 0).map ShV.cells) :: .sl 28 4 (.slice A1 (sv 1).length k1) ((sv 1).map ShV.cells) :: .sl 53 3 (.slice B0 (x.he 0).length m0) ((x.he 0).map He.cells) :: .sl 53 3 (.slice B1 (x.he 1).length m1) ((x.he 1).map He.cells) :: G :: F) w) ?_ ?_
    · repeat' (first|refine VP ?_|refine Sh.la hS ?_|refine Sh.lb ?_|refine Sh.lc ?_|refine Sh.su ?_|(refine Sh.sa hS ?_;clear hS;intro w hS)|((first|refine Sh.aa hS ?_|refine Sh.ab hS ?_|refine Sh.ac hS ?_);clear hS;intro g w hS hge)|refine Sh.ix ?_|refine Sh.up ?_|refine Sh.sl1 ?_|refine Sh.sl2 ?_|refine Sh.sl5 ?_|refine Sh.sl3 ?_|refine Sh.sl4 ?_|refine Sh.eq ?_|refine Sh.ne ?_|refine Sh.ix2 ?_|refine Sh.ix3 ?_|refine Z.bu rfl rfl ?_|refine VM ?_|refine Z.pl (R.cap rfl rfl) ?_|refine Z.pl R.mf ?_|refine Z.pl (R.min2 rfl rfl) ?_|refine G1 ?_|refine G2 ?_|refine G3 ?_|refine G4 ?_|with_reducible (first|refine V0 ?_|refine Z.block ?_)|((with_reducible refine Z.blX ?_ ?_);rotate_left;rfl)|refine VT ?_|refine VF ?_|((first|refine GS ?_ ?_|refine VB ?_ ?_)<;>intro hb<;>(try simp only [J1,J2,J3,J4,J5,J6] at hb)<;>(try (exfalso;first|omega|exact hb trivial))))
      · refine Sh.cut [(58, _)] ?_
        exact ⟨by rw [decide_eq_true (by omega : k8 = 0), decide_eq_true (by omega : k8 = 0 ∨ k8 = 1)], hS⟩
      · refine Sh.cut [(58, _)] ?_
        refine ⟨?_, hS⟩
        have e : decide (k8 = 1) = decide (k8 = 0 ∨ k8 = 1) := decide_eq_decide.2 (by omega)
        rw [e]
    clear hS
    rintro q1 w _ ⟨rfl, hS⟩
    refine VB ?_ ?_ <;> intro hb <;> (try simp only [J1,J2,J3,J4,J5,J6] at hb)
    · refine Z.seq ?_
      refine Z.cut [6, 61, 62, 63, 64, 65, 66, 67, 68, 69, 70] (fun w s => ∃ g6, s = [(6, .pointer (some ⟨g6, 0, .none⟩))] ∧ Sep r [] (.blk g6 51 (mkChange l j2 x.home x.ep).1.cells :: TpR r gt l (mkChange l j2 x.home x.ep).2 :: .blk gx 79 [.pointer (some ⟨gh, 0, .none⟩), .pointer (some ⟨gw, 0, .none⟩), .pointer (some ⟨gl, 0, .none⟩), .pointer (some ⟨c0, 0, .none⟩), .pointer (some ⟨c1, 0, .none⟩), .pointer (some ⟨f0, 0, .none⟩), .pointer (some ⟨f1, 0, .none⟩), .slice A0 (sv 0).length k0, .slice A1 (sv 1).length k1, .slice B0 (x.he 0).length m0, .slice B1 (x.he 1).length m1, .int .i64 x.ep] :: PC gh 1 0 vh x.home :: CR gw 1 0 vw x.home :: PL gl x.ld :: PC c0 2 0 v0 (x.fo 0).c :: PC c1 3 0 v1 (x.fo 1).c :: .blk f0 102 [.pointer (some ⟨c0, 0, .none⟩), .int .i64 (x.fo 0).seen, .int .i64 (x.fo 0).agreed] :: .blk f1 102 [.pointer (some ⟨c1, 0, .none⟩), .int .i64 (x.fo 1).seen, .int .i64 (x.fo 1).agreed] :: .sl 28 4 (.slice A0 (sv 0).length k0) ((sv 0).map ShV.cells) :: .sl 28 4 (.slice A1 (sv 1).length k1) ((sv 1).map ShV.cells) :: .sl 53 3 (.slice B0 (x.he 0).length m0) ((x.he 0).map He.cells) :: .sl 53 3 (.slice B1 (x.he 1).length m1) ((x.he 1).map He.cells) :: G :: F) w) ?_ ?_
      · refine D.startS (Lr := [.blk gx 79 [.pointer (some ⟨gh, 0, .none⟩), .pointer (some ⟨gw, 0, .none⟩), .pointer (some ⟨gl, 0, .none⟩), .pointer (some ⟨c0, 0, .none⟩), .pointer (some ⟨c1, 0, .none⟩), .pointer (some ⟨f0, 0, .none⟩), .pointer (some ⟨f1, 0, .none⟩), .slice A0 (sv 0).length k0, .slice A1 (sv 1).length k1, .slice B0 (x.he 0).length m0, .slice B1 (x.he 1).length m1, .int .i64 x.ep]]) (hS.sb) 11 12 (by kernel_rfl) rfl ?_
        replace hS := hS.drew
        refine Sh.dp 0 1 ?_
        refine Sh.dp 1 3 ?_
        refine Sh.dp 2 7 ?_
        refine Sh.dp 3 15 ?_
        refine Sh.dp 5 47 ?_
        refine Sh.dp 6 111 ?_
        refine Sh.dp 7 239 ?_
        refine Sh.dl 4 255 ?_
        refine Sh.dl 8 511 ?_
        refine D.each [9, 10] (by kernel_rfl) rfl ?_
        refine D.econs 9 1023 rfl D.wantedN (by kernel_rfl) (fun _ _ h => h) ?_ ?_
        · replace hS := hS.fo (R := CR gw _ _ _ _)
          replace hS := hS.fo (R := TpR r gt l _)
          refine Z.cl (change_z gt gw 1 0 vw l j2 x.home x.ep _ _ _ hS hok0.1 (by omega) (by omega) (by omega)) rfl ?_
          clear hS
          rintro e w ⟨rfl, hS⟩
          refine ⟨_, rfl, ?_⟩
          refine ⟨HM.s (hS.sb), ?_⟩
          refine D.eff 10 2047 rfl D.wantedN (by kernel_rfl) (by kernel_rfl) (fun _ _ h => h) ?_
          refine Z.al hS ?_
          clear hS; intro g w hS hge
          refine ⟨HM.s (hS.sb), ?_⟩
          refine D.eff 11 4095 rfl D.wantedN (by kernel_rfl) (by kernel_rfl) (fun _ _ h => h) ?_
          refine Z.st hS rfl (by repeat (first | exact At.here | apply At.next)) rfl rfl ?_
          clear hS; intro w hS
          refine ⟨HM.last (by kernel_rfl), ?_⟩
          refine D.done (by kernel_rfl) ?_
          refine Sh.cut [(6, _)] ?_
          exact ⟨_, rfl, hS.sb⟩
        refine D.econs 10 1535 rfl D.wantedN (by kernel_rfl) (fun _ _ h => h) ?_ ?_
        · refine Z.al hS ?_
          clear hS; intro g w hS hge
          refine ⟨HM.s (hS.sb), ?_⟩
          refine D.eff 9 2047 rfl D.wantedN (by kernel_rfl) (by kernel_rfl) (fun _ _ h => h) ?_
          replace hS := hS.fo (R := CR gw _ _ _ _)
          replace hS := hS.fo (R := TpR r gt l _)
          refine Z.cl (change_z gt gw 1 0 vw l j2 x.home x.ep _ _ _ hS hok0.1 (by omega) (by omega) (by omega)) rfl ?_
          clear hS
          rintro e w ⟨rfl, hS⟩
          refine ⟨_, rfl, ?_⟩
          refine ⟨HM.s (hS.sb), ?_⟩
          refine D.eff 11 4095 rfl D.wantedN (by kernel_rfl) (by kernel_rfl) (fun _ _ h => h) ?_
          refine Z.st hS rfl (by repeat (first | exact At.here | apply At.next)) rfl rfl ?_
          clear hS; intro w hS
          refine ⟨HM.last (by kernel_rfl), ?_⟩
          refine D.done (by kernel_rfl) ?_
          refine Sh.cut [(6, _)] ?_
          exact ⟨_, rfl, hS.sb⟩
        exact D.enil
      clear hS
      rintro q2 w _ ⟨g6, rfl, hS⟩
      have hye := mkChange_epoch l j2 x.home x.ep
      have hyg := mkChange_ge l j2 x.home x.ep
      generalize (mkChange l j2 x.home x.ep).1 = y at *
      generalize (mkChange l j2 x.home x.ep).2 = j3 at *
      obtain ⟨hI2, hM2⟩ := hI.change hye
      repeat' (first|refine VP ?_|refine Sh.la hS ?_|refine Sh.lb ?_|refine Sh.lc ?_|refine Sh.su ?_|(refine Sh.sa hS ?_;clear hS;intro w hS)|((first|refine Sh.aa hS ?_|refine Sh.ab hS ?_|refine Sh.ac hS ?_);clear hS;intro g w hS hge)|refine Sh.ix ?_|refine Sh.up ?_|refine Sh.sl1 ?_|refine Sh.sl2 ?_|refine Sh.sl5 ?_|refine Sh.sl3 ?_|refine Sh.sl4 ?_|refine Sh.eq ?_|refine Sh.ne ?_|refine Sh.ix2 ?_|refine Sh.ix3 ?_|refine Z.bu rfl rfl ?_|refine VM ?_|refine Z.pl (R.cap rfl rfl) ?_|refine Z.pl R.mf ?_|refine Z.pl (R.min2 rfl rfl) ?_|refine G1 ?_|refine G2 ?_|refine G3 ?_|refine G4 ?_|with_reducible (first|refine V0 ?_|refine Z.block ?_)|((with_reducible refine Z.blX ?_ ?_);rotate_left;rfl)|refine VT ?_|refine VF ?_|((first|refine GS ?_ ?_|refine VB ?_ ?_)<;>intro hb<;>(try simp only [J1,J2,J3,J4,J5,J6] at hb)<;>(try (exfalso;first|omega|exact hb trivial))))
      refine D.startS (Lr := [.blk gx 79 [.pointer (some ⟨gh, 0, .none⟩), .pointer (some ⟨gw, 0, .none⟩), .pointer (some ⟨gl, 0, .none⟩), .pointer (some ⟨c0, 0, .none⟩), .pointer (some ⟨c1, 0, .none⟩), .pointer (some ⟨f0, 0, .none⟩), .pointer (some ⟨f1, 0, .none⟩), .slice A0 (sv 0).length k0, .slice A1 (sv 1).length k1, .slice B0 (x.he 0).length m0, .slice B1 (x.he 1).length m1, .int .i64 x.ep], .blk g6 51 y.cells]) (hS.sb) 13 13 (by kernel_rfl) rfl ?_
      replace hS := hS.drew
      refine Sh.dp 0 1 ?_
      refine Sh.dp 1 3 ?_
      refine Sh.dp 2 7 ?_
      refine Sh.dp 6 71 ?_
      refine Sh.dp 7 199 ?_
      refine Sh.dp 8 455 ?_
      refine Sh.dl 3 463 ?_
      refine Sh.dl 4 479 ?_
      refine Sh.dl 9 991 ?_
      refine Sh.dl 10 2015 ?_
      refine D.eff 5 2047 rfl D.wantedN (by kernel_rfl) (by kernel_rfl) (fun _ _ h => h) ?_
      replace hS := hS.fo (R := PC gh _ _ _ _)
      refine Z.cl (pcapply_z gh 1 0 vh x.home y _ _ _ hS hI.good.cok (by omega)) rfl ?_
      clear hS
      rintro e w ⟨rfl, hS⟩
      refine ⟨_, rfl, ?_⟩
      refine ⟨HM.s (hS.sb), ?_⟩
      refine D.eff 11 4095 rfl D.wantedN (by kernel_rfl) (by kernel_rfl) (fun _ _ h => h) ?_
      replace hS := hS.fo (R := CR gw _ _ _ _)
      refine Z.cl (capply_z gw 1 0 vw x.home y _ _ _ hS hok0.1 (by omega) (by omega) (by omega) (by rw [hok0.2.2.2]; simp)) rfl ?_
      clear hS
      rintro e w ⟨rfl, hS⟩
      refine ⟨_, rfl, ?_⟩
      refine ⟨HM.s (hS.sb), ?_⟩
      first | refine D.pr 12 8191 rfl D.wantedN (by kernel_rfl) rfl ?_ | refine D.pl 12 8191 rfl D.wantedN (by kernel_rfl) (R.nea rfl rfl rfl rfl) ?_
      refine D.done (by kernel_rfl) ?_
      repeat' (first|refine VP ?_|refine Sh.la hS ?_|refine Sh.lb ?_|refine Sh.lc ?_|refine Sh.su ?_|(refine Sh.sa hS ?_;clear hS;intro w hS)|((first|refine Sh.aa hS ?_|refine Sh.ab hS ?_|refine Sh.ac hS ?_);clear hS;intro g w hS hge)|refine Sh.ix ?_|refine Sh.up ?_|refine Sh.sl1 ?_|refine Sh.sl2 ?_|refine Sh.sl5 ?_|refine Sh.sl3 ?_|refine Sh.sl4 ?_|refine Sh.eq ?_|refine Sh.ne ?_|refine Sh.ix2 ?_|refine Sh.ix3 ?_|refine Z.bu rfl rfl ?_|refine VM ?_|refine Z.pl (R.cap rfl rfl) ?_|refine Z.pl R.mf ?_|refine Z.pl (R.min2 rfl rfl) ?_|refine G1 ?_|refine G2 ?_|refine G3 ?_|refine G4 ?_|with_reducible (first|refine V0 ?_|refine Z.block ?_)|((with_reducible refine Z.blX ?_ ?_);rotate_left;rfl)|refine VT ?_|refine VF ?_|((first|refine GS ?_ ?_|refine VB ?_ ?_)<;>intro hb<;>(try simp only [J1,J2,J3,J4,J5,J6] at hb)<;>(try (exfalso;first|omega|exact hb trivial))))
      first | refine Z.done hS Try.results36 (Z.RV.tmp rfl Z.RV.nil) ?_ | refine Z.doneN hS Try.results36 (Z.RV.tmp rfl Z.RV.nil) ?_
      refine ⟨x.change y, sv, G, j3, rfl, ⟨hI2, hsv, hrd⟩, hM2, by omega, (Sep.NT_open.2 ⟨⟨gh, gw, gl, c0, c1, f0, f1, vh, vw, v0, v1, A0, A1, B0, B1, k0, k1, m0, m1⟩, ?_⟩).swap⟩
      simp only [NR, NB, List.cons_append, List.nil_append]
      exact hS.sb
    refine Z.seq ?_
    refine Z.cut [85, 84, 86] (fun w s => s = [(84, .bool (decide (k8 = 2 ∨ k8 = 3)))] ∧ Sep r [] (TpR r gt l j2 :: .blk gx 79 [.pointer (some ⟨gh, 0, .none⟩), .pointer (some ⟨gw, 0, .none⟩), .pointer (some ⟨gl, 0, .none⟩), .pointer (some ⟨c0, 0, .none⟩), .pointer (some ⟨c1, 0, .none⟩), .pointer (some ⟨f0, 0, .none⟩), .pointer (some ⟨f1, 0, .none⟩), .slice A0 (sv 0).length k0, .slice A1 (sv 1).length k1, .slice B0 (x.he 0).length m0, .slice B1 (x.he 1).length m1, .int .i64 x.ep] :: PC gh 1 0 vh x.home :: CR gw 1 0 vw x.home :: PL gl x.ld :: PC c0 2 0 v0 (x.fo 0).c :: PC c1 3 0 v1 (x.fo 1).c :: .blk f0 102 [.pointer (some ⟨c0, 0, .none⟩), .int .i64 (x.fo 0).seen, .int .i64 (x.fo 0).agreed] :: .blk f1 102 [.pointer (some ⟨c1, 0, .none⟩), .int .i64 (x.fo 1).seen, .int .i64 (x.fo 1).agreed] :: .sl 28 4 (.slice A0 (sv 0).length k0) ((sv 0).map ShV.cells) :: .sl 28 4 (.slice A1 (sv 1).length k1) ((sv 1).map ShV.cells) :: .sl 53 3 (.slice B0 (x.he 0).length m0) ((x.he 0).map He.cells) :: .sl 53 3 (.slice B1 (x.he 1).length m1) ((x.he 1).map He.cells) :: G :: F) w) ?_ ?_
    · repeat' (first|refine VP ?_|refine Sh.la hS ?_|refine Sh.lb ?_|refine Sh.lc ?_|refine Sh.su ?_|(refine Sh.sa hS ?_;clear hS;intro w hS)|((first|refine Sh.aa hS ?_|refine Sh.ab hS ?_|refine Sh.ac hS ?_);clear hS;intro g w hS hge)|refine Sh.ix ?_|refine Sh.up ?_|refine Sh.sl1 ?_|refine Sh.sl2 ?_|refine Sh.sl5 ?_|refine Sh.sl3 ?_|refine Sh.sl4 ?_|refine Sh.eq ?_|refine Sh.ne ?_|refine Sh.ix2 ?_|refine Sh.ix3 ?_|refine Z.bu rfl rfl ?_|refine VM ?_|refine Z.pl (R.cap rfl rfl) ?_|refine Z.pl R.mf ?_|refine Z.pl (R.min2 rfl rfl) ?_|refine G1 ?_|refine G2 ?_|refine G3 ?_|refine G4 ?_|with_reducible (first|refine V0 ?_|refine Z.block ?_)|((with_reducible refine Z.blX ?_ ?_);rotate_left;rfl)|refine VT ?_|refine VF ?_|((first|refine GS ?_ ?_|refine VB ?_ ?_)<;>intro hb<;>(try simp only [J1,J2,J3,J4,J5,J6] at hb)<;>(try (exfalso;first|omega|exact hb trivial))))
      · refine Sh.cut [(84, _)] ?_
        exact ⟨by rw [decide_eq_true (by omega : k8 = 2), decide_eq_true (by omega : k8 = 2 ∨ k8 = 3)], hS⟩
      · refine Sh.cut [(84, _)] ?_
        refine ⟨?_, hS⟩
        have e : decide (k8 = 3) = decide (k8 = 2 ∨ k8 = 3) := decide_eq_decide.2 (by omega)
        rw [e]
    clear hS
    rintro q2 w _ ⟨rfl, hS⟩
    refine VB ?_ ?_ <;> intro hb <;> (try simp only [J1,J2,J3,J4,J5,J6] at hb)
    · have hsl : shipL x.ld 3 x.home.h = (shipS x.ep (x.sd 1) x.home.h, true) := by unfold shipL; rw [(ld_at (hI.cell 0 (by omega)) (hI.cell 1 (by omega))).2.1]; rfl
      have hN2 := fun A c => (NOk.mk (G := G) hI hsv hrd).ship (i := 1) (by omega) (A := A) (c := c) (e := 51)
      have hM2 := (hI.ship (i := 1) (by omega)).2
      refine Z.seq ?_
      refine Z.cut [7, 8, 87, 88, 89, 90, 91, 92, 93, 94, 95, 96, 97, 98, 99, 100, 101] (fun w s => ∃ g7 A6 c6, s = [(7, .pointer (some ⟨g7, 0, .none⟩)), (8, .bool true)] ∧ Sep r [] (.blk g7 28 (ShV.cells ⟨shipS x.ep (x.sd 1) x.home.h, A6, c6⟩) :: .sl 51 8 (.slice A6 (shipS x.ep (x.sd 1) x.home.h).ch.length c6) ((shipS x.ep (x.sd 1) x.home.h).ch.map Ch.cells) :: G :: TpR r gt l j2 :: .blk gx 79 [.pointer (some ⟨gh, 0, .none⟩), .pointer (some ⟨gw, 0, .none⟩), .pointer (some ⟨gl, 0, .none⟩), .pointer (some ⟨c0, 0, .none⟩), .pointer (some ⟨c1, 0, .none⟩), .pointer (some ⟨f0, 0, .none⟩), .pointer (some ⟨f1, 0, .none⟩), .slice A0 (sv 0).length k0, .slice A1 (sv 1).length k1, .slice B0 (x.he 0).length m0, .slice B1 (x.he 1).length m1, .int .i64 x.ep] :: PC gh 1 0 vh x.home :: CR gw 1 0 vw x.home :: PL gl x.ld :: PC c0 2 0 v0 (x.fo 0).c :: PC c1 3 0 v1 (x.fo 1).c :: .blk f0 102 [.pointer (some ⟨c0, 0, .none⟩), .int .i64 (x.fo 0).seen, .int .i64 (x.fo 0).agreed] :: .blk f1 102 [.pointer (some ⟨c1, 0, .none⟩), .int .i64 (x.fo 1).seen, .int .i64 (x.fo 1).agreed] :: .sl 28 4 (.slice A0 (sv 0).length k0) ((sv 0).map ShV.cells) :: .sl 28 4 (.slice A1 (sv 1).length k1) ((sv 1).map ShV.cells) :: .sl 53 3 (.slice B0 (x.he 0).length m0) ((x.he 0).map He.cells) :: .sl 53 3 (.slice B1 (x.he 1).length m1) ((x.he 1).map He.cells) :: F) w) ?_ ?_
      · refine D.startS (Lr := [.blk gx 79 [.pointer (some ⟨gh, 0, .none⟩), .pointer (some ⟨gw, 0, .none⟩), .pointer (some ⟨gl, 0, .none⟩), .pointer (some ⟨c0, 0, .none⟩), .pointer (some ⟨c1, 0, .none⟩), .pointer (some ⟨f0, 0, .none⟩), .pointer (some ⟨f1, 0, .none⟩), .slice A0 (sv 0).length k0, .slice A1 (sv 1).length k1, .slice B0 (x.he 0).length m0, .slice B1 (x.he 1).length m1, .int .i64 x.ep]]) (hS.sb) 16 18 (by kernel_rfl) rfl ?_
        replace hS := hS.drew
        refine Sh.dp 0 1 ?_
        refine Sh.dp 1 3 ?_
        refine Sh.dp 2 7 ?_
        refine Sh.dp 4 23 ?_
        first | refine D.sum 5 55 rfl D.wantedN (by kernel_rfl) rfl (by constructor <;> omega) ?_ | refine D.sumW 5 55 rfl D.wantedN (by kernel_rfl) rfl ?_
        refine Sh.dp 6 119 ?_
        refine Sh.dp 7 247 ?_
        refine Sh.dp 8 503 ?_
        refine Sh.dl 3 511 ?_
        refine Sh.dl 9 1023 ?_
        refine D.each [10, 15] (by kernel_rfl) rfl ?_
        refine D.econs 10 2047 rfl D.wantedN (by kernel_rfl) (fun _ _ h => h) ?_ ?_
        · replace hS := hS.fo (R := PC gh _ _ _ _)
          refine Z.cl (phist0_z gh 1 0 vh x.home _ _ _ hS (by omega)) rfl ?_
          clear hS
          rintro e w ⟨A5, c5, rfl, hS⟩
          refine ⟨_, rfl, ?_⟩
          refine ⟨HM.s (hS.sb), ?_⟩
          refine D.each [11, 15] (by kernel_rfl) rfl ?_
          refine D.econs 11 4095 rfl D.wantedN (by kernel_rfl) (fun _ _ h => h) ?_ ?_
          · replace hS := hS.fo (R := PL gl _)
            refine Z.cl (plship_z gl x.ld 3 (by unfold I64; omega) x.home.h _ _ _ _ hS hI.ld (Reads.of_at (e := 51) (v := .slice A5 x.home.h.length c5) (by repeat (first | exact At.here | apply At.next))) (by omega)) rfl ?_
            clear hS
            rintro e w ⟨A6, c6, rfl, hS⟩
            refine ⟨_, rfl, ?_⟩
            rw [hsl] at hS ⊢
            dsimp only at hS ⊢
            refine ⟨HM.s (hS.sb), ?_⟩
            refine Sh.dp 12 8191 ?_
            refine Sh.dp 13 16383 ?_
            refine Sh.dp 14 32767 ?_
            refine D.eff 15 65535 rfl D.wantedN (by kernel_rfl) (by kernel_rfl) (fun _ _ h => h) ?_
            refine Z.al hS ?_
            clear hS; intro g w hS hge
            refine ⟨HM.s (hS.sb), ?_⟩
            refine D.eff 16 131071 rfl D.wantedN (by kernel_rfl) (by kernel_rfl) (fun _ _ h => h) ?_
            refine Z.st hS rfl (by repeat (first | exact At.here | apply At.next)) rfl rfl ?_
            clear hS; intro w hS
            refine ⟨HM.last (by kernel_rfl), ?_⟩
            refine Sh.dp 17 262143 ?_
            refine D.done (by kernel_rfl) ?_
            refine Sh.cut [(7, _), (8, _)] ?_
            exact ⟨_, A6, c6, rfl, hS.sb⟩
          refine D.econs 15 34815 rfl D.wantedN (by kernel_rfl) (fun _ _ h => h) ?_ ?_
          · refine Z.al hS ?_
            clear hS; intro g w hS hge
            refine ⟨HM.s (hS.sb), ?_⟩
            refine D.eff 11 36863 rfl D.wantedN (by kernel_rfl) (by kernel_rfl) (fun _ _ h => h) ?_
            replace hS := hS.fo (R := PL gl _)
            refine Z.cl (plship_z gl x.ld 3 (by unfold I64; omega) x.home.h _ _ _ _ hS hI.ld (Reads.of_at (e := 51) (v := .slice A5 x.home.h.length c5) (by repeat (first | exact At.here | apply At.next))) (by omega)) rfl ?_
            clear hS
            rintro e w ⟨A6, c6, rfl, hS⟩
            refine ⟨_, rfl, ?_⟩
            rw [hsl] at hS ⊢
            dsimp only at hS ⊢
            refine ⟨HM.s (hS.sb), ?_⟩
            refine Sh.dp 12 40959 ?_
            refine Sh.dp 13 49151 ?_
            refine Sh.dp 14 65535 ?_
            refine D.eff 16 131071 rfl D.wantedN (by kernel_rfl) (by kernel_rfl) (fun _ _ h => h) ?_
            refine Z.st hS rfl (by repeat (first | exact At.here | apply At.next)) rfl rfl ?_
            clear hS; intro w hS
            refine ⟨HM.last (by kernel_rfl), ?_⟩
            refine Sh.dp 17 262143 ?_
            refine D.done (by kernel_rfl) ?_
            refine Sh.cut [(7, _), (8, _)] ?_
            exact ⟨_, A6, c6, rfl, hS.sb⟩
          exact D.enil
        refine D.econs 15 33791 rfl D.wantedN (by kernel_rfl) (fun _ _ h => h) ?_ ?_
        · refine Z.al hS ?_
          clear hS; intro g w hS hge
          refine ⟨HM.s (hS.sb), ?_⟩
          refine D.eff 10 34815 rfl D.wantedN (by kernel_rfl) (by kernel_rfl) (fun _ _ h => h) ?_
          replace hS := hS.fo (R := PC gh _ _ _ _)
          refine Z.cl (phist0_z gh 1 0 vh x.home _ _ _ hS (by omega)) rfl ?_
          clear hS
          rintro e w ⟨A5, c5, rfl, hS⟩
          refine ⟨_, rfl, ?_⟩
          refine ⟨HM.s (hS.sb), ?_⟩
          refine D.eff 11 36863 rfl D.wantedN (by kernel_rfl) (by kernel_rfl) (fun _ _ h => h) ?_
          replace hS := hS.fo (R := PL gl _)
          refine Z.cl (plship_z gl x.ld 3 (by unfold I64; omega) x.home.h _ _ _ _ hS hI.ld (Reads.of_at (e := 51) (v := .slice A5 x.home.h.length c5) (by repeat (first | exact At.here | apply At.next))) (by omega)) rfl ?_
          clear hS
          rintro e w ⟨A6, c6, rfl, hS⟩
          refine ⟨_, rfl, ?_⟩
          rw [hsl] at hS ⊢
          dsimp only at hS ⊢
          refine ⟨HM.s (hS.sb), ?_⟩
          refine Sh.dp 12 40959 ?_
          refine Sh.dp 13 49151 ?_
          refine Sh.dp 14 65535 ?_
          refine D.eff 16 131071 rfl D.wantedN (by kernel_rfl) (by kernel_rfl) (fun _ _ h => h) ?_
          refine Z.st hS rfl (by repeat (first | exact At.here | apply At.next)) rfl rfl ?_
          clear hS; intro w hS
          refine ⟨HM.last (by kernel_rfl), ?_⟩
          refine Sh.dp 17 262143 ?_
          refine D.done (by kernel_rfl) ?_
          refine Sh.cut [(7, _), (8, _)] ?_
          exact ⟨_, A6, c6, rfl, hS.sb⟩
        exact D.enil
      clear hS
      rintro q3 w _ ⟨g7, A6, c6, rfl, hS⟩
      replace hN2 := hN2 A6 c6
      generalize shipS x.ep (x.sd 1) x.home.h = mm at *
      repeat' (first|refine VP ?_|refine Sh.la hS ?_|refine Sh.lb ?_|refine Sh.lc ?_|refine Sh.su ?_|(refine Sh.sa hS ?_;clear hS;intro w hS)|((first|refine Sh.aa hS ?_|refine Sh.ab hS ?_|refine Sh.ac hS ?_);clear hS;intro g w hS hge)|refine Sh.ix ?_|refine Sh.up ?_|refine Sh.sl1 ?_|refine Sh.sl2 ?_|refine Sh.sl5 ?_|refine Sh.sl3 ?_|refine Sh.sl4 ?_|refine Sh.eq ?_|refine Sh.ne ?_|refine Sh.ix2 ?_|refine Sh.ix3 ?_|refine Z.bu rfl rfl ?_|refine VM ?_|refine Z.pl (R.cap rfl rfl) ?_|refine Z.pl R.mf ?_|refine Z.pl (R.min2 rfl rfl) ?_|refine G1 ?_|refine G2 ?_|refine G3 ?_|refine G4 ?_|with_reducible (first|refine V0 ?_|refine Z.block ?_)|((with_reducible refine Z.blX ?_ ?_);rotate_left;rfl)|refine VT ?_|refine VF ?_|((first|refine GS ?_ ?_|refine VB ?_ ?_)<;>intro hb<;>(try simp only [J1,J2,J3,J4,J5,J6] at hb)<;>(try (exfalso;first|omega|exact hb trivial))))
      refine D.startS (Lr := [.blk gx 79 [.pointer (some ⟨gh, 0, .none⟩), .pointer (some ⟨gw, 0, .none⟩), .pointer (some ⟨gl, 0, .none⟩), .pointer (some ⟨c0, 0, .none⟩), .pointer (some ⟨c1, 0, .none⟩), .pointer (some ⟨f0, 0, .none⟩), .pointer (some ⟨f1, 0, .none⟩), .slice A0 (sv 0).length k0, .slice A1 (sv 1).length k1, .slice B0 (x.he 0).length m0, .slice B1 (x.he 1).length m1, .int .i64 x.ep], .blk g7 28 _]) (hS.sb) 14 15 (by kernel_rfl) rfl ?_
      replace hS := hS.drew
      refine Sh.dp 0 1 ?_
      refine Sh.dp 1 3 ?_
      refine Sh.dp 2 7 ?_
      refine Sh.dp 3 15 ?_
      refine Sh.dp 4 31 ?_
      refine Sh.dp 5 63 ?_
      first | refine D.ixn 6 127 rfl D.wantedN (by kernel_rfl) rfl rfl rfl (by omega) ?_ | refine D.ix 6 127 rfl D.wantedN (by kernel_rfl) rfl rfl rfl (by omega) ?_ | refine D.ia 6 127 rfl D.wantedN (by kernel_rfl) rfl rfl rfl (by omega) ?_
      refine Sh.dp 11 2175 ?_
      refine Sh.dp 12 6271 ?_
      refine Sh.dl 7 6399 ?_
      refine Sh.dl 8 6655 ?_
      refine D.eff 9 7167 rfl D.wantedN (by kernel_rfl) (by kernel_rfl) (fun _ _ h => h) ?_
      refine Z.bs hS rfl rfl rfl ?_
      clear hS; intro g w hS hge
      refine ⟨HM.s (hS.sb), ?_⟩
      refine D.eff 10 8191 rfl D.wantedN (by kernel_rfl) (by kernel_rfl) (fun _ _ h => h) ?_
      refine Z.apm (fc := ShV.cells) (l' := [⟨mm, A6, c6⟩]) hS rfl rfl rfl (by repeat (first | exact At.here | apply At.next)) (hS.lit1 (by repeat (first | exact At.here | apply At.next)) rfl rfl) (by (try simp only [maxLen, List.length_take, List.length_drop, List.length_append, List.length_cons, List.length_nil, List.length_map]); omega) (by (try simp only [maxLen, List.length_take, List.length_drop, List.length_append, List.length_cons, List.length_nil, List.length_map]); omega) ?_
      clear hS; intro A9 k9 w hS
      rw [← List.length_append] at hS ⊢
      refine ⟨HM.s (hS.sb), ?_⟩
      first | refine D.ixn 13 16383 rfl D.wantedN (by kernel_rfl) rfl rfl rfl (by omega) ?_ | refine D.ix 13 16383 rfl D.wantedN (by kernel_rfl) rfl rfl rfl (by omega) ?_ | refine D.ia 13 16383 rfl D.wantedN (by kernel_rfl) rfl rfl rfl (by omega) ?_
      refine D.eff 14 32767 rfl D.wantedN (by kernel_rfl) (by kernel_rfl) (fun _ _ h => h) ?_
      refine Z.st hS rfl (by repeat (first | exact At.here | apply At.next)) rfl rfl ?_
      clear hS; intro w hS
      refine ⟨HM.last (by kernel_rfl), ?_⟩
      refine D.done (by kernel_rfl) ?_
      repeat' (first|refine VP ?_|refine Sh.la hS ?_|refine Sh.lb ?_|refine Sh.lc ?_|refine Sh.su ?_|(refine Sh.sa hS ?_;clear hS;intro w hS)|((first|refine Sh.aa hS ?_|refine Sh.ab hS ?_|refine Sh.ac hS ?_);clear hS;intro g w hS hge)|refine Sh.ix ?_|refine Sh.up ?_|refine Sh.sl1 ?_|refine Sh.sl2 ?_|refine Sh.sl5 ?_|refine Sh.sl3 ?_|refine Sh.sl4 ?_|refine Sh.eq ?_|refine Sh.ne ?_|refine Sh.ix2 ?_|refine Sh.ix3 ?_|refine Z.bu rfl rfl ?_|refine VM ?_|refine Z.pl (R.cap rfl rfl) ?_|refine Z.pl R.mf ?_|refine Z.pl (R.min2 rfl rfl) ?_|refine G1 ?_|refine G2 ?_|refine G3 ?_|refine G4 ?_|with_reducible (first|refine V0 ?_|refine Z.block ?_)|((with_reducible refine Z.blX ?_ ?_);rotate_left;rfl)|refine VT ?_|refine VF ?_|((first|refine GS ?_ ?_|refine VB ?_ ?_)<;>intro hb<;>(try simp only [J1,J2,J3,J4,J5,J6] at hb)<;>(try (exfalso;first|omega|exact hb trivial))))
      first | refine Z.done hS Try.results36 (Z.RV.tmp rfl Z.RV.nil) ?_ | refine Z.doneN hS Try.results36 (Z.RV.tmp rfl Z.RV.nil) ?_
      replace hS := hS.fo (R := G)
      replace hS := hS.fo (R := .sl 51 8 (.slice A6 _ c6) _)
      replace hS := Sep.star_open.2 hS
      refine ⟨_, _, _, j2, rfl, hN2, hM2, by omega, (Sep.NT_open.2 ⟨⟨gh, gw, gl, c0, c1, f0, f1, vh, vw, v0, v1, A0, A9, B0, B1, k0, k9, m0, m1⟩, ?_⟩).swap⟩
      simp only [NR, NB, List.cons_append, List.nil_append]
      exact hS.sb
    refine Z.seq ?_
    refine Z.cut [119, 118, 120] (fun w s => s = [(118, .bool (decide (k8 = 4 ∨ k8 = 5)))] ∧ Sep r [] (TpR r gt l j2 :: .blk gx 79 [.pointer (some ⟨gh, 0, .none⟩), .pointer (some ⟨gw, 0, .none⟩), .pointer (some ⟨gl, 0, .none⟩), .pointer (some ⟨c0, 0, .none⟩), .pointer (some ⟨c1, 0, .none⟩), .pointer (some ⟨f0, 0, .none⟩), .pointer (some ⟨f1, 0, .none⟩), .slice A0 (sv 0).length k0, .slice A1 (sv 1).length k1, .slice B0 (x.he 0).length m0, .slice B1 (x.he 1).length m1, .int .i64 x.ep] :: PC gh 1 0 vh x.home :: CR gw 1 0 vw x.home :: PL gl x.ld :: PC c0 2 0 v0 (x.fo 0).c :: PC c1 3 0 v1 (x.fo 1).c :: .blk f0 102 [.pointer (some ⟨c0, 0, .none⟩), .int .i64 (x.fo 0).seen, .int .i64 (x.fo 0).agreed] :: .blk f1 102 [.pointer (some ⟨c1, 0, .none⟩), .int .i64 (x.fo 1).seen, .int .i64 (x.fo 1).agreed] :: .sl 28 4 (.slice A0 (sv 0).length k0) ((sv 0).map ShV.cells) :: .sl 28 4 (.slice A1 (sv 1).length k1) ((sv 1).map ShV.cells) :: .sl 53 3 (.slice B0 (x.he 0).length m0) ((x.he 0).map He.cells) :: .sl 53 3 (.slice B1 (x.he 1).length m1) ((x.he 1).map He.cells) :: G :: F) w) ?_ ?_
    · repeat' (first|refine VP ?_|refine Sh.la hS ?_|refine Sh.lb ?_|refine Sh.lc ?_|refine Sh.su ?_|(refine Sh.sa hS ?_;clear hS;intro w hS)|((first|refine Sh.aa hS ?_|refine Sh.ab hS ?_|refine Sh.ac hS ?_);clear hS;intro g w hS hge)|refine Sh.ix ?_|refine Sh.up ?_|refine Sh.sl1 ?_|refine Sh.sl2 ?_|refine Sh.sl5 ?_|refine Sh.sl3 ?_|refine Sh.sl4 ?_|refine Sh.eq ?_|refine Sh.ne ?_|refine Sh.ix2 ?_|refine Sh.ix3 ?_|refine Z.bu rfl rfl ?_|refine VM ?_|refine Z.pl (R.cap rfl rfl) ?_|refine Z.pl R.mf ?_|refine Z.pl (R.min2 rfl rfl) ?_|refine G1 ?_|refine G2 ?_|refine G3 ?_|refine G4 ?_|with_reducible (first|refine V0 ?_|refine Z.block ?_)|((with_reducible refine Z.blX ?_ ?_);rotate_left;rfl)|refine VT ?_|refine VF ?_|((first|refine GS ?_ ?_|refine VB ?_ ?_)<;>intro hb<;>(try simp only [J1,J2,J3,J4,J5,J6] at hb)<;>(try (exfalso;first|omega|exact hb trivial))))
      · refine Sh.cut [(118, _)] ?_
        exact ⟨by rw [decide_eq_true (by omega : k8 = 4), decide_eq_true (by omega : k8 = 4 ∨ k8 = 5)], hS⟩
      · refine Sh.cut [(118, _)] ?_
        refine ⟨?_, hS⟩
        have e : decide (k8 = 5) = decide (k8 = 4 ∨ k8 = 5) := decide_eq_decide.2 (by omega)
        rw [e]
    clear hS
    rintro q3 w _ ⟨rfl, hS⟩
    refine VB ?_ ?_ <;> intro hb <;> (try simp only [J1,J2,J3,J4,J5,J6] at hb)
    · clear hb
      by_cases hq0 : 0 < (sv 1).length
      · have hbn := nxt_bd l j2 ((sv 1).length : Int) (by omega)
        have hj3 := adv_ge l j2
        have hq1 : (nxt l j2 ((sv 1).length : Int)).toNat < (sv 1).length := by omega
        obtain ⟨gb, o, rfl, _, _⟩ := (hS.slrows (e := 28) (v := .slice A1 (sv 1).length k1) (by repeat (first | exact At.here | apply At.next))).mat (by omega) hq1
        have hrx := hrd 1 (by omega) ((sv 1)[(nxt l j2 ((sv 1).length : Int)).toNat]) (by simp)
        have hmem : ((sv 1)[(nxt l j2 ((sv 1).length : Int)).toNat]).m ∈ x.sh 1 := by rw [hvI]; exact List.mem_map.2 ⟨_, by simp, rfl⟩
        obtain ⟨hI2, hM2, he0⟩ := hI.take (i := 1) (by omega) hmem
        generalize hxm : (sv 1)[(nxt l j2 ((sv 1).length : Int)).toNat] = xm at *
        repeat' (first|refine VP ?_|refine Sh.la hS ?_|refine Sh.lb ?_|refine Sh.lc ?_|refine Sh.su ?_|(refine Sh.sa hS ?_;clear hS;intro w hS)|((first|refine Sh.aa hS ?_|refine Sh.ab hS ?_|refine Sh.ac hS ?_);clear hS;intro g w hS hge)|refine Sh.ix ?_|refine Sh.up ?_|refine Sh.sl1 ?_|refine Sh.sl2 ?_|refine Sh.sl5 ?_|refine Sh.sl3 ?_|refine Sh.sl4 ?_|refine Sh.eq ?_|refine Sh.ne ?_|refine Sh.ix2 ?_|refine Sh.ix3 ?_|refine Z.bu rfl rfl ?_|refine VM ?_|refine Z.pl (R.cap rfl rfl) ?_|refine Z.pl R.mf ?_|refine Z.pl (R.min2 rfl rfl) ?_|refine G1 ?_|refine G2 ?_|refine G3 ?_|refine G4 ?_|with_reducible (first|refine V0 ?_|refine Z.block ?_)|((with_reducible refine Z.blX ?_ ?_);rotate_left;rfl)|refine VT ?_|refine VF ?_|((first|refine GS ?_ ?_|refine VB ?_ ?_)<;>intro hb<;>(try simp only [J1,J2,J3,J4,J5,J6] at hb)<;>(try (exfalso;first|omega|exact hb trivial))))
        refine Z.cut [9, 10, 129, 130, 131, 132, 133, 134, 135, 136, 137, 138, 139, 140, 141, 142, 143, 144, 145, 146, 147, 148, 149, 150, 151, 152, 153, 154, 155] (fun w s => ∃ g9, s = [(9, .pointer (some ⟨g9, 0, .none⟩)), (10, .int .i64 0)] ∧ Sep r [] (.blk g9 53 (takeF (x.fo 1) xm.m).2.1.cells :: TpR r gt l (adv l j2) :: G :: .blk gx 79 [.pointer (some ⟨gh, 0, .none⟩), .pointer (some ⟨gw, 0, .none⟩), .pointer (some ⟨gl, 0, .none⟩), .pointer (some ⟨c0, 0, .none⟩), .pointer (some ⟨c1, 0, .none⟩), .pointer (some ⟨f0, 0, .none⟩), .pointer (some ⟨f1, 0, .none⟩), .slice A0 (sv 0).length k0, .slice (some ⟨gb, o, .none⟩) (sv 1).length k1, .slice B0 (x.he 0).length m0, .slice B1 (x.he 1).length m1, .int .i64 x.ep] :: PC gh 1 0 vh x.home :: CR gw 1 0 vw x.home :: PL gl x.ld :: PC c0 2 0 v0 (x.fo 0).c :: PC c1 3 0 v1 ((takeF (x.fo 1) xm.m).1).c :: .blk f0 102 [.pointer (some ⟨c0, 0, .none⟩), .int .i64 (x.fo 0).seen, .int .i64 (x.fo 0).agreed] :: .blk f1 102 [.pointer (some ⟨c1, 0, .none⟩), .int .i64 ((takeF (x.fo 1) xm.m).1).seen, .int .i64 ((takeF (x.fo 1) xm.m).1).agreed] :: .sl 28 4 (.slice A0 (sv 0).length k0) ((sv 0).map ShV.cells) :: .sl 28 4 (.slice (some ⟨gb, o, .none⟩) (sv 1).length k1) ((sv 1).map ShV.cells) :: .sl 53 3 (.slice B0 (x.he 0).length m0) ((x.he 0).map He.cells) :: .sl 53 3 (.slice B1 (x.he 1).length m1) ((x.he 1).map He.cells) :: F) w) ?_ ?_
        · refine D.startS (Lr := [.blk gx 79 [.pointer (some ⟨gh, 0, .none⟩), .pointer (some ⟨gw, 0, .none⟩), .pointer (some ⟨gl, 0, .none⟩), .pointer (some ⟨c0, 0, .none⟩), .pointer (some ⟨c1, 0, .none⟩), .pointer (some ⟨f0, 0, .none⟩), .pointer (some ⟨f1, 0, .none⟩), .slice A0 (sv 0).length k0, .slice (some ⟨gb, o, .none⟩) (sv 1).length k1, .slice B0 (x.he 0).length m0, .slice B1 (x.he 1).length m1, .int .i64 x.ep], .sl 28 4 (.slice (some ⟨gb, o, .none⟩) (sv 1).length k1) ((sv 1).map ShV.cells)]) (hS.sb) 28 30 (by kernel_rfl) rfl ?_
          replace hS := hS.drew
          refine Sh.dp 0 1 ?_
          refine Sh.dp 1 3 ?_
          refine Sh.dp 2 7 ?_
          refine Sh.dp 3 15 ?_
          first | refine D.ixn 4 31 rfl D.wantedN (by kernel_rfl) rfl rfl rfl (by omega) ?_ | refine D.ix 4 31 rfl D.wantedN (by kernel_rfl) rfl rfl rfl (by omega) ?_ | refine D.ia 4 31 rfl D.wantedN (by kernel_rfl) rfl rfl rfl (by omega) ?_
          refine Sh.dp 6 95 ?_
          refine Sh.dp 7 223 ?_
          refine Sh.dp 8 479 ?_
          refine Sh.dp 9 991 ?_
          first | refine D.ixn 10 2015 rfl D.wantedN (by kernel_rfl) rfl rfl rfl (by omega) ?_ | refine D.ix 10 2015 rfl D.wantedN (by kernel_rfl) rfl rfl rfl (by omega) ?_ | refine D.ia 10 2015 rfl D.wantedN (by kernel_rfl) rfl rfl rfl (by omega) ?_
          refine Sh.dp 12 6111 ?_
          refine Sh.dp 13 14303 ?_
          refine Sh.dp 14 30687 ?_
          refine Sh.dp 15 63455 ?_
          refine Sh.dp 16 128991 ?_
          first | refine D.ixn 17 260063 rfl D.wantedN (by kernel_rfl) rfl rfl rfl (by omega) ?_ | refine D.ix 17 260063 rfl D.wantedN (by kernel_rfl) rfl rfl rfl (by omega) ?_ | refine D.ia 17 260063 rfl D.wantedN (by kernel_rfl) rfl rfl rfl (by omega) ?_
          refine Sh.dl 5 260095 ?_
          refine Sh.dl 11 262143 ?_
          refine Sh.dl 18 524287 ?_
          refine Sh.dp 19 1048575 ?_
          refine D.each [20, 27] (by kernel_rfl) rfl ?_
          refine D.econs 20 2097151 rfl D.wantedN (by kernel_rfl) (fun _ _ h => h) ?_ ?_
          · replace hS := hS.fo (R := TpR r gt l _)
            refine Z.cl (next_z _ hS (by omega) (by omega)) rfl ?_
            clear hS
            rintro e w ⟨rfl, hS⟩
            refine ⟨_, rfl, ?_⟩
            refine ⟨HM.s (hS.sb), ?_⟩
            first | refine D.ixn 21 4194303 rfl D.wantedN (by kernel_rfl) rfl rfl rfl (by omega) ?_ | refine D.ix 21 4194303 rfl D.wantedN (by kernel_rfl) rfl rfl rfl (by omega) ?_ | refine D.ia 21 4194303 rfl D.wantedN (by kernel_rfl) rfl rfl rfl (by omega) ?_
            refine D.ldR 22 8388607 rfl D.wantedN (by kernel_rfl) rfl (fun W h => by have h1 := (h.slrows (e := 28) (v := .slice (some ⟨gb, o, .none⟩) (sv 1).length k1) (by repeat (first | exact At.here | apply At.next))).elem (by omega) hq1; rw [hxm] at h1; exact h1) rfl ?_
            refine D.each [23, 27] (by kernel_rfl) rfl ?_
            refine D.econs 23 16777215 rfl D.wantedN (by kernel_rfl) (fun _ _ h => h) ?_ ?_
            · replace hS := hS.fo (R := PC c1 _ _ _ _)
              replace hS := hS.fo (R := .blk f1 _ _)
              refine Z.cl (ptake_z f1 c1 3 0 _ (x.fo 1) xm.m xm.v _ _ _ hS (hrx.sub (by repeat (first | exact Sub.rest | exact Sub.nil | exact .skip .rest | exact .skip (.skip .rest) | exact .skip (.skip (.skip .rest)) | apply Sub.keep | refine Sub.cons (by repeat (first | exact At.here | apply At.next)) ?_ | apply Sub.skip))) hgI) rfl ?_
              clear hS
              rintro e w ⟨rfl, hS⟩
              refine ⟨_, rfl, ?_⟩
              rw [he0]
              refine ⟨HM.s (hS.sb), ?_⟩
              refine Sh.dp 24 33554431 ?_
              refine Sh.dp 25 67108863 ?_
              refine Sh.dp 26 134217727 ?_
              refine D.eff 27 268435455 rfl D.wantedN (by kernel_rfl) (by kernel_rfl) (fun _ _ h => h) ?_
              refine Z.al hS ?_
              clear hS; intro g w hS hge
              refine ⟨HM.s (hS.sb), ?_⟩
              refine D.eff 28 536870911 rfl D.wantedN (by kernel_rfl) (by kernel_rfl) (fun _ _ h => h) ?_
              refine Z.st hS rfl (by repeat (first | exact At.here | apply At.next)) rfl rfl ?_
              clear hS; intro w hS
              refine ⟨HM.last (by kernel_rfl), ?_⟩
              refine Sh.dp 29 1073741823 ?_
              refine D.done (by kernel_rfl) ?_
              refine Sh.cut [(9, _), (10, _)] ?_
              exact ⟨_, rfl, hS.sb⟩
            refine D.econs 27 142606335 rfl D.wantedN (by kernel_rfl) (fun _ _ h => h) ?_ ?_
            · refine Z.al hS ?_
              clear hS; intro g w hS hge
              refine ⟨HM.s (hS.sb), ?_⟩
              refine D.eff 23 150994943 rfl D.wantedN (by kernel_rfl) (by kernel_rfl) (fun _ _ h => h) ?_
              replace hS := hS.fo (R := PC c1 _ _ _ _)
              replace hS := hS.fo (R := .blk f1 _ _)
              refine Z.cl (ptake_z f1 c1 3 0 _ (x.fo 1) xm.m xm.v _ _ _ hS (hrx.sub (by repeat (first | exact Sub.rest | exact Sub.nil | exact .skip .rest | exact .skip (.skip .rest) | exact .skip (.skip (.skip .rest)) | apply Sub.keep | refine Sub.cons (by repeat (first | exact At.here | apply At.next)) ?_ | apply Sub.skip))) hgI) rfl ?_
              clear hS
              rintro e w ⟨rfl, hS⟩
              refine ⟨_, rfl, ?_⟩
              rw [he0]
              refine ⟨HM.s (hS.sb), ?_⟩
              refine Sh.dp 24 167772159 ?_
              refine Sh.dp 25 201326591 ?_
              refine Sh.dp 26 268435455 ?_
              refine D.eff 28 536870911 rfl D.wantedN (by kernel_rfl) (by kernel_rfl) (fun _ _ h => h) ?_
              refine Z.st hS rfl (by repeat (first | exact At.here | apply At.next)) rfl rfl ?_
              clear hS; intro w hS
              refine ⟨HM.last (by kernel_rfl), ?_⟩
              refine Sh.dp 29 1073741823 ?_
              refine D.done (by kernel_rfl) ?_
              refine Sh.cut [(9, _), (10, _)] ?_
              exact ⟨_, rfl, hS.sb⟩
            exact D.enil
          refine D.econs 27 135266303 rfl D.wantedN (by kernel_rfl) (fun _ _ h => h) ?_ ?_
          · refine Z.al hS ?_
            clear hS; intro g w hS hge
            refine ⟨HM.s (hS.sb), ?_⟩
            refine D.eff 20 136314879 rfl D.wantedN (by kernel_rfl) (by kernel_rfl) (fun _ _ h => h) ?_
            replace hS := hS.fo (R := TpR r gt l _)
            refine Z.cl (next_z _ hS (by omega) (by omega)) rfl ?_
            clear hS
            rintro e w ⟨rfl, hS⟩
            refine ⟨_, rfl, ?_⟩
            refine ⟨HM.s (hS.sb), ?_⟩
            first | refine D.ixn 21 138412031 rfl D.wantedN (by kernel_rfl) rfl rfl rfl (by omega) ?_ | refine D.ix 21 138412031 rfl D.wantedN (by kernel_rfl) rfl rfl rfl (by omega) ?_ | refine D.ia 21 138412031 rfl D.wantedN (by kernel_rfl) rfl rfl rfl (by omega) ?_
            refine D.ldR 22 142606335 rfl D.wantedN (by kernel_rfl) rfl (fun W h => by have h1 := (h.slrows (e := 28) (v := .slice (some ⟨gb, o, .none⟩) (sv 1).length k1) (by repeat (first | exact At.here | apply At.next))).elem (by omega) hq1; rw [hxm] at h1; exact h1) rfl ?_
            refine D.eff 23 150994943 rfl D.wantedN (by kernel_rfl) (by kernel_rfl) (fun _ _ h => h) ?_
            replace hS := hS.fo (R := PC c1 _ _ _ _)
            replace hS := hS.fo (R := .blk f1 _ _)
            refine Z.cl (ptake_z f1 c1 3 0 _ (x.fo 1) xm.m xm.v _ _ _ hS (hrx.sub (by repeat (first | exact Sub.rest | exact Sub.nil | exact .skip .rest | exact .skip (.skip .rest) | exact .skip (.skip (.skip .rest)) | apply Sub.keep | refine Sub.cons (by repeat (first | exact At.here | apply At.next)) ?_ | apply Sub.skip))) hgI) rfl ?_
            clear hS
            rintro e w ⟨rfl, hS⟩
            refine ⟨_, rfl, ?_⟩
            rw [he0]
            refine ⟨HM.s (hS.sb), ?_⟩
            refine Sh.dp 24 167772159 ?_
            refine Sh.dp 25 201326591 ?_
            refine Sh.dp 26 268435455 ?_
            refine D.eff 28 536870911 rfl D.wantedN (by kernel_rfl) (by kernel_rfl) (fun _ _ h => h) ?_
            refine Z.st hS rfl (by repeat (first | exact At.here | apply At.next)) rfl rfl ?_
            clear hS; intro w hS
            refine ⟨HM.last (by kernel_rfl), ?_⟩
            refine Sh.dp 29 1073741823 ?_
            refine D.done (by kernel_rfl) ?_
            refine Sh.cut [(9, _), (10, _)] ?_
            exact ⟨_, rfl, hS.sb⟩
          exact D.enil
        clear hS
        rintro q4 w _ ⟨g9, rfl, hS⟩
        repeat' (first|refine VP ?_|refine Sh.la hS ?_|refine Sh.lb ?_|refine Sh.lc ?_|refine Sh.su ?_|(refine Sh.sa hS ?_;clear hS;intro w hS)|((first|refine Sh.aa hS ?_|refine Sh.ab hS ?_|refine Sh.ac hS ?_);clear hS;intro g w hS hge)|refine Sh.ix ?_|refine Sh.up ?_|refine Sh.sl1 ?_|refine Sh.sl2 ?_|refine Sh.sl5 ?_|refine Sh.sl3 ?_|refine Sh.sl4 ?_|refine Sh.eq ?_|refine Sh.ne ?_|refine Sh.ix2 ?_|refine Sh.ix3 ?_|refine Z.bu rfl rfl ?_|refine VM ?_|refine Z.pl (R.cap rfl rfl) ?_|refine Z.pl R.mf ?_|refine Z.pl (R.min2 rfl rfl) ?_|refine G1 ?_|refine G2 ?_|refine G3 ?_|refine G4 ?_|with_reducible (first|refine V0 ?_|refine Z.block ?_)|((with_reducible refine Z.blX ?_ ?_);rotate_left;rfl)|refine VT ?_|refine VF ?_|((first|refine GS ?_ ?_|refine VB ?_ ?_)<;>intro hb<;>(try simp only [J1,J2,J3,J4,J5,J6] at hb)<;>(try (exfalso;first|omega|exact hb trivial))))
        refine D.startS (Lr := [.blk gx 79 [.pointer (some ⟨gh, 0, .none⟩), .pointer (some ⟨gw, 0, .none⟩), .pointer (some ⟨gl, 0, .none⟩), .pointer (some ⟨c0, 0, .none⟩), .pointer (some ⟨c1, 0, .none⟩), .pointer (some ⟨f0, 0, .none⟩), .pointer (some ⟨f1, 0, .none⟩), .slice A0 (sv 0).length k0, .slice (some ⟨gb, o, .none⟩) (sv 1).length k1, .slice B0 (x.he 0).length m0, .slice B1 (x.he 1).length m1, .int .i64 x.ep], .blk g9 53 _]) (hS.sb) 14 15 (by kernel_rfl) rfl ?_
        replace hS := hS.drew
        refine Sh.dp 0 1 ?_
        refine Sh.dp 1 3 ?_
        refine Sh.dp 2 7 ?_
        refine Sh.dp 3 15 ?_
        refine Sh.dp 4 31 ?_
        refine Sh.dp 5 63 ?_
        first | refine D.ixn 6 127 rfl D.wantedN (by kernel_rfl) rfl rfl rfl (by omega) ?_ | refine D.ix 6 127 rfl D.wantedN (by kernel_rfl) rfl rfl rfl (by omega) ?_ | refine D.ia 6 127 rfl D.wantedN (by kernel_rfl) rfl rfl rfl (by omega) ?_
        refine Sh.dp 11 2175 ?_
        refine Sh.dp 12 6271 ?_
        refine Sh.dl 7 6399 ?_
        refine Sh.dl 8 6655 ?_
        refine D.eff 9 7167 rfl D.wantedN (by kernel_rfl) (by kernel_rfl) (fun _ _ h => h) ?_
        refine Z.bs hS rfl rfl rfl ?_
        clear hS; intro g w hS hge
        refine ⟨HM.s (hS.sb), ?_⟩
        refine D.eff 10 8191 rfl D.wantedN (by kernel_rfl) (by kernel_rfl) (fun _ _ h => h) ?_
        refine Z.apm (fc := He.cells) (l' := [(takeF (x.fo 1) xm.m).2.1]) hS rfl rfl rfl (by repeat (first | exact At.here | apply At.next)) (hS.lit1 (by repeat (first | exact At.here | apply At.next)) rfl rfl) (by (try simp only [maxLen, List.length_take, List.length_drop, List.length_append, List.length_cons, List.length_nil, List.length_map]); omega) (by (try simp only [maxLen, List.length_take, List.length_drop, List.length_append, List.length_cons, List.length_nil, List.length_map]); omega) ?_
        clear hS; intro B9 m9 w hS
        rw [← List.length_append] at hS ⊢
        refine ⟨HM.s (hS.sb), ?_⟩
        first | refine D.ixn 13 16383 rfl D.wantedN (by kernel_rfl) rfl rfl rfl (by omega) ?_ | refine D.ix 13 16383 rfl D.wantedN (by kernel_rfl) rfl rfl rfl (by omega) ?_ | refine D.ia 13 16383 rfl D.wantedN (by kernel_rfl) rfl rfl rfl (by omega) ?_
        refine D.eff 14 32767 rfl D.wantedN (by kernel_rfl) (by kernel_rfl) (fun _ _ h => h) ?_
        refine Z.st hS rfl (by repeat (first | exact At.here | apply At.next)) rfl rfl ?_
        clear hS; intro w hS
        refine ⟨HM.last (by kernel_rfl), ?_⟩
        refine D.done (by kernel_rfl) ?_
        repeat' (first|refine VP ?_|refine Sh.la hS ?_|refine Sh.lb ?_|refine Sh.lc ?_|refine Sh.su ?_|(refine Sh.sa hS ?_;clear hS;intro w hS)|((first|refine Sh.aa hS ?_|refine Sh.ab hS ?_|refine Sh.ac hS ?_);clear hS;intro g w hS hge)|refine Sh.ix ?_|refine Sh.up ?_|refine Sh.sl1 ?_|refine Sh.sl2 ?_|refine Sh.sl5 ?_|refine Sh.sl3 ?_|refine Sh.sl4 ?_|refine Sh.eq ?_|refine Sh.ne ?_|refine Sh.ix2 ?_|refine Sh.ix3 ?_|refine Z.bu rfl rfl ?_|refine VM ?_|refine Z.pl (R.cap rfl rfl) ?_|refine Z.pl R.mf ?_|refine Z.pl (R.min2 rfl rfl) ?_|refine G1 ?_|refine G2 ?_|refine G3 ?_|refine G4 ?_|with_reducible (first|refine V0 ?_|refine Z.block ?_)|((with_reducible refine Z.blX ?_ ?_);rotate_left;rfl)|refine VT ?_|refine VF ?_|((first|refine GS ?_ ?_|refine VB ?_ ?_)<;>intro hb<;>(try simp only [J1,J2,J3,J4,J5,J6] at hb)<;>(try (exfalso;first|omega|exact hb trivial))))
        first | refine Z.done hS Try.results36 (Z.RV.tmp rfl Z.RV.nil) ?_ | refine Z.doneN hS Try.results36 (Z.RV.tmp rfl Z.RV.nil) ?_
        refine ⟨x.take 1 xm.m, sv, G, adv l j2, rfl, ⟨hI2, hsv, hrd⟩, hM2, by omega, (Sep.NT_open.2 ⟨⟨gh, gw, gl, c0, c1, f0, f1, vh, vw, v0, v1, A0, (some ⟨gb, o, .none⟩), B0, B9, k0, k1, m0, m9⟩, ?_⟩).swap⟩
        simp only [NR, NB, List.cons_append, List.nil_append]
        exact hS.sb
      · repeat' (first|refine VP ?_|refine Sh.la hS ?_|refine Sh.lb ?_|refine Sh.lc ?_|refine Sh.su ?_|(refine Sh.sa hS ?_;clear hS;intro w hS)|((first|refine Sh.aa hS ?_|refine Sh.ab hS ?_|refine Sh.ac hS ?_);clear hS;intro g w hS hge)|refine Sh.ix ?_|refine Sh.up ?_|refine Sh.sl1 ?_|refine Sh.sl2 ?_|refine Sh.sl5 ?_|refine Sh.sl3 ?_|refine Sh.sl4 ?_|refine Sh.eq ?_|refine Sh.ne ?_|refine Sh.ix2 ?_|refine Sh.ix3 ?_|refine Z.bu rfl rfl ?_|refine VM ?_|refine Z.pl (R.cap rfl rfl) ?_|refine Z.pl R.mf ?_|refine Z.pl (R.min2 rfl rfl) ?_|refine G1 ?_|refine G2 ?_|refine G3 ?_|refine G4 ?_|with_reducible (first|refine V0 ?_|refine Z.block ?_)|((with_reducible refine Z.blX ?_ ?_);rotate_left;rfl)|refine VT ?_|refine VF ?_|((first|refine GS ?_ ?_|refine VB ?_ ?_)<;>intro hb<;>(try simp only [J1,J2,J3,J4,J5,J6] at hb)<;>(try (exfalso;first|omega|exact hb trivial))))
        first | refine Z.done hS Try.results36 (Z.RV.tmp rfl Z.RV.nil) ?_ | refine Z.doneN hS Try.results36 (Z.RV.tmp rfl Z.RV.nil) ?_
        refine ⟨x, sv, G, j2, rfl, ⟨hI.more (by omega), hsv, hrd⟩, Mono.refl x, by omega, (Sep.NT_open.2 ⟨⟨gh, gw, gl, c0, c1, f0, f1, vh, vw, v0, v1, A0, A1, B0, B1, k0, k1, m0, m1⟩, ?_⟩).swap⟩
        simp only [NR, NB, List.cons_append, List.nil_append]
        exact hS.sb
    refine Z.seq ?_
    refine Z.cut [172, 173] (fun w s => s = [(172, .bool (decide (k8 = 6)))] ∧ Sep r [] (TpR r gt l j2 :: .blk gx 79 [.pointer (some ⟨gh, 0, .none⟩), .pointer (some ⟨gw, 0, .none⟩), .pointer (some ⟨gl, 0, .none⟩), .pointer (some ⟨c0, 0, .none⟩), .pointer (some ⟨c1, 0, .none⟩), .pointer (some ⟨f0, 0, .none⟩), .pointer (some ⟨f1, 0, .none⟩), .slice A0 (sv 0).length k0, .slice A1 (sv 1).length k1, .slice B0 (x.he 0).length m0, .slice B1 (x.he 1).length m1, .int .i64 x.ep] :: PC gh 1 0 vh x.home :: CR gw 1 0 vw x.home :: PL gl x.ld :: PC c0 2 0 v0 (x.fo 0).c :: PC c1 3 0 v1 (x.fo 1).c :: .blk f0 102 [.pointer (some ⟨c0, 0, .none⟩), .int .i64 (x.fo 0).seen, .int .i64 (x.fo 0).agreed] :: .blk f1 102 [.pointer (some ⟨c1, 0, .none⟩), .int .i64 (x.fo 1).seen, .int .i64 (x.fo 1).agreed] :: .sl 28 4 (.slice A0 (sv 0).length k0) ((sv 0).map ShV.cells) :: .sl 28 4 (.slice A1 (sv 1).length k1) ((sv 1).map ShV.cells) :: .sl 53 3 (.slice B0 (x.he 0).length m0) ((x.he 0).map He.cells) :: .sl 53 3 (.slice B1 (x.he 1).length m1) ((x.he 1).map He.cells) :: G :: F) w) ?_ ?_
    · repeat' (first|refine VP ?_|refine Sh.la hS ?_|refine Sh.lb ?_|refine Sh.lc ?_|refine Sh.su ?_|(refine Sh.sa hS ?_;clear hS;intro w hS)|((first|refine Sh.aa hS ?_|refine Sh.ab hS ?_|refine Sh.ac hS ?_);clear hS;intro g w hS hge)|refine Sh.ix ?_|refine Sh.up ?_|refine Sh.sl1 ?_|refine Sh.sl2 ?_|refine Sh.sl5 ?_|refine Sh.sl3 ?_|refine Sh.sl4 ?_|refine Sh.eq ?_|refine Sh.ne ?_|refine Sh.ix2 ?_|refine Sh.ix3 ?_|refine Z.bu rfl rfl ?_|refine VM ?_|refine Z.pl (R.cap rfl rfl) ?_|refine Z.pl R.mf ?_|refine Z.pl (R.min2 rfl rfl) ?_|refine G1 ?_|refine G2 ?_|refine G3 ?_|refine G4 ?_|with_reducible (first|refine V0 ?_|refine Z.block ?_)|((with_reducible refine Z.blX ?_ ?_);rotate_left;rfl)|refine VT ?_|refine VF ?_|((first|refine GS ?_ ?_|refine VB ?_ ?_)<;>intro hb<;>(try simp only [J1,J2,J3,J4,J5,J6] at hb)<;>(try (exfalso;first|omega|exact hb trivial))))
      refine Sh.cut [(172, _)] ?_
      exact ⟨rfl, hS⟩
    clear hS
    rintro q4 w _ ⟨rfl, hS⟩
    refine VB ?_ ?_ <;> intro hb <;> (try simp only [J1,J2,J3,J4,J5,J6] at hb)
    · clear hb
      by_cases hq0 : 0 < (x.he 1).length
      · have hbn := nxt_bd l j2 ((x.he 1).length : Int) (by omega)
        have hj3 := adv_ge l j2
        have hq1 : (nxt l j2 ((x.he 1).length : Int)).toNat < (x.he 1).length := by omega
        obtain ⟨gb, o, rfl, _, _⟩ := (hS.slrows (e := 53) (v := .slice B1 (x.he 1).length m1) (by repeat (first | exact At.here | apply At.next))).mat (by omega) hq1
        have hmem : (x.he 1)[(nxt l j2 ((x.he 1).length : Int)).toNat] ∈ x.he 1 := by simp
        obtain ⟨hI2, hM2, ha1, ha2, ha3⟩ := hI.hear (i := 1) (by omega) hmem
        generalize hxa : (x.he 1)[(nxt l j2 ((x.he 1).length : Int)).toNat] = a at *
        have hhr := ld_hear1 (hI.cell 0 (by omega)) (hI.cell 1 (by omega)) ha1 ha2 (by omega : a.applied ≤ 4096)
        repeat' (first|refine VP ?_|refine Sh.la hS ?_|refine Sh.lb ?_|refine Sh.lc ?_|refine Sh.su ?_|(refine Sh.sa hS ?_;clear hS;intro w hS)|((first|refine Sh.aa hS ?_|refine Sh.ab hS ?_|refine Sh.ac hS ?_);clear hS;intro g w hS hge)|refine Sh.ix ?_|refine Sh.up ?_|refine Sh.sl1 ?_|refine Sh.sl2 ?_|refine Sh.sl5 ?_|refine Sh.sl3 ?_|refine Sh.sl4 ?_|refine Sh.eq ?_|refine Sh.ne ?_|refine Sh.ix2 ?_|refine Sh.ix3 ?_|refine Z.bu rfl rfl ?_|refine VM ?_|refine Z.pl (R.cap rfl rfl) ?_|refine Z.pl R.mf ?_|refine Z.pl (R.min2 rfl rfl) ?_|refine G1 ?_|refine G2 ?_|refine G3 ?_|refine G4 ?_|with_reducible (first|refine V0 ?_|refine Z.block ?_)|((with_reducible refine Z.blX ?_ ?_);rotate_left;rfl)|refine VT ?_|refine VF ?_|((first|refine GS ?_ ?_|refine VB ?_ ?_)<;>intro hb<;>(try simp only [J1,J2,J3,J4,J5,J6] at hb)<;>(try (exfalso;first|omega|exact hb trivial))))
        refine D.startS (Lr := [.blk gx 79 [.pointer (some ⟨gh, 0, .none⟩), .pointer (some ⟨gw, 0, .none⟩), .pointer (some ⟨gl, 0, .none⟩), .pointer (some ⟨c0, 0, .none⟩), .pointer (some ⟨c1, 0, .none⟩), .pointer (some ⟨f0, 0, .none⟩), .pointer (some ⟨f1, 0, .none⟩), .slice A0 (sv 0).length k0, .slice A1 (sv 1).length k1, .slice B0 (x.he 0).length m0, .slice (some ⟨gb, o, .none⟩) (x.he 1).length m1, .int .i64 x.ep], .sl 53 3 (.slice (some ⟨gb, o, .none⟩) (x.he 1).length m1) ((x.he 1).map He.cells)]) (hS.sb) 35 35 (by kernel_rfl) rfl ?_
        replace hS := hS.drew
        refine Sh.dp 0 1 ?_
        refine Sh.dp 1 3 ?_
        refine Sh.dp 2 7 ?_
        refine Sh.dp 3 15 ?_
        first | refine D.ixn 4 31 rfl D.wantedN (by kernel_rfl) rfl rfl rfl (by omega) ?_ | refine D.ix 4 31 rfl D.wantedN (by kernel_rfl) rfl rfl rfl (by omega) ?_ | refine D.ia 4 31 rfl D.wantedN (by kernel_rfl) rfl rfl rfl (by omega) ?_
        refine Sh.dl 5 63 ?_
        refine Sh.dp 6 127 ?_
        refine Sh.dp 7 255 ?_
        refine Sh.dp 8 511 ?_
        refine D.slot 182 rfl (fun hb => ?_) (fun hb => by exfalso; (try simp only [decide_eq_true_eq, decide_eq_false_iff_not, Bool.not_eq_true', Bool.not_eq_false', Int.not_lt, Int.not_le] at hb) <;> first | omega | exact hb trivial | cases hb)
        (try simp only [decide_eq_true_eq, decide_eq_false_iff_not, Bool.not_eq_true', Bool.not_eq_false', Int.not_lt, Int.not_le] at hb)
        refine Sh.dp 9 1023 ?_
        refine Sh.dp 10 2047 ?_
        refine Sh.dp 11 4095 ?_
        refine Sh.dp 13 12287 ?_
        first | refine D.sum 14 28671 rfl (D.wantedT rfl rfl) (by kernel_rfl) rfl (by constructor <;> omega) ?_ | refine D.sumW 14 28671 rfl (D.wantedT rfl rfl) (by kernel_rfl) rfl ?_
        refine Sh.dp 15 61439 ?_
        refine Sh.dp 16 126975 ?_
        refine Sh.dp 17 258047 ?_
        refine Sh.dp 18 520191 ?_
        first | refine D.ixn 19 1044479 rfl (D.wantedT rfl rfl) (by kernel_rfl) rfl rfl rfl (by omega) ?_ | refine D.ix 19 1044479 rfl (D.wantedT rfl rfl) (by kernel_rfl) rfl rfl rfl (by omega) ?_ | refine D.ia 19 1044479 rfl (D.wantedT rfl rfl) (by kernel_rfl) rfl rfl rfl (by omega) ?_
        refine Sh.dp 21 3141631 ?_
        refine Sh.dp 22 7335935 ?_
        refine Sh.dp 23 15724543 ?_
        refine Sh.dp 24 32501759 ?_
        refine Sh.dp 25 66056191 ?_
        first | refine D.ixn 26 133165055 rfl (D.wantedT rfl rfl) (by kernel_rfl) rfl rfl rfl (by omega) ?_ | refine D.ix 26 133165055 rfl (D.wantedT rfl rfl) (by kernel_rfl) rfl rfl rfl (by omega) ?_ | refine D.ia 26 133165055 rfl (D.wantedT rfl rfl) (by kernel_rfl) rfl rfl rfl (by omega) ?_
        refine Sh.dl 12 133169151 ?_
        refine Sh.dl 20 134217727 ?_
        refine Sh.dl 27 268435455 ?_
        refine Sh.dp 28 536870911 ?_
        refine D.eff 29 1073741823 rfl (D.wantedT rfl rfl) (by kernel_rfl) (by kernel_rfl) (fun _ _ h => h) ?_
        refine WE.guard ?_
        replace hS := hS.fo (R := TpR r gt l _)
        refine Z.cl (next_z _ hS (by omega) (by omega)) rfl ?_
        clear hS
        rintro e w ⟨rfl, hS⟩
        refine ⟨_, rfl, ?_⟩
        refine ⟨HM.s (hS.sb), ?_⟩
        first | refine D.ixn 30 2147483647 rfl (D.wantedT rfl rfl) (by kernel_rfl) rfl rfl rfl (by omega) ?_ | refine D.ix 30 2147483647 rfl (D.wantedT rfl rfl) (by kernel_rfl) rfl rfl rfl (by omega) ?_ | refine D.ia 30 2147483647 rfl (D.wantedT rfl rfl) (by kernel_rfl) rfl rfl rfl (by omega) ?_
        refine D.ldR 31 4294967295 rfl (D.wantedT rfl rfl) (by kernel_rfl) rfl (fun W h => by have h1 := (h.slrows (e := 53) (v := .slice (some ⟨gb, o, .none⟩) (x.he 1).length m1) (by repeat (first | exact At.here | apply At.next))).elem (by omega) hq1; rw [hxa] at h1; exact h1) rfl ?_
        refine D.eff 32 8589934591 rfl (D.wantedT rfl rfl) (by kernel_rfl) (by kernel_rfl) (fun _ _ h => h) ?_
        refine WE.guard ?_
        replace hS := hS.fo (R := PL gl _)
        refine Z.cl (plhear_z gl x.ld 3 (by unfold I64; omega) a _ _ _ hS hI.ld) rfl ?_
        clear hS
        rintro e w ⟨rfl, hS⟩
        refine ⟨_, rfl, ?_⟩
        rw [hhr] at hS ⊢
        refine ⟨HM.s (hS.sb), ?_⟩
        refine Sh.dp 33 17179869183 ?_
        refine Sh.dp 34 34359738367 ?_
        refine D.done (by kernel_rfl) ?_
        repeat' (first|refine VP ?_|refine Sh.la hS ?_|refine Sh.lb ?_|refine Sh.lc ?_|refine Sh.su ?_|(refine Sh.sa hS ?_;clear hS;intro w hS)|((first|refine Sh.aa hS ?_|refine Sh.ab hS ?_|refine Sh.ac hS ?_);clear hS;intro g w hS hge)|refine Sh.ix ?_|refine Sh.up ?_|refine Sh.sl1 ?_|refine Sh.sl2 ?_|refine Sh.sl5 ?_|refine Sh.sl3 ?_|refine Sh.sl4 ?_|refine Sh.eq ?_|refine Sh.ne ?_|refine Sh.ix2 ?_|refine Sh.ix3 ?_|refine Z.bu rfl rfl ?_|refine VM ?_|refine Z.pl (R.cap rfl rfl) ?_|refine Z.pl R.mf ?_|refine Z.pl (R.min2 rfl rfl) ?_|refine G1 ?_|refine G2 ?_|refine G3 ?_|refine G4 ?_|with_reducible (first|refine V0 ?_|refine Z.block ?_)|((with_reducible refine Z.blX ?_ ?_);rotate_left;rfl)|refine VT ?_|refine VF ?_|((first|refine GS ?_ ?_|refine VB ?_ ?_)<;>intro hb<;>(try simp only [J1,J2,J3,J4,J5,J6] at hb)<;>(try (exfalso;first|omega|exact hb trivial))))
        first | refine Z.done hS Try.results36 (Z.RV.tmp rfl Z.RV.nil) ?_ | refine Z.doneN hS Try.results36 (Z.RV.tmp rfl Z.RV.nil) ?_
        refine ⟨x.hear 1 a, sv, G, adv l j2, rfl, ⟨hI2, hsv, hrd⟩, hM2, by omega, (Sep.NT_open.2 ⟨⟨gh, gw, gl, c0, c1, f0, f1, vh, vw, v0, v1, A0, A1, B0, (some ⟨gb, o, .none⟩), k0, k1, m0, m1⟩, ?_⟩).swap⟩
        simp only [NR, NB, List.cons_append, List.nil_append]
        exact hS.sb
      · repeat' (first|refine VP ?_|refine Sh.la hS ?_|refine Sh.lb ?_|refine Sh.lc ?_|refine Sh.su ?_|(refine Sh.sa hS ?_;clear hS;intro w hS)|((first|refine Sh.aa hS ?_|refine Sh.ab hS ?_|refine Sh.ac hS ?_);clear hS;intro g w hS hge)|refine Sh.ix ?_|refine Sh.up ?_|refine Sh.sl1 ?_|refine Sh.sl2 ?_|refine Sh.sl5 ?_|refine Sh.sl3 ?_|refine Sh.sl4 ?_|refine Sh.eq ?_|refine Sh.ne ?_|refine Sh.ix2 ?_|refine Sh.ix3 ?_|refine Z.bu rfl rfl ?_|refine VM ?_|refine Z.pl (R.cap rfl rfl) ?_|refine Z.pl R.mf ?_|refine Z.pl (R.min2 rfl rfl) ?_|refine G1 ?_|refine G2 ?_|refine G3 ?_|refine G4 ?_|with_reducible (first|refine V0 ?_|refine Z.block ?_)|((with_reducible refine Z.blX ?_ ?_);rotate_left;rfl)|refine VT ?_|refine VF ?_|((first|refine GS ?_ ?_|refine VB ?_ ?_)<;>intro hb<;>(try simp only [J1,J2,J3,J4,J5,J6] at hb)<;>(try (exfalso;first|omega|exact hb trivial))))
        refine D.startS (Lr := [.blk gx 79 [.pointer (some ⟨gh, 0, .none⟩), .pointer (some ⟨gw, 0, .none⟩), .pointer (some ⟨gl, 0, .none⟩), .pointer (some ⟨c0, 0, .none⟩), .pointer (some ⟨c1, 0, .none⟩), .pointer (some ⟨f0, 0, .none⟩), .pointer (some ⟨f1, 0, .none⟩), .slice A0 (sv 0).length k0, .slice A1 (sv 1).length k1, .slice B0 (x.he 0).length m0, .slice B1 (x.he 1).length m1, .int .i64 x.ep]]) (hS.sb) 35 35 (by kernel_rfl) rfl ?_
        replace hS := hS.drew
        refine Sh.dp 0 1 ?_
        refine Sh.dp 1 3 ?_
        refine Sh.dp 2 7 ?_
        refine Sh.dp 3 15 ?_
        first | refine D.ixn 4 31 rfl D.wantedN (by kernel_rfl) rfl rfl rfl (by omega) ?_ | refine D.ix 4 31 rfl D.wantedN (by kernel_rfl) rfl rfl rfl (by omega) ?_ | refine D.ia 4 31 rfl D.wantedN (by kernel_rfl) rfl rfl rfl (by omega) ?_
        refine Sh.dl 5 63 ?_
        refine Sh.dp 6 127 ?_
        refine Sh.dp 7 255 ?_
        refine Sh.dp 8 511 ?_
        refine D.slot 182 rfl (fun hb => by exfalso; (try simp only [decide_eq_true_eq, decide_eq_false_iff_not, Bool.not_eq_true', Bool.not_eq_false', Int.not_lt, Int.not_le] at hb) <;> first | omega | exact hb trivial | cases hb) (fun hb => ?_)
        (try simp only [decide_eq_true_eq, decide_eq_false_iff_not, Bool.not_eq_true', Bool.not_eq_false', Int.not_lt, Int.not_le] at hb)
        refine D.skF 9 1023 rfl (by kernel_rfl) rfl rfl ?_
        refine D.skF 10 2047 rfl (by kernel_rfl) rfl rfl ?_
        refine D.skF 11 4095 rfl (by kernel_rfl) rfl rfl ?_
        refine D.skF 12 8191 rfl (by kernel_rfl) rfl rfl ?_
        refine D.skF 13 16383 rfl (by kernel_rfl) rfl rfl ?_
        refine D.skF 14 32767 rfl (by kernel_rfl) rfl rfl ?_
        refine D.skF 15 65535 rfl (by kernel_rfl) rfl rfl ?_
        refine D.skF 16 131071 rfl (by kernel_rfl) rfl rfl ?_
        refine D.skF 17 262143 rfl (by kernel_rfl) rfl rfl ?_
        refine D.skF 18 524287 rfl (by kernel_rfl) rfl rfl ?_
        refine D.skF 19 1048575 rfl (by kernel_rfl) rfl rfl ?_
        refine D.skF 20 2097151 rfl (by kernel_rfl) rfl rfl ?_
        refine D.skF 21 4194303 rfl (by kernel_rfl) rfl rfl ?_
        refine D.skF 22 8388607 rfl (by kernel_rfl) rfl rfl ?_
        refine D.skF 23 16777215 rfl (by kernel_rfl) rfl rfl ?_
        refine D.skF 24 33554431 rfl (by kernel_rfl) rfl rfl ?_
        refine D.skF 25 67108863 rfl (by kernel_rfl) rfl rfl ?_
        refine D.skF 26 134217727 rfl (by kernel_rfl) rfl rfl ?_
        refine D.skF 27 268435455 rfl (by kernel_rfl) rfl rfl ?_
        refine D.skF 28 536870911 rfl (by kernel_rfl) rfl rfl ?_
        refine D.skF 29 1073741823 rfl (by kernel_rfl) rfl rfl ?_
        refine D.skF 30 2147483647 rfl (by kernel_rfl) rfl rfl ?_
        refine D.skF 31 4294967295 rfl (by kernel_rfl) rfl rfl ?_
        refine D.skF 32 8589934591 rfl (by kernel_rfl) rfl rfl ?_
        refine D.skF 33 17179869183 rfl (by kernel_rfl) rfl rfl ?_
        refine Sh.dp 34 34359738367 ?_
        refine D.done (by kernel_rfl) ?_
        repeat' (first|refine VP ?_|refine Sh.la hS ?_|refine Sh.lb ?_|refine Sh.lc ?_|refine Sh.su ?_|(refine Sh.sa hS ?_;clear hS;intro w hS)|((first|refine Sh.aa hS ?_|refine Sh.ab hS ?_|refine Sh.ac hS ?_);clear hS;intro g w hS hge)|refine Sh.ix ?_|refine Sh.up ?_|refine Sh.sl1 ?_|refine Sh.sl2 ?_|refine Sh.sl5 ?_|refine Sh.sl3 ?_|refine Sh.sl4 ?_|refine Sh.eq ?_|refine Sh.ne ?_|refine Sh.ix2 ?_|refine Sh.ix3 ?_|refine Z.bu rfl rfl ?_|refine VM ?_|refine Z.pl (R.cap rfl rfl) ?_|refine Z.pl R.mf ?_|refine Z.pl (R.min2 rfl rfl) ?_|refine G1 ?_|refine G2 ?_|refine G3 ?_|refine G4 ?_|with_reducible (first|refine V0 ?_|refine Z.block ?_)|((with_reducible refine Z.blX ?_ ?_);rotate_left;rfl)|refine VT ?_|refine VF ?_|((first|refine GS ?_ ?_|refine VB ?_ ?_)<;>intro hb<;>(try simp only [J1,J2,J3,J4,J5,J6] at hb)<;>(try (exfalso;first|omega|exact hb trivial))))
        first | refine Z.done hS Try.results36 (Z.RV.tmp rfl Z.RV.nil) ?_ | refine Z.doneN hS Try.results36 (Z.RV.tmp rfl Z.RV.nil) ?_
        refine ⟨x, sv, G, j2, rfl, ⟨hI.more (by omega), hsv, hrd⟩, Mono.refl x, by omega, (Sep.NT_open.2 ⟨⟨gh, gw, gl, c0, c1, f0, f1, vh, vw, v0, v1, A0, A1, B0, B1, k0, k1, m0, m1⟩, ?_⟩).swap⟩
        simp only [NR, NB, List.cons_append, List.nil_append]
        exact hS.sb
    · by_cases hq0 : 0 < (sv 1).length
      · have hbn := nxt_bd l j2 ((sv 1).length : Int) (by omega)
        have hj3 := adv_ge l j2
        generalize hkk : nxt l j2 ((sv 1).length : Int) = kk at *
        obtain ⟨q, rfl⟩ := Int.eq_ofNat_of_zero_le hbn.1
        have hcap : (sv 1).length ≤ k1 := by
          obtain ⟨_, _, he, h1⟩ := (hS.slrows (e := 28) (v := .slice A1 (sv 1).length k1) (by repeat (first | exact At.here | apply At.next))).mform
          injection he with _ _ e3
          rw [e3]
          exact h1
        have hN2 := (NOk.mk (G := G) hI hsv hrd).drop (i := 1) (by omega) q
        have hM2 := (hI.drop (i := 1) (by omega) q).2
        repeat' (first|refine VP ?_|refine Sh.la hS ?_|refine Sh.lb ?_|refine Sh.lc ?_|refine Sh.su ?_|(refine Sh.sa hS ?_;clear hS;intro w hS)|((first|refine Sh.aa hS ?_|refine Sh.ab hS ?_|refine Sh.ac hS ?_);clear hS;intro g w hS hge)|refine Sh.ix ?_|refine Sh.up ?_|refine Sh.sl1 ?_|refine Sh.sl2 ?_|refine Sh.sl5 ?_|refine Sh.sl3 ?_|refine Sh.sl4 ?_|refine Sh.eq ?_|refine Sh.ne ?_|refine Sh.ix2 ?_|refine Sh.ix3 ?_|refine Z.bu rfl rfl ?_|refine VM ?_|refine Z.pl (R.cap rfl rfl) ?_|refine Z.pl R.mf ?_|refine Z.pl (R.min2 rfl rfl) ?_|refine G1 ?_|refine G2 ?_|refine G3 ?_|refine G4 ?_|with_reducible (first|refine V0 ?_|refine Z.block ?_)|((with_reducible refine Z.blX ?_ ?_);rotate_left;rfl)|refine VT ?_|refine VF ?_|((first|refine GS ?_ ?_|refine VB ?_ ?_)<;>intro hb<;>(try simp only [J1,J2,J3,J4,J5,J6] at hb)<;>(try (exfalso;first|omega|exact hb trivial))))
        replace hS := hS.fo (R := TpR r gt l _)
        refine Z.eff (Z.cl (next_z _ hS (by omega) (by omega)) rfl ?_) rfl
        clear hS
        rintro e w ⟨rfl, hS⟩
        refine ⟨_, rfl, ?_⟩
        rw [hkk]
        repeat' (first|refine VP ?_|refine Sh.la hS ?_|refine Sh.lb ?_|refine Sh.lc ?_|refine Sh.su ?_|(refine Sh.sa hS ?_;clear hS;intro w hS)|((first|refine Sh.aa hS ?_|refine Sh.ab hS ?_|refine Sh.ac hS ?_);clear hS;intro g w hS hge)|refine Sh.ix ?_|refine Sh.up ?_|refine Sh.sl1 ?_|refine Sh.sl2 ?_|refine Sh.sl5 ?_|refine Sh.sl3 ?_|refine Sh.sl4 ?_|refine Sh.eq ?_|refine Sh.ne ?_|refine Sh.ix2 ?_|refine Sh.ix3 ?_|refine Z.bu rfl rfl ?_|refine VM ?_|refine Z.pl (R.cap rfl rfl) ?_|refine Z.pl R.mf ?_|refine Z.pl (R.min2 rfl rfl) ?_|refine G1 ?_|refine G2 ?_|refine G3 ?_|refine G4 ?_|with_reducible (first|refine V0 ?_|refine Z.block ?_)|((with_reducible refine Z.blX ?_ ?_);rotate_left;rfl)|refine VT ?_|refine VF ?_|((first|refine GS ?_ ?_|refine VB ?_ ?_)<;>intro hb<;>(try simp only [J1,J2,J3,J4,J5,J6] at hb)<;>(try (exfalso;first|omega|exact hb trivial))))
        refine D.startS (Lr := [.blk gx 79 [.pointer (some ⟨gh, 0, .none⟩), .pointer (some ⟨gw, 0, .none⟩), .pointer (some ⟨gl, 0, .none⟩), .pointer (some ⟨c0, 0, .none⟩), .pointer (some ⟨c1, 0, .none⟩), .pointer (some ⟨f0, 0, .none⟩), .pointer (some ⟨f1, 0, .none⟩), .slice A0 (sv 0).length k0, .slice A1 (sv 1).length k1, .slice B0 (x.he 0).length m0, .slice B1 (x.he 1).length m1, .int .i64 x.ep]]) (hS.sb) 25 26 (by kernel_rfl) rfl ?_
        replace hS := hS.drew
        refine Sh.dp 0 1 ?_
        refine Sh.dp 1 3 ?_
        refine Sh.dp 3 11 ?_
        refine Sh.dp 4 27 ?_
        refine Sh.dp 5 59 ?_
        refine Sh.dp 6 123 ?_
        first | refine D.ixn 7 251 rfl D.wantedN (by kernel_rfl) rfl rfl rfl (by omega) ?_ | refine D.ix 7 251 rfl D.wantedN (by kernel_rfl) rfl rfl rfl (by omega) ?_ | refine D.ia 7 251 rfl D.wantedN (by kernel_rfl) rfl rfl rfl (by omega) ?_
        refine Sh.dp 9 763 ?_
        refine Sh.dp 12 4859 ?_
        refine Sh.dp 13 13051 ?_
        refine Sh.dp 14 29435 ?_
        refine Sh.dp 15 62203 ?_
        first | refine D.ixn 16 127739 rfl D.wantedN (by kernel_rfl) rfl rfl rfl (by omega) ?_ | refine D.ix 16 127739 rfl D.wantedN (by kernel_rfl) rfl rfl rfl (by omega) ?_ | refine D.ia 16 127739 rfl D.wantedN (by kernel_rfl) rfl rfl rfl (by omega) ?_
        refine Sh.dp 18 389883 ?_
        first | refine D.sum 19 914171 rfl D.wantedN (by kernel_rfl) rfl (by constructor <;> omega) ?_ | refine D.sumW 19 914171 rfl D.wantedN (by kernel_rfl) rfl ?_
        refine Sh.dp 22 5108475 ?_
        refine Sh.dp 23 13497083 ?_
        refine Sh.dl 8 13497339 ?_
        refine D.pl 10 13498363 rfl D.wantedN (by kernel_rfl) (R.upto rfl rfl rfl (by omega)) ?_
        refine Sh.dl 17 13629435 ?_
        refine D.pl 20 14678011 rfl D.wantedN (by kernel_rfl) (R.since rfl rfl rfl (by omega)) ?_
        refine D.eff 2 14678015 rfl D.wantedN (by kernel_rfl) (by kernel_rfl) (fun _ _ h => h) ?_
        refine Z.bs hS rfl rfl rfl ?_
        clear hS; intro g w hS hge
        refine ⟨HM.s (hS.sb), ?_⟩
        refine D.eff 11 14680063 rfl D.wantedN (by kernel_rfl) (by kernel_rfl) (fun _ _ h => h) ?_
        refine Z.ap0m (fc := ShV.cells) (l := (sv 1).take q) hS rfl rfl rfl ((hS.slrows (e := 28) (v := .slice A1 (sv 1).length k1) (by repeat (first | exact At.here | apply At.next))).mtake (by omega)) (by (try simp only [maxLen, List.length_take, List.length_drop, List.length_append, List.length_cons, List.length_nil, List.length_map]); omega) (by (try simp only [maxLen, List.length_take, List.length_drop, List.length_append, List.length_cons, List.length_nil, List.length_map]); omega) ?_
        clear hS; intro A8 k8' w hS
        refine ⟨HM.s (hS.sb), ?_⟩
        refine D.eff 21 16777215 rfl D.wantedN (by kernel_rfl) (by kernel_rfl) (fun _ _ h => h) ?_
        refine Z.apm (fc := ShV.cells) (l' := (sv 1).drop (q + 1)) hS rfl rfl rfl (by repeat (first | exact At.here | apply At.next)) ((hS.slrows (e := 28) (v := .slice A1 (sv 1).length k1) (by repeat (first | exact At.here | apply At.next))).mdrop (by omega)) (by (try simp only [maxLen, List.length_take, List.length_drop, List.length_append, List.length_cons, List.length_nil, List.length_map]); omega) (by (try simp only [maxLen, List.length_take, List.length_drop, List.length_append, List.length_cons, List.length_nil, List.length_map]); omega) ?_
        clear hS; intro A9 k9 w hS
        rw [← List.length_append] at hS ⊢
        refine ⟨HM.s (hS.sb), ?_⟩
        first | refine D.ixn 24 33554431 rfl D.wantedN (by kernel_rfl) rfl rfl rfl (by omega) ?_ | refine D.ix 24 33554431 rfl D.wantedN (by kernel_rfl) rfl rfl rfl (by omega) ?_ | refine D.ia 24 33554431 rfl D.wantedN (by kernel_rfl) rfl rfl rfl (by omega) ?_
        refine D.eff 25 67108863 rfl D.wantedN (by kernel_rfl) (by kernel_rfl) (fun _ _ h => h) ?_
        refine Z.st hS rfl (by repeat (first | exact At.here | apply At.next)) rfl rfl ?_
        clear hS; intro w hS
        refine ⟨HM.last (by kernel_rfl), ?_⟩
        refine D.done (by kernel_rfl) ?_
        repeat' (first|refine VP ?_|refine Sh.la hS ?_|refine Sh.lb ?_|refine Sh.lc ?_|refine Sh.su ?_|(refine Sh.sa hS ?_;clear hS;intro w hS)|((first|refine Sh.aa hS ?_|refine Sh.ab hS ?_|refine Sh.ac hS ?_);clear hS;intro g w hS hge)|refine Sh.ix ?_|refine Sh.up ?_|refine Sh.sl1 ?_|refine Sh.sl2 ?_|refine Sh.sl5 ?_|refine Sh.sl3 ?_|refine Sh.sl4 ?_|refine Sh.eq ?_|refine Sh.ne ?_|refine Sh.ix2 ?_|refine Sh.ix3 ?_|refine Z.bu rfl rfl ?_|refine VM ?_|refine Z.pl (R.cap rfl rfl) ?_|refine Z.pl R.mf ?_|refine Z.pl (R.min2 rfl rfl) ?_|refine G1 ?_|refine G2 ?_|refine G3 ?_|refine G4 ?_|with_reducible (first|refine V0 ?_|refine Z.block ?_)|((with_reducible refine Z.blX ?_ ?_);rotate_left;rfl)|refine VT ?_|refine VF ?_|((first|refine GS ?_ ?_|refine VB ?_ ?_)<;>intro hb<;>(try simp only [J1,J2,J3,J4,J5,J6] at hb)<;>(try (exfalso;first|omega|exact hb trivial))))
        first | refine Z.done hS Try.results36 (Z.RV.tmp rfl Z.RV.nil) ?_ | refine Z.doneN hS Try.results36 (Z.RV.tmp rfl Z.RV.nil) ?_
        refine ⟨_, _, G, adv l j2, rfl, hN2, hM2, by omega, (Sep.NT_open.2 ⟨⟨gh, gw, gl, c0, c1, f0, f1, vh, vw, v0, v1, A0, A9, B0, B1, k0, k9, m0, m1⟩, ?_⟩).swap⟩
        simp only [NR, NB, List.cons_append, List.nil_append]
        exact hS.sb
      · repeat' (first|refine VP ?_|refine Sh.la hS ?_|refine Sh.lb ?_|refine Sh.lc ?_|refine Sh.su ?_|(refine Sh.sa hS ?_;clear hS;intro w hS)|((first|refine Sh.aa hS ?_|refine Sh.ab hS ?_|refine Sh.ac hS ?_);clear hS;intro g w hS hge)|refine Sh.ix ?_|refine Sh.up ?_|refine Sh.sl1 ?_|refine Sh.sl2 ?_|refine Sh.sl5 ?_|refine Sh.sl3 ?_|refine Sh.sl4 ?_|refine Sh.eq ?_|refine Sh.ne ?_|refine Sh.ix2 ?_|refine Sh.ix3 ?_|refine Z.bu rfl rfl ?_|refine VM ?_|refine Z.pl (R.cap rfl rfl) ?_|refine Z.pl R.mf ?_|refine Z.pl (R.min2 rfl rfl) ?_|refine G1 ?_|refine G2 ?_|refine G3 ?_|refine G4 ?_|with_reducible (first|refine V0 ?_|refine Z.block ?_)|((with_reducible refine Z.blX ?_ ?_);rotate_left;rfl)|refine VT ?_|refine VF ?_|((first|refine GS ?_ ?_|refine VB ?_ ?_)<;>intro hb<;>(try simp only [J1,J2,J3,J4,J5,J6] at hb)<;>(try (exfalso;first|omega|exact hb trivial))))
        first | refine Z.done hS Try.results36 (Z.RV.tmp rfl Z.RV.nil) ?_ | refine Z.doneN hS Try.results36 (Z.RV.tmp rfl Z.RV.nil) ?_
        refine ⟨x, sv, G, j2, rfl, ⟨hI.more (by omega), hsv, hrd⟩, Mono.refl x, by omega, (Sep.NT_open.2 ⟨⟨gh, gw, gl, c0, c1, f0, f1, vh, vw, v0, v1, A0, A1, B0, B1, k0, k1, m0, m1⟩, ?_⟩).swap⟩
        simp only [NR, NB, List.cons_append, List.nil_append]
        exact hS.sb

end Go.Proofs.Ytmjdkgpckcdndaa
