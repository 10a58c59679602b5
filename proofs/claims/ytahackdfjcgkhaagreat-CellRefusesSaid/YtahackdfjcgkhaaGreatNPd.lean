/-
  Copies of a tenant: the program's Fold, Truncate, Same; the reference's Truncate.
-/
import Derived.Test.YtahackdfjcgkhaaGreatNPc
import Derived.Test.YtahackdfjcgkhaaGreatNFwP
namespace Go.Proofs.YtahackdfjcgkhaaGreat
open Go.RowKit
set_option linter.unusedSimpArgs false
set_option linter.unusedVariables false
attribute [local irreducible] Res.blk Res.sl Res.all Res.ex Res.pure Res.star

set_option maxHeartbeats 1000000 in
theorem pcfold_z (cell ten : Int) (h : List Ch) (v : Value) (r : World) (F : List Res) (w : World) (hS : Sep r [] F w) (hrd : Reads r F 8 v (h.map Ch.cells)) (hl : h.length ≤ 1000) (R : FdC) (hR : foldC .zero h 0 = R) :
    Calls Tryz.prog 24 #[.int .i64 cell, .int .i64 ten, v] w fun ex w' =>
      (R.e = 0 ∧ ∃ g gg, ex = .returned (.tuple #[.pointer (some ⟨g, 0, .none⟩), .int .i64 (h.length : Int), .int .i64 0]) ∧ Sep r [] (PC g cell ten (.pointer (some ⟨gg, 0, .none⟩)) R.c :: .blk gg 123 [.int .i64 cell, .int .i64 0, .slice .none 0 0] :: F) w') ∨
        (R.e ≠ 0 ∧ ex = .returned (.tuple #[.pointer .none, .int .i64 (R.n : Int), .int .i64 R.e]) ∧ Sep r [] F w') := by
  obtain ⟨A, c, rfl, hc⟩ := (hrd [] w hS).mform
  refine Z.enter Tryz.func24 Tryz.ntmps24 rfl rfl ?_
  repeat' (first|refine VP ?_|refine Sh.la hS ?_|refine Sh.lb ?_|refine Sh.lc ?_|refine Sh.su ?_|(refine Sh.sa hS ?_;clear hS;intro w hS)|((first|refine Sh.aa hS ?_|refine Sh.ab hS ?_|refine Sh.ac hS ?_);clear hS;intro g w hS hge)|refine Sh.ix ?_|refine Sh.up ?_|refine Sh.sl1 ?_|refine Sh.sl2 ?_|refine Sh.sl5 ?_|refine Sh.sl3 ?_|refine Sh.sl4 ?_|refine Sh.eq ?_|refine Sh.ne ?_|refine Sh.ix2 ?_|refine Sh.ix3 ?_|refine Z.bu rfl rfl ?_|refine Z.buA rfl rfl ?_|refine VM ?_|refine Z.pl (R.cap rfl rfl) ?_|refine Z.pl R.mf ?_|refine Z.pl (R.min2 rfl rfl) ?_|refine G1 ?_|refine G2 ?_|refine G3 ?_|refine G4 ?_|with_reducible (first|refine V0 ?_|refine Z.block ?_)|((with_reducible refine Z.blX ?_ ?_);rotate_left;rfl)|refine VT ?_|refine VF ?_|((first|refine GS ?_ ?_|refine VB ?_ ?_)<;>intro hb<;>(try simp only [J1,J2,J3,J4,J5,J6] at hb)<;>(try (exfalso;first|omega|exact hb trivial))))
  refine Z.eff (Z.cl (pcnew_z cell ten _ _ _ hS) rfl ?_) rfl
  clear hS
  rintro e w ⟨g1, gg, rfl, hS⟩
  refine ⟨_, rfl, ?_⟩
  repeat' (first|refine VP ?_|refine Sh.la hS ?_|refine Sh.lb ?_|refine Sh.lc ?_|refine Sh.su ?_|(refine Sh.sa hS ?_;clear hS;intro w hS)|((first|refine Sh.aa hS ?_|refine Sh.ab hS ?_|refine Sh.ac hS ?_);clear hS;intro g w hS hge)|refine Sh.ix ?_|refine Sh.up ?_|refine Sh.sl1 ?_|refine Sh.sl2 ?_|refine Sh.sl5 ?_|refine Sh.sl3 ?_|refine Sh.sl4 ?_|refine Sh.eq ?_|refine Sh.ne ?_|refine Sh.ix2 ?_|refine Sh.ix3 ?_|refine Z.bu rfl rfl ?_|refine Z.buA rfl rfl ?_|refine VM ?_|refine Z.pl (R.cap rfl rfl) ?_|refine Z.pl R.mf ?_|refine Z.pl (R.min2 rfl rfl) ?_|refine G1 ?_|refine G2 ?_|refine G3 ?_|refine G4 ?_|with_reducible (first|refine V0 ?_|refine Z.block ?_)|((with_reducible refine Z.blX ?_ ?_);rotate_left;rfl)|refine VT ?_|refine VF ?_|((first|refine GS ?_ ?_|refine VB ?_ ?_)<;>intro hb<;>(try simp only [J1,J2,J3,J4,J5,J6] at hb)<;>(try (exfalso;first|omega|exact hb trivial))))
  refine Z.lpS [6, 7, 8, 10, 11, 12, 18, 19, 20, 21, 22, 23, 24, 25, 26, 27, 28, 29, 30] (fun m w s => ∃ (k : Nat) (q : Cp), s = [(18, .int .i64 k)] ∧ k ≤ h.length ∧ Good q ∧ q.h.length ≤ k ∧ foldC q (h.drop k) k = R ∧ m = h.length - k ∧ Sep r [] (PC g1 cell ten (.pointer (some ⟨gg, 0, .none⟩)) q :: .blk gg 123 [.int .i64 cell, .int .i64 0, .slice .none 0 0] :: F) w) _ [(18, .int .i64 (0 : Nat))] (by repeat (first | exact trivial | refine ⟨rfl, ?_⟩)) ⟨0, .zero, rfl, by omega, .zero, by simp [Cp.zero], by simpa using hR, rfl, hS⟩ ?_
  clear hS
  rintro m f0 w _ ⟨k, q, rfl, hk, hq, hqk, hF, rfl, hS⟩
  by_cases hlt : k < h.length
  · obtain ⟨gb, o, rfl, _, hra⟩ := (hrd [_, _] w hS).mat (by omega) hlt
    rw [foldC_drop hlt] at hF
    have hst := hq.step h[k]
    repeat' (first|refine VP ?_|refine Sh.la hS ?_|refine Sh.lb ?_|refine Sh.lc ?_|refine Sh.su ?_|(refine Sh.sa hS ?_;clear hS;intro w hS)|((first|refine Sh.aa hS ?_|refine Sh.ab hS ?_|refine Sh.ac hS ?_);clear hS;intro g w hS hge)|refine Sh.ix ?_|refine Sh.up ?_|refine Sh.sl1 ?_|refine Sh.sl2 ?_|refine Sh.sl5 ?_|refine Sh.sl3 ?_|refine Sh.sl4 ?_|refine Sh.eq ?_|refine Sh.ne ?_|refine Sh.ix2 ?_|refine Sh.ix3 ?_|refine Z.bu rfl rfl ?_|refine Z.buA rfl rfl ?_|refine VM ?_|refine Z.pl (R.cap rfl rfl) ?_|refine Z.pl R.mf ?_|refine Z.pl (R.min2 rfl rfl) ?_|refine G1 ?_|refine G2 ?_|refine G3 ?_|refine G4 ?_|with_reducible (first|refine V0 ?_|refine Z.block ?_)|((with_reducible refine Z.blX ?_ ?_);rotate_left;rfl)|refine VT ?_|refine VF ?_|((first|refine GS ?_ ?_|refine VB ?_ ?_)<;>intro hb<;>(try simp only [J1,J2,J3,J4,J5,J6] at hb)<;>(try (exfalso;first|omega|exact hb trivial))))
    replace hS := hS.fo (R := PC g1 _ _ _ _)
    refine Z.eff (Z.cl (pcapply_z g1 cell ten _ q h[k] _ _ _ hS hq.cok (by omega)) rfl ?_) rfl
    clear hS
    rintro e w ⟨rfl, hS⟩
    refine ⟨_, rfl, ?_⟩
    repeat' (first|refine VP ?_|refine Sh.la hS ?_|refine Sh.lb ?_|refine Sh.lc ?_|refine Sh.su ?_|(refine Sh.sa hS ?_;clear hS;intro w hS)|((first|refine Sh.aa hS ?_|refine Sh.ab hS ?_|refine Sh.ac hS ?_);clear hS;intro g w hS hge)|refine Sh.ix ?_|refine Sh.up ?_|refine Sh.sl1 ?_|refine Sh.sl2 ?_|refine Sh.sl5 ?_|refine Sh.sl3 ?_|refine Sh.sl4 ?_|refine Sh.eq ?_|refine Sh.ne ?_|refine Sh.ix2 ?_|refine Sh.ix3 ?_|refine Z.bu rfl rfl ?_|refine Z.buA rfl rfl ?_|refine VM ?_|refine Z.pl (R.cap rfl rfl) ?_|refine Z.pl R.mf ?_|refine Z.pl (R.min2 rfl rfl) ?_|refine G1 ?_|refine G2 ?_|refine G3 ?_|refine G4 ?_|with_reducible (first|refine V0 ?_|refine Z.block ?_)|((with_reducible refine Z.blX ?_ ?_);rotate_left;rfl)|refine VT ?_|refine VF ?_|((first|refine GS ?_ ?_|refine VB ?_ ?_)<;>intro hb<;>(try simp only [J1,J2,J3,J4,J5,J6] at hb)<;>(try (exfalso;first|omega|exact hb trivial))))
    · first | refine Z.done hS Tryz.results24 (Z.RV.tmp rfl (Z.RV.tmp rfl (Z.RV.tmp rfl Z.RV.nil))) ?_ | refine Z.doneN hS Tryz.results24 (Z.RV.tmp rfl (Z.RV.tmp rfl (Z.RV.tmp rfl Z.RV.nil))) ?_
      rw [if_neg hb] at hF
      subst hF
      exact .inr ⟨hb, rfl, hS.sb⟩
    · refine Sh.again (h.length - (k + 1)) [(18, .int .i64 (k + 1 : Nat))] ?_
      rw [if_pos hb] at hF
      exact ⟨k + 1, _, rfl, by omega, hst.1, by omega, hF, rfl, hS.sb⟩
  · repeat' (first|refine VP ?_|refine Sh.la hS ?_|refine Sh.lb ?_|refine Sh.lc ?_|refine Sh.su ?_|(refine Sh.sa hS ?_;clear hS;intro w hS)|((first|refine Sh.aa hS ?_|refine Sh.ab hS ?_|refine Sh.ac hS ?_);clear hS;intro g w hS hge)|refine Sh.ix ?_|refine Sh.up ?_|refine Sh.sl1 ?_|refine Sh.sl2 ?_|refine Sh.sl5 ?_|refine Sh.sl3 ?_|refine Sh.sl4 ?_|refine Sh.eq ?_|refine Sh.ne ?_|refine Sh.ix2 ?_|refine Sh.ix3 ?_|refine Z.bu rfl rfl ?_|refine Z.buA rfl rfl ?_|refine VM ?_|refine Z.pl (R.cap rfl rfl) ?_|refine Z.pl R.mf ?_|refine Z.pl (R.min2 rfl rfl) ?_|refine G1 ?_|refine G2 ?_|refine G3 ?_|refine G4 ?_|with_reducible (first|refine V0 ?_|refine Z.block ?_)|((with_reducible refine Z.blX ?_ ?_);rotate_left;rfl)|refine VT ?_|refine VF ?_|((first|refine GS ?_ ?_|refine VB ?_ ?_)<;>intro hb<;>(try simp only [J1,J2,J3,J4,J5,J6] at hb)<;>(try (exfalso;first|omega|exact hb trivial))))
    first | refine Z.done hS Tryz.results24 (Z.RV.tmp rfl (Z.RV.tmp rfl (Z.RV.tmp rfl Z.RV.nil))) ?_ | refine Z.doneN hS Tryz.results24 (Z.RV.tmp rfl (Z.RV.tmp rfl (Z.RV.tmp rfl Z.RV.nil))) ?_
    rw [List.drop_eq_nil_of_le (by omega)] at hF
    subst hF
    exact .inl ⟨rfl, _, _, rfl, hS⟩
theorem pcfold_ok (cell ten : Int) (h : List Ch) (v : Value) (r : World) (F : List Res) (w : World) (hS : Sep r [] F w) (hrd : Reads r F 8 v (h.map Ch.cells)) (hl : h.length ≤ 1000) (hh : IsH h) :
    Calls Tryz.prog 24 #[.int .i64 cell, .int .i64 ten, v] w fun ex w' => ∃ g gg, ex = .returned (.tuple #[.pointer (some ⟨g, 0, .none⟩), .int .i64 (h.length : Int), .int .i64 0]) ∧ Sep r [] (PC g cell ten (.pointer (some ⟨gg, 0, .none⟩)) (cpOf h) :: .blk gg 123 [.int .i64 cell, .int .i64 0, .slice .none 0 0] :: F) w' :=
  (pcfold_z cell ten h v r F w hS hrd hl _ hh.good.2.2).mono fun _ _ hx => by
    rcases hx with ⟨_, hx⟩ | ⟨h0, _⟩
    · exact hx
    · exact absurd rfl h0

/-- The folds of a history, one change later. -/
theorem addS_next {h : List Ch} (hh : IsH h) {k : Nat} (hk : k < h.length) : addS (cpOf (h.take k)).s (cpOf (h.take k)).q (cpOf (h.take k)).t h[k] = ⟨(cpOf (h.take (k + 1))).s, (cpOf (h.take (k + 1))).q, (cpOf (h.take (k + 1))).t, 0⟩ := by
  have h1 := hh.next hk
  generalize cpOf (h.take k) = c at *
  generalize cpOf (h.take (k + 1)) = c' at *
  generalize h[k] = x at *
  obtain ⟨hv, hs, he, _⟩ := cApp_ok (by rw [h1] : (cApp c x).2 = 0)
  obtain ⟨e1, _, e3⟩ := addS_bad (s := c.s) (q := c.q) (t := c.t) c rfl hv ⟨hs, he⟩
  rw [h1] at e1 e3
  simp only at e1 e3
  have e4 := e3 e1.symm
  generalize addS c.s c.q c.t x = R at *
  obtain ⟨a1, a2, a3, a4⟩ := R
  simp only at e1 e4
  rw [e4, ← e1]

set_option maxHeartbeats 4000000 in
theorem pctrunc_z (g : Nat) (cell ten : Int) (vg : Value) (c : Cp) (n : Int) (r : World) (F : List Res) (w : World) (hS : Sep r [] (PC g cell ten vg c :: F) w) (hg : IsH c.h) :
    Calls Tryz.prog 48 #[.pointer (some ⟨g, 0, .none⟩), .int .i64 n] w fun e w' => (¬ (0 ≤ n ∧ n ≤ c.h.length) ∧ e = .returned (.int .i64 1) ∧ Sep r [] (PC g cell ten vg c :: F) w') ∨
      ((0 ≤ n ∧ n ≤ c.h.length) ∧ e = .returned (.int .i64 0) ∧ Sep r [] (PC g cell ten vg (cutC c n.toNat) :: F) w') := by
  obtain ⟨A, cap, gs, gq, gt, hS⟩ := Sep.PC_open.1 hS
  have hlen := hg.len
  refine Z.enter Tryz.func48 Tryz.ntmps48 rfl rfl ?_
  repeat' (first|refine VP ?_|refine Sh.la hS ?_|refine Sh.lb ?_|refine Sh.lc ?_|refine Sh.su ?_|(refine Sh.sa hS ?_;clear hS;intro w hS)|((first|refine Sh.aa hS ?_|refine Sh.ab hS ?_|refine Sh.ac hS ?_);clear hS;intro g w hS hge)|refine Sh.ix ?_|refine Sh.up ?_|refine Sh.sl1 ?_|refine Sh.sl2 ?_|refine Sh.sl5 ?_|refine Sh.sl3 ?_|refine Sh.sl4 ?_|refine Sh.eq ?_|refine Sh.ne ?_|refine Sh.ix2 ?_|refine Sh.ix3 ?_|refine Z.bu rfl rfl ?_|refine Z.buA rfl rfl ?_|refine VM ?_|refine Z.pl (R.cap rfl rfl) ?_|refine Z.pl R.mf ?_|refine Z.pl (R.min2 rfl rfl) ?_|refine G1 ?_|refine G2 ?_|refine G3 ?_|refine G4 ?_|with_reducible (first|refine V0 ?_|refine Z.block ?_)|((with_reducible refine Z.blX ?_ ?_);rotate_left;rfl)|refine VT ?_|refine VF ?_|((first|refine GS ?_ ?_|refine VB ?_ ?_)<;>intro hb<;>(try simp only [J1,J2,J3,J4,J5,J6] at hb)<;>(try (exfalso;first|omega|exact hb trivial))))
  · first | refine Z.done hS Tryz.results48 (Z.RV.tmp rfl Z.RV.nil) ?_ | refine Z.doneN hS Tryz.results48 (Z.RV.tmp rfl Z.RV.nil) ?_
    exact .inl ⟨by omega, rfl, Sep.PC_open.2 ⟨_, _, _, _, _, hS⟩⟩
  refine Z.eff (Z.cl (plen_o g _ _ _ _ _ _ A _ cap r _ _ hS) rfl ?_) rfl
  clear hS
  rintro e w ⟨rfl, hS⟩
  refine ⟨_, rfl, ?_⟩
  repeat' (first|refine VP ?_|refine Sh.la hS ?_|refine Sh.lb ?_|refine Sh.lc ?_|refine Sh.su ?_|(refine Sh.sa hS ?_;clear hS;intro w hS)|((first|refine Sh.aa hS ?_|refine Sh.ab hS ?_|refine Sh.ac hS ?_);clear hS;intro g w hS hge)|refine Sh.ix ?_|refine Sh.up ?_|refine Sh.sl1 ?_|refine Sh.sl2 ?_|refine Sh.sl5 ?_|refine Sh.sl3 ?_|refine Sh.sl4 ?_|refine Sh.eq ?_|refine Sh.ne ?_|refine Sh.ix2 ?_|refine Sh.ix3 ?_|refine Z.bu rfl rfl ?_|refine Z.buA rfl rfl ?_|refine VM ?_|refine Z.pl (R.cap rfl rfl) ?_|refine Z.pl R.mf ?_|refine Z.pl (R.min2 rfl rfl) ?_|refine G1 ?_|refine G2 ?_|refine G3 ?_|refine G4 ?_|with_reducible (first|refine V0 ?_|refine Z.block ?_)|((with_reducible refine Z.blX ?_ ?_);rotate_left;rfl)|refine VT ?_|refine VF ?_|((first|refine GS ?_ ?_|refine VB ?_ ?_)<;>intro hb<;>(try simp only [J1,J2,J3,J4,J5,J6] at hb)<;>(try (exfalso;first|omega|exact hb trivial))))
  · first | refine Z.done hS Tryz.results48 (Z.RV.tmp rfl Z.RV.nil) ?_ | refine Z.doneN hS Tryz.results48 (Z.RV.tmp rfl Z.RV.nil) ?_
    exact .inl ⟨by omega, rfl, Sep.PC_open.2 ⟨_, _, _, _, _, hS⟩⟩
  obtain ⟨k, rfl⟩ := Int.eq_ofNat_of_zero_le (show 0 ≤ n by omega)
  have hk : k ≤ c.h.length := by omega
  refine D.startS (Lr := [.blk g 120 [.int .i64 cell, .int .i64 ten, .slice A c.h.length cap, .pointer (some ⟨gs, 0, .none⟩), .pointer (some ⟨gq, 0, .none⟩), .pointer (some ⟨gt, 0, .none⟩), vg]]) (hS.sb) 14 15 (by kernel_rfl) rfl ?_
  replace hS := hS.drew
  refine Sh.dp 0 1 ?_
  refine Sh.dp 1 3 ?_
  refine Sh.dp 2 7 ?_
  refine Sh.dp 3 15 ?_
  refine Sh.dp 5 47 ?_
  refine Sh.dp 6 111 ?_
  refine Sh.dp 7 239 ?_
  refine Sh.dp 8 495 ?_
  refine Sh.dl 4 511 ?_
  refine Sh.dl 9 1023 ?_
  refine Sh.dp 10 2047 ?_
  refine D.eff 11 4095 rfl D.wantedN (by kernel_rfl) (by kernel_rfl) (fun _ _ h => h) ?_
  replace hS := hS.fo (R := .sl 49 8 _ _)
  refine Z.cl (ch_cut c.h k A cap _ _ _ hS hk (by omega)) rfl ?_
  clear hS
  rintro e w ⟨A1, c1, rfl, hS⟩
  refine ⟨_, rfl, ?_⟩
  refine ⟨HM.s (hS.sb), ?_⟩
  refine Sh.dp 12 8191 ?_
  refine Sh.dp 13 16383 ?_
  refine D.eff 14 32767 rfl D.wantedN (by kernel_rfl) (by kernel_rfl) (fun _ _ h => h) ?_
  refine Z.st hS rfl (by repeat (first | exact At.here | apply At.next)) rfl rfl ?_
  clear hS; intro w hS
  refine ⟨HM.last (by kernel_rfl), ?_⟩
  refine D.done (by kernel_rfl) ?_
  repeat' (first|refine VP ?_|refine Sh.la hS ?_|refine Sh.lb ?_|refine Sh.lc ?_|refine Sh.su ?_|(refine Sh.sa hS ?_;clear hS;intro w hS)|((first|refine Sh.aa hS ?_|refine Sh.ab hS ?_|refine Sh.ac hS ?_);clear hS;intro g w hS hge)|refine Sh.ix ?_|refine Sh.up ?_|refine Sh.sl1 ?_|refine Sh.sl2 ?_|refine Sh.sl5 ?_|refine Sh.sl3 ?_|refine Sh.sl4 ?_|refine Sh.eq ?_|refine Sh.ne ?_|refine Sh.ix2 ?_|refine Sh.ix3 ?_|refine Z.bu rfl rfl ?_|refine Z.buA rfl rfl ?_|refine VM ?_|refine Z.pl (R.cap rfl rfl) ?_|refine Z.pl R.mf ?_|refine Z.pl (R.min2 rfl rfl) ?_|refine G1 ?_|refine G2 ?_|refine G3 ?_|refine G4 ?_|with_reducible (first|refine V0 ?_|refine Z.block ?_)|((with_reducible refine Z.blX ?_ ?_);rotate_left;rfl)|refine VT ?_|refine VF ?_|((first|refine GS ?_ ?_|refine VB ?_ ?_)<;>intro hb<;>(try simp only [J1,J2,J3,J4,J5,J6] at hb)<;>(try (exfalso;first|omega|exact hb trivial))))
  refine Z.eff (Z.cl (pnone_z _ _ _ hS) rfl ?_) rfl
  clear hS
  rintro e w ⟨gs1, gq1, gt1, rfl, hS⟩
  refine ⟨_, rfl, ?_⟩
  repeat' (first|refine VP ?_|refine Sh.la hS ?_|refine Sh.lb ?_|refine Sh.lc ?_|refine Sh.su ?_|(refine Sh.sa hS ?_;clear hS;intro w hS)|((first|refine Sh.aa hS ?_|refine Sh.ab hS ?_|refine Sh.ac hS ?_);clear hS;intro g w hS hge)|refine Sh.ix ?_|refine Sh.up ?_|refine Sh.sl1 ?_|refine Sh.sl2 ?_|refine Sh.sl5 ?_|refine Sh.sl3 ?_|refine Sh.sl4 ?_|refine Sh.eq ?_|refine Sh.ne ?_|refine Sh.ix2 ?_|refine Sh.ix3 ?_|refine Z.bu rfl rfl ?_|refine Z.buA rfl rfl ?_|refine VM ?_|refine Z.pl (R.cap rfl rfl) ?_|refine Z.pl R.mf ?_|refine Z.pl (R.min2 rfl rfl) ?_|refine G1 ?_|refine G2 ?_|refine G3 ?_|refine G4 ?_|with_reducible (first|refine V0 ?_|refine Z.block ?_)|((with_reducible refine Z.blX ?_ ?_);rotate_left;rfl)|refine VT ?_|refine VF ?_|((first|refine GS ?_ ?_|refine VB ?_ ?_)<;>intro hb<;>(try simp only [J1,J2,J3,J4,J5,J6] at hb)<;>(try (exfalso;first|omega|exact hb trivial))))
  have hH := hg.take k
  have hHl : (c.h.take k).length = k := by rw [List.length_take]; omega
  refine Z.lpS [6, 38, 39, 40, 41, 42, 43, 44, 45, 46, 47, 48] (fun m w s => ∃ j : Nat, s = [(38, .int .i64 j)] ∧ j ≤ (c.h.take k).length ∧ m = (c.h.take k).length - j ∧ Sep r [] (.blk g 120 [.int .i64 cell, .int .i64 ten, .slice A1 (c.h.take k).length c1, .pointer (some ⟨gs1, 0, .none⟩), .pointer (some ⟨gq1, 0, .none⟩), .pointer (some ⟨gt1, 0, .none⟩), vg] :: .sl 49 8 (.slice A1 (c.h.take k).length c1) ((c.h.take k).map Ch.cells) :: PS gs1 (cpOf ((c.h.take k).take j)).s :: PQ gq1 (cpOf ((c.h.take k).take j)).q :: PT gt1 (cpOf ((c.h.take k).take j)).t :: F) w) _ [(38, .int .i64 (0 : Nat))] (by repeat (first | exact trivial | refine ⟨rfl, ?_⟩)) ⟨0, rfl, by omega, rfl, hS.sb⟩ ?_
  clear hS
  rintro m f0 w _ ⟨j, rfl, hj, rfl, hS⟩
  by_cases hlt : j < (c.h.take k).length
  · obtain ⟨gb, o, rfl, _, hra⟩ := (hS.slrows (e := 49) (v := .slice A1 (c.h.take k).length c1) (by repeat (first | exact At.here | apply At.next))).mat (by omega) hlt
    have hgj := (hH.take j).good.1.cok
    repeat' (first|refine VP ?_|refine Sh.la hS ?_|refine Sh.lb ?_|refine Sh.lc ?_|refine Sh.su ?_|(refine Sh.sa hS ?_;clear hS;intro w hS)|((first|refine Sh.aa hS ?_|refine Sh.ab hS ?_|refine Sh.ac hS ?_);clear hS;intro g w hS hge)|refine Sh.ix ?_|refine Sh.up ?_|refine Sh.sl1 ?_|refine Sh.sl2 ?_|refine Sh.sl5 ?_|refine Sh.sl3 ?_|refine Sh.sl4 ?_|refine Sh.eq ?_|refine Sh.ne ?_|refine Sh.ix2 ?_|refine Sh.ix3 ?_|refine Z.bu rfl rfl ?_|refine Z.buA rfl rfl ?_|refine VM ?_|refine Z.pl (R.cap rfl rfl) ?_|refine Z.pl R.mf ?_|refine Z.pl (R.min2 rfl rfl) ?_|refine G1 ?_|refine G2 ?_|refine G3 ?_|refine G4 ?_|with_reducible (first|refine V0 ?_|refine Z.block ?_)|((with_reducible refine Z.blX ?_ ?_);rotate_left;rfl)|refine VT ?_|refine VF ?_|((first|refine GS ?_ ?_|refine VB ?_ ?_)<;>intro hb<;>(try simp only [J1,J2,J3,J4,J5,J6] at hb)<;>(try (exfalso;first|omega|exact hb trivial))))
    rename Nat => gx
    refine D.startS (Lr := [.blk gx 49 (c.h.take k)[j].cells, .blk g 120 [.int .i64 cell, .int .i64 ten, .slice (some ⟨gb, o, .none⟩) (c.h.take k).length c1, .pointer (some ⟨gs1, 0, .none⟩), .pointer (some ⟨gq1, 0, .none⟩), .pointer (some ⟨gt1, 0, .none⟩), vg]]) (hS.sb) 6 6 (by kernel_rfl) rfl ?_
    replace hS := hS.drew
    refine Sh.dp 0 1 ?_
    refine Sh.dp 1 3 ?_
    refine Sh.dp 2 7 ?_
    refine Sh.dl 3 15 ?_
    refine Sh.dl 4 31 ?_
    refine D.eff 5 63 rfl D.wantedN (by kernel_rfl) (by kernel_rfl) (fun _ _ h => h) ?_
    replace hS := hS.sub (L' := PS gs1 _ :: PQ gq1 _ :: PT gt1 _ :: .blk gx _ _ :: .blk g _ _ :: .sl 49 8 _ _ :: F) (by repeat (first | exact Sub.rest | exact Sub.nil | exact .skip .rest | exact .skip (.skip .rest) | exact .skip (.skip (.skip .rest)) | apply Sub.keep | refine Sub.cons (by repeat (first | exact At.here | apply At.next)) ?_ | apply Sub.skip))
    refine Z.cl (padd_z gs1 gq1 gt1 _ _ _ (c.h.take k)[j] _ _ _ hS hgj.t hgj.ss hgj.s hgj.l hgj.r) rfl ?_
    clear hS
    rintro e w ⟨rfl, hS⟩
    refine ⟨_, rfl, ?_⟩
    rw [addS_next hH hlt] at hS
    refine ⟨HM.s (hS.sb), ?_⟩
    refine D.done (by kernel_rfl) ?_
    repeat' (first|refine VP ?_|refine Sh.la hS ?_|refine Sh.lb ?_|refine Sh.lc ?_|refine Sh.su ?_|(refine Sh.sa hS ?_;clear hS;intro w hS)|((first|refine Sh.aa hS ?_|refine Sh.ab hS ?_|refine Sh.ac hS ?_);clear hS;intro g w hS hge)|refine Sh.ix ?_|refine Sh.up ?_|refine Sh.sl1 ?_|refine Sh.sl2 ?_|refine Sh.sl5 ?_|refine Sh.sl3 ?_|refine Sh.sl4 ?_|refine Sh.eq ?_|refine Sh.ne ?_|refine Sh.ix2 ?_|refine Sh.ix3 ?_|refine Z.bu rfl rfl ?_|refine Z.buA rfl rfl ?_|refine VM ?_|refine Z.pl (R.cap rfl rfl) ?_|refine Z.pl R.mf ?_|refine Z.pl (R.min2 rfl rfl) ?_|refine G1 ?_|refine G2 ?_|refine G3 ?_|refine G4 ?_|with_reducible (first|refine V0 ?_|refine Z.block ?_)|((with_reducible refine Z.blX ?_ ?_);rotate_left;rfl)|refine VT ?_|refine VF ?_|((first|refine GS ?_ ?_|refine VB ?_ ?_)<;>intro hb<;>(try simp only [J1,J2,J3,J4,J5,J6] at hb)<;>(try (exfalso;first|omega|exact hb trivial))))
    refine Sh.again ((c.h.take k).length - (j + 1)) [(38, .int .i64 (j + 1 : Nat))] ?_
    exact ⟨j + 1, rfl, by omega, rfl, hS.sb⟩
  · repeat' (first|refine VP ?_|refine Sh.la hS ?_|refine Sh.lb ?_|refine Sh.lc ?_|refine Sh.su ?_|(refine Sh.sa hS ?_;clear hS;intro w hS)|((first|refine Sh.aa hS ?_|refine Sh.ab hS ?_|refine Sh.ac hS ?_);clear hS;intro g w hS hge)|refine Sh.ix ?_|refine Sh.up ?_|refine Sh.sl1 ?_|refine Sh.sl2 ?_|refine Sh.sl5 ?_|refine Sh.sl3 ?_|refine Sh.sl4 ?_|refine Sh.eq ?_|refine Sh.ne ?_|refine Sh.ix2 ?_|refine Sh.ix3 ?_|refine Z.bu rfl rfl ?_|refine Z.buA rfl rfl ?_|refine VM ?_|refine Z.pl (R.cap rfl rfl) ?_|refine Z.pl R.mf ?_|refine Z.pl (R.min2 rfl rfl) ?_|refine G1 ?_|refine G2 ?_|refine G3 ?_|refine G4 ?_|with_reducible (first|refine V0 ?_|refine Z.block ?_)|((with_reducible refine Z.blX ?_ ?_);rotate_left;rfl)|refine VT ?_|refine VF ?_|((first|refine GS ?_ ?_|refine VB ?_ ?_)<;>intro hb<;>(try simp only [J1,J2,J3,J4,J5,J6] at hb)<;>(try (exfalso;first|omega|exact hb trivial))))
    first | refine Z.done hS Tryz.results48 (Z.RV.tmp rfl Z.RV.nil) ?_ | refine Z.doneN hS Tryz.results48 (Z.RV.tmp rfl Z.RV.nil) ?_
    rw [List.take_of_length_le (l := c.h.take k) (by omega)] at hS
    have h1 := (hg.take k).good
    unfold cutC
    refine .inr ⟨⟨by omega, by omega⟩, rfl, Sep.PC_open.2 ⟨A1, c1, gs1, gq1, gt1, ?_⟩⟩
    rw [Int.toNat_natCast, h1.2.1]
    exact hS

set_option maxHeartbeats 1000000 in
theorem pcsame_z (g g' : Nat) (cell ten cell' ten' : Int) (vg vg' : Value) (c c' : Cp) (r : World) (F : List Res) (w : World) (hS : Sep r [] (PC g cell ten vg c :: PC g' cell' ten' vg' c' :: F) w) (hl : c.h.length ≤ 5000) (hl' : c'.h.length ≤ 5000) :
    Calls Tryz.prog 40 #[.pointer (some ⟨g, 0, .none⟩), .pointer (some ⟨g', 0, .none⟩)] w fun e w' => e = .returned (.bool (decide (ten = ten' ∧ c.h = c'.h))) ∧ Sep r [] (PC g cell ten vg c :: PC g' cell' ten' vg' c' :: F) w' := by
  obtain ⟨A, cap, gs, gq, gt, hS⟩ := Sep.PC_open.1 hS
  obtain ⟨A', cap', gs', gq', gt', hS⟩ := Sep.PC_open.1 (hS.sub (L' := PC g' cell' ten' vg' c' :: .blk g _ _ :: .sl 49 8 (.slice A c.h.length cap) _ :: PS gs _ :: PQ gq _ :: PT gt _ :: F) (by repeat (first | exact Sub.rest | exact Sub.nil | exact .skip .rest | exact .skip (.skip .rest) | exact .skip (.skip (.skip .rest)) | apply Sub.keep | refine Sub.cons (by repeat (first | exact At.here | apply At.next)) ?_ | apply Sub.skip)))
  refine Z.enter Tryz.func40 Tryz.ntmps40 rfl rfl ?_
  repeat' (first|refine VP ?_|refine Sh.la hS ?_|refine Sh.lb ?_|refine Sh.lc ?_|refine Sh.su ?_|(refine Sh.sa hS ?_;clear hS;intro w hS)|((first|refine Sh.aa hS ?_|refine Sh.ab hS ?_|refine Sh.ac hS ?_);clear hS;intro g w hS hge)|refine Sh.ix ?_|refine Sh.up ?_|refine Sh.sl1 ?_|refine Sh.sl2 ?_|refine Sh.sl5 ?_|refine Sh.sl3 ?_|refine Sh.sl4 ?_|refine Sh.eq ?_|refine Sh.ne ?_|refine Sh.ix2 ?_|refine Sh.ix3 ?_|refine Z.bu rfl rfl ?_|refine Z.buA rfl rfl ?_|refine VM ?_|refine Z.pl (R.cap rfl rfl) ?_|refine Z.pl R.mf ?_|refine Z.pl (R.min2 rfl rfl) ?_|refine G1 ?_|refine G2 ?_|refine G3 ?_|refine G4 ?_|with_reducible (first|refine V0 ?_|refine Z.block ?_)|((with_reducible refine Z.blX ?_ ?_);rotate_left;rfl)|refine VT ?_|refine VF ?_|((first|refine GS ?_ ?_|refine VB ?_ ?_)<;>intro hb<;>(try simp only [J1,J2,J3,J4,J5,J6] at hb)<;>(try (exfalso;first|omega|exact hb trivial))))
  refine D.startS hS 21 21 (by kernel_rfl) rfl ?_
  replace hS := hS.drew
  refine Sh.dp 0 1 ?_
  refine Sh.dp 1 3 ?_
  refine Sh.dp 2 7 ?_
  refine Sh.dp 4 23 ?_
  refine Sh.dp 5 55 ?_
  refine Sh.dp 6 119 ?_
  refine Sh.dl 3 127 ?_
  refine Sh.dl 7 255 ?_
  first | refine D.pr 8 511 rfl D.wantedN (by kernel_rfl) rfl ?_ | refine D.pl 8 511 rfl D.wantedN (by kernel_rfl) (R.eqa rfl rfl rfl rfl) ?_
  refine Sh.dp 9 1023 ?_
  refine D.slot 14 rfl (fun hb => ?_) (fun hb => ?_)
  · (try simp only [decide_eq_true_eq, decide_eq_false_iff_not, Bool.not_eq_true', Bool.not_eq_false', Int.not_lt, Int.not_le] at hb)
    refine Sh.dp 10 2047 ?_
    refine Sh.dp 11 4095 ?_
    refine Sh.dp 12 8191 ?_
    refine Sh.dp 14 24575 ?_
    refine Sh.dp 15 57343 ?_
    refine Sh.dp 16 122879 ?_
    refine Sh.dl 13 131071 ?_
    refine Sh.dl 17 262143 ?_
    refine D.eff 18 524287 rfl (D.wantedT rfl rfl) (by kernel_rfl) (by kernel_rfl) (fun _ _ h => h) ?_
    refine WE.guard ?_
    refine Z.cl (chequal_z c.h c'.h _ _ _ _ _ hS (Reads.of_at (e := 49) (by repeat (first | exact At.here | apply At.next))) (Reads.of_at (e := 49) (by repeat (first | exact At.here | apply At.next))) (by omega) (by omega)) rfl ?_
    clear hS
    rintro e w ⟨rfl, hS⟩
    refine ⟨_, rfl, ?_⟩
    refine ⟨HM.s (hS.sb), ?_⟩
    refine Sh.dp 19 1048575 ?_
    refine Sh.dp 20 2097151 ?_
    refine D.done (by kernel_rfl) ?_
    repeat' (first|refine VP ?_|refine Sh.la hS ?_|refine Sh.lb ?_|refine Sh.lc ?_|refine Sh.su ?_|(refine Sh.sa hS ?_;clear hS;intro w hS)|((first|refine Sh.aa hS ?_|refine Sh.ab hS ?_|refine Sh.ac hS ?_);clear hS;intro g w hS hge)|refine Sh.ix ?_|refine Sh.up ?_|refine Sh.sl1 ?_|refine Sh.sl2 ?_|refine Sh.sl5 ?_|refine Sh.sl3 ?_|refine Sh.sl4 ?_|refine Sh.eq ?_|refine Sh.ne ?_|refine Sh.ix2 ?_|refine Sh.ix3 ?_|refine Z.bu rfl rfl ?_|refine Z.buA rfl rfl ?_|refine VM ?_|refine Z.pl (R.cap rfl rfl) ?_|refine Z.pl R.mf ?_|refine Z.pl (R.min2 rfl rfl) ?_|refine G1 ?_|refine G2 ?_|refine G3 ?_|refine G4 ?_|with_reducible (first|refine V0 ?_|refine Z.block ?_)|((with_reducible refine Z.blX ?_ ?_);rotate_left;rfl)|refine VT ?_|refine VF ?_|((first|refine GS ?_ ?_|refine VB ?_ ?_)<;>intro hb<;>(try simp only [J1,J2,J3,J4,J5,J6] at hb)<;>(try (exfalso;first|omega|exact hb trivial))))
    first | refine Z.done hS Tryz.results40 (Z.RV.tmp rfl Z.RV.nil) ?_ | refine Z.doneN hS Tryz.results40 (Z.RV.tmp rfl Z.RV.nil) ?_
    refine ⟨by simp [hb, Z.packR], ?_⟩
    replace hS := Sep.PC_open.2 ⟨A, cap, gs, gq, gt, hS.sub (L' := .blk g _ _ :: .sl 49 8 (.slice A c.h.length cap) _ :: PS gs _ :: PQ gq _ :: PT gt _ :: .blk g' _ _ :: .sl 49 8 (.slice A' c'.h.length cap') _ :: PS gs' _ :: PQ gq' _ :: PT gt' _ :: F) (by repeat (first | exact Sub.rest | exact Sub.nil | exact .skip .rest | exact .skip (.skip .rest) | exact .skip (.skip (.skip .rest)) | apply Sub.keep | refine Sub.cons (by repeat (first | exact At.here | apply At.next)) ?_ | apply Sub.skip))⟩
    exact (Sep.PC_open.2 ⟨A', cap', gs', gq', gt', hS.sub (L' := .blk g' _ _ :: .sl 49 8 (.slice A' c'.h.length cap') _ :: PS gs' _ :: PQ gq' _ :: PT gt' _ :: PC g cell ten vg c :: F) (by repeat (first | exact Sub.rest | exact Sub.nil | exact .skip .rest | exact .skip (.skip .rest) | exact .skip (.skip (.skip .rest)) | apply Sub.keep | refine Sub.cons (by repeat (first | exact At.here | apply At.next)) ?_ | apply Sub.skip))⟩).swap
  · (try simp only [decide_eq_true_eq, decide_eq_false_iff_not, Bool.not_eq_true', Bool.not_eq_false', Int.not_lt, Int.not_le] at hb)
    refine D.skF 10 2047 rfl (by kernel_rfl) rfl rfl ?_
    refine D.skF 11 4095 rfl (by kernel_rfl) rfl rfl ?_
    refine D.skF 12 8191 rfl (by kernel_rfl) rfl rfl ?_
    refine D.skF 13 16383 rfl (by kernel_rfl) rfl rfl ?_
    refine D.skF 14 32767 rfl (by kernel_rfl) rfl rfl ?_
    refine D.skF 15 65535 rfl (by kernel_rfl) rfl rfl ?_
    refine D.skF 16 131071 rfl (by kernel_rfl) rfl rfl ?_
    refine D.skF 17 262143 rfl (by kernel_rfl) rfl rfl ?_
    refine D.skF 18 524287 rfl (by kernel_rfl) rfl rfl ?_
    refine Sh.dp 19 1048575 ?_
    refine Sh.dp 20 2097151 ?_
    refine D.done (by kernel_rfl) ?_
    repeat' (first|refine VP ?_|refine Sh.la hS ?_|refine Sh.lb ?_|refine Sh.lc ?_|refine Sh.su ?_|(refine Sh.sa hS ?_;clear hS;intro w hS)|((first|refine Sh.aa hS ?_|refine Sh.ab hS ?_|refine Sh.ac hS ?_);clear hS;intro g w hS hge)|refine Sh.ix ?_|refine Sh.up ?_|refine Sh.sl1 ?_|refine Sh.sl2 ?_|refine Sh.sl5 ?_|refine Sh.sl3 ?_|refine Sh.sl4 ?_|refine Sh.eq ?_|refine Sh.ne ?_|refine Sh.ix2 ?_|refine Sh.ix3 ?_|refine Z.bu rfl rfl ?_|refine Z.buA rfl rfl ?_|refine VM ?_|refine Z.pl (R.cap rfl rfl) ?_|refine Z.pl R.mf ?_|refine Z.pl (R.min2 rfl rfl) ?_|refine G1 ?_|refine G2 ?_|refine G3 ?_|refine G4 ?_|with_reducible (first|refine V0 ?_|refine Z.block ?_)|((with_reducible refine Z.blX ?_ ?_);rotate_left;rfl)|refine VT ?_|refine VF ?_|((first|refine GS ?_ ?_|refine VB ?_ ?_)<;>intro hb<;>(try simp only [J1,J2,J3,J4,J5,J6] at hb)<;>(try (exfalso;first|omega|exact hb trivial))))
    first | refine Z.done hS Tryz.results40 (Z.RV.tmp rfl Z.RV.nil) ?_ | refine Z.doneN hS Tryz.results40 (Z.RV.tmp rfl Z.RV.nil) ?_
    refine ⟨by simp [hb, Z.packR], ?_⟩
    replace hS := Sep.PC_open.2 ⟨A, cap, gs, gq, gt, hS.sub (L' := .blk g _ _ :: .sl 49 8 (.slice A c.h.length cap) _ :: PS gs _ :: PQ gq _ :: PT gt _ :: .blk g' _ _ :: .sl 49 8 (.slice A' c'.h.length cap') _ :: PS gs' _ :: PQ gq' _ :: PT gt' _ :: F) (by repeat (first | exact Sub.rest | exact Sub.nil | exact .skip .rest | exact .skip (.skip .rest) | exact .skip (.skip (.skip .rest)) | apply Sub.keep | refine Sub.cons (by repeat (first | exact At.here | apply At.next)) ?_ | apply Sub.skip))⟩
    exact (Sep.PC_open.2 ⟨A', cap', gs', gq', gt', hS.sub (L' := .blk g' _ _ :: .sl 49 8 (.slice A' c'.h.length cap') _ :: PS gs' _ :: PQ gq' _ :: PT gt' _ :: PC g cell ten vg c :: F) (by repeat (first | exact Sub.rest | exact Sub.nil | exact .skip .rest | exact .skip (.skip .rest) | exact .skip (.skip (.skip .rest)) | apply Sub.keep | refine Sub.cons (by repeat (first | exact At.here | apply At.next)) ?_ | apply Sub.skip))⟩).swap

set_option maxHeartbeats 4000000 in
theorem rctrunc_z (g : Nat) (cell ten : Int) (vg : Value) (c : Cp) (n : Int) (r : World) (F : List Res) (w : World) (hS : Sep r [] (CR g cell ten vg c :: F) w) (hg : IsH c.h) (hl : c.h.length ≤ 1000) :
    Calls Tryz.prog 106 #[.pointer (some ⟨g, 0, .none⟩), .int .i64 n] w fun e w' => (¬ (0 ≤ n ∧ n ≤ c.h.length) ∧ e = .returned (.int .i64 1) ∧ Sep r [] (CR g cell ten vg c :: F) w') ∨
      ((0 ≤ n ∧ n ≤ c.h.length) ∧ e = .returned (.int .i64 0) ∧ Sep r [] (CR g cell ten vg (cutC c n.toNat) :: F) w') := by
  obtain ⟨vh, gs, gq, gt, vs, vl, vr, hS⟩ := Sep.CR_open.1 hS
  obtain ⟨Ah, ch, rfl, hch⟩ := (hS.slrows (.next .here)).mform
  refine Z.enter Tryz.func106 Tryz.ntmps106 rfl rfl ?_
  repeat' (first|refine VP ?_|refine Sh.la hS ?_|refine Sh.lb ?_|refine Sh.lc ?_|refine Sh.su ?_|(refine Sh.sa hS ?_;clear hS;intro w hS)|((first|refine Sh.aa hS ?_|refine Sh.ab hS ?_|refine Sh.ac hS ?_);clear hS;intro g w hS hge)|refine Sh.ix ?_|refine Sh.up ?_|refine Sh.sl1 ?_|refine Sh.sl2 ?_|refine Sh.sl5 ?_|refine Sh.sl3 ?_|refine Sh.sl4 ?_|refine Sh.eq ?_|refine Sh.ne ?_|refine Sh.ix2 ?_|refine Sh.ix3 ?_|refine Z.bu rfl rfl ?_|refine Z.buA rfl rfl ?_|refine VM ?_|refine Z.pl (R.cap rfl rfl) ?_|refine Z.pl R.mf ?_|refine Z.pl (R.min2 rfl rfl) ?_|refine G1 ?_|refine G2 ?_|refine G3 ?_|refine G4 ?_|with_reducible (first|refine V0 ?_|refine Z.block ?_)|((with_reducible refine Z.blX ?_ ?_);rotate_left;rfl)|refine VT ?_|refine VF ?_|((first|refine GS ?_ ?_|refine VB ?_ ?_)<;>intro hb<;>(try simp only [J1,J2,J3,J4,J5,J6] at hb)<;>(try (exfalso;first|omega|exact hb trivial))))
  · first | refine Z.done hS Tryz.results106 (Z.RV.tmp rfl Z.RV.nil) ?_ | refine Z.doneN hS Tryz.results106 (Z.RV.tmp rfl Z.RV.nil) ?_
    exact .inl ⟨by omega, rfl, Sep.CR_open.2 ⟨_, _, _, _, _, _, _, hS⟩⟩
  · first | refine Z.done hS Tryz.results106 (Z.RV.tmp rfl Z.RV.nil) ?_ | refine Z.doneN hS Tryz.results106 (Z.RV.tmp rfl Z.RV.nil) ?_
    exact .inl ⟨by omega, rfl, Sep.CR_open.2 ⟨_, _, _, _, _, _, _, hS⟩⟩
  obtain ⟨k, rfl⟩ := Int.eq_ofNat_of_zero_le (show 0 ≤ n by omega)
  have hk : k ≤ c.h.length := by omega
  have hkt : (k : Int).toNat = k := rfl
  refine D.startS hS 22 22 (by kernel_rfl) rfl ?_
  replace hS := hS.drew
  refine Sh.dp 0 1 ?_
  refine Sh.dp 1 3 ?_
  refine Sh.dp 2 7 ?_
  refine Sh.dp 4 23 ?_
  refine Sh.dp 5 55 ?_
  refine Sh.dp 6 119 ?_
  refine Sh.dp 8 375 ?_
  refine Sh.dp 9 887 ?_
  refine Sh.dp 10 1911 ?_
  refine Sh.dp 12 6007 ?_
  refine Sh.dl 3 6015 ?_
  refine Sh.dl 7 6143 ?_
  refine Sh.dl 11 8191 ?_
  refine D.pl 13 16383 rfl D.wantedN (by kernel_rfl) (R.upto rfl rfl rfl (by omega)) ?_
  refine D.eff 14 32767 rfl D.wantedN (by kernel_rfl) (by kernel_rfl) (fun _ _ h => h) ?_
  refine Z.cl (rcfold_ok cell ten (c.h.take k) _ _ _ _ hS (fun L w h => by have := (h.slrows (e := 49) (v := .slice Ah c.h.length ch) (at_app L (by repeat (first | exact At.here | apply At.next)))).mtake (show k ≤ c.h.length by omega); exact this) (by rw [List.length_take]; omega) (hg.take k)) rfl ?_
  clear hS
  rintro e w ⟨gd, gg, rfl, hS⟩
  refine ⟨_, rfl, ?_⟩
  refine ⟨HM.s (hS.sb), ?_⟩
  refine Sh.dp 15 65535 ?_
  refine Sh.dp 16 131071 ?_
  refine Sh.dp 17 262143 ?_
  refine Sh.dp 18 524287 ?_
  refine Sh.dp 19 1048575 ?_
  refine Sh.dp 20 2097151 ?_
  refine Sh.dp 21 4194303 ?_
  refine D.done (by kernel_rfl) ?_
  obtain ⟨vh1, gs1, gq1, gt1, vs1, vl1, vr1, hS⟩ := Sep.CR_open.1 hS
  obtain ⟨A1, c1, rfl, _⟩ := (hS.slrows (.next .here)).mform
  repeat' (first|refine VP ?_|refine Sh.la hS ?_|refine Sh.lb ?_|refine Sh.lc ?_|refine Sh.su ?_|(refine Sh.sa hS ?_;clear hS;intro w hS)|((first|refine Sh.aa hS ?_|refine Sh.ab hS ?_|refine Sh.ac hS ?_);clear hS;intro g w hS hge)|refine Sh.ix ?_|refine Sh.up ?_|refine Sh.sl1 ?_|refine Sh.sl2 ?_|refine Sh.sl5 ?_|refine Sh.sl3 ?_|refine Sh.sl4 ?_|refine Sh.eq ?_|refine Sh.ne ?_|refine Sh.ix2 ?_|refine Sh.ix3 ?_|refine Z.bu rfl rfl ?_|refine Z.buA rfl rfl ?_|refine VM ?_|refine Z.pl (R.cap rfl rfl) ?_|refine Z.pl R.mf ?_|refine Z.pl (R.min2 rfl rfl) ?_|refine G1 ?_|refine G2 ?_|refine G3 ?_|refine G4 ?_|with_reducible (first|refine V0 ?_|refine Z.block ?_)|((with_reducible refine Z.blX ?_ ?_);rotate_left;rfl)|refine VT ?_|refine VF ?_|((first|refine GS ?_ ?_|refine VB ?_ ?_)<;>intro hb<;>(try simp only [J1,J2,J3,J4,J5,J6] at hb)<;>(try (exfalso;first|omega|exact hb trivial))))
  refine D.startS (Lr := [.blk gd 69 [.int .i64 cell, .int .i64 ten, .slice A1 (cpOf (c.h.take k)).h.length c1, .pointer (some ⟨gs1, 0, .none⟩), .pointer (some ⟨gq1, 0, .none⟩), .pointer (some ⟨gt1, 0, .none⟩), .pointer (some ⟨gg, 0, .none⟩)]]) (hS.sb) 31 32 (by kernel_rfl) rfl ?_
  replace hS := hS.drew
  refine Sh.dp 0 1 ?_
  refine Sh.dp 1 3 ?_
  refine Sh.dp 2 7 ?_
  refine Sh.dp 3 15 ?_
  refine Sh.dp 4 31 ?_
  refine Sh.dp 5 63 ?_
  refine Sh.dp 6 127 ?_
  refine Sh.dp 8 383 ?_
  refine Sh.dp 9 895 ?_
  refine Sh.dp 10 1919 ?_
  refine Sh.dp 12 6015 ?_
  refine Sh.dp 13 14207 ?_
  refine Sh.dp 14 30591 ?_
  refine Sh.dp 16 96127 ?_
  refine Sh.dp 17 227199 ?_
  refine Sh.dp 18 489343 ?_
  refine Sh.dl 7 489471 ?_
  refine Sh.dl 11 491519 ?_
  refine Sh.dl 15 524287 ?_
  refine Sh.dl 19 1048575 ?_
  refine Sh.dp 20 2097151 ?_
  refine Sh.dp 21 4194303 ?_
  refine D.eff 22 8388607 rfl D.wantedN (by kernel_rfl) (by kernel_rfl) (fun _ _ h => h) ?_
  refine Z.st hS rfl (by repeat (first | exact At.here | apply At.next)) rfl rfl ?_
  clear hS; intro w hS
  refine ⟨HM.s (hS.sb), ?_⟩
  refine Sh.dp 23 16777215 ?_
  refine Sh.dp 24 33554431 ?_
  refine D.eff 25 67108863 rfl D.wantedN (by kernel_rfl) (by kernel_rfl) (fun _ _ h => h) ?_
  refine Z.st hS rfl (by repeat (first | exact At.here | apply At.next)) rfl rfl ?_
  clear hS; intro w hS
  refine ⟨HM.s (hS.sb), ?_⟩
  refine Sh.dp 26 134217727 ?_
  refine Sh.dp 27 268435455 ?_
  refine D.eff 28 536870911 rfl D.wantedN (by kernel_rfl) (by kernel_rfl) (fun _ _ h => h) ?_
  refine Z.st hS rfl (by repeat (first | exact At.here | apply At.next)) rfl rfl ?_
  clear hS; intro w hS
  refine ⟨HM.s (hS.sb), ?_⟩
  refine Sh.dp 29 1073741823 ?_
  refine Sh.dp 30 2147483647 ?_
  refine D.eff 31 4294967295 rfl D.wantedN (by kernel_rfl) (by kernel_rfl) (fun _ _ h => h) ?_
  refine Z.st hS rfl (by repeat (first | exact At.here | apply At.next)) rfl rfl ?_
  clear hS; intro w hS
  refine ⟨HM.last (by kernel_rfl), ?_⟩
  refine D.done (by kernel_rfl) ?_
  repeat' (first|refine VP ?_|refine Sh.la hS ?_|refine Sh.lb ?_|refine Sh.lc ?_|refine Sh.su ?_|(refine Sh.sa hS ?_;clear hS;intro w hS)|((first|refine Sh.aa hS ?_|refine Sh.ab hS ?_|refine Sh.ac hS ?_);clear hS;intro g w hS hge)|refine Sh.ix ?_|refine Sh.up ?_|refine Sh.sl1 ?_|refine Sh.sl2 ?_|refine Sh.sl5 ?_|refine Sh.sl3 ?_|refine Sh.sl4 ?_|refine Sh.eq ?_|refine Sh.ne ?_|refine Sh.ix2 ?_|refine Sh.ix3 ?_|refine Z.bu rfl rfl ?_|refine Z.buA rfl rfl ?_|refine VM ?_|refine Z.pl (R.cap rfl rfl) ?_|refine Z.pl R.mf ?_|refine Z.pl (R.min2 rfl rfl) ?_|refine G1 ?_|refine G2 ?_|refine G3 ?_|refine G4 ?_|with_reducible (first|refine V0 ?_|refine Z.block ?_)|((with_reducible refine Z.blX ?_ ?_);rotate_left;rfl)|refine VT ?_|refine VF ?_|((first|refine GS ?_ ?_|refine VB ?_ ?_)<;>intro hb<;>(try simp only [J1,J2,J3,J4,J5,J6] at hb)<;>(try (exfalso;first|omega|exact hb trivial))))
  first | refine Z.done hS Tryz.results106 (Z.RV.tmp rfl Z.RV.nil) ?_ | refine Z.doneN hS Tryz.results106 (Z.RV.tmp rfl Z.RV.nil) ?_
  have h1 := (hg.take k).good
  unfold cutC
  refine .inr ⟨⟨by omega, by omega⟩, rfl, Sep.CR_open.2 ⟨.slice A1 (cpOf (c.h.take k)).h.length c1, gs1, gq1, gt1, vs1, vl1, vr1, ?_⟩⟩
  exact hS.sb
end Go.Proofs.YtahackdfjcgkhaaGreat
