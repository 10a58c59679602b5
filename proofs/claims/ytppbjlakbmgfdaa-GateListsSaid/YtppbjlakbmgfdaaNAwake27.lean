/-
  The sanity check of the statements about gates.
-/
import Derived.Test.YtppbjlakbmgfdaaNLaw27
namespace Go.Proofs.Ytppbjlakbmgfdaa
open Go.RowKit
set_option linter.unusedSimpArgs false
set_option linter.unusedVariables false
attribute [local irreducible] Res.blk Res.sl Res.all Res.ex Res.pure Res.star

theorem aw1 : giveP ⟨2, 0, []⟩ ⟨2, 1, 0, 0, 10⟩ = (⟨2, 0, [⟨2, 1, 0, 0, 10⟩]⟩, 0) := by simp [giveP, okW, insW]
theorem aw2 : giveP ⟨2, 0, [⟨2, 1, 0, 0, 10⟩]⟩ ⟨2, 1, 0, 10, 15⟩ = (⟨2, 0, [⟨2, 1, 0, 0, 10⟩, ⟨2, 1, 0, 10, 15⟩]⟩, 0) := by simp [giveP, okW, insW, ltW]
theorem mx01 : max (0 : Int) 1 = 1 := by decide
theorem mx3 : max (3 : Int) 10 = 10 := by decide
theorem mx10 : max (10 : Int) 15 = 15 := by decide
theorem aw3 : closeP ⟨2, 0, [⟨2, 1, 0, 0, 10⟩, ⟨2, 1, 0, 10, 15⟩]⟩ 1 = (⟨2, 1, []⟩, 0) := by simp [closeP, List.filter, mx01]
theorem aw4 : giveP ⟨2, 1, []⟩ ⟨2, 1, 0, 15, 20⟩ = (⟨2, 1, []⟩, 7) := by simp [giveP, okW]
theorem aw5 : giveP ⟨2, 1, []⟩ ⟨2, 2, 0, 6, 12⟩ = (⟨2, 1, [⟨2, 2, 0, 6, 12⟩]⟩, 0) := by simp [giveP, okW, insW]
theorem aw6 : accs [⟨2, 1, 0, 0, 10⟩] 0 9 0 = 1 := by simp [accs, mx01]
theorem aw7 : accs [⟨2, 1, 0, 0, 10⟩] 0 10 0 = 0 := by simp [accs]
theorem aw8 : accs [⟨2, 1, 0, 0, 10⟩] 1 9 0 = 0 := by simp [accs]
theorem aw9 : untl [⟨2, 1, 0, 0, 10⟩, ⟨2, 1, 0, 10, 15⟩] 0 3 = 15 := by simp [untl, mx3, mx10]
set_option maxHeartbeats 4000000 in
theorem awake27_z (r : World) (F : List Res) (w : World) (hS : Sep r [] F w) : Calls Try.prog 31 #[] w fun e w' => e = .returned (.bool true) ∧ Sep r [] F w' := by
  refine Z.enter Try.func31 Try.ntmps31 rfl rfl ?_
  repeat' (first
    | refine Z.pr rfl ?_
    | refine Z.eff (Z.ld hS rfl (by repeat (first | exact At.here | apply At.next)) rfl ?_) rfl
    | refine Z.eff (Z.ldR rfl (by assumption) rfl ?_) rfl
    | refine Z.eff (Z.ldE rfl (by assumption) rfl ?_) rfl
    | refine Z.sum rfl (by constructor <;> omega) ?_
    | (refine Z.eff (Z.st hS rfl (by repeat (first | exact At.here | apply At.next)) rfl rfl ?_) rfl; clear hS; intro w hS)
    | (refine Z.eff (Z.al hS ?_) rfl; clear hS; intro g w hS hge)
    | (refine Z.eff (Z.bx hS rfl ?_) rfl; clear hS; intro g w hS hge)
    | refine Z.ixn rfl rfl rfl (by omega) ?_
    | refine Z.pl (R.upto rfl rfl rfl (by omega)) ?_
    | refine Z.pl (R.sinceL rfl rfl rfl (by omega) (by omega)) ?_
    | refine Z.pl (R.since rfl rfl rfl (by omega)) ?_
    | refine Z.pl (R.span rfl rfl rfl rfl (by omega) (by omega)) ?_
    | refine Z.pl (R.whole rfl rfl) ?_
    | refine Z.pl (R.eqa rfl rfl rfl rfl) ?_
    | refine Z.pl (R.nea rfl rfl rfl rfl) ?_
    | refine Z.ix rfl rfl rfl (by omega) ?_
    | refine Z.ia rfl rfl rfl (by omega) ?_
    | refine Z.bu rfl rfl ?_
    | refine Z.pl (R.max2 rfl rfl) ?_
    | refine Z.pl (R.cap rfl rfl) ?_
    | refine Z.pl R.mf ?_
    | (refine Z.eff (Z.bs hS rfl rfl rfl ?_) rfl; clear hS; intro g w hS hge)
    | refine Z.gT rfl rfl ?_
    | refine Z.gF rfl rfl ?_
    | refine Z.gF0 rfl rfl ?_
    | (refine Z.gS rfl rfl ?_ ?_ <;> intro hb <;> (try simp only [decide_eq_true_eq, decide_eq_false_iff_not, Bool.not_eq_true', Bool.not_eq_false', Int.not_lt, Int.not_le] at hb) <;> (try (exfalso; first | omega | exact hb trivial)))
    | with_reducible refine Z.seq ?_
    | with_reducible refine Z.reg ?_
    | with_reducible refine Z.nil ?_
    | with_reducible refine Z.skip ?_
    | with_reducible refine Z.exit ?_
    | with_reducible refine Z.ret ?_
    | with_reducible refine Z.block ?_
    | with_reducible refine Z.thN ?_
    | with_reducible refine Z.thU ?_
    | with_reducible refine Z.thE ?_
    | with_reducible refine Z.thR ?_
    | with_reducible refine Z.blN ?_
    | with_reducible refine Z.blR ?_
    | with_reducible refine Z.blE ?_
    | (with_reducible refine Z.blX ?_ ?_; rotate_left; rfl)
    | refine Z.brT rfl ?_
    | refine Z.brF rfl ?_
    | (refine Z.br rfl ?_ ?_ <;> intro hb <;> (try simp only [decide_eq_true_eq, decide_eq_false_iff_not, Bool.not_eq_true', Bool.not_eq_false', Int.not_lt, Int.not_le] at hb) <;> (try (exfalso; first | omega | exact hb trivial))))
  refine Z.eff (Z.cl (gnew_z 2 _ _ _ hS) rfl ?_) rfl
  clear hS
  rintro e w ⟨gp, rfl, hS⟩
  refine ⟨_, rfl, ?_⟩
  repeat' (first
    | refine Z.pr rfl ?_
    | refine Z.eff (Z.ld hS rfl (by repeat (first | exact At.here | apply At.next)) rfl ?_) rfl
    | refine Z.eff (Z.ldR rfl (by assumption) rfl ?_) rfl
    | refine Z.eff (Z.ldE rfl (by assumption) rfl ?_) rfl
    | refine Z.sum rfl (by constructor <;> omega) ?_
    | (refine Z.eff (Z.st hS rfl (by repeat (first | exact At.here | apply At.next)) rfl rfl ?_) rfl; clear hS; intro w hS)
    | (refine Z.eff (Z.al hS ?_) rfl; clear hS; intro g w hS hge)
    | (refine Z.eff (Z.bx hS rfl ?_) rfl; clear hS; intro g w hS hge)
    | refine Z.ixn rfl rfl rfl (by omega) ?_
    | refine Z.pl (R.upto rfl rfl rfl (by omega)) ?_
    | refine Z.pl (R.sinceL rfl rfl rfl (by omega) (by omega)) ?_
    | refine Z.pl (R.since rfl rfl rfl (by omega)) ?_
    | refine Z.pl (R.span rfl rfl rfl rfl (by omega) (by omega)) ?_
    | refine Z.pl (R.whole rfl rfl) ?_
    | refine Z.pl (R.eqa rfl rfl rfl rfl) ?_
    | refine Z.pl (R.nea rfl rfl rfl rfl) ?_
    | refine Z.ix rfl rfl rfl (by omega) ?_
    | refine Z.ia rfl rfl rfl (by omega) ?_
    | refine Z.bu rfl rfl ?_
    | refine Z.pl (R.max2 rfl rfl) ?_
    | refine Z.pl (R.cap rfl rfl) ?_
    | refine Z.pl R.mf ?_
    | (refine Z.eff (Z.bs hS rfl rfl rfl ?_) rfl; clear hS; intro g w hS hge)
    | refine Z.gT rfl rfl ?_
    | refine Z.gF rfl rfl ?_
    | refine Z.gF0 rfl rfl ?_
    | (refine Z.gS rfl rfl ?_ ?_ <;> intro hb <;> (try simp only [decide_eq_true_eq, decide_eq_false_iff_not, Bool.not_eq_true', Bool.not_eq_false', Int.not_lt, Int.not_le] at hb) <;> (try (exfalso; first | omega | exact hb trivial)))
    | with_reducible refine Z.seq ?_
    | with_reducible refine Z.reg ?_
    | with_reducible refine Z.nil ?_
    | with_reducible refine Z.skip ?_
    | with_reducible refine Z.exit ?_
    | with_reducible refine Z.ret ?_
    | with_reducible refine Z.block ?_
    | with_reducible refine Z.thN ?_
    | with_reducible refine Z.thU ?_
    | with_reducible refine Z.thE ?_
    | with_reducible refine Z.thR ?_
    | with_reducible refine Z.blN ?_
    | with_reducible refine Z.blR ?_
    | with_reducible refine Z.blE ?_
    | (with_reducible refine Z.blX ?_ ?_; rotate_left; rfl)
    | refine Z.brT rfl ?_
    | refine Z.brF rfl ?_
    | (refine Z.br rfl ?_ ?_ <;> intro hb <;> (try simp only [decide_eq_true_eq, decide_eq_false_iff_not, Bool.not_eq_true', Bool.not_eq_false', Int.not_lt, Int.not_le] at hb) <;> (try (exfalso; first | omega | exact hb trivial))))
  refine Z.eff (Z.cl (ggive_z gp _ ⟨2, 1, 0, 0, 10⟩ _ _ _ hS (by simp) .nil) rfl ?_) rfl
  clear hS
  rintro e w ⟨rfl, hS⟩
  refine ⟨_, rfl, ?_⟩
  rw [aw1] at hS ⊢
  repeat' (first
    | refine Z.pr rfl ?_
    | refine Z.eff (Z.ld hS rfl (by repeat (first | exact At.here | apply At.next)) rfl ?_) rfl
    | refine Z.eff (Z.ldR rfl (by assumption) rfl ?_) rfl
    | refine Z.eff (Z.ldE rfl (by assumption) rfl ?_) rfl
    | refine Z.sum rfl (by constructor <;> omega) ?_
    | (refine Z.eff (Z.st hS rfl (by repeat (first | exact At.here | apply At.next)) rfl rfl ?_) rfl; clear hS; intro w hS)
    | (refine Z.eff (Z.al hS ?_) rfl; clear hS; intro g w hS hge)
    | (refine Z.eff (Z.bx hS rfl ?_) rfl; clear hS; intro g w hS hge)
    | refine Z.ixn rfl rfl rfl (by omega) ?_
    | refine Z.pl (R.upto rfl rfl rfl (by omega)) ?_
    | refine Z.pl (R.sinceL rfl rfl rfl (by omega) (by omega)) ?_
    | refine Z.pl (R.since rfl rfl rfl (by omega)) ?_
    | refine Z.pl (R.span rfl rfl rfl rfl (by omega) (by omega)) ?_
    | refine Z.pl (R.whole rfl rfl) ?_
    | refine Z.pl (R.eqa rfl rfl rfl rfl) ?_
    | refine Z.pl (R.nea rfl rfl rfl rfl) ?_
    | refine Z.ix rfl rfl rfl (by omega) ?_
    | refine Z.ia rfl rfl rfl (by omega) ?_
    | refine Z.bu rfl rfl ?_
    | refine Z.pl (R.max2 rfl rfl) ?_
    | refine Z.pl (R.cap rfl rfl) ?_
    | refine Z.pl R.mf ?_
    | (refine Z.eff (Z.bs hS rfl rfl rfl ?_) rfl; clear hS; intro g w hS hge)
    | refine Z.gT rfl rfl ?_
    | refine Z.gF rfl rfl ?_
    | refine Z.gF0 rfl rfl ?_
    | (refine Z.gS rfl rfl ?_ ?_ <;> intro hb <;> (try simp only [decide_eq_true_eq, decide_eq_false_iff_not, Bool.not_eq_true', Bool.not_eq_false', Int.not_lt, Int.not_le] at hb) <;> (try (exfalso; first | omega | exact hb trivial)))
    | with_reducible refine Z.seq ?_
    | with_reducible refine Z.reg ?_
    | with_reducible refine Z.nil ?_
    | with_reducible refine Z.skip ?_
    | with_reducible refine Z.exit ?_
    | with_reducible refine Z.ret ?_
    | with_reducible refine Z.block ?_
    | with_reducible refine Z.thN ?_
    | with_reducible refine Z.thU ?_
    | with_reducible refine Z.thE ?_
    | with_reducible refine Z.thR ?_
    | with_reducible refine Z.blN ?_
    | with_reducible refine Z.blR ?_
    | with_reducible refine Z.blE ?_
    | (with_reducible refine Z.blX ?_ ?_; rotate_left; rfl)
    | refine Z.brT rfl ?_
    | refine Z.brF rfl ?_
    | (refine Z.br rfl ?_ ?_ <;> intro hb <;> (try simp only [decide_eq_true_eq, decide_eq_false_iff_not, Bool.not_eq_true', Bool.not_eq_false', Int.not_lt, Int.not_le] at hb) <;> (try (exfalso; first | omega | exact hb trivial))))
  refine Z.eff (Z.cl (gaccepts_z gp ⟨2, 0, [⟨2, 1, 0, 0, 10⟩]⟩ 0 9 _ _ _ hS (by simp)) rfl ?_) rfl
  clear hS
  rintro e w ⟨rfl, hS⟩
  refine ⟨_, rfl, ?_⟩
  rw [aw6]
  repeat' (first
    | refine Z.pr rfl ?_
    | refine Z.eff (Z.ld hS rfl (by repeat (first | exact At.here | apply At.next)) rfl ?_) rfl
    | refine Z.eff (Z.ldR rfl (by assumption) rfl ?_) rfl
    | refine Z.eff (Z.ldE rfl (by assumption) rfl ?_) rfl
    | refine Z.sum rfl (by constructor <;> omega) ?_
    | (refine Z.eff (Z.st hS rfl (by repeat (first | exact At.here | apply At.next)) rfl rfl ?_) rfl; clear hS; intro w hS)
    | (refine Z.eff (Z.al hS ?_) rfl; clear hS; intro g w hS hge)
    | (refine Z.eff (Z.bx hS rfl ?_) rfl; clear hS; intro g w hS hge)
    | refine Z.ixn rfl rfl rfl (by omega) ?_
    | refine Z.pl (R.upto rfl rfl rfl (by omega)) ?_
    | refine Z.pl (R.sinceL rfl rfl rfl (by omega) (by omega)) ?_
    | refine Z.pl (R.since rfl rfl rfl (by omega)) ?_
    | refine Z.pl (R.span rfl rfl rfl rfl (by omega) (by omega)) ?_
    | refine Z.pl (R.whole rfl rfl) ?_
    | refine Z.pl (R.eqa rfl rfl rfl rfl) ?_
    | refine Z.pl (R.nea rfl rfl rfl rfl) ?_
    | refine Z.ix rfl rfl rfl (by omega) ?_
    | refine Z.ia rfl rfl rfl (by omega) ?_
    | refine Z.bu rfl rfl ?_
    | refine Z.pl (R.max2 rfl rfl) ?_
    | refine Z.pl (R.cap rfl rfl) ?_
    | refine Z.pl R.mf ?_
    | (refine Z.eff (Z.bs hS rfl rfl rfl ?_) rfl; clear hS; intro g w hS hge)
    | refine Z.gT rfl rfl ?_
    | refine Z.gF rfl rfl ?_
    | refine Z.gF0 rfl rfl ?_
    | (refine Z.gS rfl rfl ?_ ?_ <;> intro hb <;> (try simp only [decide_eq_true_eq, decide_eq_false_iff_not, Bool.not_eq_true', Bool.not_eq_false', Int.not_lt, Int.not_le] at hb) <;> (try (exfalso; first | omega | exact hb trivial)))
    | with_reducible refine Z.seq ?_
    | with_reducible refine Z.reg ?_
    | with_reducible refine Z.nil ?_
    | with_reducible refine Z.skip ?_
    | with_reducible refine Z.exit ?_
    | with_reducible refine Z.ret ?_
    | with_reducible refine Z.block ?_
    | with_reducible refine Z.thN ?_
    | with_reducible refine Z.thU ?_
    | with_reducible refine Z.thE ?_
    | with_reducible refine Z.thR ?_
    | with_reducible refine Z.blN ?_
    | with_reducible refine Z.blR ?_
    | with_reducible refine Z.blE ?_
    | (with_reducible refine Z.blX ?_ ?_; rotate_left; rfl)
    | refine Z.brT rfl ?_
    | refine Z.brF rfl ?_
    | (refine Z.br rfl ?_ ?_ <;> intro hb <;> (try simp only [decide_eq_true_eq, decide_eq_false_iff_not, Bool.not_eq_true', Bool.not_eq_false', Int.not_lt, Int.not_le] at hb) <;> (try (exfalso; first | omega | exact hb trivial))))
  refine Z.eff (Z.cl (gaccepts_z gp ⟨2, 0, [⟨2, 1, 0, 0, 10⟩]⟩ 0 10 _ _ _ hS (by simp)) rfl ?_) rfl
  clear hS
  rintro e w ⟨rfl, hS⟩
  refine ⟨_, rfl, ?_⟩
  rw [aw7]
  repeat' (first
    | refine Z.pr rfl ?_
    | refine Z.eff (Z.ld hS rfl (by repeat (first | exact At.here | apply At.next)) rfl ?_) rfl
    | refine Z.eff (Z.ldR rfl (by assumption) rfl ?_) rfl
    | refine Z.eff (Z.ldE rfl (by assumption) rfl ?_) rfl
    | refine Z.sum rfl (by constructor <;> omega) ?_
    | (refine Z.eff (Z.st hS rfl (by repeat (first | exact At.here | apply At.next)) rfl rfl ?_) rfl; clear hS; intro w hS)
    | (refine Z.eff (Z.al hS ?_) rfl; clear hS; intro g w hS hge)
    | (refine Z.eff (Z.bx hS rfl ?_) rfl; clear hS; intro g w hS hge)
    | refine Z.ixn rfl rfl rfl (by omega) ?_
    | refine Z.pl (R.upto rfl rfl rfl (by omega)) ?_
    | refine Z.pl (R.sinceL rfl rfl rfl (by omega) (by omega)) ?_
    | refine Z.pl (R.since rfl rfl rfl (by omega)) ?_
    | refine Z.pl (R.span rfl rfl rfl rfl (by omega) (by omega)) ?_
    | refine Z.pl (R.whole rfl rfl) ?_
    | refine Z.pl (R.eqa rfl rfl rfl rfl) ?_
    | refine Z.pl (R.nea rfl rfl rfl rfl) ?_
    | refine Z.ix rfl rfl rfl (by omega) ?_
    | refine Z.ia rfl rfl rfl (by omega) ?_
    | refine Z.bu rfl rfl ?_
    | refine Z.pl (R.max2 rfl rfl) ?_
    | refine Z.pl (R.cap rfl rfl) ?_
    | refine Z.pl R.mf ?_
    | (refine Z.eff (Z.bs hS rfl rfl rfl ?_) rfl; clear hS; intro g w hS hge)
    | refine Z.gT rfl rfl ?_
    | refine Z.gF rfl rfl ?_
    | refine Z.gF0 rfl rfl ?_
    | (refine Z.gS rfl rfl ?_ ?_ <;> intro hb <;> (try simp only [decide_eq_true_eq, decide_eq_false_iff_not, Bool.not_eq_true', Bool.not_eq_false', Int.not_lt, Int.not_le] at hb) <;> (try (exfalso; first | omega | exact hb trivial)))
    | with_reducible refine Z.seq ?_
    | with_reducible refine Z.reg ?_
    | with_reducible refine Z.nil ?_
    | with_reducible refine Z.skip ?_
    | with_reducible refine Z.exit ?_
    | with_reducible refine Z.ret ?_
    | with_reducible refine Z.block ?_
    | with_reducible refine Z.thN ?_
    | with_reducible refine Z.thU ?_
    | with_reducible refine Z.thE ?_
    | with_reducible refine Z.thR ?_
    | with_reducible refine Z.blN ?_
    | with_reducible refine Z.blR ?_
    | with_reducible refine Z.blE ?_
    | (with_reducible refine Z.blX ?_ ?_; rotate_left; rfl)
    | refine Z.brT rfl ?_
    | refine Z.brF rfl ?_
    | (refine Z.br rfl ?_ ?_ <;> intro hb <;> (try simp only [decide_eq_true_eq, decide_eq_false_iff_not, Bool.not_eq_true', Bool.not_eq_false', Int.not_lt, Int.not_le] at hb) <;> (try (exfalso; first | omega | exact hb trivial))))
  refine Z.eff (Z.cl (gaccepts_z gp ⟨2, 0, [⟨2, 1, 0, 0, 10⟩]⟩ 1 9 _ _ _ hS (by simp)) rfl ?_) rfl
  clear hS
  rintro e w ⟨rfl, hS⟩
  refine ⟨_, rfl, ?_⟩
  rw [aw8]
  repeat' (first
    | refine Z.pr rfl ?_
    | refine Z.eff (Z.ld hS rfl (by repeat (first | exact At.here | apply At.next)) rfl ?_) rfl
    | refine Z.eff (Z.ldR rfl (by assumption) rfl ?_) rfl
    | refine Z.eff (Z.ldE rfl (by assumption) rfl ?_) rfl
    | refine Z.sum rfl (by constructor <;> omega) ?_
    | (refine Z.eff (Z.st hS rfl (by repeat (first | exact At.here | apply At.next)) rfl rfl ?_) rfl; clear hS; intro w hS)
    | (refine Z.eff (Z.al hS ?_) rfl; clear hS; intro g w hS hge)
    | (refine Z.eff (Z.bx hS rfl ?_) rfl; clear hS; intro g w hS hge)
    | refine Z.ixn rfl rfl rfl (by omega) ?_
    | refine Z.pl (R.upto rfl rfl rfl (by omega)) ?_
    | refine Z.pl (R.sinceL rfl rfl rfl (by omega) (by omega)) ?_
    | refine Z.pl (R.since rfl rfl rfl (by omega)) ?_
    | refine Z.pl (R.span rfl rfl rfl rfl (by omega) (by omega)) ?_
    | refine Z.pl (R.whole rfl rfl) ?_
    | refine Z.pl (R.eqa rfl rfl rfl rfl) ?_
    | refine Z.pl (R.nea rfl rfl rfl rfl) ?_
    | refine Z.ix rfl rfl rfl (by omega) ?_
    | refine Z.ia rfl rfl rfl (by omega) ?_
    | refine Z.bu rfl rfl ?_
    | refine Z.pl (R.max2 rfl rfl) ?_
    | refine Z.pl (R.cap rfl rfl) ?_
    | refine Z.pl R.mf ?_
    | (refine Z.eff (Z.bs hS rfl rfl rfl ?_) rfl; clear hS; intro g w hS hge)
    | refine Z.gT rfl rfl ?_
    | refine Z.gF rfl rfl ?_
    | refine Z.gF0 rfl rfl ?_
    | (refine Z.gS rfl rfl ?_ ?_ <;> intro hb <;> (try simp only [decide_eq_true_eq, decide_eq_false_iff_not, Bool.not_eq_true', Bool.not_eq_false', Int.not_lt, Int.not_le] at hb) <;> (try (exfalso; first | omega | exact hb trivial)))
    | with_reducible refine Z.seq ?_
    | with_reducible refine Z.reg ?_
    | with_reducible refine Z.nil ?_
    | with_reducible refine Z.skip ?_
    | with_reducible refine Z.exit ?_
    | with_reducible refine Z.ret ?_
    | with_reducible refine Z.block ?_
    | with_reducible refine Z.thN ?_
    | with_reducible refine Z.thU ?_
    | with_reducible refine Z.thE ?_
    | with_reducible refine Z.thR ?_
    | with_reducible refine Z.blN ?_
    | with_reducible refine Z.blR ?_
    | with_reducible refine Z.blE ?_
    | (with_reducible refine Z.blX ?_ ?_; rotate_left; rfl)
    | refine Z.brT rfl ?_
    | refine Z.brF rfl ?_
    | (refine Z.br rfl ?_ ?_ <;> intro hb <;> (try simp only [decide_eq_true_eq, decide_eq_false_iff_not, Bool.not_eq_true', Bool.not_eq_false', Int.not_lt, Int.not_le] at hb) <;> (try (exfalso; first | omega | exact hb trivial))))
  refine Z.eff (Z.cl (ggive_z gp ⟨2, 0, [⟨2, 1, 0, 0, 10⟩]⟩ ⟨2, 1, 0, 10, 15⟩ _ _ _ hS (by simp) (by simp)) rfl ?_) rfl
  clear hS
  rintro e w ⟨rfl, hS⟩
  refine ⟨_, rfl, ?_⟩
  rw [aw2] at hS ⊢
  repeat' (first
    | refine Z.pr rfl ?_
    | refine Z.eff (Z.ld hS rfl (by repeat (first | exact At.here | apply At.next)) rfl ?_) rfl
    | refine Z.eff (Z.ldR rfl (by assumption) rfl ?_) rfl
    | refine Z.eff (Z.ldE rfl (by assumption) rfl ?_) rfl
    | refine Z.sum rfl (by constructor <;> omega) ?_
    | (refine Z.eff (Z.st hS rfl (by repeat (first | exact At.here | apply At.next)) rfl rfl ?_) rfl; clear hS; intro w hS)
    | (refine Z.eff (Z.al hS ?_) rfl; clear hS; intro g w hS hge)
    | (refine Z.eff (Z.bx hS rfl ?_) rfl; clear hS; intro g w hS hge)
    | refine Z.ixn rfl rfl rfl (by omega) ?_
    | refine Z.pl (R.upto rfl rfl rfl (by omega)) ?_
    | refine Z.pl (R.sinceL rfl rfl rfl (by omega) (by omega)) ?_
    | refine Z.pl (R.since rfl rfl rfl (by omega)) ?_
    | refine Z.pl (R.span rfl rfl rfl rfl (by omega) (by omega)) ?_
    | refine Z.pl (R.whole rfl rfl) ?_
    | refine Z.pl (R.eqa rfl rfl rfl rfl) ?_
    | refine Z.pl (R.nea rfl rfl rfl rfl) ?_
    | refine Z.ix rfl rfl rfl (by omega) ?_
    | refine Z.ia rfl rfl rfl (by omega) ?_
    | refine Z.bu rfl rfl ?_
    | refine Z.pl (R.max2 rfl rfl) ?_
    | refine Z.pl (R.cap rfl rfl) ?_
    | refine Z.pl R.mf ?_
    | (refine Z.eff (Z.bs hS rfl rfl rfl ?_) rfl; clear hS; intro g w hS hge)
    | refine Z.gT rfl rfl ?_
    | refine Z.gF rfl rfl ?_
    | refine Z.gF0 rfl rfl ?_
    | (refine Z.gS rfl rfl ?_ ?_ <;> intro hb <;> (try simp only [decide_eq_true_eq, decide_eq_false_iff_not, Bool.not_eq_true', Bool.not_eq_false', Int.not_lt, Int.not_le] at hb) <;> (try (exfalso; first | omega | exact hb trivial)))
    | with_reducible refine Z.seq ?_
    | with_reducible refine Z.reg ?_
    | with_reducible refine Z.nil ?_
    | with_reducible refine Z.skip ?_
    | with_reducible refine Z.exit ?_
    | with_reducible refine Z.ret ?_
    | with_reducible refine Z.block ?_
    | with_reducible refine Z.thN ?_
    | with_reducible refine Z.thU ?_
    | with_reducible refine Z.thE ?_
    | with_reducible refine Z.thR ?_
    | with_reducible refine Z.blN ?_
    | with_reducible refine Z.blR ?_
    | with_reducible refine Z.blE ?_
    | (with_reducible refine Z.blX ?_ ?_; rotate_left; rfl)
    | refine Z.brT rfl ?_
    | refine Z.brF rfl ?_
    | (refine Z.br rfl ?_ ?_ <;> intro hb <;> (try simp only [decide_eq_true_eq, decide_eq_false_iff_not, Bool.not_eq_true', Bool.not_eq_false', Int.not_lt, Int.not_le] at hb) <;> (try (exfalso; first | omega | exact hb trivial))))
  refine Z.eff (Z.cl (guntil_z gp ⟨2, 0, [⟨2, 1, 0, 0, 10⟩, ⟨2, 1, 0, 10, 15⟩]⟩ 0 3 _ _ _ hS (by simp)) rfl ?_) rfl
  clear hS
  rintro e w ⟨rfl, hS⟩
  refine ⟨_, rfl, ?_⟩
  rw [aw9]
  repeat' (first
    | refine Z.pr rfl ?_
    | refine Z.eff (Z.ld hS rfl (by repeat (first | exact At.here | apply At.next)) rfl ?_) rfl
    | refine Z.eff (Z.ldR rfl (by assumption) rfl ?_) rfl
    | refine Z.eff (Z.ldE rfl (by assumption) rfl ?_) rfl
    | refine Z.sum rfl (by constructor <;> omega) ?_
    | (refine Z.eff (Z.st hS rfl (by repeat (first | exact At.here | apply At.next)) rfl rfl ?_) rfl; clear hS; intro w hS)
    | (refine Z.eff (Z.al hS ?_) rfl; clear hS; intro g w hS hge)
    | (refine Z.eff (Z.bx hS rfl ?_) rfl; clear hS; intro g w hS hge)
    | refine Z.ixn rfl rfl rfl (by omega) ?_
    | refine Z.pl (R.upto rfl rfl rfl (by omega)) ?_
    | refine Z.pl (R.sinceL rfl rfl rfl (by omega) (by omega)) ?_
    | refine Z.pl (R.since rfl rfl rfl (by omega)) ?_
    | refine Z.pl (R.span rfl rfl rfl rfl (by omega) (by omega)) ?_
    | refine Z.pl (R.whole rfl rfl) ?_
    | refine Z.pl (R.eqa rfl rfl rfl rfl) ?_
    | refine Z.pl (R.nea rfl rfl rfl rfl) ?_
    | refine Z.ix rfl rfl rfl (by omega) ?_
    | refine Z.ia rfl rfl rfl (by omega) ?_
    | refine Z.bu rfl rfl ?_
    | refine Z.pl (R.max2 rfl rfl) ?_
    | refine Z.pl (R.cap rfl rfl) ?_
    | refine Z.pl R.mf ?_
    | (refine Z.eff (Z.bs hS rfl rfl rfl ?_) rfl; clear hS; intro g w hS hge)
    | refine Z.gT rfl rfl ?_
    | refine Z.gF rfl rfl ?_
    | refine Z.gF0 rfl rfl ?_
    | (refine Z.gS rfl rfl ?_ ?_ <;> intro hb <;> (try simp only [decide_eq_true_eq, decide_eq_false_iff_not, Bool.not_eq_true', Bool.not_eq_false', Int.not_lt, Int.not_le] at hb) <;> (try (exfalso; first | omega | exact hb trivial)))
    | with_reducible refine Z.seq ?_
    | with_reducible refine Z.reg ?_
    | with_reducible refine Z.nil ?_
    | with_reducible refine Z.skip ?_
    | with_reducible refine Z.exit ?_
    | with_reducible refine Z.ret ?_
    | with_reducible refine Z.block ?_
    | with_reducible refine Z.thN ?_
    | with_reducible refine Z.thU ?_
    | with_reducible refine Z.thE ?_
    | with_reducible refine Z.thR ?_
    | with_reducible refine Z.blN ?_
    | with_reducible refine Z.blR ?_
    | with_reducible refine Z.blE ?_
    | (with_reducible refine Z.blX ?_ ?_; rotate_left; rfl)
    | refine Z.brT rfl ?_
    | refine Z.brF rfl ?_
    | (refine Z.br rfl ?_ ?_ <;> intro hb <;> (try simp only [decide_eq_true_eq, decide_eq_false_iff_not, Bool.not_eq_true', Bool.not_eq_false', Int.not_lt, Int.not_le] at hb) <;> (try (exfalso; first | omega | exact hb trivial))))
  refine Z.eff (Z.cl (gclose_f gp ⟨2, 0, [⟨2, 1, 0, 0, 10⟩, ⟨2, 1, 0, 10, 15⟩]⟩ 1 _ _ _ hS (by simp)) rfl ?_) rfl
  clear hS
  rintro e w ⟨rfl, hS⟩
  refine ⟨_, rfl, ?_⟩
  rw [aw3] at hS ⊢
  repeat' (first
    | refine Z.pr rfl ?_
    | refine Z.eff (Z.ld hS rfl (by repeat (first | exact At.here | apply At.next)) rfl ?_) rfl
    | refine Z.eff (Z.ldR rfl (by assumption) rfl ?_) rfl
    | refine Z.eff (Z.ldE rfl (by assumption) rfl ?_) rfl
    | refine Z.sum rfl (by constructor <;> omega) ?_
    | (refine Z.eff (Z.st hS rfl (by repeat (first | exact At.here | apply At.next)) rfl rfl ?_) rfl; clear hS; intro w hS)
    | (refine Z.eff (Z.al hS ?_) rfl; clear hS; intro g w hS hge)
    | (refine Z.eff (Z.bx hS rfl ?_) rfl; clear hS; intro g w hS hge)
    | refine Z.ixn rfl rfl rfl (by omega) ?_
    | refine Z.pl (R.upto rfl rfl rfl (by omega)) ?_
    | refine Z.pl (R.sinceL rfl rfl rfl (by omega) (by omega)) ?_
    | refine Z.pl (R.since rfl rfl rfl (by omega)) ?_
    | refine Z.pl (R.span rfl rfl rfl rfl (by omega) (by omega)) ?_
    | refine Z.pl (R.whole rfl rfl) ?_
    | refine Z.pl (R.eqa rfl rfl rfl rfl) ?_
    | refine Z.pl (R.nea rfl rfl rfl rfl) ?_
    | refine Z.ix rfl rfl rfl (by omega) ?_
    | refine Z.ia rfl rfl rfl (by omega) ?_
    | refine Z.bu rfl rfl ?_
    | refine Z.pl (R.max2 rfl rfl) ?_
    | refine Z.pl (R.cap rfl rfl) ?_
    | refine Z.pl R.mf ?_
    | (refine Z.eff (Z.bs hS rfl rfl rfl ?_) rfl; clear hS; intro g w hS hge)
    | refine Z.gT rfl rfl ?_
    | refine Z.gF rfl rfl ?_
    | refine Z.gF0 rfl rfl ?_
    | (refine Z.gS rfl rfl ?_ ?_ <;> intro hb <;> (try simp only [decide_eq_true_eq, decide_eq_false_iff_not, Bool.not_eq_true', Bool.not_eq_false', Int.not_lt, Int.not_le] at hb) <;> (try (exfalso; first | omega | exact hb trivial)))
    | with_reducible refine Z.seq ?_
    | with_reducible refine Z.reg ?_
    | with_reducible refine Z.nil ?_
    | with_reducible refine Z.skip ?_
    | with_reducible refine Z.exit ?_
    | with_reducible refine Z.ret ?_
    | with_reducible refine Z.block ?_
    | with_reducible refine Z.thN ?_
    | with_reducible refine Z.thU ?_
    | with_reducible refine Z.thE ?_
    | with_reducible refine Z.thR ?_
    | with_reducible refine Z.blN ?_
    | with_reducible refine Z.blR ?_
    | with_reducible refine Z.blE ?_
    | (with_reducible refine Z.blX ?_ ?_; rotate_left; rfl)
    | refine Z.brT rfl ?_
    | refine Z.brF rfl ?_
    | (refine Z.br rfl ?_ ?_ <;> intro hb <;> (try simp only [decide_eq_true_eq, decide_eq_false_iff_not, Bool.not_eq_true', Bool.not_eq_false', Int.not_lt, Int.not_le] at hb) <;> (try (exfalso; first | omega | exact hb trivial))))
  refine Z.eff (Z.cl (ggive_z gp ⟨2, 1, []⟩ ⟨2, 1, 0, 15, 20⟩ _ _ _ hS (by simp) .nil) rfl ?_) rfl
  clear hS
  rintro e w ⟨rfl, hS⟩
  refine ⟨_, rfl, ?_⟩
  rw [aw4] at hS ⊢
  repeat' (first
    | refine Z.pr rfl ?_
    | refine Z.eff (Z.ld hS rfl (by repeat (first | exact At.here | apply At.next)) rfl ?_) rfl
    | refine Z.eff (Z.ldR rfl (by assumption) rfl ?_) rfl
    | refine Z.eff (Z.ldE rfl (by assumption) rfl ?_) rfl
    | refine Z.sum rfl (by constructor <;> omega) ?_
    | (refine Z.eff (Z.st hS rfl (by repeat (first | exact At.here | apply At.next)) rfl rfl ?_) rfl; clear hS; intro w hS)
    | (refine Z.eff (Z.al hS ?_) rfl; clear hS; intro g w hS hge)
    | (refine Z.eff (Z.bx hS rfl ?_) rfl; clear hS; intro g w hS hge)
    | refine Z.ixn rfl rfl rfl (by omega) ?_
    | refine Z.pl (R.upto rfl rfl rfl (by omega)) ?_
    | refine Z.pl (R.sinceL rfl rfl rfl (by omega) (by omega)) ?_
    | refine Z.pl (R.since rfl rfl rfl (by omega)) ?_
    | refine Z.pl (R.span rfl rfl rfl rfl (by omega) (by omega)) ?_
    | refine Z.pl (R.whole rfl rfl) ?_
    | refine Z.pl (R.eqa rfl rfl rfl rfl) ?_
    | refine Z.pl (R.nea rfl rfl rfl rfl) ?_
    | refine Z.ix rfl rfl rfl (by omega) ?_
    | refine Z.ia rfl rfl rfl (by omega) ?_
    | refine Z.bu rfl rfl ?_
    | refine Z.pl (R.max2 rfl rfl) ?_
    | refine Z.pl (R.cap rfl rfl) ?_
    | refine Z.pl R.mf ?_
    | (refine Z.eff (Z.bs hS rfl rfl rfl ?_) rfl; clear hS; intro g w hS hge)
    | refine Z.gT rfl rfl ?_
    | refine Z.gF rfl rfl ?_
    | refine Z.gF0 rfl rfl ?_
    | (refine Z.gS rfl rfl ?_ ?_ <;> intro hb <;> (try simp only [decide_eq_true_eq, decide_eq_false_iff_not, Bool.not_eq_true', Bool.not_eq_false', Int.not_lt, Int.not_le] at hb) <;> (try (exfalso; first | omega | exact hb trivial)))
    | with_reducible refine Z.seq ?_
    | with_reducible refine Z.reg ?_
    | with_reducible refine Z.nil ?_
    | with_reducible refine Z.skip ?_
    | with_reducible refine Z.exit ?_
    | with_reducible refine Z.ret ?_
    | with_reducible refine Z.block ?_
    | with_reducible refine Z.thN ?_
    | with_reducible refine Z.thU ?_
    | with_reducible refine Z.thE ?_
    | with_reducible refine Z.thR ?_
    | with_reducible refine Z.blN ?_
    | with_reducible refine Z.blR ?_
    | with_reducible refine Z.blE ?_
    | (with_reducible refine Z.blX ?_ ?_; rotate_left; rfl)
    | refine Z.brT rfl ?_
    | refine Z.brF rfl ?_
    | (refine Z.br rfl ?_ ?_ <;> intro hb <;> (try simp only [decide_eq_true_eq, decide_eq_false_iff_not, Bool.not_eq_true', Bool.not_eq_false', Int.not_lt, Int.not_le] at hb) <;> (try (exfalso; first | omega | exact hb trivial))))
  refine Z.eff (Z.cl (ggive_z gp ⟨2, 1, []⟩ ⟨2, 2, 0, 6, 12⟩ _ _ _ hS (by simp) .nil) rfl ?_) rfl
  clear hS
  rintro e w ⟨rfl, hS⟩
  refine ⟨_, rfl, ?_⟩
  rw [aw5] at hS ⊢
  repeat' (first
    | refine Z.pr rfl ?_
    | refine Z.eff (Z.ld hS rfl (by repeat (first | exact At.here | apply At.next)) rfl ?_) rfl
    | refine Z.eff (Z.ldR rfl (by assumption) rfl ?_) rfl
    | refine Z.eff (Z.ldE rfl (by assumption) rfl ?_) rfl
    | refine Z.sum rfl (by constructor <;> omega) ?_
    | (refine Z.eff (Z.st hS rfl (by repeat (first | exact At.here | apply At.next)) rfl rfl ?_) rfl; clear hS; intro w hS)
    | (refine Z.eff (Z.al hS ?_) rfl; clear hS; intro g w hS hge)
    | (refine Z.eff (Z.bx hS rfl ?_) rfl; clear hS; intro g w hS hge)
    | refine Z.ixn rfl rfl rfl (by omega) ?_
    | refine Z.pl (R.upto rfl rfl rfl (by omega)) ?_
    | refine Z.pl (R.sinceL rfl rfl rfl (by omega) (by omega)) ?_
    | refine Z.pl (R.since rfl rfl rfl (by omega)) ?_
    | refine Z.pl (R.span rfl rfl rfl rfl (by omega) (by omega)) ?_
    | refine Z.pl (R.whole rfl rfl) ?_
    | refine Z.pl (R.eqa rfl rfl rfl rfl) ?_
    | refine Z.pl (R.nea rfl rfl rfl rfl) ?_
    | refine Z.ix rfl rfl rfl (by omega) ?_
    | refine Z.ia rfl rfl rfl (by omega) ?_
    | refine Z.bu rfl rfl ?_
    | refine Z.pl (R.max2 rfl rfl) ?_
    | refine Z.pl (R.cap rfl rfl) ?_
    | refine Z.pl R.mf ?_
    | (refine Z.eff (Z.bs hS rfl rfl rfl ?_) rfl; clear hS; intro g w hS hge)
    | refine Z.gT rfl rfl ?_
    | refine Z.gF rfl rfl ?_
    | refine Z.gF0 rfl rfl ?_
    | (refine Z.gS rfl rfl ?_ ?_ <;> intro hb <;> (try simp only [decide_eq_true_eq, decide_eq_false_iff_not, Bool.not_eq_true', Bool.not_eq_false', Int.not_lt, Int.not_le] at hb) <;> (try (exfalso; first | omega | exact hb trivial)))
    | with_reducible refine Z.seq ?_
    | with_reducible refine Z.reg ?_
    | with_reducible refine Z.nil ?_
    | with_reducible refine Z.skip ?_
    | with_reducible refine Z.exit ?_
    | with_reducible refine Z.ret ?_
    | with_reducible refine Z.block ?_
    | with_reducible refine Z.thN ?_
    | with_reducible refine Z.thU ?_
    | with_reducible refine Z.thE ?_
    | with_reducible refine Z.thR ?_
    | with_reducible refine Z.blN ?_
    | with_reducible refine Z.blR ?_
    | with_reducible refine Z.blE ?_
    | (with_reducible refine Z.blX ?_ ?_; rotate_left; rfl)
    | refine Z.brT rfl ?_
    | refine Z.brF rfl ?_
    | (refine Z.br rfl ?_ ?_ <;> intro hb <;> (try simp only [decide_eq_true_eq, decide_eq_false_iff_not, Bool.not_eq_true', Bool.not_eq_false', Int.not_lt, Int.not_le] at hb) <;> (try (exfalso; first | omega | exact hb trivial))))
  first | refine Z.done hS Try.results31 (Z.RV.tmp rfl Z.RV.nil) ?_ | refine Z.doneN hS Try.results31 (Z.RV.tmp rfl Z.RV.nil) ?_
  exact ⟨by first | rfl | simp [Z.packR], hS.sub (by repeat (first | exact Sub.rest | exact Sub.nil | exact .skip .rest | exact .skip (.skip .rest) | exact .skip (.skip (.skip .rest)) | apply Sub.keep | refine Sub.cons (by repeat (first | exact At.here | apply At.next)) ?_ | apply Sub.skip))⟩
end Go.Proofs.Ytppbjlakbmgfdaa
