/-
  The program's queue: live.
-/
import Derived.Test.YtpaoommfcmeagaaNQl
namespace Go.Proofs.Ytpaoommfcmeagaa
open Go.RowKit
set_option linter.unusedSimpArgs false
set_option linter.unusedVariables false
attribute [local irreducible] Res.blk Res.sl Res.all Res.ex Res.pure Res.star

/-- A lease is live under an epoch at a tick. -/
def liveL (l : Le) (ep t : Int) : Prop := l.epoch = ep ∧ t < l.until_
instance (l : Le) (ep t : Int) : Decidable (liveL l ep t) := by unfold liveL; infer_instance
theorem live_z (l : Le) (ep t : Int) (r : World) (F : List Res) (w : World) (hS : Sep r [] F w) : Calls Try.prog 51 #[l.val, .int .i64 ep, .int .i64 t] w fun e w' => e = .returned (.bool (decide (liveL l ep t))) ∧ Sep r [] F w' := by
  refine Z.enter Try.func51 Try.ntmps51 rfl rfl ?_
  repeat' (first
    | refine Z.pr rfl ?_ | refine Sh.la hS ?_ | refine Sh.lb ?_ | refine Sh.lc ?_ | refine Sh.su ?_
    | (refine Sh.sa hS ?_; clear hS; intro w hS)
    | ((first | refine Sh.aa hS ?_ | refine Sh.ab hS ?_ | refine Sh.ac hS ?_); clear hS; intro g w hS hge)
    | refine Sh.ix ?_ | refine Sh.up ?_ | refine Sh.sl1 ?_ | refine Sh.sl2 ?_ | refine Sh.sl5 ?_ | refine Sh.sl3 ?_ | refine Sh.sl4 ?_ | refine Sh.eq ?_ | refine Sh.ne ?_ | refine Sh.ix2 ?_ | refine Sh.ix3 ?_
    | refine Z.bu rfl rfl ?_ | refine Z.pl (R.max2 rfl rfl) ?_ | refine Z.pl (R.cap rfl rfl) ?_ | refine Z.pl R.mf ?_
    | refine Z.gT rfl rfl ?_ | refine Z.gF rfl rfl ?_ | refine Z.gF0 rfl rfl ?_ | refine Z.gU rfl rfl ?_
    | with_reducible (first | refine Z.seq ?_ | refine Z.reg ?_ | refine Z.nil ?_ | refine Z.skip ?_ | refine Z.exit ?_ | refine Z.ret ?_ | refine Z.block ?_ | refine Z.thN ?_ | refine Z.thU ?_ | refine Z.thE ?_ | refine Z.thR ?_ | refine Z.blN ?_ | refine Z.blR ?_ | refine Z.blE ?_ | refine Z.label ?_ | refine Z.scope ?_ | refine Z.ngN ?_ | refine Z.ngR ?_ | refine Z.ngE ?_)
    | ((with_reducible refine Z.blX ?_ ?_); rotate_left; rfl)
    | refine Z.brT rfl ?_ | refine Z.brF rfl ?_
    | ((first | refine Z.gS rfl rfl ?_ ?_ | refine Z.br rfl ?_ ?_) <;> intro hb <;> (try simp only [decide_eq_true_eq, decide_eq_false_iff_not, Bool.not_eq_true', Bool.not_eq_false', Int.not_lt, Int.not_le] at hb) <;> (try (exfalso; first | omega | exact hb trivial))))
  all_goals
    first | refine Z.done hS Try.results51 (Z.RV.tmp rfl Z.RV.nil) ?_ | refine Z.doneN hS Try.results51 (Z.RV.tmp rfl Z.RV.nil) ?_
    refine ⟨?_, hS.sb⟩
    simp only [Z.packR]
    congr 2
    first
      | (rw [eq_comm, decide_eq_false_iff_not]; unfold liveL; omega)
      | (rw [decide_eq_decide]; unfold liveL; omega)
end Go.Proofs.Ytpaoommfcmeagaa
