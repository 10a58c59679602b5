/-
  The program's queue: live.
-/
import Derived.Test.YtahackdfjcgkhaaGreatNQl
namespace Go.Proofs.YtahackdfjcgkhaaGreat
open Go.RowKit
set_option linter.unusedSimpArgs false
set_option linter.unusedVariables false
attribute [local irreducible] Res.blk Res.sl Res.all Res.ex Res.pure Res.star

/-- A lease is live under an epoch at a tick. -/
def liveL (l : Le) (ep t : Int) : Prop := l.epoch = ep ∧ t < l.until_
instance (l : Le) (ep t : Int) : Decidable (liveL l ep t) := by unfold liveL; infer_instance
theorem live_z (l : Le) (ep t : Int) (r : World) (F : List Res) (w : World) (hS : Sep r [] F w) : Calls Tryz.prog 117 #[l.val, .int .i64 ep, .int .i64 t] w fun e w' => e = .returned (.bool (decide (liveL l ep t))) ∧ Sep r [] F w' := by
  refine Z.enter Tryz.func117 Tryz.ntmps117 rfl rfl ?_
  repeat' (first|refine VP ?_|refine Sh.la hS ?_|refine Sh.lb ?_|refine Sh.lc ?_|refine Sh.su ?_|(refine Sh.sa hS ?_;clear hS;intro w hS)|((first|refine Sh.aa hS ?_|refine Sh.ab hS ?_|refine Sh.ac hS ?_);clear hS;intro g w hS hge)|refine Sh.ix ?_|refine Sh.up ?_|refine Sh.sl1 ?_|refine Sh.sl2 ?_|refine Sh.sl5 ?_|refine Sh.sl3 ?_|refine Sh.sl4 ?_|refine Sh.eq ?_|refine Sh.ne ?_|refine Sh.ix2 ?_|refine Sh.ix3 ?_|refine Z.bu rfl rfl ?_|refine Z.buA rfl rfl ?_|refine VM ?_|refine Z.pl (R.cap rfl rfl) ?_|refine Z.pl R.mf ?_|refine Z.pl (R.min2 rfl rfl) ?_|refine G1 ?_|refine G2 ?_|refine G3 ?_|refine G4 ?_|with_reducible (first|refine V0 ?_|refine Z.block ?_)|((with_reducible refine Z.blX ?_ ?_);rotate_left;rfl)|refine VT ?_|refine VF ?_|((first|refine GS ?_ ?_|refine VB ?_ ?_)<;>intro hb<;>(try simp only [J1,J2,J3,J4,J5,J6] at hb)<;>(try (exfalso;first|omega|exact hb trivial))))
  all_goals
    first | refine Z.done hS Tryz.results117 (Z.RV.tmp rfl Z.RV.nil) ?_ | refine Z.doneN hS Tryz.results117 (Z.RV.tmp rfl Z.RV.nil) ?_
    refine ⟨?_, hS.sb⟩
    simp only [Z.packR]
    congr 2
    first
      | (rw [eq_comm, decide_eq_false_iff_not]; unfold liveL; omega)
      | (rw [decide_eq_decide]; unfold liveL; omega)
end Go.Proofs.YtahackdfjcgkhaaGreat
