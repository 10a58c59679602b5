/-
  The strings of a request are short enough.
-/
import Derived.Test.YtahackdfjcgkhaaGreatNCv
namespace Go.Proofs.YtahackdfjcgkhaaGreat
open Go.RowKit
set_option linter.unusedSimpArgs false
set_option linter.unusedVariables false
attribute [local irreducible] Res.blk Res.sl Res.all Res.ex Res.pure Res.star

theorem short28_z (x : Rq) (r : World) (F : List Res) (w : World) (hS : Sep r [] F w) : Calls Tryz.prog 14 #[x.val] w fun e w' => e = .returned (.bool (decide (x.key.size ≤ 100 ∧ x.value.size ≤ 100))) ∧ Sep r [] F w' := by
  refine Z.enter Tryz.func14 Tryz.ntmps14 rfl rfl ?_
  repeat' (first|refine VP ?_|refine Sh.la hS ?_|refine Sh.lb ?_|refine Sh.lc ?_|refine Sh.su ?_|(refine Sh.sa hS ?_;clear hS;intro w hS)|((first|refine Sh.aa hS ?_|refine Sh.ab hS ?_|refine Sh.ac hS ?_);clear hS;intro g w hS hge)|refine Sh.ix ?_|refine Sh.up ?_|refine Sh.sl1 ?_|refine Sh.sl2 ?_|refine Sh.sl5 ?_|refine Sh.sl3 ?_|refine Sh.sl4 ?_|refine Sh.eq ?_|refine Sh.ne ?_|refine Sh.ix2 ?_|refine Sh.ix3 ?_|refine Z.bu rfl rfl ?_|refine Z.buA rfl rfl ?_|refine VM ?_|refine Z.pl (R.cap rfl rfl) ?_|refine Z.pl R.mf ?_|refine Z.pl (R.min2 rfl rfl) ?_|refine G1 ?_|refine G2 ?_|refine G3 ?_|refine G4 ?_|with_reducible (first|refine V0 ?_|refine Z.block ?_)|((with_reducible refine Z.blX ?_ ?_);rotate_left;rfl)|refine VT ?_|refine VF ?_|((first|refine GS ?_ ?_|refine VB ?_ ?_)<;>intro hb<;>(try simp only [J1,J2,J3,J4,J5,J6] at hb)<;>(try (exfalso;first|omega|exact hb trivial))))
  all_goals
    first | refine Z.done hS Tryz.results14 (Z.RV.tmp rfl Z.RV.nil) ?_ | refine Z.doneN hS Tryz.results14 (Z.RV.tmp rfl Z.RV.nil) ?_
    refine ⟨congrArg (fun b => Ending.returned (Value.bool b)) ?_, hS.sb⟩
    first
      | exact decide_eq_decide.2 ⟨fun h => ⟨by omega, by omega⟩, fun h => by have := h.2; omega⟩
      | exact (decide_eq_false (fun h => by have := h.1; omega)).symm
end Go.Proofs.YtahackdfjcgkhaaGreat
