/-
  One step, of many rules (mended; for the seat of cells).
-/
import Derived.Test.YtahackdfjcgkhaaGreatE2
namespace Go.Proofs.YtahackdfjcgkhaaGreat
open Go.RowKit
set_option linter.unusedSimpArgs false
set_option linter.unusedVariables false
theorem Kd {G H : Prop} (h : H) (k : H → G := by
    intro h
    first
    | exact VP h | exact Sh.la hS h | exact Sh.lb h | exact Sh.lc h | exact Sh.su h
    | exact Sh.ix h | exact Sh.up h | exact Sh.sl1 h | exact Sh.sl2 h | exact Sh.sl5 h | exact Sh.sl3 h | exact Sh.sl4 h | exact Sh.eq h | exact Sh.ne h | exact Sh.ix2 h | exact Sh.ix3 h
    | exact Z.bu rfl rfl h | exact Z.buA rfl rfl h | exact VM h | exact Z.pl (R.cap rfl rfl) h | exact Z.pl R.mf h | exact Z.pl (R.min2 rfl rfl) h
    | exact G1 h | exact G2 h | exact G3 h | exact G4 h | with_reducible (first | exact V0 h | exact Z.block h)
    | ((with_reducible refine Z.blX h ?_); exact rfl) | exact VT h | exact VF h) : G := k h
theorem Kdq {G H : Prop} (h : H) (k : H → G := by
    intro h
    first
    | exact VP h | exact Sh.la hS h | exact Sh.lb h | exact Sh.lc h | exact Sh.su h
    | exact Sh.ix h | exact Sh.up h | exact Sh.sl1 h | exact Sh.sl2 h | exact Sh.sl5 h | exact Sh.sl3 h | exact Sh.sl4 h | exact Sh.ix2 h | exact Sh.ix3 h
    | exact Z.bu rfl rfl h | exact Z.buA rfl rfl h | exact VM h | exact Z.pl (R.cap rfl rfl) h | exact Z.pl R.mf h | exact Z.pl (R.min2 rfl rfl) h
    | exact G1 h | exact G2 h | exact G3 h | exact G4 h | with_reducible (first | exact V0 h | exact Z.block h)
    | ((with_reducible refine Z.blX h ?_); exact rfl) | exact VT h | exact VF h) : G := k h
theorem Kdb {G H : Prop} (h : H) (k : H → G := by
    intro h
    first
    | exact VP h | exact Sh.la hS h | exact Sh.lb h | exact Sh.lc h | exact Sh.su h
    | exact Sh.ix h | exact Sh.up h | exact Sh.sl1 h | exact Sh.sl2 h | exact Sh.sl5 h | exact Sh.sl3 h | exact Sh.sl4 h | exact Sh.eq h | exact Sh.ne h | exact Sh.ix2 h | exact Sh.ix3 h
    | exact Z.bu rfl rfl h | exact Z.buA rfl rfl h | exact VM h | exact Z.pl (R.cap rfl rfl) h | exact Z.pl R.mf h | exact Z.pl (R.min2 rfl rfl) h
    | exact G1 h | exact G2 h | exact G3 h | exact G4 h | with_reducible (first | exact V0 h)
    | ((with_reducible refine Z.blX h ?_); exact rfl) | exact VT h | exact VF h) : G := k h
theorem Kdqb {G H : Prop} (h : H) (k : H → G := by
    intro h
    first
    | exact VP h | exact Sh.la hS h | exact Sh.lb h | exact Sh.lc h | exact Sh.su h
    | exact Sh.ix h | exact Sh.up h | exact Sh.sl1 h | exact Sh.sl2 h | exact Sh.sl5 h | exact Sh.sl3 h | exact Sh.sl4 h | exact Sh.ix2 h | exact Sh.ix3 h
    | exact Z.bu rfl rfl h | exact Z.buA rfl rfl h | exact VM h | exact Z.pl (R.cap rfl rfl) h | exact Z.pl R.mf h | exact Z.pl (R.min2 rfl rfl) h
    | exact G1 h | exact G2 h | exact G3 h | exact G4 h | with_reducible (first | exact V0 h)
    | ((with_reducible refine Z.blX h ?_); exact rfl) | exact VT h | exact VF h) : G := k h
theorem Kdn {G H : Prop} (h : H) (k : H → G := by
    intro h
    first
    | exact VP h | exact Sh.la hS h | exact Sh.lb h | exact Sh.lc h | exact Sh.su h
    | exact Sh.ix h | exact Sh.up h | exact Sh.sl1 h | exact Sh.sl2 h | exact Sh.sl5 h | exact Sh.sl3 h | exact Sh.sl4 h | exact Sh.eq h | exact Sh.ne h | exact Sh.ix2 h | exact Sh.ix3 h
    | exact Z.bu rfl rfl h | exact Z.buA rfl rfl h | exact VM h | exact Z.pl (R.cap rfl rfl) h | exact Z.pl R.mf h | exact Z.pl (R.min2 rfl rfl) h
    | exact G1 h | exact G2 h | exact G3 h | exact G4 h | with_reducible (first | exact Z.seq h | exact Z.reg h | exact Z.nil h | exact Z.skip h | exact Z.exit h | exact Z.ret h | exact Z.block h | exact Z.thU h | exact Z.thE h | exact Z.thR h | exact Z.blN h | exact Z.blR h | exact Z.blE h | exact Z.label h | exact Z.scope h | exact Z.ngN h | exact Z.ngR h | exact Z.ngE h)
    | ((with_reducible refine Z.blX h ?_); exact rfl) | exact VT h | exact VF h) : G := k h
end Go.Proofs.YtahackdfjcgkhaaGreat
