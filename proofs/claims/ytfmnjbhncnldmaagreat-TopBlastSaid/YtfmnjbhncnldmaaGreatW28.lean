import Derived.Test.YtfmnjbhncnldmaaGreatW16
import Derived.Test.YtfmnjbhncnldmaaGreatW18
import Derived.Test.YtfmnjbhncnldmaaGreatW19
import Derived.Test.YtfmnjbhncnldmaaGreatW25
import Derived.Test.YtfmnjbhncnldmaaGreatW27
set_option linter.unusedSimpArgs false
set_option linter.unusedVariables false
namespace Go.Proofs.YtfmnjbhncnldmaaGreat
open Go.RowKit
attribute [local irreducible] Res.blk Res.sl Res.all Res.ex Res.pure Res.star
section
variable (r:World) (F:List Res) (w:World) (hS:Sep r [] F w)
include hS
theorem yjm:Calls Tryz.prog 184 #[.int .u64 0] w fun e w'=>e=.returned (.int .i64 0)∧Sep r [] F w':=by
 refine Z.enter Tryz.func184 Tryz.ntmps184 rfl rfl ?_;refine sQ ?_;intro w hS;refine Dnt Tryz.results184 ?_;exact ⟨kR,hS⟩
theorem yhV:Calls Tryz.prog 184 #[.int .u64 7] w fun e w'=>e=.returned (.int .i64 3)∧Sep r [] F w':=by
 refine Z.enter Tryz.func184 Tryz.ntmps184 rfl rfl ?_;refine sQ ?_;intro w hS;refine Dnt Tryz.results184 ?_;exact ⟨kR,hS⟩
end
end Go.Proofs.YtfmnjbhncnldmaaGreat
