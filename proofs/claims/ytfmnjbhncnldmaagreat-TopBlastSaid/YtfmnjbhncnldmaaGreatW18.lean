import Derived.Test.YtfmnjbhncnldmaaGreatW10
import Derived.Test.YtfmnjbhncnldmaaGreatW16
import Derived.Test.YtfmnjbhncnldmaaGreatW17
set_option linter.unusedSimpArgs false
set_option linter.unusedVariables false
namespace Go.Proofs.YtfmnjbhncnldmaaGreat
open Go.RowKit
attribute [local irreducible] Res.blk Res.sl Res.all Res.ex Res.pure Res.star
def gv (ps:List (Int×Int)) (u:Nat):Int:=if u % 2=0 then (ps.getD (u / 2) (-1,-1)).1 else (ps.getD (u / 2) (-1,-1)).2
end Go.Proofs.YtfmnjbhncnldmaaGreat
