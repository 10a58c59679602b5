/-
  Lists of lists of changes.
-/
import Derived.Test.YtabpapdickolgaaZm
import Derived.Test.YtabpapdickolgaaTypes
namespace Go.Proofs.Ytabpapdickolgaa
open Go.RowKit
set_option linter.unusedSimpArgs false
set_option linter.unusedVariables false
attribute [local irreducible] Res.blk Res.sl Res.all Res.ex Res.pure Res.star

/-- A list of changes where it lies. -/
structure LS where
  A : Option Addr
  n : Nat
  c : Nat
  l : List Ch
def LS.cells (x : LS) : List Value := [.slice x.A x.n x.c]
theorem LS.row_ok {l : List LS} : ∀ row, row ∈ l.map LS.cells → row.length = 1 ∧ ∀ u, u ∈ row → u.oneCell' = true := by
  intro row hr
  obtain ⟨x, _, rfl⟩ := List.mem_map.1 hr
  exact ⟨rfl, by simp [LS.cells, Value.oneCell']⟩
end Go.Proofs.Ytabpapdickolgaa
