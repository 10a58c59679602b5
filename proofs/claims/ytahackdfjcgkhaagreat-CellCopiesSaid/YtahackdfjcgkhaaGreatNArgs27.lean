/-
  Acts on gates as arguments of statements.
-/
import Derived.Test.YtahackdfjcgkhaaGreatA1
import Derived.Test.YtahackdfjcgkhaaGreatNLaw27
namespace Go.Proofs.YtahackdfjcgkhaaGreat
open Go.RowKit Go.ChangeShapes Go.WideShapes Go.ChangeAt Go.Deep
set_option linter.unusedSimpArgs false
set_option linter.unusedVariables false

section
variable {H : Type} {enc : TypeId × Value → H} {w : World} {base : Nat} {spare : Nat → Bool} {held : Bool}
set_option maxRecDepth 100000 in
theorem open_window {n : Nat} {cs : List Value} {y : DataW H × List MemPlace} (h : DataW.trod enc Tryz.prog w base spare held n 46 cs = some y) : ∃ x : Wi, cs = x.cells := by
  obtain ⟨xs, k, _, _, hlen, hxl, hf⟩ := DataW.trod_struct Tryz.underlying46 h
  rw [show Tryz.prog.cellsOf 46 = 5 by kernel_rfl] at hlen
  match cs, hlen with
  | [c0, c1, c2, c3, c4], _ =>
    obtain ⟨z0, e0⟩ := field_int (cs := [c0, c1, c2, c3, c4]) Tryz.underlying3 Tryz.cellsI hxl (by decide) (hf 0 _ rfl)
    obtain ⟨z1, e1⟩ := field_int (cs := [c1, c2, c3, c4]) Tryz.underlying3 Tryz.cellsI hxl (by decide) (hf 1 _ rfl)
    obtain ⟨z2, e2⟩ := field_int (cs := [c2, c3, c4]) Tryz.underlying3 Tryz.cellsI hxl (by decide) (hf 2 _ rfl)
    obtain ⟨z3, e3⟩ := field_int (cs := [c3, c4]) Tryz.underlying3 Tryz.cellsI hxl (by decide) (hf 3 _ rfl)
    obtain ⟨z4, e4⟩ := field_int (cs := [c4]) Tryz.underlying3 Tryz.cellsI hxl (by decide) (hf 4 _ rfl)
    simp at e0 e1 e2 e3 e4
    exact ⟨⟨z0, z1, z2, z3, z4⟩, by simp [Wi.cells, *]⟩
end
end Go.Proofs.YtahackdfjcgkhaaGreat
