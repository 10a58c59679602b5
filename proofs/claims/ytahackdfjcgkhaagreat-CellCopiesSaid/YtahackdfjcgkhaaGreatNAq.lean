/-
  An argument of type api.Request, as plain data.
-/
import Derived.Test.YtahackdfjcgkhaaGreatA1
import Derived.Test.YtahackdfjcgkhaaGreatNExP
namespace Go.Proofs.YtahackdfjcgkhaaGreat
open Go.RowKit Go.ChangeShapes Go.WideShapes Go.ChangeAt Go.Deep
set_option linter.unusedSimpArgs false
set_option linter.unusedVariables false
section
variable {H : Type} {enc : TypeId × Value → H} {w : World} {base : Nat} {spare : Nat → Bool} {held : Bool}
set_option maxRecDepth 100000 in
theorem open_req {n : Nat} {cs : List Value} {y : DataW H × List MemPlace} (h : DataW.trod enc Tryz.prog w base spare held n 23 cs = some y) : ∃ x : Rq, cs = x.cells := by
  obtain ⟨xs, k, _, _, hlen, hxl, hf⟩ := DataW.trod_struct Tryz.underlying23 h
  rw [show Tryz.prog.cellsOf 23 = 7 by kernel_rfl] at hlen
  match cs, hlen with
  | [c0, c1, c2, c3, c4, c5, c6], _ =>
    obtain ⟨z0, e0⟩ := field_int (cs := [c0, c1, c2, c3, c4, c5, c6]) Tryz.underlying3 Tryz.cellsI hxl (by decide) (hf 0 _ rfl)
    obtain ⟨z1, e1⟩ := field_int (cs := [c1, c2, c3, c4, c5, c6]) Tryz.underlying3 Tryz.cellsI hxl (by decide) (hf 1 _ rfl)
    obtain ⟨z2, e2⟩ := field_int (cs := [c2, c3, c4, c5, c6]) Tryz.underlying3 Tryz.cellsI hxl (by decide) (hf 2 _ rfl)
    obtain ⟨z3, e3⟩ := field_int (cs := [c3, c4, c5, c6]) Tryz.underlying3 Tryz.cellsI hxl (by decide) (hf 3 _ rfl)
    obtain ⟨z4, e4⟩ := field_int (cs := [c4, c5, c6]) Tryz.underlying3 Tryz.cellsI hxl (by decide) (hf 4 _ rfl)
    obtain ⟨z5, e5⟩ := field_str (cs := [c5, c6]) Tryz.underlying9 Tryz.cellsS hxl (by decide) (hf 5 _ rfl)
    obtain ⟨z6, e6⟩ := field_str (cs := [c6]) Tryz.underlying9 Tryz.cellsS hxl (by decide) (hf 6 _ rfl)
    simp at e0 e1 e2 e3 e4 e5 e6
    exact ⟨⟨z0, z1, z2, z3, z4, z5, z6⟩, by simp [Rq.cells, *]⟩
set_option maxRecDepth 100000 in
/-- An argument of type api.Request. -/
theorem arg_req {v : Value} {d : DataW H} {p : List MemPlace} {b0 : Nat} (hv : Value.okWide Tryz.prog w .any b0 23 v) (h : DataW.Trod enc Tryz.prog w base spare held 23 v d p) : ∃ x : Rq, v = x.val := by
  obtain ⟨cs, rfl, hsz⟩ := okWide_struct Tryz.underlying23 hv
  obtain ⟨fuel, hf⟩ := h
  obtain ⟨x, hx⟩ := open_req hf
  simp [Value.cells] at hx
  refine ⟨x, ?_⟩
  unfold Rq.val
  rw [← hx]
end
end Go.Proofs.YtahackdfjcgkhaaGreat
