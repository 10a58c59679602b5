/-
  Acts on gates as arguments of statements.
-/
import Derived.Test.YtppbjlakbmgfdaaNArgs
import Derived.Test.YtppbjlakbmgfdaaNLaw27
namespace Go.Proofs.Ytppbjlakbmgfdaa
open Go.RowKit Go.ChangeShapes Go.WideShapes Go.ChangeAt Go.Deep
set_option linter.unusedSimpArgs false
set_option linter.unusedVariables false

section
variable {H : Type} {enc : TypeId × Value → H} {w : World} {base : Nat} {spare : Nat → Bool} {held : Bool}
set_option maxRecDepth 100000 in
theorem open_window {n : Nat} {cs : List Value} {y : DataW H × List MemPlace} (h : DataW.trod enc Try.prog w base spare held n 69 cs = some y) : ∃ x : Wi, cs = x.cells := by
  obtain ⟨xs, k, _, _, hlen, hxl, hf⟩ := DataW.trod_struct Try.underlying69 h
  rw [show Try.prog.cellsOf 69 = 5 by kernel_rfl] at hlen
  match cs, hlen with
  | [c0, c1, c2, c3, c4], _ =>
    obtain ⟨z0, e0⟩ := field_int (cs := [c0, c1, c2, c3, c4]) Try.underlying3 Try.cellsI hxl (by decide) (hf 0 _ rfl)
    obtain ⟨z1, e1⟩ := field_int (cs := [c1, c2, c3, c4]) Try.underlying3 Try.cellsI hxl (by decide) (hf 1 _ rfl)
    obtain ⟨z2, e2⟩ := field_int (cs := [c2, c3, c4]) Try.underlying3 Try.cellsI hxl (by decide) (hf 2 _ rfl)
    obtain ⟨z3, e3⟩ := field_int (cs := [c3, c4]) Try.underlying3 Try.cellsI hxl (by decide) (hf 3 _ rfl)
    obtain ⟨z4, e4⟩ := field_int (cs := [c4]) Try.underlying3 Try.cellsI hxl (by decide) (hf 4 _ rfl)
    simp at e0 e1 e2 e3 e4
    exact ⟨⟨z0, z1, z2, z3, z4⟩, by simp [Wi.cells, *]⟩
set_option maxRecDepth 100000 in
theorem open_act {n : Nat} {cs : List Value} {y : DataW H × List MemPlace} (h : DataW.trod enc Try.prog w base spare held n 71 cs = some y) : ∃ x : Ac, cs = x.cells := by
  obtain ⟨xs, k, _, _, hlen, hxl, hf⟩ := DataW.trod_struct Try.underlying71 h
  rw [show Try.prog.cellsOf 71 = 7 by kernel_rfl] at hlen
  match cs, hlen with
  | [c0, c1, c2, c3, c4, c5, c6], _ =>
    obtain ⟨z0, e0⟩ := field_int (cs := [c0, c1, c2, c3, c4, c5, c6]) Try.underlying3 Try.cellsI hxl (by decide) (hf 0 _ rfl)
    obtain ⟨z1, e1⟩ := field_int (cs := [c1, c2, c3, c4, c5, c6]) Try.underlying3 Try.cellsI hxl (by decide) (hf 1 _ rfl)
    have hw := hf 2 _ rfl
    rw [List.getElem?_eq_getElem (by rw [hxl]; decide)] at hw
    rw [show Try.prog.cellsOf _ = 5 by kernel_rfl] at hw
    obtain ⟨x, hx⟩ := open_window hw
    simp at e0 e1
    simp [Wi.cells] at hx
    obtain ⟨h0, h1, h2, h3, h4⟩ := hx
    exact ⟨⟨z0, z1, x⟩, by simp [Ac.cells, *]⟩
set_option maxRecDepth 100000 in
/-- An argument of type Act. -/
theorem arg_act {v : Value} {d : DataW H} {p : List MemPlace} {b0 : Nat} (hv : Value.okWide Try.prog w .any b0 71 v) (h : DataW.Trod enc Try.prog w base spare held 71 v d p) : ∃ x : Ac, v = x.val := by
  obtain ⟨cs, rfl, hsz⟩ := okWide_struct Try.underlying71 hv
  obtain ⟨fuel, hf⟩ := h
  obtain ⟨x, hx⟩ := open_act hf
  simp [Value.cells] at hx
  refine ⟨x, ?_⟩
  unfold Ac.val
  rw [← hx]
set_option maxRecDepth 100000 in
/-- An argument of type []Act. -/
theorem arg_acts {v : Value} {d : DataW H} {p : List MemPlace} {b0 : Nat} (hv : Value.okWide Try.prog w .any b0 66 v) (h : DataW.Trod enc Try.prog w base spare held 66 v d p) :
    ∃ (l : List Ac) (A : Option Addr) (cap : Nat), v = .slice A l.length cap ∧ Rows' w 7 v (l.map Ac.cells) := by
  obtain ⟨a0, len, cap, rfl⟩ := okWide_slice Try.underlying66 hv
  obtain ⟨fuel, hf⟩ := h
  obtain ⟨l, hl, hr⟩ := rows_of Ac.cells Try.underlying66 (show Try.prog.cellsOf 71 = 7 by kernel_rfl) (by omega) (fun x => ⟨rfl, by simp [Ac.cells, Value.oneCell']⟩) (fun n cs y h => open_act h) hf
  subst hl
  exact ⟨l, a0, cap, rfl, hr⟩
end
end Go.Proofs.Ytppbjlakbmgfdaa
