/-
  Acts on copies as arguments of statements.
-/
import Derived.Test.YtahackdfjcgkhaaGreatNAq
import Derived.Test.YtahackdfjcgkhaaGreatNArgs27
import Derived.Test.YtahackdfjcgkhaaGreatNDo
namespace Go.Proofs.YtahackdfjcgkhaaGreat
open Go.RowKit Go.ChangeShapes Go.WideShapes Go.ChangeAt Go.Deep
set_option linter.unusedSimpArgs false
set_option linter.unusedVariables false

section
variable {H : Type} {enc : TypeId × Value → H} {w : World} {base : Nat} {spare : Nat → Bool} {held : Bool}
set_option maxRecDepth 100000 in
theorem open_act8 {n : Nat} {cs : List Value} {y : DataW H × List MemPlace} (h : DataW.trod enc Tryz.prog w base spare held n 89 cs = some y) : ∃ x : A8, cs = x.cells := by
  obtain ⟨xs, k, _, _, hlen, hxl, hf⟩ := DataW.trod_struct Tryz.underlying89 h
  rw [show Tryz.prog.cellsOf 89 = 23 by kernel_rfl] at hlen
  match cs, hlen with
  | [c0, c1, c2, c3, c4, c5, c6, c7, c8, c9, c10, c11, c12, c13, c14, c15, c16, c17, c18, c19, c20, c21, c22], _ =>
    obtain ⟨z0, e0⟩ := field_int (cs := [c0, c1, c2, c3, c4, c5, c6, c7, c8, c9, c10, c11, c12, c13, c14, c15, c16, c17, c18, c19, c20, c21, c22]) Tryz.underlying3 Tryz.cellsI hxl (by decide) (hf 0 _ rfl)
    obtain ⟨z1, e1⟩ := field_int (cs := [c1, c2, c3, c4, c5, c6, c7, c8, c9, c10, c11, c12, c13, c14, c15, c16, c17, c18, c19, c20, c21, c22]) Tryz.underlying3 Tryz.cellsI hxl (by decide) (hf 1 _ rfl)
    obtain ⟨z2, e2⟩ := field_int (cs := [c2, c3, c4, c5, c6, c7, c8, c9, c10, c11, c12, c13, c14, c15, c16, c17, c18, c19, c20, c21, c22]) Tryz.underlying3 Tryz.cellsI hxl (by decide) (hf 2 _ rfl)
    have h3 := hf 3 _ rfl
    rw [List.getElem?_eq_getElem (by rw [hxl]; decide)] at h3
    rw [show Tryz.prog.cellsOf _ = 7 by kernel_rfl] at h3
    obtain ⟨q, hq⟩ := open_req h3
    have h4 := hf 4 _ rfl
    rw [List.getElem?_eq_getElem (by rw [hxl]; decide)] at h4
    rw [show Tryz.prog.cellsOf _ = 8 by kernel_rfl] at h4
    obtain ⟨x, hx⟩ := open_change h4
    have h5 := hf 5 _ rfl
    rw [List.getElem?_eq_getElem (by rw [hxl]; decide)] at h5
    rw [show Tryz.prog.cellsOf _ = 5 by kernel_rfl] at h5
    obtain ⟨u, hu⟩ := open_window h5
    simp at e0 e1 e2
    simp [Rq.cells] at hq
    simp [Ch.cells] at hx
    simp [Wi.cells] at hu
    exact ⟨⟨z0, z1, z2, q, x, u⟩, by simp [A8.cells, *]⟩
set_option maxRecDepth 100000 in
/-- An argument of type Act. -/
theorem arg_act8 {v : Value} {d : DataW H} {p : List MemPlace} {b0 : Nat} (hv : Value.okWide Tryz.prog w .any b0 89 v) (h : DataW.Trod enc Tryz.prog w base spare held 89 v d p) : ∃ x : A8, v = x.val := by
  obtain ⟨cs, rfl, hsz⟩ := okWide_struct Tryz.underlying89 hv
  obtain ⟨fuel, hf⟩ := h
  obtain ⟨x, hx⟩ := open_act8 hf
  simp [Value.cells] at hx
  refine ⟨x, ?_⟩
  unfold A8.val
  rw [← hx]
set_option maxRecDepth 100000 in
/-- An argument of type []Act. -/
theorem arg_acts8 {v : Value} {d : DataW H} {p : List MemPlace} {b0 : Nat} (hv : Value.okWide Tryz.prog w .any b0 84 v) (h : DataW.Trod enc Tryz.prog w base spare held 84 v d p) :
    ∃ (l : List A8) (A : Option Addr) (cap : Nat), v = .slice A l.length cap ∧ Rows' w 23 v (l.map A8.cells) := by
  obtain ⟨a0, len, cap, rfl⟩ := okWide_slice Tryz.underlying84 hv
  obtain ⟨fuel, hf⟩ := h
  obtain ⟨l, hl, hr⟩ := rows_of A8.cells Tryz.underlying84 (show Tryz.prog.cellsOf 89 = 23 by kernel_rfl) (by omega) (fun x => ⟨rfl, by simp [A8.cells, Value.oneCell']⟩) (fun n cs y h => open_act8 h) hf
  subst hl
  exact ⟨l, a0, cap, rfl, hr⟩
end
end Go.Proofs.YtahackdfjcgkhaaGreat
