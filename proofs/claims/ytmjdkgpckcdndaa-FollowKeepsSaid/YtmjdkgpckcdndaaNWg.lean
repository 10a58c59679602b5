/-
  Arguments of the statements about followers: messages.
-/
import Derived.Test.YtmjdkgpckcdndaaA1
import Derived.Test.YtmjdkgpckcdndaaNFt
namespace Go.Proofs.Ytmjdkgpckcdndaa
open Go.RowKit Go.ChangeShapes Go.WideShapes Go.ChangeAt Go.Deep
set_option linter.unusedSimpArgs false
set_option linter.unusedVariables false

/-- A message where it lies. -/
structure ShV where
  m : Shp
  A : Option Addr
  c : Nat
def ShV.v (x : ShV) : Value := .slice x.A x.m.ch.length x.c
def ShV.cells (x : ShV) : List Value := [.int .i64 x.m.ep, .int .i64 x.m.seq, .int .i64 x.m.before, x.v]
theorem ShV.one (x : ShV) : x.cells.length = 4 ∧ ∀ u, u ∈ x.cells → u.oneCell' = true := ⟨rfl, by simp [ShV.cells, ShV.v, Value.oneCell']⟩
theorem ShV.row_ok {l : List ShV} : ∀ row, row ∈ l.map ShV.cells → row.length = 4 ∧ ∀ u, u ∈ row → u.oneCell' = true := by
  intro row hr
  obtain ⟨x, _, rfl⟩ := List.mem_map.1 hr
  exact x.one
section
variable {H : Type} {enc : TypeId × Value → H} {w : World} {base : Nat} {spare : Nat → Bool} {held : Bool}
set_option maxRecDepth 100000 in
theorem open_changes {n : Nat} {cs : List Value} {y : DataW H × List MemPlace} (h : DataW.trod enc Try.prog w base spare held n 26 cs = some y) :
    ∃ (l : List Ch) (A : Option Addr) (cap : Nat), cs = [.slice A l.length cap] ∧ Rows' w 8 (.slice A l.length cap) (l.map Ch.cells) := by
  have key : ∃ (a0 : Option Addr) (len cap : Nat), cs = [.slice a0 len cap] := by
    rcases open_slice Try.underlying26 h with ⟨hcs, _⟩ | ⟨a, len', cap', m, n, D, Pl, hcs, _⟩
    · exact ⟨_, _, _, hcs⟩
    · exact ⟨_, _, _, hcs⟩
  obtain ⟨a0, len, cap, rfl⟩ := key
  obtain ⟨l, hl, hr⟩ := rows_of Ch.cells Try.underlying26 (show Try.prog.cellsOf 51 = 8 by kernel_rfl) (by omega) (fun x => ⟨rfl, by simp [Ch.cells, Value.oneCell']⟩) (fun n cs y h => open_change h) h
  subst hl
  exact ⟨l, a0, cap, rfl, hr⟩
theorem field_changes {cs : List Value} {xs : List (DataW H × List MemPlace)} {i k n : Nat} (hl : xs.length = n) (hi : i < n)
    (h : DataW.trod enc Try.prog w base spare held k 26 (cs.take (Try.prog.cellsOf 26)) = xs[i]?) : ∃ (l : List Ch) (A : Option Addr) (cap : Nat), cs.take 1 = [.slice A l.length cap] ∧ Rows' w 8 (.slice A l.length cap) (l.map Ch.cells) := by
  rw [show Try.prog.cellsOf 26 = 1 by kernel_rfl, List.getElem?_eq_getElem (by omega)] at h
  exact open_changes h
set_option maxRecDepth 100000 in
theorem open_ship {n : Nat} {cs : List Value} {y : DataW H × List MemPlace} (h : DataW.trod enc Try.prog w base spare held n 28 cs = some y) :
    ∃ x : ShV, cs = x.cells ∧ Rows' w 8 x.v (x.m.ch.map Ch.cells) := by
  obtain ⟨xs, k, _, _, hlen, hxl, hf⟩ := DataW.trod_struct Try.underlying28 h
  rw [show Try.prog.cellsOf 28 = 4 by kernel_rfl] at hlen
  match cs, hlen with
  | [c0, c1, c2, c3], _ =>
    obtain ⟨z0, e0⟩ := field_int (cs := [c0, c1, c2, c3]) Try.underlying3 Try.cellsI hxl (by decide) (hf 0 _ rfl)
    obtain ⟨z1, e1⟩ := field_int (cs := [c1, c2, c3]) Try.underlying3 Try.cellsI hxl (by decide) (hf 1 _ rfl)
    obtain ⟨z2, e2⟩ := field_int (cs := [c2, c3]) Try.underlying3 Try.cellsI hxl (by decide) (hf 2 _ rfl)
    obtain ⟨l, A, cap, e3, hr⟩ := field_changes (cs := [c3]) hxl (by decide) (hf 3 _ rfl)
    simp at e0 e1 e2 e3
    exact ⟨⟨⟨z0, z1, z2, l⟩, A, cap⟩, by simp [ShV.cells, ShV.v, *], hr⟩
set_option maxRecDepth 100000 in
/-- An argument of type []int, with its rows. -/
theorem arg_intsr {v : Value} {d : DataW H} {p : List MemPlace} {b0 : Nat} (hv : Value.okWide Try.prog w .any b0 22 v) (h : DataW.Trod enc Try.prog w base (fun _ => true) held 22 v d p) :
    ∃ (l : List Int) (A : Option Addr) (cap : Nat), v = .slice A l.length cap ∧ Rd w 1 A l.length (l.map (Value.int .i64)) ∧ Rows' w 1 v (l.map intC) := by
  obtain ⟨a0, len, cap, rfl⟩ := okWide_slice Try.underlying22 hv
  obtain ⟨fuel, hf⟩ := h
  rcases open_ints Try.underlying22 Try.underlying3 Try.cellsI hf with ⟨hcs, hx⟩ | ⟨a, len', cap', zs, hcs, _, hl, hm, hz, hx, hcell, hwz⟩
  · simp [Value.cells] at hcs
    obtain ⟨rfl, rfl, rfl⟩ := hcs
    exact ⟨[], none, 0, rfl, Rd.zero _ _ _, rows_ints (l := []) (fun _ => rfl) (by simp) (Rd.zero _ _ _)⟩
  · simp [Value.cells] at hcs
    obtain ⟨rfl, rfl, rfl⟩ := hcs
    simp only [if_true] at hz
    have hlt : (zs.take len).length = len := by simp; omega
    have hr := rd_ints (W := w) (a := a) (len := len) (zs := zs) (by omega) hcell
    refine ⟨zs.take len, some a, cap, by rw [hlt], hr, ?_⟩
    have h2 := rows_ints (c := cap) (fun h => by cases h) (by rw [hlt]; omega) hr
    rw [hlt] at h2
    exact h2
set_option maxRecDepth 100000 in
/-- An argument of type api.Ship. -/
theorem arg_ship {v : Value} {d : DataW H} {p : List MemPlace} {b0 : Nat} (hv : Value.okWide Try.prog w .any b0 28 v) (h : DataW.Trod enc Try.prog w base spare held 28 v d p) :
    ∃ x : ShV, v = x.m.val x.v ∧ Rows' w 8 x.v (x.m.ch.map Ch.cells) := by
  obtain ⟨cs, rfl, hsz⟩ := okWide_struct Try.underlying28 hv
  obtain ⟨fuel, hf⟩ := h
  obtain ⟨x, hx, hr⟩ := open_ship hf
  simp [Value.cells] at hx
  refine ⟨x, ?_, hr⟩
  unfold Shp.val
  obtain ⟨cs⟩ := cs
  simp only at hx
  rw [hx]
  rfl
set_option maxRecDepth 100000 in
/-- An argument of type []api.Ship. -/
theorem arg_ships {v : Value} {d : DataW H} {p : List MemPlace} {b0 : Nat} (hv : Value.okWide Try.prog w .any b0 23 v) (h : DataW.Trod enc Try.prog w base spare held 23 v d p) :
    ∃ (l : List ShV) (A : Option Addr) (cap : Nat), v = .slice A l.length cap ∧ Rows' w 4 v (l.map ShV.cells) ∧ ∀ x, x ∈ l → Rows' w 8 x.v (x.m.ch.map Ch.cells) := by
  obtain ⟨a0, len, cap, rfl⟩ := okWide_slice Try.underlying23 hv
  obtain ⟨fuel, hf⟩ := h
  obtain ⟨l, hl, hr⟩ := rows_of (fun x : {x : ShV // Rows' w 8 x.v (x.m.ch.map Ch.cells)} => x.1.cells) Try.underlying23 (show Try.prog.cellsOf 28 = 4 by kernel_rfl) (by omega) (fun x => x.1.one)
    (fun n cs y h => by obtain ⟨x, hx, hr⟩ := open_ship h; exact ⟨⟨x, hr⟩, hx⟩) hf
  subst hl
  refine ⟨l.map Subtype.val, a0, cap, by simp, ?_, fun x hx => ?_⟩
  · rw [List.map_map]
    exact hr
  · obtain ⟨y, _, rfl⟩ := List.mem_map.1 hx
    exact y.2
end
end Go.Proofs.Ytmjdkgpckcdndaa
