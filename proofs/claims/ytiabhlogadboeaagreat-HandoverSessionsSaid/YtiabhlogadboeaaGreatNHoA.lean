/-
  Arguments of the statements about handovers: manifests, pairs of numbers, truth values.
-/
import Derived.Test.YtiabhlogadboeaaGreatA1
import Derived.Test.YtiabhlogadboeaaGreatNHoP
namespace Go.Proofs.YtiabhlogadboeaaGreat
open Go.RowKit Go.ChangeShapes Go.WideShapes Go.ChangeAt Go.Deep
set_option linter.unusedSimpArgs false
set_option linter.unusedVariables false

/-- The cell of a key. -/
def kC (k : ByteArray) : List Value := [.string k]
/-- A manifest as a value, its lists at vk, vi, vs. -/
def Mf.cells (m : Mf) (vk vi vs : Value) : List Value := [.int .i64 m.tenant, .int .i64 m.length, .int .i64 m.epoch, vk, vi, vs, .int .u64 m.sum]
def Mf.val (m : Mf) (vk vi vs : Value) : Value := .agg (m.cells vk vi vs).toArray
section
variable {H : Type} {enc : TypeId × Value → H} {w : World} {base : Nat} {spare : Nat → Bool} {held : Bool}
theorem lit_i64 {z : Int} (hw : (Lit.int .i64 z).wf = true) : i64ok z := by
  have e1 : IntKind.i64.min = -9223372036854775808 := rfl
  have e2 : IntKind.i64.max = 9223372036854775807 := rfl
  simp only [Lit.wf, IntKind.has, e1, e2, Bool.and_eq_true, decide_eq_true_eq] at hw
  exact hw
theorem open_intb {cs : List Value} {k : Nat} {y : DataW H × List MemPlace} (h : DataW.trod enc Tryz.prog w base spare held k 3 cs = some y) : ∃ z, cs = [.int .i64 z] ∧ i64ok z := by
  obtain ⟨z, hz, _, hw⟩ := DataW.trod_int Tryz.underlying3 h
  exact ⟨z, hz, lit_i64 hw⟩
theorem field_intb {cs : List Value} {xs : List (DataW H × List MemPlace)} {i k n : Nat} (hl : xs.length = n) (hi : i < n)
    (h : DataW.trod enc Tryz.prog w base spare held k 3 (cs.take (Tryz.prog.cellsOf 3)) = xs[i]?) : ∃ z, cs.take 1 = [.int .i64 z] ∧ i64ok z := by
  rw [Tryz.cellsI, List.getElem?_eq_getElem (by omega)] at h
  exact open_intb h
theorem field_u64 {cs : List Value} {xs : List (DataW H × List MemPlace)} {i k n : Nat} (hl : xs.length = n) (hi : i < n)
    (h : DataW.trod enc Tryz.prog w base spare held k 34 (cs.take (Tryz.prog.cellsOf 34)) = xs[i]?) : ∃ z, cs.take 1 = [.int .u64 z] := by
  rw [show Tryz.prog.cellsOf 34 = 1 by kernel_rfl, List.getElem?_eq_getElem (by omega)] at h
  obtain ⟨z, hz, _⟩ := DataW.trod_int Tryz.underlying34 h
  exact ⟨z, hz⟩
set_option maxRecDepth 100000 in
theorem field_intsb {cs : List Value} {xs : List (DataW H × List MemPlace)} {i k n : Nat} (hl : xs.length = n) (hi : i < n)
    (h : DataW.trod enc Tryz.prog w base spare held k 22 (cs.take (Tryz.prog.cellsOf 22)) = xs[i]?) : ∃ (l : List Int) (A : Option Addr) (cap : Nat), cs.take 1 = [.slice A l.length cap] ∧ Rows' w 1 (.slice A l.length cap) (l.map intC) ∧ ∀ z, z ∈ l → i64ok z := by
  rw [show Tryz.prog.cellsOf 22 = 1 by kernel_rfl, List.getElem?_eq_getElem (by omega)] at h
  have key : ∃ (a0 : Option Addr) (len cap : Nat), cs.take 1 = [.slice a0 len cap] := by
    rcases open_slice Tryz.underlying22 h with ⟨hcs, _⟩ | ⟨a, len', cap', m, n, D, Pl, hcs, _⟩
    · exact ⟨_, _, _, hcs⟩
    · exact ⟨_, _, _, hcs⟩
  obtain ⟨a0, len, cap, e⟩ := key
  rw [e] at h
  obtain ⟨l, hll, hr⟩ := rows_of (fun x : {z : Int // i64ok z} => intC x.1) Tryz.underlying22 Tryz.cellsI (by omega) (fun x => ⟨rfl, by simp [intC, Value.oneCell']⟩)
    (fun n cs y h => by obtain ⟨z, hz, hb⟩ := open_intb h; exact ⟨⟨z, hb⟩, hz⟩) h
  subst hll
  refine ⟨l.map Subtype.val, a0, cap, by rw [e, List.length_map], ?_, fun z hz => ?_⟩
  · rw [List.length_map, List.map_map]
    exact hr
  · obtain ⟨y, _, rfl⟩ := List.mem_map.1 hz
    exact y.2
set_option maxRecDepth 100000 in
theorem field_strs {cs : List Value} {xs : List (DataW H × List MemPlace)} {i k n : Nat} (hl : xs.length = n) (hi : i < n)
    (h : DataW.trod enc Tryz.prog w base spare held k 33 (cs.take (Tryz.prog.cellsOf 33)) = xs[i]?) : ∃ (l : List ByteArray) (A : Option Addr) (cap : Nat), cs.take 1 = [.slice A l.length cap] ∧ Rows' w 1 (.slice A l.length cap) (l.map kC) ∧ ∀ z, z ∈ l → z.size ≤ maxLen := by
  rw [show Tryz.prog.cellsOf 33 = 1 by kernel_rfl, List.getElem?_eq_getElem (by omega)] at h
  have key : ∃ (a0 : Option Addr) (len cap : Nat), cs.take 1 = [.slice a0 len cap] := by
    rcases open_slice Tryz.underlying33 h with ⟨hcs, _⟩ | ⟨a, len', cap', m, n, D, Pl, hcs, _⟩
    · exact ⟨_, _, _, hcs⟩
    · exact ⟨_, _, _, hcs⟩
  obtain ⟨a0, len, cap, e⟩ := key
  rw [e] at h
  obtain ⟨l, hll, hr⟩ := rows_of (fun x : {z : ByteArray // z.size ≤ maxLen} => kC x.1) Tryz.underlying33 Tryz.cellsS (by omega) (fun x => ⟨rfl, by simp [kC, Value.oneCell']⟩)
    (fun n cs y h => by obtain ⟨z, hz, _, hw⟩ := DataW.trod_string Tryz.underlying9 h; exact ⟨⟨z, hw⟩, hz⟩) h
  subst hll
  refine ⟨l.map Subtype.val, a0, cap, by rw [e, List.length_map], ?_, fun z hz => ?_⟩
  · rw [List.length_map, List.map_map]
    exact hr
  · obtain ⟨y, _, rfl⟩ := List.mem_map.1 hz
    exact y.2
/-- What an argument of type api.Manifest fulfils. -/
structure Mf.arg (m : Mf) (w : World) (vk vi vs : Value) : Prop where
  k : Rows' w 1 vk (m.keys.map kC)
  i : Rows' w 1 vi (m.items.map intC)
  s : Rows' w 1 vs (m.sessions.map intC)
  t : i64ok m.tenant
  l : i64ok m.length
  e : i64ok m.epoch
  ks : ∀ z, z ∈ m.keys → z.size ≤ maxLen
  is : ∀ z, z ∈ m.items → i64ok z
  ss : ∀ z, z ∈ m.sessions → i64ok z
set_option maxRecDepth 100000 in
/-- An argument of type api.Manifest. -/
theorem arg_mf {v : Value} {d : DataW H} {p : List MemPlace} {b0 : Nat} (hv : Value.okWide Tryz.prog w .any b0 36 v) (h : DataW.Trod enc Tryz.prog w base spare held 36 v d p) :
    ∃ (m : Mf) (A1 : Option Addr) (c1 : Nat) (A2 : Option Addr) (c2 : Nat) (A3 : Option Addr) (c3 : Nat), v = m.val (.slice A1 m.keys.length c1) (.slice A2 m.items.length c2) (.slice A3 m.sessions.length c3) ∧ m.arg w (.slice A1 m.keys.length c1) (.slice A2 m.items.length c2) (.slice A3 m.sessions.length c3) := by
  obtain ⟨cs, rfl, hsz⟩ := okWide_struct Tryz.underlying36 hv
  obtain ⟨fuel, hf⟩ := h
  obtain ⟨xs, k, _, _, hlen, hxl, hf⟩ := DataW.trod_struct Tryz.underlying36 hf
  rw [show Tryz.prog.cellsOf 36 = 7 by kernel_rfl] at hlen
  obtain ⟨cs⟩ := cs
  simp only [Value.cells] at hlen hf
  match cs, hlen with
  | [d0, d1, d2, d3, d4, d5, d6], _ =>
    obtain ⟨z0, e0, b0⟩ := field_intb (cs := [d0, d1, d2, d3, d4, d5, d6]) hxl (by decide) (hf 0 _ rfl)
    obtain ⟨z1, e1, b1⟩ := field_intb (cs := [d1, d2, d3, d4, d5, d6]) hxl (by decide) (hf 1 _ rfl)
    obtain ⟨z2, e2, b2⟩ := field_intb (cs := [d2, d3, d4, d5, d6]) hxl (by decide) (hf 2 _ rfl)
    obtain ⟨l3, A3, c3, e3, r3, b3⟩ := field_strs (cs := [d3, d4, d5, d6]) hxl (by decide) (hf 3 _ rfl)
    obtain ⟨l4, A4, c4, e4, r4, b4⟩ := field_intsb (cs := [d4, d5, d6]) hxl (by decide) (hf 4 _ rfl)
    obtain ⟨l5, A5, c5, e5, r5, b5⟩ := field_intsb (cs := [d5, d6]) hxl (by decide) (hf 5 _ rfl)
    obtain ⟨z6, e6⟩ := field_u64 (cs := [d6]) hxl (by decide) (hf 6 _ rfl)
    simp at e0 e1 e2 e3 e4 e5 e6
    subst e0 e1 e2 e3 e4 e5 e6
    exact ⟨⟨z0, z1, z2, l3, l4, l5, z6⟩, A3, c3, A4, c4, A5, c5, rfl, ⟨r3, r4, r5, b0, b1, b2, b3, b4, b5⟩⟩
end
end Go.Proofs.YtiabhlogadboeaaGreat
