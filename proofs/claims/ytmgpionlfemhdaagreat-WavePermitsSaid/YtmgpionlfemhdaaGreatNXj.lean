/-
  Arguments of the statements about waves.
-/
import Derived.Test.YtmgpionlfemhdaaGreatNXr
import Derived.Test.YtmgpionlfemhdaaGreatNXb
import Derived.OpenShut
import Derived.Deep.Slices
namespace Go.Proofs.YtmgpionlfemhdaaGreat
open Go.RowKit Go.ChangeShapes Go.WideShapes Go.ChangeAt Go.Deep
set_option linter.unusedSimpArgs false
set_option linter.unusedVariables false

section
variable {H : Type} {enc : TypeId × Value → H} {P : Program} {w : World} {base : Nat} {spare : Nat → Bool} {held : Bool}
/-- A slice whose elements read as values of α. -/
theorem rows_of {α : Type} (f : α → List Value) {t e : TypeId} {fuel sz : Nat} {A : Option Addr} {len cap : Nat} {x : DataW H × List MemPlace} (ht : P.underlying t = some (.slice e)) (hsz : P.cellsOf e = sz) (h0 : 0 < sz)
    (hf : ∀ x, (f x).length = sz ∧ ∀ u, u ∈ f x → u.oneCell' = true) (hel : ∀ n cs y, DataW.trod enc P w base spare held n e cs = some y → ∃ x, cs = f x)
    (h : DataW.trod enc P w base spare held fuel t (Value.slice A len cap).cells.toList = some x) : ∃ l : List α, l.length = len ∧ Rows' w sz (.slice A len cap) (l.map f) := by
  rcases open_slice ht h with ⟨hcs, _⟩ | ⟨a, len', cap', m, n, D, Pl, hcs, _, hl, hm, hmm, _, hi⟩
  · simp [Value.cells] at hcs
    obtain ⟨rfl, rfl, rfl⟩ := hcs
    exact ⟨[], rfl, by simp, none, 0, rfl, fun _ => rfl, Nat.le_refl _, by simp, by simp⟩
  · simp [Value.cells] at hcs
    obtain ⟨rfl, rfl, rfl⟩ := hcs
    have hlm : len ≤ m := by rw [hmm]; split <;> omega
    have key : ∀ i : Fin len, ∃ x : α, ∀ j, j < sz → w.cell? (a.add (i.val * sz + j)) = (f x)[j]? := by
      intro i
      obtain ⟨cs', hc, ht'⟩ := hi i.val (by omega)
      obtain ⟨x, rfl⟩ := hel _ _ _ ht'
      obtain ⟨_, hcl, hat⟩ := World.cells?_some hc
      rw [hsz] at hat
      exact ⟨x, fun j hj => by rw [← add_add', hat j hj]⟩
    obtain ⟨g, hg⟩ := Classical.axiomOfChoice key
    have hrow : ∀ row, row ∈ (List.ofFn g).map f → row.length = sz := fun row hr => by
      obtain ⟨x, _, rfl⟩ := List.mem_map.1 hr
      exact (hf x).1
    refine ⟨List.ofFn g, by simp, fun row hr => ?_, some a, cap, by simp, by simp, by simpa using hl, by rw [flatten_length hrow], fun hpos => ⟨a, rfl, fun j u hu => ?_⟩⟩
    · obtain ⟨x, _, rfl⟩ := List.mem_map.1 hr
      exact hf x
    · have hj : j < len * sz := by
        have := (List.getElem?_eq_some_iff.1 hu).1
        rw [flatten_length hrow] at this
        simpa using this
      have hq : j / sz < len := (Nat.div_lt_iff_lt_mul h0).2 hj
      have hr : j % sz < sz := Nat.mod_lt _ h0
      have he : j / sz * sz + j % sz = j := Nat.div_add_mod' j sz
      have := flatten_at hrow (q := j / sz) (by simpa using hq) hr
      rw [he, hu] at this
      have h2 := hg ⟨j / sz, hq⟩ _ hr
      simp only [he] at h2
      rw [h2, this]
      simp
end
theorem Tryz.cellsI : Tryz.prog.cellsOf 3 = 1 := by kernel_rfl
theorem rd_ints {W : World} {a : Addr} {len : Nat} {zs : List Int} (hz : len ≤ zs.length) (hc : ∀ j, j < zs.length → W.cell? (a.add j) = some (.int .i64 (zs.getD j 0))) : Rd W 1 (some a) (zs.take len).length ((zs.take len).map (Value.int .i64)) := by
  refine ⟨by simp, fun _ => ⟨a, rfl, fun j u hu => ?_⟩⟩
  rw [List.getElem?_map, List.getElem?_take] at hu
  split at hu
  · rename_i hj
    rw [List.getElem?_eq_getElem (by omega)] at hu
    simp at hu
    rw [hc j (by omega), ← hu]
    simp [List.getD, List.getElem?_eq_getElem (show j < zs.length by omega)]
  · simp at hu
section
variable {H : Type} {enc : TypeId × Value → H} {w : World} {base : Nat} {spare : Nat → Bool} {held : Bool}
set_option maxRecDepth 100000 in
/-- An argument of type int. -/
theorem arg_int {v : Value} {d : DataW H} {p : List MemPlace} {b0 : Nat} (hv : Value.okWide Tryz.prog w .any b0 3 v) (h : DataW.Trod enc Tryz.prog w base spare held 3 v d p) : ∃ z, v = .int .i64 z ∧ -9223372036854775808 ≤ z ∧ z ≤ 9223372036854775807 := by
  obtain ⟨fuel, hf⟩ := h
  obtain ⟨z, hz, _, hw⟩ := DataW.trod_int Tryz.underlying3 hf
  have : v = .int .i64 z := by
    unfold Value.okWide at hv
    rw [Tryz.underlying3] at hv
    simp only [Cell.okWide, Cell.ok, Tryz.underlying3] at hv
    cases v <;> simp_all [Value.cells]
  refine ⟨z, this, ?_⟩
  have e1 : IntKind.i64.min = -9223372036854775808 := rfl
  have e2 : IntKind.i64.max = 9223372036854775807 := rfl
  simp only [Lit.wf, IntKind.has, e1, e2, Bool.and_eq_true, decide_eq_true_eq] at hw
  exact hw
set_option maxRecDepth 100000 in
/-- An argument of type bool. -/
theorem arg_bool {v : Value} {d : DataW H} {p : List MemPlace} {b0 : Nat} (hv : Value.okWide Tryz.prog w .any b0 4 v) (h : DataW.Trod enc Tryz.prog w base spare held 4 v d p) : ∃ b, v = .bool b := okWide_bool Tryz.underlying4 hv
set_option maxRecDepth 100000 in
theorem open_int {n : Nat} {cs : List Value} {y : DataW H × List MemPlace} (h : DataW.trod enc Tryz.prog w base spare held n 3 cs = some y) : ∃ z : Int, cs = ztC z := by
  obtain ⟨z, hz, _⟩ := DataW.trod_int Tryz.underlying3 h
  exact ⟨z, hz⟩
set_option maxRecDepth 100000 in
theorem open_row {n : Nat} {cs : List Value} {y : DataW H × List MemPlace} (h : DataW.trod enc Tryz.prog w base spare held n 22 cs = some y) :
    ∃ x : Wv, cs = x.cells ∧ Rows' w 1 (.slice x.A x.l.length x.c) (x.l.map ztC) := by
  have key : ∃ (a0 : Option Addr) (len cap : Nat), cs = [.slice a0 len cap] := by
    rcases open_slice Tryz.underlying22 h with ⟨hcs, _⟩ | ⟨a, len', cap', m, n, D, Pl, hcs, _⟩
    · exact ⟨_, _, _, hcs⟩
    · exact ⟨_, _, _, hcs⟩
  obtain ⟨a0, len, cap, rfl⟩ := key
  obtain ⟨l, hl, hr⟩ := rows_of ztC Tryz.underlying22 Tryz.cellsI (by omega) (fun x => ⟨rfl, by simp [ztC, Value.oneCell']⟩) (fun n cs y h => open_int h) h
  subst hl
  exact ⟨⟨l, a0, cap⟩, rfl, hr⟩
set_option maxRecDepth 100000 in
/-- An argument of type []int. -/
theorem arg_intsr {v : Value} {d : DataW H} {p : List MemPlace} {b0 : Nat} (hv : Value.okWide Tryz.prog w .any b0 22 v) (h : DataW.Trod enc Tryz.prog w base spare held 22 v d p) :
    ∃ (l : List Int) (A : Option Addr) (cap : Nat), v = .slice A l.length cap ∧ True ∧ Rows' w 1 v (l.map ztC) := by
  obtain ⟨a0, len, cap, rfl⟩ := okWide_slice Tryz.underlying22 hv
  obtain ⟨fuel, hf⟩ := h
  obtain ⟨x, hx, hr⟩ := open_row hf
  simp [Value.cells, Wv.cells] at hx
  obtain ⟨rfl, rfl, rfl⟩ := hx
  exact ⟨x.l, x.A, x.c, rfl, trivial, hr⟩
set_option maxRecDepth 100000 in
/-- An argument of type [][]int. -/
theorem arg_intss {v : Value} {d : DataW H} {p : List MemPlace} {b0 : Nat} (hv : Value.okWide Tryz.prog w .any b0 40 v) (h : DataW.Trod enc Tryz.prog w base spare held 40 v d p) :
    ∃ (W : List Wv) (B : Option Addr) (C : Nat), v = .slice B W.length C ∧ Rows' w 1 v (W.map Wv.cells) ∧ ∀ x, x ∈ W → Rows' w 1 (.slice x.A x.l.length x.c) (x.l.map ztC) := by
  obtain ⟨a0, len, cap, rfl⟩ := okWide_slice Tryz.underlying40 hv
  obtain ⟨fuel, hf⟩ := h
  obtain ⟨l, hl, hr⟩ := rows_of (fun x : {x : Wv // Rows' w 1 (.slice x.A x.l.length x.c) (x.l.map ztC)} => x.1.cells) Tryz.underlying40 (show Tryz.prog.cellsOf 22 = 1 by kernel_rfl) (by omega) (fun x => ⟨rfl, by simp [Wv.cells, Value.oneCell']⟩)
    (fun n cs y h => by obtain ⟨x, hx, hr⟩ := open_row h; exact ⟨⟨x, hr⟩, hx⟩) hf
  subst hl
  refine ⟨l.map Subtype.val, a0, cap, by simp, ?_, fun x hx => ?_⟩
  · rw [List.map_map]
    exact hr
  · obtain ⟨y, _, rfl⟩ := List.mem_map.1 hx
    exact y.2
end
theorem WvR.root {r : World} {F : List Res} {B : Option Addr} {C : Nat} {W : List Wv} (h : Rows' r 1 (.slice B W.length C) (W.map Wv.cells) ∧ ∀ x, x ∈ W → Rows' r 1 (.slice x.A x.l.length x.c) (x.l.map ztC)) : WvR r F B C W := ⟨Reads.root h.1, fun x hx => Reads.root (h.2 x hx)⟩
end Go.Proofs.YtmgpionlfemhdaaGreat
