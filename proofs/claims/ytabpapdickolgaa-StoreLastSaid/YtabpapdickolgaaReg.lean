/-
  Slices of the program's own making, and laws for appends as steps of a region that draws its order.
-/
import Derived.Test.YtabpapdickolgaaMem
import Derived.Deep.RegionHeld3
import Derived.Laws.AppendOwnNone
namespace Go.Proofs.Ytabpapdickolgaa
open Go.RowKit
set_option linter.unusedSimpArgs false
set_option linter.unusedVariables false

/-- A slice over a block of element type e, made by the program: n elements of sz cells, which read as xs. A slice without capacity needs no block. -/
def Sli (w : World) (e : TypeId) (sz n : Nat) (v : Value) (xs : List Value) : Prop :=
  ∃ A c, v = .slice A n c ∧ (A = none → c = 0) ∧ n ≤ c ∧ c ≤ maxLen ∧ xs.length = n * sz ∧
    (0 < c → ∃ g off cur, A = some ⟨g, off, none⟩ ∧ Blk w g e cur ∧ ∀ j u, xs[j]? = some u → cur[off + j]? = some u)

section
variable {S : List Nat} {w w' : World} {e : TypeId} {sz n : Nat} {v : Value} {xs : List Value}
theorem Sli.chg (h : Sli w e sz n v xs) (hc : Chg S w w') (hs : ∀ x, x ∈ S → ∃ t cs, Blk w x t cs ∧ t ≠ e) : Sli w' e sz n v xs := by
  obtain ⟨A, c, hv, h0, h1, h1', h2, h4⟩ := h
  refine ⟨A, c, hv, h0, h1, h1', h2, fun hc0 => ?_⟩
  obtain ⟨g, off, cur, e1, hb, hx⟩ := h4 hc0
  refine ⟨g, off, cur, e1, hb.chg hc (fun hg => ?_), hx⟩
  obtain ⟨t, cs, hb', hne⟩ := hs g hg
  exact hne (hb'.eq hb).2
theorem Sli.ext (h : Sli w e sz n v xs) (hc : Chg [] w w') : Sli w' e sz n v xs := h.chg hc (by simp)
theorem Sli.rd {A : Option Addr} {c : Nat} (h : Sli w e sz n (.slice A n c) xs) : Rd w sz A n xs := by
  obtain ⟨A', c', hv, h0, h1, _, h2, h4⟩ := h
  injection hv with e1 _ e2
  subst e1
  subst e2
  refine ⟨h2, fun hn => ?_⟩
  obtain ⟨g, off, cur, rfl, hb, hx⟩ := h4 (by omega)
  refine ⟨_, rfl, fun j u hu => ?_⟩
  rw [add_lit, hb.cell]
  exact hx j u hu
theorem Sli.nil (w : World) (e : TypeId) (sz : Nat) : Sli w e sz 0 (.slice none 0 0) [] :=
  ⟨none, 0, rfl, fun _ => rfl, Nat.le_refl _, by simp [maxLen], by simp, fun h => absurd h (by omega)⟩
/-- The element k of a slice, cell by cell. -/
theorem Sli.at {A : Option Addr} {c : Nat} (h : Sli w e sz n (.slice A n c) xs) {k : Nat} (hk : k < n) :
    ∃ g off, A = some ⟨g, off, none⟩ ∧ ∀ i u, i < sz → xs[k * sz + i]? = some u → w.cell? ⟨g, off + (k * sz + i), none⟩ = some u := by
  obtain ⟨A', c', hv, h0, h1, _, h2, h4⟩ := h
  injection hv with e1 _ e2
  subst e1
  subst e2
  obtain ⟨g, off, cur, rfl, hb, hx⟩ := h4 (by omega)
  exact ⟨g, off, rfl, fun i u _ hu => (hb.cell _).trans (hx _ _ hu)⟩
end

theorem Rd.take {w : World} {sz n : Nat} {A : Option Addr} {xs : List Value} (h : Rd w sz A n xs) {k : Nat} (hk : k ≤ n) : Rd w sz A k (xs.take (k * sz)) := by
  refine ⟨by rw [List.length_take, h.1]; exact Nat.min_eq_left (Nat.mul_le_mul_right _ hk), fun h0 => ?_⟩
  obtain ⟨ad, hA, hc⟩ := h.2 (by omega)
  refine ⟨ad, hA, fun j u hu => hc j u ?_⟩
  rw [List.getElem?_take] at hu
  split at hu
  · exact hu
  · cases hu
/-- What is left of a slice behind k elements, where the model keeps the old address if nothing is left of the capacity. -/
theorem Rd.cut {w : World} {sz n g off cap : Nat} {xs : List Value} (h : Rd w sz (some ⟨g, off, none⟩) n xs) {k : Nat} (hk : k ≤ n) (hc : n ≤ cap) :
    Rd w sz (if cap = k then some ⟨g, off, none⟩ else some ⟨g, off + k * sz, none⟩) (n - k) (xs.drop (k * sz)) := by
  refine ⟨by rw [List.length_drop, h.1, Nat.sub_mul], fun h0 => ?_⟩
  rw [if_neg (by omega)]
  obtain ⟨ad, hA, hcell⟩ := h.2 (by omega)
  injection hA with hA
  subst hA
  refine ⟨_, rfl, fun j u hu => ?_⟩
  rw [List.getElem?_drop] at hu
  have := hcell _ u hu
  rw [add_lit] at this ⊢
  rw [Nat.add_assoc]
  exact this
theorem Rd.cutA {w : World} {sz n cap : Nat} {A : Option Addr} {xs : List Value} (h : Rd w sz A n xs) {k : Nat} (hk : k ≤ n) (hc : n ≤ cap) :
    Rd w sz (if cap = k then A else A.map fun x => x.add (k * sz)) (n - k) (xs.drop (k * sz)) := by
  refine ⟨by rw [List.length_drop, h.1, Nat.sub_mul], fun h0 => ?_⟩
  rw [if_neg (by omega)]
  obtain ⟨ad, rfl, hcell⟩ := h.2 (by omega)
  refine ⟨_, rfl, fun j u hu => ?_⟩
  rw [List.getElem?_drop] at hu
  rw [add_add']
  exact hcell _ u hu
theorem nil_cutA {A : Option Addr} {f : Addr → Addr} {cap k : Nat} (h : A = none → cap = 0) : (if cap = k then A else A.map f) = none → cap - k = 0 := by
  intro h0
  cases A with
  | none => have := h rfl; omega
  | some a => split at h0 <;> cases h0
theorem flat_take {α : Type} {f : α → List Value} {sz : Nat} (hf : ∀ x, (f x).length = sz) (l : List α) (k : Nat) : (l.flatMap f).take (k * sz) = (l.take k).flatMap f := by
  induction l generalizing k with
  | nil => simp
  | cons c l ih =>
    cases k with
    | zero => simp
    | succ k =>
      rw [List.flatMap_cons, List.take_succ_cons, List.flatMap_cons, ← ih k, List.take_append, hf, Nat.add_mul, Nat.one_mul, Nat.add_sub_cancel, List.take_of_length_le (by rw [hf]; omega)]
theorem flat_drop {α : Type} {f : α → List Value} {sz : Nat} (hf : ∀ x, (f x).length = sz) (l : List α) (k : Nat) : (l.flatMap f).drop (k * sz) = (l.drop k).flatMap f := by
  induction l generalizing k with
  | nil => simp
  | cons c l ih =>
    cases k with
    | zero => simp
    | succ k =>
      rw [List.flatMap_cons, List.drop_succ_cons, ← ih k, List.drop_append, hf, Nat.add_mul, Nat.one_mul, Nat.add_sub_cancel, List.drop_eq_nil_of_le (by rw [hf]; omega)]
      simp

/-- The cells of element q of a list that lies flat. -/
theorem flat_get {α : Type} {f : α → List Value} {sz : Nat} (hf : ∀ x, (f x).length = sz) {l : List α} {q : Nat} (hq : q < l.length) {i : Nat} (hi : i < sz) : (l.flatMap f)[q * sz + i]? = (f l[q])[i]? := by
  induction l generalizing q with
  | nil => simp at hq
  | cons c l ih =>
    cases q with
    | zero =>
      rw [List.flatMap_cons, List.getElem?_append_left (by rw [hf]; omega)]
      simp
    | succ q =>
      rw [List.flatMap_cons, List.getElem?_append_right (by rw [hf, Nat.add_mul]; omega)]
      have : (q + 1) * sz + i - (f c).length = q * sz + i := by rw [hf, Nat.add_mul]; omega
      rw [this]
      simpa using ih (by simpa using hq)
theorem flat_length {α : Type} {f : α → List Value} {sz : Nat} (hf : ∀ x, (f x).length = sz) (l : List α) : (l.flatMap f).length = l.length * sz := by
  induction l with
  | nil => simp
  | cons c l ih => rw [List.flatMap_cons, List.length_append, hf, ih, List.length_cons, Nat.add_mul]; omega
theorem Sli.elem {α : Type} {f : α → List Value} {w : World} {e : TypeId} {sz : Nat} (hf : ∀ x, (f x).length = sz) {l : List α} {A : Option Addr} {c : Nat} (h : Sli w e sz l.length (.slice A l.length c) (l.flatMap f)) {q : Nat} (hq : q < l.length) :
    ∃ g off, A = some ⟨g, off, none⟩ ∧ g < w.heap.size ∧ ∀ i u, (f l[q])[i]? = some u → w.cell? ⟨g, off + q * sz + i, none⟩ = some u := by
  obtain ⟨g, off, hA, hc⟩ := h.at hq
  have hlt : 0 < sz ∨ sz = 0 := by omega
  refine ⟨g, off, hA, ?_, fun i u hu => ?_⟩
  · obtain ⟨A', c', hv, _, _, _, _, h4⟩ := h
    injection hv with e1 _ e2
    subst e1
    obtain ⟨g', off', cur, hA', hb, _⟩ := h4 (by omega)
    rw [hA] at hA'
    injection hA' with hA'
    injection hA' with e1 _ _
    subst e1
    exact hb.lt
  · have hi : i < sz := by
      have := (List.getElem?_eq_some_iff.1 hu).1
      rw [hf] at this
      exact this
    rw [Nat.add_assoc]
    exact hc i u hi ((flat_get hf hq hi).trans hu)
theorem Rd.elem {α : Type} {f : α → List Value} {w : World} {sz : Nat} (hsz : 0 < sz) (hf : ∀ x, (f x).length = sz) {l : List α} {A : Option Addr} (h : Rd w sz A l.length (l.flatMap f)) {q : Nat} (hq : q < l.length) :
    ∃ g off, A = some ⟨g, off, none⟩ ∧ g < w.heap.size ∧ ∀ i u, (f l[q])[i]? = some u → w.cell? ⟨g, off + q * sz + i, none⟩ = some u := by
  obtain ⟨ad, hA, hc⟩ := h.2 (by omega)
  have hcell : ∀ i u, (f l[q])[i]? = some u → w.cell? (ad.add (q * sz + i)) = some u := fun i u hu => by
    have hi : i < sz := by
      have := (List.getElem?_eq_some_iff.1 hu).1
      rw [hf] at this
      exact this
    exact hc _ u ((flat_get hf hq hi).trans hu)
  have hl0 : 0 < (l.flatMap f).length := by
    rw [h.1]
    exact Nat.mul_pos (by omega) hsz
  have h1 := hc 0 _ (List.getElem?_eq_getElem hl0)
  have hspot : ad.spot = none := by
    obtain ⟨b, off, sp⟩ := ad
    cases sp with
    | none => rfl
    | some s =>
      unfold World.cell? at h1
      unfold Addr.add at h1
      simp at h1
      split at h1 <;> simp_all
  obtain ⟨b, off, sp⟩ := ad
  simp only at hspot
  subst hspot
  refine ⟨b, off, hA, ?_, fun i u hu => ?_⟩
  · have := World.block_lt_of_cell? w _ h1
    rw [block_add] at this
    exact this
  · have := hcell i u hu
    rw [add_lit] at this
    rw [Nat.add_assoc]
    exact this

/-- A row that the call itself has made since block 'base'; or a slice without capacity. -/
def Own (w : World) (base : Nat) (e : TypeId) (sz : Nat) (A : Option Addr) (n c : Nat) (xs : List Value) : Prop :=
  (n = 0 ∧ c = 0 ∧ xs = []) ∨ w.ownsRow base e sz (.slice A n c) n xs

section
variable {S : List Nat} {w w' : World} {base : Nat} {e : TypeId} {sz n c : Nat} {A : Option Addr} {xs : List Value}
theorem own_form {v : Value} (h : w.ownsRow base e sz v n xs) : ∃ A c, v = .slice A n c ∧ n ≤ c := by
  rcases h.2 with ⟨rfl, rfl⟩ | ⟨g, cap, cur, rfl, hb, _, hc, _⟩
  · exact ⟨none, 0, rfl, Nat.le_refl _⟩
  · exact ⟨_, cap, rfl, hc⟩
theorem Own.sli (h : Own w base e sz A n c xs) (hA : A = none → c = 0) : Sli w e sz n (.slice A n c) xs := by
  rcases h with ⟨rfl, rfl, rfl⟩ | h
  · exact ⟨A, 0, rfl, fun _ => rfl, Nat.le_refl _, by simp [maxLen], by simp, fun h => absurd h (by omega)⟩
  · refine ⟨A, c, rfl, hA, ?_⟩
    rcases h.2 with ⟨hv, rfl⟩ | ⟨g, cap, cur, hv, _, hg, hc, hm, _, ht⟩
    · injection hv with e1 _ e2
      subst e2
      exact ⟨Nat.le_refl _, by simp [maxLen], h.1, fun h => absurd h (by omega)⟩
    · injection hv with e1 _ e2
      subst e1
      subst e2
      refine ⟨hc, hm, h.1, fun _ => ⟨g, 0, cur, rfl, hg, fun j u hu => ?_⟩⟩
      rw [← ht, List.getElem?_take] at hu
      split at hu
      · rw [Nat.zero_add, ← Array.getElem?_toList]; exact hu
      · cases hu
theorem Own.chg (h : Own w base e sz A n c xs) (hc : Chg S w w') (hs : ∀ x, x ∈ S → x < base) : Own w' base e sz A n c xs := by
  rcases h with h | h
  · exact .inl h
  · refine .inr ⟨h.1, ?_⟩
    rcases h.2 with h2 | ⟨g, cap, cur, hv, hb, hg, rest⟩
    · exact .inl h2
    · refine .inr ⟨g, cap, cur, hv, hb, ?_, rest⟩
      rw [hc.block g (Array.getElem?_eq_some_iff.1 hg).1 (fun hx => by have := hs g hx; omega)]
      exact hg
theorem Own.ext (h : Own w base e sz A n c xs) (hc : Chg [] w w') : Own w' base e sz A n c xs := h.chg hc (by simp)
theorem Own.lit (w : World) (base : Nat) (e : TypeId) (sz : Nat) (A : Option Addr) : Own w base e sz A 0 0 [] := .inl ⟨rfl, rfl, rfl⟩
end

section
variable {P : Program} {ops : Array Oper} {o : Oper} {a : Act} {w w0 : World} {K : Act → World → Prop} {Q : Exit → Act → World → Prop} {E : Prop} {S : List Nat}

/-- What an append onto a slice without capacity gives: nothing that was there changes. -/
theorem run_app0 (t ty e : TypeId) (i : TypeInfo) (z : Value) (sz bytes : Nat) (ht : P.underlying t = some (.slice e)) (hi : P.info? e = some i) (hz : i.zero = some z)
    (hsize : i.size = sz) (hby : i.bytes = bytes) (hzs : z.cells.size = sz) (base : Nat) (hbase : base ≤ w.heap.size)
    (B A : Option Addr) (m c : Nat) (ys : List Value) (hnil : A = none → c = 0) (hr : Rd w sz A m ys) (h63 : m ≤ maxLen) (hb : m * bytes ≤ 140737488355328) :
    ∃ A' c' w1, (Builtin.append_ #[t, t] ty #[.slice B 0 0, .slice A m c]).run P w = .ok (.slice A' m c') w1 ∧ Own w1 base e sz A' m c' ys ∧ (B ≠ none → A' ≠ none) ∧ Chg [] w w1 ∧ (A' = none → c' = 0) := by
  by_cases hm : m = 0
  · subst hm
    have hy : ys = [] := List.eq_nil_of_length_eq_zero (by simpa using hr.1)
    subst hy
    refine ⟨B, 0, w, ?_, .inl ⟨rfl, rfl, rfl⟩, id, Chg.refl _ _, fun _ => rfl⟩
    cases B <;> cases A <;> simp [Builtin.append_, run_underlying ht, sizeOf, typeInfo, hi, Builtin.lenOf, Builtin.firstCells, loadCells, loadCellsFrom, storeCells]
  · obtain ⟨ad, rfl, hcell⟩ := hr.2 (by omega)
    subst hsize
    subst hby
    have h63' : m ≤ 9223372036854775807 := by simp only [maxLen] at h63; omega
    have hge := grownCap_ge w m 0 e
    have hcm : grownCap w m 0 e ≤ maxLen := grownCap_le_maxLen w m 0 e h63
    have hfit : Builtin.nextslicecap (0 + m) 0 * i.bytes ≤ 281474976710656 := growslice_fits (by omega) (by simpa using hb)
    have hrun : (Builtin.append_ #[t, t] ty #[.slice B 0 0, .slice (some ad) m c]).run P w = .ok (.slice (some ⟨w.heap.size, 0, none⟩) m (grownCap w m 0 e)) (w.drew.alloc (.cells (ys.toArray ++ Builtin.zeroCells z.cells (grownCap w m 0 e - m)) e)) := by
      cases B with
      | none =>
        have h := run_append_nil (P := P) w t ty e i z ht hi hz ad m c ys hr.1 hcell (by omega) (by omega) (by omega)
        simpa using h
      | some b =>
        have h := run_append_grow (P := P) w t ty e i z ht hi hz b 0 0 [] (by simp) (by simp) ad m c ys hr.1 hcell (by omega) (by omega) hfit
        simpa using h
    refine ⟨_, _, _, hrun, .inr ⟨hr.1, .inr ⟨w.heap.size, _, _, rfl, hbase, heap_alloc_new w.drew _, hge, hcm, ?_, ?_⟩⟩, fun _ => by simp, ((Chg.refl [] w).drew).alloc _, fun h => by cases h⟩
    · simp only [Array.size_append, List.size_toArray, size_zeroCells, hzs, hr.1, ← Nat.add_mul]
      congr 1
      omega
    · simp only [Array.toList_append]
      rw [← hr.1]
      exact List.take_left

/-- What an append onto a row of the call's own gives, whatever is appended. -/
theorem run_app (t ty e : TypeId) (i : TypeInfo) (z : Value) (sz bytes : Nat) (ht : P.underlying t = some (.slice e)) (hi : P.info? e = some i) (hz : i.zero = some z)
    (hsize : i.size = sz) (hby : i.bytes = bytes) (hzs : z.cells.size = sz) (hsz : 0 < sz) (hC : Chg S w0 w)
    (B : Option Addr) (n d : Nat) (xs : List Value) (hown : Own w w0.heap.size e sz B n d xs)
    (A : Option Addr) (m c : Nat) (ys : List Value) (hnil : A = none → c = 0) (hr : Rd w sz A m ys) (h1 : ∀ u ∈ ys, u.oneCell' = true) (h63 : n + m ≤ maxLen) (hb : (n + m) * bytes ≤ 140737488355328) :
    ∃ A' c' w1, (Builtin.append_ #[t, t] ty #[.slice B n d, .slice A m c]).run P w = .ok (.slice A' (n + m) c') w1 ∧ Own w1 w0.heap.size e sz A' (n + m) c' (xs ++ ys) ∧ Chg S w0 w1 ∧ (A' = none → c' = 0) := by
  rcases hown with ⟨rfl, rfl, rfl⟩ | hown
  · obtain ⟨A', c', w1, hrun, ho, _, hc, hn⟩ := run_app0 (P := P) (w := w) t ty e i z sz bytes ht hi hz hsize hby hzs w0.heap.size hC.size B A m c ys hnil hr (by omega) (by simpa using hb)
    exact ⟨A', c', w1, by simpa using hrun, by simpa using ho, hC.trans hc.ext, hn⟩
  cases A with
  | none =>
    have hm : m = 0 := by
      rcases Nat.eq_zero_or_pos m with h | h
      · exact h
      · obtain ⟨ad, he, _⟩ := hr.2 h
        cases he
    subst hm
    have hc := hnil rfl
    subst hc
    have hy : ys = [] := List.eq_nil_of_length_eq_zero (by simpa using hr.1)
    subst hy
    have hrun := run_append_owned_none (P := P) (w := w) w0.heap.size t ty e i sz ht hi _ n xs hown
    refine ⟨B, d, w, by simpa using hrun, .inr (by simpa using hown), hC, ?_⟩
    rintro rfl
    rcases hown.2 with ⟨hv, _⟩ | ⟨g, cap, cur, hv, _⟩
    · injection hv
    · injection hv with h; cases h
  | some ad =>
    have hc : ∀ j u, ys[j]? = some u → w.cell? (ad.add j) = some u := by
      intro j u hu
      rcases Nat.eq_zero_or_pos m with h | h
      · have hy : ys = [] := List.eq_nil_of_length_eq_zero (by rw [hr.1, h]; simp)
        rw [hy] at hu
        simp at hu
      · obtain ⟨ad', he, hcell⟩ := hr.2 h
        injection he with he
        subst he
        exact hcell j u hu
    obtain ⟨v', w1, hrun, ho, hg, _⟩ := run_append_own (P := P) w w0.heap.size t ty e i z sz bytes ht hi hz hsize hby hzs hsz _ n xs hown ad m c ys hr.1 hc h1 h63 hb hC.size
    obtain ⟨A', c', rfl, _⟩ := own_form ho
    refine ⟨A', c', w1, hrun, .inr ho, ?_, ?_⟩
    · refine hC.trans_new (S' := (Value.ownBlock (.slice B n d)).toList) ?_ ?_
      · exact Chg.of_grown hg (fun x hx => by simp [hx])
      · intro x hx
        right
        exact (hown.lt x (by simpa using hx)).1
    · rintro rfl
      rcases ho.2 with ⟨hv, _⟩ | ⟨g, cap, cur, hv, _⟩
      · injection hv
      · injection hv with h; cases h

/-- append onto a slice without capacity ('[]T{}'), as a step of a region. -/
theorem step_app0 (hg : o.guard = none) (s x : Operand) (t : TypeId) (hop : o.op = Op.call { callee := Callee.builtin Builtin.append, args := #[s, x], argTypes := #[t, t] })
    (e : TypeId) (i : TypeInfo) (z : Value) (sz bytes : Nat) (ht : P.underlying t = some (.slice e)) (hi : P.info? e = some i) (hz : i.zero = some z)
    (hsize : i.size = sz) (hby : i.bytes = bytes) (hzs : z.cells.size = sz) (hC : Chg S w0 w)
    (B A : Option Addr) (m c : Nat) (ys : List Value) (hs : a.eval s = .slice B 0 0) (hx : a.eval x = .slice A m c) (hnil : A = none → c = 0) (hr : Rd w sz A m ys) (h63 : m ≤ maxLen) (hb : m * bytes ≤ 140737488355328)
    (hK : ∀ A' c' w1, Own w1 w0.heap.size e sz A' m c' ys → Chg S w0 w1 → Chg [] w w1 → (A' = none → c' = 0) → K (a.put o.dst (.slice A' m c')) w1) :
    if Region.wanted o (yielded ops a.tmps) = true then Oper.wp P o a w K Q else E := by
  have hw : Region.wanted o (yielded ops a.tmps) = true := by simp [Region.wanted, hg]
  rw [if_pos hw]
  obtain ⟨A', c', w1, hrun, ho, _, hc, hn⟩ := run_app0 (P := P) (w := w) t o.type e i z sz bytes ht hi hz hsize hby hzs w0.heap.size hC.size B A m c ys hnil hr h63 hb
  unfold Oper.wp
  simp [execOp, hop, resolve, invoke, builtin, hs, hx, hrun, Result.andThen]
  exact hK A' c' w1 ho (hC.trans hc.ext) hc hn

/-- append onto a row of the call's own, as a step of a region. 'w0': where the call, or the region, began. -/
theorem step_app (hg : o.guard = none) (s x : Operand) (t : TypeId) (hop : o.op = Op.call { callee := Callee.builtin Builtin.append, args := #[s, x], argTypes := #[t, t] })
    (e : TypeId) (i : TypeInfo) (z : Value) (sz bytes : Nat) (ht : P.underlying t = some (.slice e)) (hi : P.info? e = some i) (hz : i.zero = some z)
    (hsize : i.size = sz) (hby : i.bytes = bytes) (hzs : z.cells.size = sz) (hsz : 0 < sz) (hC : Chg S w0 w)
    (B : Option Addr) (n d : Nat) (xs : List Value) (hs : a.eval s = .slice B n d) (hown : Own w w0.heap.size e sz B n d xs)
    (A : Option Addr) (m c : Nat) (ys : List Value) (hx : a.eval x = .slice A m c) (hnil : A = none → c = 0) (hr : Rd w sz A m ys) (h1 : ∀ u ∈ ys, u.oneCell' = true) (h63 : n + m ≤ maxLen) (hb : (n + m) * bytes ≤ 140737488355328)
    (hK : ∀ A' c' w1, Own w1 w0.heap.size e sz A' (n + m) c' (xs ++ ys) → Chg S w0 w1 → (A' = none → c' = 0) → K (a.put o.dst (.slice A' (n + m) c')) w1) :
    if Region.wanted o (yielded ops a.tmps) = true then Oper.wp P o a w K Q else E := by
  have hw : Region.wanted o (yielded ops a.tmps) = true := by simp [Region.wanted, hg]
  rw [if_pos hw]
  obtain ⟨A', c', w1, hrun, ho, hc, hn⟩ := run_app (P := P) (w := w) t o.type e i z sz bytes ht hi hz hsize hby hzs hsz hC B n d xs hown A m c ys hnil hr h1 h63 hb
  unfold Oper.wp
  simp [execOp, hop, resolve, invoke, builtin, hs, hx, hrun, Result.andThen]
  exact hK A' c' w1 ho hc hn
end

end Go.Proofs.Ytabpapdickolgaa
