/-
  Stores, in plain terms: lists of cells in ascending order of their keys. No program in sight.
-/
import Derived.Test.YtabpapdickolgaaNSApp
import Derived.Test.YtabpapdickolgaaZq
import Derived.Lib.Bytes
namespace Go.Proofs.Ytabpapdickolgaa
open Go.RowKit
set_option linter.unusedSimpArgs false
set_option linter.unusedVariables false
attribute [local irreducible] Res.blk Res.sl Res.all Res.ex Res.pure Res.star
open Go.ChangeMaps (set_perm)

theorem bless_l : ∀ (x y : List UInt8), Op.bytesLess x y = decide (x < y)
  | [], [] => by simp [Op.bytesLess]
  | _ :: _, [] => by simp [Op.bytesLess]
  | [], _ :: _ => by simp [Op.bytesLess]
  | a :: x, b :: y => by
    rw [Op.bytesLess, bless_l x y]
    simp only [List.cons_lt_cons_iff]
    by_cases h1 : a < b <;> by_cases h2 : a = b <;> by_cases h3 : x < y <;> simp [h1, h2, h3]
def Ce.kb (c : Ce) : List UInt8 := c.key.data.toList
theorem bless (a b : ByteArray) : Op.bytesLess a.toList b.toList = decide (a.data.toList < b.data.toList) := by rw [bless_l, Lib.toList_data, Lib.toList_data]
theorem bytes_ext {a b : ByteArray} (h : a.data.toList = b.data.toList) : a = b := by
  cases a; cases b; simp at h; rw [h]
theorem lt_irr (a : List UInt8) : ¬ a < a := List.lt_irrefl a
theorem lt_tri {a b : List UInt8} (h1 : ¬ a < b) (h2 : a ≠ b) : b < a := by
  by_cases h : b < a
  · exact h
  · exact absurd (List.le_antisymm (show a ≤ b from h) (show b ≤ a from h1)) h2
/-- In ascending order. -/
def SSort (l : List Ce) : Prop := (l.map Ce.kb).Pairwise (· < ·)
theorem SSort.cons {c : Ce} {l : List Ce} (h : SSort (c :: l)) : (∀ d, d ∈ l → c.kb < d.kb) ∧ SSort l := by
  unfold SSort at h
  rw [List.map_cons, List.pairwise_cons] at h
  exact ⟨fun d hd => h.1 _ (List.mem_map.2 ⟨d, hd, rfl⟩), h.2⟩
theorem fidx_cons (c : Ce) (l : List Ce) (k : ByteArray) : fidx (c :: l) k = if c.kb < k.data.toList then fidx l k + 1 else 0 := by
  rw [show fidx (c :: l) k = if Op.bytesLess c.key.toList k.toList then fidx l k + 1 else 0 from rfl, bless]
  by_cases h : c.kb < k.data.toList
  · have h' : c.key.data.toList < k.data.toList := h
    simp [h, h']
  · have h' : ¬ c.key.data.toList < k.data.toList := h
    simp [h, h']
theorem found_cons (c : Ce) (l : List Ce) (k : ByteArray) : foundB (c :: l) k = if c.kb < k.data.toList then foundB l k else decide (c.key = k) := by
  unfold foundB
  rw [fidx_cons]
  split
  · simp [keyAt]
  · simp [keyAt]
/-- The cell of a key. -/
def atK (l : List Ce) (k : ByteArray) : Option Ce := if foundB l k then l[fidx l k]? else none
theorem atK_cons (c : Ce) (l : List Ce) (k : ByteArray) : atK (c :: l) k = if c.kb < k.data.toList then atK l k else if c.key = k then some c else none := by
  unfold atK
  rw [found_cons, fidx_cons]
  by_cases h : c.kb < k.data.toList
  · simp [h]
  · by_cases h2 : c.key = k <;> simp [h, h2]
theorem atK_mem : ∀ {l : List Ce} {k : ByteArray} {c : Ce}, atK l k = some c → c ∈ l ∧ c.key = k
  | [], _, _, h => by simp [atK, foundB, keyAt, fidx] at h
  | d :: l, k, c, h => by
    rw [atK_cons] at h
    split at h
    · have := atK_mem h
      exact ⟨by simp [this.1], this.2⟩
    · split at h
      · simp at h; subst h; exact ⟨by simp, by assumption⟩
      · cases h
theorem atK_none : ∀ {l : List Ce} {k : ByteArray}, SSort l → atK l k = none → ∀ c, c ∈ l → c.key ≠ k
  | [], _, _, _, c, hc => by simp at hc
  | d :: l, k, hs, h, c, hc => by
    rw [atK_cons] at h
    split at h
    · rename_i hlt
      rcases List.mem_cons.1 hc with rfl | hc
      · rintro rfl; exact lt_irr _ hlt
      · exact atK_none hs.cons.2 h c hc
    · rename_i hge
      split at h
      · cases h
      · rename_i hne
        rcases List.mem_cons.1 hc with rfl | hc
        · exact hne
        · rintro rfl
          exact hge (hs.cons.1 c hc)
theorem atK_some : ∀ {l : List Ce} {k : ByteArray} {c : Ce}, SSort l → c ∈ l → c.key = k → atK l k = some c := by
  intro l k c hs hc hk
  cases h : atK l k with
  | none => exact absurd hk (atK_none hs h c hc)
  | some d =>
    obtain ⟨h1, h2⟩ := atK_mem h
    obtain ⟨i, hi, rfl⟩ := List.mem_iff_getElem.1 hc
    obtain ⟨j, hj, rfl⟩ := List.mem_iff_getElem.1 h1
    have hkb : l[i].kb = l[j].kb := by unfold Ce.kb; rw [hk, h2]
    have hp := fun a b ha hb hab => List.pairwise_iff_getElem.1 hs a b ha hb hab
    rcases Nat.lt_trichotomy i j with h3 | h3 | h3
    · have := hp i j (by simpa using hi) (by simpa using hj) h3
      simp only [List.getElem_map] at this
      rw [hkb] at this
      exact absurd this (lt_irr _)
    · subst h3; rfl
    · have := hp j i (by simpa using hj) (by simpa using hi) h3
      simp only [List.getElem_map] at this
      rw [hkb] at this
      exact absurd this (lt_irr _)
theorem atK_found (l : List Ce) (k : ByteArray) : foundB l k = (atK l k).isSome := by
  unfold atK
  cases h : foundB l k
  · rfl
  · simp [found_lt h]

/-! As the entries of a map. -/
def Ce.vV (c : Ce) : Value := .agg #[.string c.value, .int .i64 c.seq]
def Ce.kvV (c : Ce) : Value × Value := (.string c.key, c.vV)
theorem look_ce {l : List Ce} (hs : SSort l) (k : ByteArray) : LookM (l.map Ce.kvV) (.string k) ((atK l k).map Ce.vV) := by
  cases h : atK l k with
  | none =>
    refine .inr ⟨rfl, fun p hp e => ?_⟩
    obtain ⟨c, hc, rfl⟩ := List.mem_map.1 hp
    simp [Ce.kvV] at e
    exact atK_none hs h c hc e
  | some c =>
    obtain ⟨h1, h2⟩ := atK_mem h
    exact .inl ⟨c.vV, rfl, List.mem_map.2 ⟨c, h1, by rw [← h2]; rfl⟩⟩
theorem put_set {l : List Ce} {i : Nat} (hi : i < l.length) {k : ByteArray} (hk : l[i].key = k) (v : ByteArray) (q : Int) : PutM (l.map Ce.kvV) (.string k) (.agg #[.string v, .int .i64 q]) ((l.set i ⟨k, v, q⟩).map Ce.kvV) := by
  subst hk
  refine .inl ⟨l[i].vV, (l.eraseIdx i).map Ce.kvV, ?_, ?_⟩
  · have := (set_perm l i hi l[i]).map Ce.kvV
    rw [List.set_getElem_self] at this
    exact this
  · exact (set_perm l i hi ⟨l[i].key, v, q⟩).map Ce.kvV
theorem put_new {l : List Ce} (hs : SSort l) {k : ByteArray} (h : atK l k = none) (v : ByteArray) (q : Int) (i : Nat) : PutM (l.map Ce.kvV) (.string k) (.agg #[.string v, .int .i64 q]) ((l.take i ++ [(⟨k, v, q⟩ : Ce)] ++ l.drop i).map Ce.kvV) := by
  refine .inr ⟨fun p hp e => ?_, ?_⟩
  · obtain ⟨c, hc, rfl⟩ := List.mem_map.1 hp
    simp [Ce.kvV] at e
    exact atK_none hs h c hc e
  · have h1 : (l.take i ++ [(⟨k, v, q⟩ : Ce)] ++ l.drop i).Perm ((⟨k, v, q⟩ : Ce) :: l) := by
      rw [List.append_assoc, List.singleton_append]
      refine List.perm_middle.trans ?_
      rw [List.take_append_drop]
    exact h1.map Ce.kvV
theorem del_at {l : List Ce} {i : Nat} (hi : i < l.length) {k : ByteArray} (hk : l[i].key = k) : DelM (l.map Ce.kvV) (.string k) ((l.take i ++ l.drop (i + 1)).map Ce.kvV) := by
  subst hk
  refine .inl ⟨l[i].vV, ?_⟩
  have h1 : l.Perm (l[i] :: (l.take i ++ l.drop (i + 1))) := by
    conv => lhs; rw [← List.take_append_drop i l, List.drop_eq_getElem_cons hi]
    exact List.perm_middle
  exact h1.map Ce.kvV
theorem found_at {l : List Ce} {k : ByteArray} (h : foundB l k = true) : ∃ hi : fidx l k < l.length, l[fidx l k].key = k := by
  have hi := found_lt h
  refine ⟨hi, ?_⟩
  unfold foundB keyAt at h
  rw [List.getElem?_eq_getElem hi] at h
  simpa using h

/-! Apply keeps the order. -/
theorem SSort.set {l : List Ce} (hs : SSort l) {i : Nat} (hi : i < l.length) {k : ByteArray} (hk : l[i].key = k) (v : ByteArray) (q : Int) : SSort (l.set i ⟨k, v, q⟩) := by
  unfold SSort
  have : (l.set i ⟨k, v, q⟩).map Ce.kb = l.map Ce.kb := by
    rw [List.map_set]
    have e : Ce.kb ⟨k, v, q⟩ = (l.map Ce.kb)[i]'(by simpa using hi) := by simp [Ce.kb, hk]
    rw [e, List.set_getElem_self]
  rw [this]
  exact hs
theorem SSort.ins : ∀ {l : List Ce}, SSort l → ∀ {k : ByteArray}, foundB l k = false → ∀ (v : ByteArray) (q : Int), SSort (l.take (fidx l k) ++ [⟨k, v, q⟩] ++ l.drop (fidx l k))
  | [], _, k, _, v, q => by simp [fidx, SSort]
  | c :: l, hs, k, h, v, q => by
    rw [found_cons] at h
    rw [fidx_cons]
    split at h
    · rename_i hlt
      rw [if_pos hlt]
      have ih := SSort.ins hs.cons.2 h v q
      unfold SSort at ih ⊢
      simp only [List.take_succ_cons, List.drop_succ_cons, List.cons_append, List.map_cons]
      rw [List.pairwise_cons]
      refine ⟨fun y hy => ?_, ih⟩
      obtain ⟨d, hd, rfl⟩ := List.mem_map.1 hy
      rcases List.mem_append.1 hd with hd | hd
      · rcases List.mem_append.1 hd with hd | hd
        · exact hs.cons.1 d (List.mem_of_mem_take hd)
        · simp at hd; subst hd; exact hlt
      · exact hs.cons.1 d (List.mem_of_mem_drop hd)
    · rename_i hge
      rw [if_neg hge]
      have hne : c.kb ≠ k.data.toList := fun e => by
        have : c.key = k := bytes_ext e
        simp [this] at h
      have hlt := lt_tri hge hne
      simp only [List.take_zero, List.nil_append, List.drop_zero, List.singleton_append]
      unfold SSort
      rw [List.map_cons, List.pairwise_cons]
      refine ⟨fun y hy => ?_, hs⟩
      obtain ⟨d, hd, rfl⟩ := List.mem_map.1 hy
      rcases List.mem_cons.1 hd with rfl | hd
      · exact hlt
      · exact List.lt_trans hlt (hs.cons.1 d hd)
theorem SSort.cut {l : List Ce} (hs : SSort l) (i : Nat) : SSort (l.take i ++ l.drop (i + 1)) := by
  have h1 : (l.drop (i + 1)).Sublist (l.drop i) := by rw [← List.tail_drop]; exact List.tail_sublist _
  have h2 := List.Sublist.append (List.Sublist.refl (l.take i)) h1
  rw [List.take_append_drop] at h2
  exact List.Pairwise.sublist (h2.map Ce.kb) hs
theorem SSort.app {l : List Ce} (hs : SSort l) (x : Ch) : SSort (sApp l x).1 := by
  unfold sApp
  split
  · split
    · split
      · rename_i hf
        obtain ⟨hi, hk⟩ := found_at hf
        exact hs.set hi hk _ _
      · rename_i hf
        split
        · exact hs
        · exact hs.ins (by simpa using hf) _ _
    · split
      · split
        · exact hs.cut _
        · exact hs
      · exact hs
  · exact hs
theorem valid_key {x : Ch} (h : validB x = true) : x.key.size ≤ 16 := by
  have h2 : restB x = true := by
    simp only [validB, Bool.and_eq_true] at h
    exact h.2.2.2.2
  have he : ∀ {s : ByteArray}, s.toList.isEmpty = true → s.size ≤ 16 := by
    intro s hs
    rw [Lib.toList_data] at hs
    have h0 : s.data.toList = [] := List.isEmpty_iff.1 hs
    show s.data.size ≤ 16
    rw [← Array.length_toList, h0]
    simp
  unfold restB at h2
  split at h2
  · simp only [Bool.and_eq_true, keyB, inB, decide_eq_true_eq] at h2; omega
  · split at h2
    · simp only [Bool.and_eq_true, keyB, inB, decide_eq_true_eq] at h2; omega
    · split at h2
      · simp only [Bool.and_eq_true] at h2; exact he h2.1
      · split at h2
        · simp only [Bool.and_eq_true] at h2; exact he h2.1
        · cases h2
end Go.Proofs.Ytabpapdickolgaa
