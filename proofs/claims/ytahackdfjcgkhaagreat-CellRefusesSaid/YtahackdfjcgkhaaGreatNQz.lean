/-
  Queues, in plain terms: what is always true of the program's queue, and how it goes with the reference's. No program in sight.
-/
import Derived.Test.YtahackdfjcgkhaaGreatNQf
namespace Go.Proofs.YtahackdfjcgkhaaGreat
open Go.RowKit
set_option linter.unusedSimpArgs false
set_option linter.unusedVariables false
attribute [local irreducible] Res.blk Res.sl Res.all Res.ex Res.pure Res.star

theorem len_sub : ∀ {a b : List Int}, a.Pairwise (· ≠ ·) → (∀ x, x ∈ a → x ∈ b) → a.length ≤ b.length
  | [], _, _, _ => by simp
  | x :: a, b, hp, hs => by
    obtain ⟨h1, h2⟩ := List.pairwise_cons.1 hp
    have hx : x ∈ b := hs x (by simp)
    have := len_sub (a := a) (b := b.erase x) h2 fun y hy => (List.mem_erase_of_ne (fun e => h1 y hy e.symm)).2 (hs y (by simp [hy]))
    rw [List.length_erase_of_mem hx] at this
    have := List.length_pos_of_mem hx
    simp only [List.length_cons]
    omega
theorem sortedL_eq : ∀ {a b : List Le}, a.Pairwise ltL → b.Pairwise ltL → (∀ y, y ∈ a ↔ y ∈ b) → a = b
  | [], [], _, _, _ => rfl
  | [], y :: b, _, _, h => by have := (h y).2 (by simp); simp at this
  | x :: a, [], _, _, h => by have := (h x).1 (by simp); simp at this
  | x :: a, y :: b, ha, hb, h => by
    obtain ⟨a1, a2⟩ := List.pairwise_cons.1 ha
    obtain ⟨b1, b2⟩ := List.pairwise_cons.1 hb
    have hxy : x = y := by
      rcases List.mem_cons.1 ((h x).1 (by simp)) with e | e
      · exact e
      · rcases List.mem_cons.1 ((h y).2 (by simp)) with e' | e'
        · exact e'.symm
        · have h1 := b1 x e
          have h2 := a1 y e'
          simp only [ltL] at h1 h2
          omega
    subst hxy
    rw [sortedL_eq a2 b2 fun z => ?_]
    constructor
    · intro hz
      rcases List.mem_cons.1 ((h z).1 (by simp [hz])) with e | e
      · subst e
        have := a1 z hz
        simp only [ltL] at this
        omega
      · exact e
    · intro hz
      rcases List.mem_cons.1 ((h z).2 (by simp [hz])) with e | e
      · subst e
        have := b1 z hz
        simp only [ltL] at this
        omega
      · exact e
theorem mem_insL {x : Le} : ∀ {rs : List Le}, rs.Pairwise ltL → ∀ y, y ∈ insL x rs ↔ y = x ∨ (y ∈ rs ∧ y.item ≠ x.item)
  | [], _, y => by simp [insL]
  | z :: rs, hp, y => by
    obtain ⟨h1, h2⟩ := List.pairwise_cons.1 hp
    have ih := mem_insL (x := x) h2 y
    unfold insL
    split
    · rename_i hlt
      simp only [List.mem_cons, ih]
      constructor
      · rintro (rfl | rfl | ⟨h, h'⟩)
        · exact .inr ⟨.inl rfl, by omega⟩
        · exact .inl rfl
        · exact .inr ⟨.inr h, h'⟩
      · rintro (rfl | ⟨rfl | h, h'⟩)
        · exact .inr (.inl rfl)
        · exact .inl rfl
        · exact .inr (.inr ⟨h, h'⟩)
    · rename_i hge
      split
      · rename_i he
        simp only [List.mem_cons]
        constructor
        · rintro (rfl | h)
          · exact .inl rfl
          · have := h1 y h
            simp only [ltL] at this
            exact .inr ⟨.inr h, by omega⟩
        · rintro (rfl | ⟨rfl | h, h'⟩)
          · exact .inl rfl
          · exact absurd he h'
          · exact .inr h
      · rename_i hne
        simp only [List.mem_cons]
        constructor
        · rintro (rfl | rfl | h)
          · exact .inl rfl
          · exact .inr ⟨.inl rfl, hne⟩
          · have := h1 y h
            simp only [ltL] at this
            exact .inr ⟨.inr h, by omega⟩
        · rintro (rfl | ⟨rfl | h, h'⟩)
          · exact .inl rfl
          · exact .inr (.inl rfl)
          · exact .inr (.inr h)
theorem insL_sorted {x : Le} : ∀ {rs : List Le}, rs.Pairwise ltL → (insL x rs).Pairwise ltL
  | [], _ => by simp [insL]
  | z :: rs, hp => by
    obtain ⟨h1, h2⟩ := List.pairwise_cons.1 hp
    have ih := insL_sorted (x := x) h2
    unfold insL
    split
    · rename_i hlt
      refine List.pairwise_cons.2 ⟨fun y hy => ?_, ih⟩
      rcases (mem_insL h2 y).1 hy with rfl | ⟨h, _⟩
      · exact hlt
      · exact h1 y h
    · rename_i hge
      split
      · rename_i he
        refine List.pairwise_cons.2 ⟨fun y hy => ?_, h2⟩
        have := h1 y hy
        simp only [ltL] at this ⊢
        omega
      · rename_i hne
        refine List.pairwise_cons.2 ⟨fun y hy => ?_, hp⟩
        rcases List.mem_cons.1 hy with rfl | h
        · simp only [ltL]; omega
        · have := h1 y h
          simp only [ltL] at this ⊢
          omega
theorem ltL_uniq {rs : List Le} (h : rs.Pairwise ltL) {a b : Le} (ha : a ∈ rs) (hb : b ∈ rs) (he : a.item = b.item) : a = b := by
  obtain ⟨i, hi, rfl⟩ := List.mem_iff_getElem.1 ha
  obtain ⟨j, hj, rfl⟩ := List.mem_iff_getElem.1 hb
  rcases Nat.lt_trichotomy i j with h1 | h1 | h1
  · have := List.pairwise_iff_getElem.1 h i j hi hj h1
    simp only [ltL] at this
    omega
  · subst h1; rfl
  · have := List.pairwise_iff_getElem.1 h j i hj hi h1
    simp only [ltL] at this
    omega

/-- What is always true of the program's queue. -/
structure QOk (q : Qu) : Prop where
  up : q.l.Pairwise fun a b => a.number < b.number
  le : ∀ x, x ∈ q.l → x.number ≤ q.most
  len : q.l.length ≤ 16
  sr : q.r.Pairwise ltL
  sub : ∀ y, y ∈ q.r → ∃ x, x ∈ q.l ∧ x.number = y.item
  cl : ∀ y, y ∈ q.r → 1 ≤ y.client ∧ y.client ≤ 8
theorem QOk.rlen {q : Qu} (h : QOk q) : q.r.length ≤ 16 := by
  have := len_sub (a := q.r.map Le.item) (b := q.l.map It.number) (by
    rw [List.pairwise_map]
    exact h.sr.imp fun {a b} h => by simp only [ltL] at h; omega) (by
    intro x hx
    obtain ⟨y, hy, rfl⟩ := List.mem_map.1 hx
    obtain ⟨z, hz, e⟩ := h.sub y hy
    exact List.mem_map.2 ⟨z, hz, e⟩)
  simp only [List.length_map] at this
  have := h.len
  omega
theorem QOk.zero : QOk .zero := ⟨by simp [Qu.zero], by simp [Qu.zero], by simp [Qu.zero], by simp [Qu.zero], by simp [Qu.zero], by simp [Qu.zero]⟩
theorem QOk.forget {q : Qu} (h : QOk q) : QOk ⟨q.l, [], q.most⟩ := ⟨h.up, h.le, h.len, .nil, by simp, by simp⟩
theorem qcut' : ∀ {l : List It} {n : Int}, qidx l n < l.length → ∀ x, x ∈ l → x.number ≠ n → x ∈ l.take (qidx l n) ++ l.drop (qidx l n + 1)
  | [], _, h, _, _, _ => by simp [qidx] at h
  | y :: l, n, h, x, hx, hne => by
    by_cases hy : y.number = n
    · have e : qidx (y :: l) n = 0 := by simp [qidx, hy]
      rw [e]
      rcases List.mem_cons.1 hx with rfl | hx
      · exact absurd hy hne
      · simpa using hx
    · have e : qidx (y :: l) n = qidx l n + 1 := by simp [qidx, hy]
      rw [e] at h ⊢
      rcases List.mem_cons.1 hx with rfl | hx
      · simp
      · have := qcut' (by simpa using h) x hx hne
        simp only [List.take_succ_cons, List.cons_append, List.drop_succ_cons, List.mem_cons]
        exact .inr this
theorem sub_cut {l : List It} {i : Nat} : (l.take i ++ l.drop (i + 1)).Sublist l := by
  have h1 : (l.drop (i + 1)).Sublist (l.drop i) := by rw [← List.tail_drop]; exact List.tail_sublist _
  have := List.Sublist.append (List.Sublist.refl (l.take i)) h1
  rwa [List.take_append_drop] at this
theorem QOk.app {q : Qu} (h : QOk q) (x : Ch) : QOk (qApp q x).1 := by
  unfold qApp
  split
  case isFalse => exact h
  case isTrue hv =>
    split
    case isTrue hk =>
      split
      case isTrue => exact h
      case isFalse h1 =>
        split
        case isTrue => exact h
        case isFalse h2 =>
          refine ⟨?_, ?_, ?_, h.sr, fun y hy => ?_, h.cl⟩
          · simp only
            rw [List.pairwise_append]
            refine ⟨h.up, by simp, fun a ha b hb => ?_⟩
            simp at hb
            subst hb
            have := h.le a ha
            simp only
            omega
          · intro y hy
            simp only
            rcases List.mem_append.1 hy with hy | hy
            · have := h.le y hy; omega
            · simp at hy; subst hy; simp
          · simp only [List.length_append, List.length_cons, List.length_nil]; omega
          · obtain ⟨z, hz, e⟩ := h.sub y hy
            exact ⟨z, List.mem_append_left _ hz, e⟩
    case isFalse hk =>
      split
      case isFalse => exact h
      case isTrue hk4 =>
        split
        case isTrue => exact h
        case isFalse h1 =>
          have hi : qidx q.l x.item < q.l.length := by
            unfold qat at h1
            split at h1
            · assumption
            · omega
          have hat : (qat q.l x.item).toNat = qidx q.l x.item := by
            unfold qat
            rw [if_pos hi]
            rfl
          rw [hat]
          have hsub := sub_cut (l := q.l) (i := qidx q.l x.item)
          refine ⟨h.up.sublist hsub, fun y hy => h.le y (hsub.mem hy), Nat.le_trans hsub.length_le h.len, h.sr.filter _, fun y hy => ?_, fun y hy => h.cl y (List.mem_filter.1 hy).1⟩
          obtain ⟨hy1, hy2⟩ := List.mem_filter.1 hy
          obtain ⟨z, hz, e⟩ := h.sub y hy1
          refine ⟨z, qcut' hi z hz ?_, e⟩
          rw [e]
          simpa using hy2
theorem freeI_mem {l : List It} {rs : List Le} {ep tk : Int} {x : It} (h : freeI l rs ep tk = some x) : x ∈ l := List.mem_of_find?_eq_some h
theorem QOk.take {q : Qu} (h : QOk q) (cl ep tk ho : Int) : QOk (takeP q cl ep tk ho).q ∧ (takeP q cl ep tk ho).q.l = q.l ∧ (takeP q cl ep tk ho).q.most = q.most := by
  unfold takeP
  split
  · exact ⟨h, rfl, rfl⟩
  · rename_i hb
    split
    · rename_i x hx
      refine ⟨⟨h.up, h.le, h.len, insL_sorted h.sr, fun y hy => ?_, fun y hy => ?_⟩, rfl, rfl⟩
      · rcases (mem_insL h.sr y).1 hy with rfl | ⟨hy, _⟩
        · exact ⟨x, freeI_mem hx, rfl⟩
        · exact h.sub y hy
      · rcases (mem_insL h.sr y).1 hy with rfl | ⟨hy, _⟩
        · unfold takeBad at hb
          simp only
          omega
        · exact h.cl y hy
    · exact ⟨h, rfl, rfl⟩
theorem QOk.fold : ∀ {h : List Ch} {q : Qu} {i : Nat}, QOk q → QOk (foldQ q h i).q
  | [], _, _, hq => hq
  | x :: h, q, i, hq => by
    unfold foldQ
    split
    · exact QOk.fold (hq.app x)
    · exact hq

/-- The reference's queue holds the same. -/
structure QRel (q q' : Qu) : Prop where
  l : q'.l = q.l
  most : q'.most = q.most
  mem : ∀ y, y ∈ q'.r ↔ y ∈ q.r
  nd : q'.r.Pairwise fun a b => a.item ≠ b.item
theorem QRel.refl {q : Qu} (h : QOk q) : QRel q q := ⟨rfl, rfl, fun _ => Iff.rfl, h.sr.imp fun {a b} h => by simp only [ltL] at h; omega⟩
theorem QRel.uniq {q q' : Qu} (h : QRel q q') (hq : QOk q) {a b : Le} (ha : a ∈ q'.r) (hb : b ∈ q'.r) (he : a.item = b.item) : a = b := ltL_uniq hq.sr ((h.mem a).1 ha) ((h.mem b).1 hb) he
theorem QRel.rlen {q q' : Qu} (h : QRel q q') (hq : QOk q) : q'.r.length ≤ 16 := by
  have := len_sub (a := q'.r.map Le.item) (b := q.l.map It.number) (by rw [List.pairwise_map]; exact h.nd) (by
    intro x hx
    obtain ⟨y, hy, rfl⟩ := List.mem_map.1 hx
    obtain ⟨z, hz, e⟩ := hq.sub y ((h.mem y).1 hy)
    exact List.mem_map.2 ⟨z, hz, e⟩)
  simp only [List.length_map] at this
  have := hq.len
  omega
theorem heldB_congr {a b : List Le} (h : ∀ y, y ∈ a ↔ y ∈ b) (n ep tk : Int) : heldB a n ep tk = heldB b n ep tk := by
  unfold heldB
  rw [Bool.eq_iff_iff, List.any_eq_true, List.any_eq_true]
  constructor
  · rintro ⟨y, hy, h1⟩
    exact ⟨y, (h y).1 hy, h1⟩
  · rintro ⟨y, hy, h1⟩
    exact ⟨y, (h y).2 hy, h1⟩
theorem QRel.app {q q' : Qu} (h : QRel q q') (x : Ch) : (qApp q' x).2 = (qApp q x).2 ∧ QRel (qApp q x).1 (qApp q' x).1 := by
  unfold qApp
  rw [h.l, h.most]
  split
  case isFalse => exact ⟨rfl, h⟩
  case isTrue hv =>
    split
    case isTrue hk =>
      split
      case isTrue => exact ⟨rfl, h⟩
      case isFalse h1 =>
        split
        case isTrue => exact ⟨rfl, h⟩
        case isFalse h2 => exact ⟨rfl, rfl, rfl, h.mem, h.nd⟩
    case isFalse hk =>
      split
      case isFalse => exact ⟨rfl, h⟩
      case isTrue hk4 =>
        split
        case isTrue => exact ⟨rfl, h⟩
        case isFalse h1 =>
          refine ⟨rfl, rfl, rfl, fun y => ?_, h.nd.filter _⟩
          simp only [without, List.mem_filter, h.mem]
theorem QRel.take {q q' : Qu} (h : QRel q q') (hq : QOk q) (cl ep tk ho : Int) : (takeR q' cl ep tk ho).x = (takeP q cl ep tk ho).x ∧ (takeR q' cl ep tk ho).l = (takeP q cl ep tk ho).l ∧ (takeR q' cl ep tk ho).e = (takeP q cl ep tk ho).e ∧ QRel (takeP q cl ep tk ho).q (takeR q' cl ep tk ho).q := by
  have hf : freeI q'.l q'.r ep tk = freeI q.l q.r ep tk := by
    unfold freeI
    rw [h.l]
    congr 1
    funext x
    rw [heldB_congr h.mem]
  unfold takeP takeR
  rw [hf]
  by_cases hbad : takeBad cl ep tk ho
  · simp only [if_pos hbad]
    exact ⟨trivial, trivial, trivial, h⟩
  · simp only [if_neg hbad]
    cases hx : freeI q.l q.r ep tk with
    | none => exact ⟨rfl, rfl, rfl, h⟩
    | some x =>
      refine ⟨rfl, rfl, rfl, h.l, h.most, fun y => ?_, ?_⟩
      · simp only
        rw [mem_insL hq.sr]
        simp only [List.mem_append, without, List.mem_filter, h.mem, List.mem_cons, List.not_mem_nil, or_false, bne_iff_ne]
        exact or_comm
      · simp only
        rw [List.pairwise_append]
        refine ⟨h.nd.filter _, by simp, fun a ha b hb => ?_⟩
        simp at hb
        subst hb
        have := (List.mem_filter.1 ha).2
        simpa using this
theorem QRel.forget {q q' : Qu} (h : QRel q q') : QRel ⟨q.l, [], q.most⟩ ⟨q'.l, [], q'.most⟩ := ⟨h.l, h.most, fun _ => Iff.rfl, .nil⟩
theorem liveF_some {rs : List Le} {ep n tk : Int} {y : Le} (h : liveF rs ep n tk = some y) : y ∈ rs ∧ y.item = n ∧ liveL y ep tk := by
  unfold liveF at h
  have h1 := List.mem_of_find?_eq_some h
  have h2 := List.find?_some h
  simp at h2
  exact ⟨h1, h2⟩
theorem liveF_of {rs : List Le} {ep n tk : Int} {y : Le} (hy : y ∈ rs) (h1 : y.item = n) (h2 : liveL y ep tk) : ∃ z, liveF rs ep n tk = some z := by
  have : (liveF rs ep n tk).isSome = true := by
    rw [liveF_isSome]
    obtain ⟨i, hi, rfl⟩ := List.mem_iff_getElem.1 hy
    exact heldB_at hi h1 h2
  exact Option.isSome_iff_exists.1 this
theorem QRel.holds {q q' : Qu} (h : QRel q q') (hq : QOk q) (cl ep n tk : Int) : holdsR q'.r cl ep n tk = holdsP q.r cl ep n tk := by
  rw [Bool.eq_iff_iff]
  unfold holdsP holdsR
  rw [List.any_eq_true]
  constructor
  · intro h1
    cases hz : liveF q'.r ep n tk with
    | none => rw [hz] at h1; cases h1
    | some z =>
      rw [hz] at h1
      obtain ⟨h2, h3, h4⟩ := liveF_some hz
      simp at h1
      exact ⟨z, (h.mem z).1 h2, by simp [h1, h3, h4]⟩
  · rintro ⟨y, hy, h1⟩
    simp only [Bool.and_eq_true, decide_eq_true_eq] at h1
    obtain ⟨⟨h1, h2⟩, h3⟩ := h1
    have hy' := (h.mem y).2 hy
    obtain ⟨z, hz⟩ := liveF_of hy' h1 h3
    obtain ⟨h4, h5, _⟩ := liveF_some hz
    have := h.uniq hq h4 hy' (by omega)
    rw [hz, this]
    simpa using h2
theorem QRel.leases {q q' : Qu} (h : QRel q q') (hq : QOk q) (ep tk : Int) : leasesR q'.l q'.r ep tk = leasesP q.r ep tk := by
  refine sortedL_eq ?_ (hq.sr.filter _) fun y => ?_
  · unfold leasesR
    rw [h.l, List.pairwise_filterMap]
    refine hq.up.imp fun {a b} hab y hy z hz => ?_
    have h1 := liveF_some hy
    have h2 := liveF_some hz
    simp only [ltL]
    omega
  · unfold leasesR leasesP
    rw [List.mem_filterMap, List.mem_filter, h.l]
    constructor
    · rintro ⟨x, hx, hl⟩
      have h1 := liveF_some hl
      exact ⟨(h.mem y).1 h1.1, by simpa using h1.2.2⟩
    · rintro ⟨hy, hl⟩
      obtain ⟨x, hx, e⟩ := hq.sub y hy
      have hy' := (h.mem y).2 hy
      obtain ⟨z, hz⟩ := liveF_of hy' e.symm (by simpa using hl)
      obtain ⟨h4, h5, _⟩ := liveF_some hz
      have := h.uniq hq h4 hy' (by omega)
      exact ⟨x, hx, by rw [hz, this]⟩
end Go.Proofs.YtahackdfjcgkhaaGreat
