/-
  Gates, in plain terms: what the program's gate and the reference's have in common.
-/
import Derived.Test.YtahackdfjcgkhaaGreatNGateB
namespace Go.Proofs.YtahackdfjcgkhaaGreat

theorem ltW_asymm {a b : Wi} (h : ltW a b) (k : ltW b a) : False := ltW_irrefl _ (ltW_trans h k)
theorem insW_mem' {x z : Wi} : ∀ {l : List Wi}, z ∈ insW x l → z ∈ l ∨ z = x
  | [], h => by simp [insW] at h; exact .inr h
  | y :: l, h => by
    unfold insW at h
    split at h
    · simp only [List.mem_cons] at h ⊢
      rcases h with h | h
      · exact .inl (.inl h)
      · rcases insW_mem' h with h | h
        · exact .inl (.inr h)
        · exact .inr h
    · split at h
      · exact .inl h
      · simp only [List.mem_cons] at h ⊢
        rcases h with h | h | h
        · exact .inr h
        · exact .inl (.inl h)
        · exact .inl (.inr h)
theorem insW_mem {x z : Wi} : ∀ {l : List Wi}, (∀ y, y ∈ l → y.cell = x.cell) → (z ∈ insW x l ↔ z ∈ l ∨ z = x)
  | [], _ => by simp [insW]
  | y :: l, hc => by
    have ih := insW_mem (x := x) (z := z) (l := l) fun y hy => hc y (by simp [hy])
    unfold insW
    split
    · simp only [List.mem_cons, ih]
      constructor
      · rintro (h | h | h)
        · exact .inl (.inl h)
        · exact .inl (.inr h)
        · exact .inr h
      · rintro ((h | h) | h)
        · exact .inl h
        · exact .inr (.inl h)
        · exact .inr (.inr h)
    · split
      · rename_i he
        have : y = x := eqK_eq he (hc y (by simp))
        subst this
        simp only [List.mem_cons]
        constructor
        · exact .inl
        · rintro (h | h)
          · exact h
          · exact .inl h
      · simp only [List.mem_cons]
        constructor
        · rintro (h | h)
          · exact .inr h
          · exact .inl h
        · rintro (h | h)
          · exact .inr h
          · exact .inl h
theorem insW_sorted {x : Wi} : ∀ {l : List Wi}, l.Pairwise ltW → (insW x l).Pairwise ltW
  | [], _ => by simp [insW]
  | y :: l, h => by
    obtain ⟨h1, h2⟩ := List.pairwise_cons.1 h
    unfold insW
    split
    · rename_i hlt
      refine List.pairwise_cons.2 ⟨fun z hz => ?_, insW_sorted h2⟩
      rcases insW_mem' hz with hz | rfl
      · exact h1 z hz
      · exact hlt
    · rename_i hn
      split
      · exact h
      · rename_i he
        have hx : ltW x y := (ltW_or hn).resolve_left he
        refine List.pairwise_cons.2 ⟨fun z hz => ?_, h⟩
        rcases List.mem_cons.1 hz with rfl | hz
        · exact hx
        · exact ltW_trans hx (h1 z hz)
theorem insB_mem {x z : Wi} : ∀ {l : List Wi}, z ∈ insB x l ↔ z ∈ l ∨ z = x
  | [] => by simp [insB]
  | y :: l => by
    have ih := insB_mem (x := x) (z := z) (l := l)
    unfold insB
    split
    · simp only [List.mem_cons, ih]
      constructor
      · rintro (h | h | h)
        · exact .inl (.inl h)
        · exact .inl (.inr h)
        · exact .inr h
      · rintro ((h | h) | h)
        · exact .inl h
        · exact .inr (.inl h)
        · exact .inr (.inr h)
    · simp only [List.mem_cons]
      constructor
      · rintro (h | h)
        · exact .inr h
        · exact .inl h
      · rintro (h | h)
        · exact .inr h
        · exact .inl h
theorem insB_sorted {x : Wi} : ∀ {l : List Wi}, l.Pairwise ltW → (∀ y, y ∈ l → ¬ eqK y x) → (insB x l).Pairwise ltW
  | [], _, _ => by simp [insB]
  | y :: l, h, hk => by
    obtain ⟨h1, h2⟩ := List.pairwise_cons.1 h
    unfold insB
    split
    · rename_i hlt
      refine List.pairwise_cons.2 ⟨fun z hz => ?_, insB_sorted h2 fun y hy => hk y (by simp [hy])⟩
      rcases insB_mem.1 hz with hz | rfl
      · exact h1 z hz
      · exact hlt
    · rename_i hn
      have hx : ltW x y := (ltW_or hn).resolve_left (hk y (by simp))
      refine List.pairwise_cons.2 ⟨fun z hz => ?_, h⟩
      rcases List.mem_cons.1 hz with rfl | hz
      · exact hx
      · exact ltW_trans hx (h1 z hz)
theorem sorted_one : ∀ {l l' : List Wi}, l.Pairwise ltW → l'.Pairwise ltW → (∀ x, x ∈ l ↔ x ∈ l') → l = l'
  | [], [], _, _, _ => rfl
  | [], b :: l', _, _, h => by have := (h b).2 (by simp); simp at this
  | a :: l, [], _, _, h => by have := (h a).1 (by simp); simp at this
  | a :: l, b :: l', h1, h2, h => by
    obtain ⟨a1, a2⟩ := List.pairwise_cons.1 h1
    obtain ⟨b1, b2⟩ := List.pairwise_cons.1 h2
    have hab : a = b := by
      rcases List.mem_cons.1 ((h a).1 (by simp)) with e | e
      · exact e
      · rcases List.mem_cons.1 ((h b).2 (by simp)) with e' | e'
        · exact e'.symm
        · exact (ltW_asymm (b1 a e) (a1 b e')).elim
    subst hab
    congr 1
    refine sorted_one a2 b2 fun x => ⟨fun hx => ?_, fun hx => ?_⟩
    · rcases List.mem_cons.1 ((h x).1 (by simp [hx])) with e | e
      · subst e; exact (ltW_irrefl _ (a1 x hx)).elim
      · exact e
    · rcases List.mem_cons.1 ((h x).2 (by simp [hx])) with e | e
      · subst e; exact (ltW_irrefl _ (b1 x hx)).elim
      · exact e
theorem winsOf_all {closed cell : Int} : ∀ {L out : List Wi}, out.Pairwise ltW → (∀ x, x ∈ out → x.cell = cell) → (∀ x, x ∈ L → x.cell = cell) → L.Nodup → (∀ x, x ∈ L → x ∉ out) →
    (winsOf closed L out).Pairwise ltW ∧ ∀ x, x ∈ winsOf closed L out ↔ x ∈ out ∨ (x ∈ L ∧ closed < x.epoch)
  | [], out, h, _, _, _, _ => ⟨h, fun x => by simp [winsOf]⟩
  | a :: L, out, h, hc, hL, hn, hd => by
    obtain ⟨n1, n2⟩ := List.nodup_cons.1 hn
    have e : winsOf closed (a :: L) out = winsOf closed L (if a.epoch ≤ closed then out else insB a out) := rfl
    rw [e]
    by_cases ha : a.epoch ≤ closed
    · rw [if_pos ha]
      obtain ⟨i1, i2⟩ := winsOf_all (closed := closed) (cell := cell) (L := L) (out := out) h hc (fun x hx => hL x (by simp [hx])) n2 (fun x hx => hd x (by simp [hx]))
      refine ⟨i1, fun x => (i2 x).trans ⟨?_, ?_⟩⟩
      · rintro (h | ⟨h, k⟩)
        · exact .inl h
        · exact .inr ⟨by simp [h], k⟩
      · rintro (h | ⟨h, k⟩)
        · exact .inl h
        · rcases List.mem_cons.1 h with rfl | h
          · omega
          · exact .inr ⟨h, k⟩
    · rw [if_neg ha]
      have hna : ∀ y, y ∈ out → ¬ eqK y a := fun y hy he => by
        have : y = a := eqK_eq he (by rw [hc y hy, hL a (by simp)])
        subst this
        exact hd y (by simp) hy
      obtain ⟨i1, i2⟩ := winsOf_all (closed := closed) (cell := cell) (L := L) (out := insB a out) (insB_sorted h hna) (fun x hx => by
        rcases insB_mem.1 hx with hx | rfl
        · exact hc x hx
        · exact hL x (by simp)) (fun x hx => hL x (by simp [hx])) n2 (fun x hx hx' => by
        rcases insB_mem.1 hx' with h | rfl
        · exact hd x (by simp [hx]) h
        · exact n1 hx)
      refine ⟨i1, fun x => (i2 x).trans ⟨?_, ?_⟩⟩
      · rintro (h | ⟨h, k⟩)
        · rcases insB_mem.1 h with h | rfl
          · exact .inl h
          · exact .inr ⟨by simp, by omega⟩
        · exact .inr ⟨by simp [h], k⟩
      · rintro (h | ⟨h, k⟩)
        · exact .inl (insB_mem.2 (.inl h))
        · rcases List.mem_cons.1 h with rfl | h
          · exact .inl (insB_mem.2 (.inr rfl))
          · exact .inr ⟨h, k⟩

/-- What the program's gate and the reference's have in common. -/
structure Rel (P R : Ga) : Prop where
  cell : P.cell = R.cell
  closed : P.closed = R.closed
  sorted : P.ws.Pairwise ltW
  mem : ∀ x, x ∈ P.ws ↔ x ∈ R.ws ∧ R.closed < x.epoch
  nodup : R.ws.Nodup
  ok : ∀ x, x ∈ R.ws → x.cell = R.cell ∧ okW x
theorem Rel.new (cell : Int) : Rel ⟨cell, 0, []⟩ ⟨cell, 0, []⟩ := ⟨rfl, rfl, .nil, by simp, .nil, by simp⟩
theorem Rel.wins {P R : Ga} (h : Rel P R) : winsOf R.closed R.ws [] = P.ws := by
  obtain ⟨h1, h2⟩ := winsOf_all (closed := R.closed) (cell := R.cell) (L := R.ws) (out := []) .nil (by simp) (fun x hx => (h.ok x hx).1) h.nodup (by simp)
  exact sorted_one h1 h.sorted fun x => by rw [h2, h.mem]; simp
theorem Rel.okP {P R : Ga} (h : Rel P R) {x : Wi} (hx : x ∈ P.ws) : x.cell = P.cell ∧ okW x ∧ P.closed < x.epoch := by
  obtain ⟨h1, h2⟩ := (h.mem x).1 hx
  exact ⟨by rw [h.cell]; exact (h.ok x h1).1, (h.ok x h1).2, by rw [h.closed]; exact h2⟩
theorem Rel.give {P R : Ga} (h : Rel P R) (x : Wi) : Rel (giveP P x).1 (giveR R x).1 ∧ (giveP P x).2 = (giveR R x).2 := by
  unfold giveP giveR
  rw [h.cell, h.closed]
  split
  · rename_i hok
    split
    · rename_i hc
      split
      · exact ⟨h, rfl⟩
      · rename_i he
        have hm : ∀ z, z ∈ insW x P.ws ↔ z ∈ P.ws ∨ z = x := fun z => insW_mem fun y hy => by rw [(h.okP hy).1, h.cell, hc]
        refine ⟨⟨rfl, rfl, insW_sorted h.sorted, fun z => ?_, ?_, fun z hz => ?_⟩, rfl⟩
        · simp only [hm, h.mem]
          split
          · rename_i hin
            constructor
            · rintro (h | rfl)
              · exact h
              · exact ⟨hin, by omega⟩
            · exact .inl
          · simp only [List.mem_append, List.mem_singleton]
            constructor
            · rintro (⟨a, b⟩ | rfl)
              · exact ⟨.inl a, b⟩
              · exact ⟨.inr rfl, by omega⟩
            · rintro ⟨a | a, b⟩
              · exact .inl ⟨a, b⟩
              · exact .inr a
        · simp only
          split
          · exact h.nodup
          · rename_i hin
            exact List.nodup_append.2 ⟨h.nodup, by simp, fun a ha b hb => by simp at hb; subst hb; rintro rfl; exact hin ha⟩
        · simp only at hz
          split at hz
          · exact h.ok z hz
          · rcases List.mem_append.1 hz with hz | hz
            · exact h.ok z hz
            · simp at hz; subst hz; exact ⟨hc, hok⟩
    · exact ⟨h, rfl⟩
  · exact ⟨h, rfl⟩
theorem Rel.close {P R : Ga} (h : Rel P R) (n : Int) : Rel ⟨P.cell, max P.closed n, P.ws.filter fun x => !decide (x.epoch ≤ max P.closed n)⟩ ⟨R.cell, max R.closed n, R.ws⟩ := by
  refine ⟨h.cell, by rw [h.closed], h.sorted.filter _, fun z => ?_, h.nodup, h.ok⟩
  simp only [List.mem_filter, h.mem, h.closed, Bool.not_eq_true', decide_eq_false_iff_not]
  constructor
  · rintro ⟨⟨a, b⟩, c⟩
    exact ⟨a, by omega⟩
  · rintro ⟨a, b⟩
    exact ⟨⟨a, by omega⟩, by omega⟩
theorem Rel.forget {P R : Ga} (h : Rel P R) (n : Int) : Rel ⟨P.cell, P.closed, P.ws.filter fun x => !decide (x.until_ ≤ n)⟩ ⟨R.cell, R.closed, R.ws.filter fun x => decide (n < x.until_)⟩ := by
  refine ⟨h.cell, h.closed, h.sorted.filter _, fun z => ?_, h.nodup.filter _, fun z hz => h.ok z (List.mem_filter.1 hz).1⟩
  simp only [List.mem_filter, h.mem, Bool.not_eq_true', decide_eq_false_iff_not, decide_eq_true_eq]
  constructor
  · rintro ⟨⟨a, b⟩, c⟩
    exact ⟨⟨a, by omega⟩, b⟩
  · rintro ⟨⟨a, b⟩, c⟩
    exact ⟨⟨a, c⟩, by omega⟩
theorem Rel.crash {P R : Ga} (h : Rel P R) : Rel ⟨P.cell, P.closed, []⟩ ⟨R.cell, R.closed, []⟩ := ⟨h.cell, h.closed, .nil, by simp, .nil, by simp⟩

/-! Accepts. -/
def hits (x : Wi) (v t : Int) : Prop := x.version = v ∧ x.from_ ≤ t ∧ t < x.until_
theorem accs_all : ∀ (ws : List Wi) (v t e : Int), e ≤ accs ws v t e ∧ (∀ x, x ∈ ws → hits x v t → x.epoch ≤ accs ws v t e) ∧ (accs ws v t e = e ∨ ∃ x, x ∈ ws ∧ hits x v t ∧ x.epoch = accs ws v t e)
  | [], v, t, e => ⟨Int.le_refl _, by simp, .inl rfl⟩
  | a :: ws, v, t, e => by
    have eq : accs (a :: ws) v t e = accs ws v t (if a.version = v ∧ a.from_ ≤ t ∧ t < a.until_ then max e a.epoch else e) := rfl
    rw [eq]
    obtain ⟨h1, h2, h3⟩ := accs_all ws v t (if a.version = v ∧ a.from_ ≤ t ∧ t < a.until_ then max e a.epoch else e)
    by_cases ha : a.version = v ∧ a.from_ ≤ t ∧ t < a.until_
    · rw [if_pos ha] at h1 h2 h3 ⊢
      refine ⟨by omega, fun x hx hh => ?_, ?_⟩
      · rcases List.mem_cons.1 hx with rfl | hx
        · omega
        · exact h2 x hx hh
      · rcases h3 with h3 | ⟨x, hx, hh, he⟩
        · rcases Int.le_total a.epoch e with hle | hle
          · exact .inl (by omega)
          · exact .inr ⟨a, by simp, ha, by omega⟩
        · exact .inr ⟨x, by simp [hx], hh, he⟩
    · rw [if_neg ha] at h1 h2 h3 ⊢
      refine ⟨h1, fun x hx hh => ?_, ?_⟩
      · rcases List.mem_cons.1 hx with rfl | hx
        · exact (ha hh).elim
        · exact h2 x hx hh
      · rcases h3 with h3 | ⟨x, hx, hh, he⟩
        · exact .inl h3
        · exact .inr ⟨x, by simp [hx], hh, he⟩
theorem accs_pos {ws : List Wi} {v t : Int} (hw : ∀ x, x ∈ ws → 1 ≤ x.epoch) : 0 < accs ws v t 0 ↔ ∃ x, x ∈ ws ∧ hits x v t := by
  obtain ⟨h1, h2, h3⟩ := accs_all ws v t 0
  constructor
  · intro h
    rcases h3 with h3 | ⟨x, hx, hh, _⟩
    · omega
    · exact ⟨x, hx, hh⟩
  · rintro ⟨x, hx, hh⟩
    have := h2 x hx hh
    have := hw x hx
    omega

/-! Until. -/
theorem untl_all : ∀ (ws : List Wi) (v u : Int), ws.Pairwise ltW → u ≤ untl ws v u ∧ (∀ s, u ≤ s → s < untl ws v u → ∃ x, x ∈ ws ∧ hits x v s) ∧ (∀ x, x ∈ ws → ¬ hits x v (untl ws v u)) ∧ (untl ws v u = u ∨ ∃ x, x ∈ ws ∧ untl ws v u = x.until_)
  | [], v, u, _ => ⟨Int.le_refl _, fun s h1 h2 => by simp [untl] at h2; omega, by simp, .inl rfl⟩
  | a :: ws, v, u, h => by
    obtain ⟨a1, a2⟩ := List.pairwise_cons.1 h
    have eq : untl (a :: ws) v u = untl ws v (if a.version = v ∧ a.from_ ≤ u then max u a.until_ else u) := rfl
    rw [eq]
    obtain ⟨h1, h2, h3, h4⟩ := untl_all ws v (if a.version = v ∧ a.from_ ≤ u then max u a.until_ else u) a2
    by_cases ha : a.version = v ∧ a.from_ ≤ u
    · rw [if_pos ha] at h1 h2 h3 h4 ⊢
      refine ⟨by omega, fun s hs1 hs2 => ?_, fun x hx => ?_, ?_⟩
      · rcases Int.lt_or_le s (max u a.until_) with hlt | hge
        · exact ⟨a, by simp, ha.1, by omega, by omega⟩
        · obtain ⟨x, hx, hh⟩ := h2 s hge hs2
          exact ⟨x, by simp [hx], hh⟩
      · rcases List.mem_cons.1 hx with rfl | hx
        · rintro ⟨_, _, hh⟩; omega
        · exact h3 x hx
      · rcases h4 with h4 | ⟨x, hx, he⟩
        · rcases Int.le_total a.until_ u with hle | hle
          · exact .inl (by omega)
          · exact .inr ⟨a, by simp, by omega⟩
        · exact .inr ⟨x, by simp [hx], he⟩
    · rw [if_neg ha] at h1 h2 h3 h4 ⊢
      refine ⟨h1, fun s hs1 hs2 => ?_, fun x hx => ?_, ?_⟩
      · obtain ⟨x, hx, hh⟩ := h2 s hs1 hs2
        exact ⟨x, by simp [hx], hh⟩
      · rcases List.mem_cons.1 hx with rfl | hx
        · rintro ⟨hv, hf, hu⟩
          rcases Int.lt_or_le u (untl ws v u) with hlt | hge
          · obtain ⟨y, hy, hyv, hyf, hyu⟩ := h2 u (Int.le_refl _) hlt
            have := a1 y hy
            unfold ltW at this
            exact ha ⟨hv, by omega⟩
          · have : untl ws v u = u := by omega
            rw [this] at hf
            exact ha ⟨hv, hf⟩
        · exact h3 x hx
      · rcases h4 with h4 | ⟨x, hx, he⟩
        · exact .inl h4
        · exact .inr ⟨x, by simp [hx], he⟩
end Go.Proofs.YtahackdfjcgkhaaGreat
