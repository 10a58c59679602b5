/-
  Slices: those that the program owns, those that it only reads; append. No program in sight.
-/
import Derived.Test.YtabpapdickolgaaZf
import Derived.Laws.OwnMore
namespace Go.Proofs.Ytabpapdickolgaa
open Go.RowKit
set_option linter.unusedSimpArgs false
set_option linter.unusedVariables false

/-- A slice with a row of its own from the row's head on; its elements, cell by cell. -/
def Res.sl (e sz : Nat) (v : Value) (rows : List (List Value)) : Res where
  holds w fp := (∀ row, row ∈ rows → row.length = sz ∧ ∀ u, u ∈ row → u.oneCell' = true) ∧ ∃ A c, v = .slice A rows.length c ∧
    ((c = 0 ∧ rows = [] ∧ fp = []) ∨ (0 < c ∧ ∃ g cur, A = some ⟨g, 0, none⟩ ∧ fp = [g] ∧ Blk w g e cur ∧ rows.length ≤ c ∧ c ≤ maxLen ∧ cur.size = c * sz ∧ cur.toList.take (rows.length * sz) = rows.flatten))
  loc := fun ⟨h1, A, c, hv, h⟩ hb => ⟨h1, A, c, hv, h.imp id fun ⟨h0, g, cur, hA, hf, hg, rest⟩ => ⟨h0, g, cur, hA, hf, by have := hb g (by rw [hf]; simp); unfold Blk; rw [this]; exact hg, rest⟩⟩

theorem flatten_length {sz : Nat} : ∀ {rows : List (List Value)}, (∀ row, row ∈ rows → row.length = sz) → rows.flatten.length = rows.length * sz
  | [], _ => by simp
  | row :: rows, h => by
    rw [List.flatten_cons, List.length_append, h row (by simp), flatten_length (fun r hr => h r (by simp [hr])), List.length_cons, Nat.add_mul]
    omega
theorem flatten_at {sz : Nat} : ∀ {rows : List (List Value)}, (∀ row, row ∈ rows → row.length = sz) → ∀ {q : Nat} (hq : q < rows.length) {i : Nat}, i < sz → rows.flatten[q * sz + i]? = rows[q][i]?
  | [], _, q, hq, _, _ => by simp at hq
  | row :: rows, h, q, hq, i, hi => by
    have hr := h row (by simp)
    cases q with
    | zero => rw [List.flatten_cons, List.getElem?_append_left (by rw [hr]; omega)]; simp
    | succ q =>
      rw [List.flatten_cons, List.getElem?_append_right (by rw [hr, Nat.add_mul]; omega)]
      have : (q + 1) * sz + i - row.length = q * sz + i := by rw [hr, Nat.add_mul]; omega
      rw [this, flatten_at (fun r hr => h r (by simp [hr])) (by simpa using hq) hi]
      simp

/-- The slice value reads as these rows. -/
structure Rows' (w : World) (sz : Nat) (v : Value) (rows : List (List Value)) : Prop where
  ok : ∀ row, row ∈ rows → row.length = sz ∧ ∀ u, u ∈ row → u.oneCell' = true
  rd : ∃ A c, v = .slice A rows.length c ∧ (A = none → c = 0) ∧ rows.length ≤ c ∧ Rd w sz A rows.length rows.flatten

/-- While the resources of F stand, v reads as these rows. -/
def Reads (r : World) (F : List Res) (sz : Nat) (v : Value) (rows : List (List Value)) : Prop := ∀ (L : List Res) (w : World), Sep r [] (L ++ F) w → Rows' w sz v rows

section
variable {r w w' : World} {M : List Nat} {L F : List Res} {e sz : Nat} {k : List Res} {v : Value} {rows : List (List Value)} {S : List Nat}

theorem Rows'.chg (h : Rows' w sz v rows) (hc : Chg S w w') (hs : ∀ A n c, v = .slice (some A) n c → 0 < n → A.block ∉ S) : Rows' w' sz v rows := by
  obtain ⟨h1, A, c, hv, hn, hle, hr⟩ := h
  refine ⟨h1, A, c, hv, hn, hle, hr.1, fun h0 => ?_⟩
  obtain ⟨ad, rfl, hcell⟩ := hr.2 h0
  exact ⟨ad, rfl, fun j u hu => hc.cellv (hcell j u hu) (by rw [block_add]; exact hs ad _ _ hv h0)⟩
theorem Rows'.ext (h : Rows' w sz v rows) (hc : Chg [] w w') : Rows' w' sz v rows := h.chg hc (by simp)
theorem Sep.slrows (h : Sep r M L w) (ha : At L k (.sl e sz v rows)) : Rows' w sz v rows := by
  obtain ⟨fp, ⟨f1, f2, rfl, ⟨h1, A, c, hv, hx⟩, _⟩, _⟩ := (h.focus ha).ex
  have hl := flatten_length fun row hr => (h1 row hr).1
  rcases hx with ⟨rfl, rfl, _⟩ | ⟨h0, g, cur, rfl, _, hb, hle, hm, hs, ht⟩
  · exact ⟨h1, A, 0, hv, fun _ => rfl, Nat.le_refl _, by simp, fun h => absurd h (by simp)⟩
  · refine ⟨h1, _, c, hv, by simp, hle, hl, fun _ => ⟨_, rfl, fun j u hu => ?_⟩⟩
    rw [add_lit, hb.cell, Nat.zero_add, ← Array.getElem?_toList]
    rw [← ht, List.getElem?_take] at hu
    split at hu
    · exact hu
    · cases hu
theorem at_app (L : List Res) {k : List Res} {R : Res} (h : At F k R) : At (L ++ F) (L ++ k) R := by
  induction L with
  | nil => simpa using h
  | cons a L ih => simp only [List.cons_append]; exact .next ih
theorem Reads.of_at (ha : At F k (.sl e sz v rows)) : Reads r F sz v rows := fun L _ h => h.slrows (at_app L ha)
theorem Reads.root (h : Rows' r sz v rows) : Reads r F sz v rows := fun _ _ hS => h.ext hS.chg
theorem Reads.cons (h : Reads r F sz v rows) (R : Res) : Reads r (R :: F) sz v rows := fun L w hS => h (L ++ [R]) w (by simpa using hS)
theorem Reads.app (h : Reads r F sz v rows) (L' : List Res) : Reads r (L' ++ F) sz v rows := fun L w hS => h (L ++ L') w (by simpa using hS)
/-- The element q of a slice. -/
theorem Rows'.at (h : Rows' w sz v rows) (hsz : 0 < sz) {q : Nat} (hq : q < rows.length) : ∃ g o c, v = .slice (some ⟨g, o, none⟩) rows.length c ∧ g < w.heap.size ∧ w.rangeAt g (o + q * sz) rows[q] := by
  obtain ⟨h1, A, c, hv, hn, hle, hr⟩ := h
  obtain ⟨ad, rfl, hcell⟩ := hr.2 (by omega)
  have hl := flatten_length fun row hr => (h1 row hr).1
  have hlen := (h1 rows[q] (by simp)).1
  have h0 := flatten_at (fun row hr => (h1 row hr).1) hq hsz
  rw [Nat.add_zero] at h0
  have hu0 := hcell (q * sz) _ (h0.trans (List.getElem?_eq_getElem (by omega)))
  have hspot : ad.spot = none ∧ ad.block < w.heap.size := by
    have hb := World.block_lt_of_cell? w _ hu0
    rw [block_add] at hb
    refine ⟨?_, hb⟩
    have h00 : ∃ u, w.cell? (ad.add 0) = some u := by
      have : 0 < rows.flatten.length := by rw [hl]; exact Nat.mul_pos (by omega) hsz
      exact ⟨_, hcell 0 _ (List.getElem?_eq_getElem this)⟩
    obtain ⟨u, hu⟩ := h00
    obtain ⟨b, off, sp⟩ := ad
    cases sp with
    | none => rfl
    | some s =>
      unfold World.cell? at hu
      unfold Addr.add at hu
      simp at hu
      split at hu <;> simp_all
  obtain ⟨b, off, sp⟩ := ad
  obtain ⟨hsp, hb⟩ := hspot
  simp only at hsp
  subst hsp
  refine ⟨b, off, c, hv, hb, fun j u hu => ?_⟩
  have hj : j < sz := by have := (List.getElem?_eq_some_iff.1 hu).1; omega
  have := hcell (q * sz + j) u ((flatten_at (fun row hr => (h1 row hr).1) hq hj).trans hu)
  rw [add_lit] at this
  rw [Nat.add_assoc]
  exact this
theorem Rows'.form (h : Rows' w sz v rows) : ∃ A c, v = .slice A rows.length c ∧ rows.length ≤ c := by
  obtain ⟨_, A, c, hv, _, hle, _⟩ := h
  exact ⟨A, c, hv, hle⟩
theorem Rows'.mform {α : Type} {l : List α} {f : α → List Value} (h : Rows' w sz v (l.map f)) : ∃ A c, v = .slice A l.length c ∧ l.length ≤ c := by
  obtain ⟨A, c, hv, hle⟩ := h.form
  exact ⟨A, c, by simpa using hv, by simpa using hle⟩
/-- The element q of a slice over a list. -/
theorem Rows'.mat {α : Type} {l : List α} {f : α → List Value} {A : Option Addr} {n c : Nat} (h : Rows' w sz (.slice A n c) (l.map f)) (hsz : 0 < sz) {q : Nat} (hq : q < l.length) : ∃ g o, A = some ⟨g, o, none⟩ ∧ g < w.heap.size ∧ w.rangeAt g (o + q * sz) (f l[q]) := by
  obtain ⟨g, o, c', hv, hg, hr⟩ := h.at hsz (q := q) (by simpa using hq)
  injection hv with hA
  exact ⟨g, o, hA, hg, by simpa using hr⟩
theorem Rows'.elem {α : Type} {l : List α} {f : α → List Value} {g o n c : Nat} (h : Rows' w sz (.slice (some ⟨g, o, none⟩) n c) (l.map f)) (hsz : 0 < sz) {q : Nat} (hq : q < l.length) : w.rangeAt g (o + q * sz) (f l[q]) := by
  obtain ⟨g', o', hA, _, hr⟩ := h.mat hsz hq
  injection hA with hA
  injection hA with e1 e2
  subst e1
  subst e2
  exact hr
/-- The first part of a slice. -/
theorem Rows'.take {A : Option Addr} {n c : Nat} (h : Rows' w sz (.slice A n c) rows) {q : Nat} (hq : q ≤ rows.length) : Rows' w sz (.slice A q c) (rows.take q) := by
  obtain ⟨h1, A', c', hv, hn, hle, hr⟩ := h
  injection hv with e1 e2 e3
  subst e1
  subst e3
  have hl : (rows.take q).length = q := by simp; omega
  refine ⟨fun row hrow => h1 row (List.mem_of_mem_take hrow), A, c, by rw [hl], hn, by omega, ?_⟩
  rw [hl]
  have := hr.take hq
  have e : rows.flatten.take (q * sz) = (rows.take q).flatten := by
    have hfl : (rows.take q).flatten.length = q * sz := by rw [flatten_length fun row hr => (h1 row (List.mem_of_mem_take hr)).1, hl]
    conv => lhs; rw [← List.take_append_drop q rows]
    rw [List.flatten_append, ← hfl, List.take_left]
  rw [e] at this
  exact this
/-- The rest of a slice. -/
theorem Rows'.drop {A : Option Addr} {n c : Nat} (h : Rows' w sz (.slice A n c) rows) {q : Nat} (hq : q ≤ rows.length) : Rows' w sz (.slice (if c = q then A else A.map fun x => x.add (q * sz)) (n - q) (c - q)) (rows.drop q) := by
  obtain ⟨h1, A', c', hv, hn, hle, hr⟩ := h
  injection hv with e1 e2 e3
  subst e1
  subst e2
  subst e3
  have hl : (rows.drop q).length = rows.length - q := by simp
  refine ⟨fun row hrow => h1 row (List.mem_of_mem_drop hrow), _, _, by rw [hl], nil_cutA hn, by omega, ?_⟩
  rw [hl]
  have := hr.cutA hq hle
  have e : rows.flatten.drop (q * sz) = (rows.drop q).flatten := by
    have hfl : (rows.take q).flatten.length = q * sz := by rw [flatten_length fun row hr => (h1 row (List.mem_of_mem_take hr)).1]; rw [List.length_take, Nat.min_eq_left hq]
    conv => lhs; rw [← List.take_append_drop q rows]
    rw [List.flatten_append, ← hfl, List.drop_left]
  rw [e] at this
  exact this
theorem Rows'.mtake {α : Type} {l : List α} {f : α → List Value} {A : Option Addr} {n c : Nat} (h : Rows' w sz (.slice A n c) (l.map f)) {q : Nat} (hq : q ≤ l.length) : Rows' w sz (.slice A q c) ((l.take q).map f) := by
  rw [List.map_take]
  exact h.take (by simpa using hq)
theorem Rows'.mdrop {α : Type} {l : List α} {f : α → List Value} {A : Option Addr} {n c : Nat} (h : Rows' w sz (.slice A n c) (l.map f)) {q : Nat} (hq : q ≤ l.length) : Rows' w sz (.slice (if c = q then A else A.map fun x => x.add (q * sz)) (n - q) (c - q)) ((l.drop q).map f) := by
  rw [List.map_drop]
  exact h.drop (by simpa using hq)
/-- A literal. -/
theorem Sep.lit1 (h : Sep r M L w) {g : Nat} {row : List Value} (ha : At L k (.blk g e row)) (hl : Nat.beq row.length sz = true) (h1 : row.all (·.oneCell') = true) : Rows' w sz (.slice (some ⟨g, 0, none⟩) 1 1) [row] := by
  have hb := h.blk ha
  replace hl := Nat.eq_of_beq_eq_true hl
  replace h1 : ∀ u, u ∈ row → u.oneCell' = true := by simpa using h1
  refine ⟨fun row' hr => by simp at hr; subst hr; exact ⟨hl, h1⟩, _, 1, rfl, by simp, by simp, by simpa using hl, fun _ => ⟨_, rfl, fun j u hu => ?_⟩⟩
  rw [add_lit, hb.cell]
  simpa using hu
end

/-- An element's type: its cells and bytes. -/
class HasE (P : Program) (e : TypeId) (sz bytes : outParam Nat) : Prop where
  ok : ∃ i z, P.info? e = some i ∧ i.zero = some z ∧ i.size = sz ∧ i.bytes = bytes ∧ z.cells.size = sz ∧ 0 < sz

theorem HasE.of {P : Program} {e sz bytes : Nat} (h : (P.info? e).map (fun i => (i.zero.map (·.cells.size), i.size, i.bytes)) = some (some sz, sz, bytes)) (h0 : 0 < sz) : HasE P e sz bytes := by
  cases hi : P.info? e with
  | none => simp [hi] at h
  | some i =>
    simp [hi] at h
    obtain ⟨⟨z, h1, h2⟩, h3, h4⟩ := h
    exact ⟨i, z, hi, h1, h3, h4, h2, h0⟩
namespace Z
section
variable {P : Program} {K : (Nat → Value) → World → Prop} {Q : Exit → Act → World → Prop} {n : Nat} {f : Nat → Value} {w r : World} {M : List Nat} {L : List Res} {d : Tmp} {ty t : TypeId} {pos : String} {aft : Array Edge} {v : Value}
  {x y : Operand} {e sz bytes : Nat} {k : List Res} {rows ys : List (List Value)}

theorem run_ap {B : Option Addr} {n0 c0 : Nat} (t : TypeId) (htt : P.underlying t = some (.slice e)) [he : HasE P e sz bytes] (hS : Sep r M (.sl e sz (.slice B n0 c0) rows :: L) w) (u : Value) (hu : Rows' w sz u ys) (h63 : (rows.length + ys.length) * bytes ≤ 140737488355328) (hm : rows.length + ys.length ≤ maxLen) (ty : TypeId) :
    ∃ A' c' w', (Builtin.append_ #[t, t] ty #[.slice B n0 c0, u]).run P w = .ok (.slice A' (rows.length + ys.length) c') w' ∧ Sep r M (.sl e sz (.slice A' (rows.length + ys.length) c') (rows ++ ys) :: L) w' := by
  obtain ⟨i, z, hi, hz, hsz, hby, hzs, hpos⟩ := he.ok
  obtain ⟨hy1, A, c, rfl, hnil, hle, hr⟩ := hu
  obtain ⟨fp, ⟨f1, f2, rfl, hsl, hL⟩, _⟩ := id hS.ex
  obtain ⟨h1, B', c0', hv, hx⟩ := hsl
  injection hv with e1 e2 e3
  subst e1
  subst e3
  have hall : ∀ row, row ∈ rows ++ ys → row.length = sz ∧ ∀ u, u ∈ row → u.oneCell' = true := by
    intro row hrow
    rcases List.mem_append.1 hrow with h | h
    · exact h1 row h
    · exact hy1 row h
  have hyl : ys.flatten.length = ys.length * sz := flatten_length fun row hr => (hy1 row hr).1
  have hy1' : ∀ u ∈ ys.flatten, u.oneCell' = true := fun u hu => by
    obtain ⟨row, hrow, hu⟩ := List.mem_flatten.1 hu
    exact (hy1 row hrow).2 u hu
  -- what is left once the new row is known
  have fin : ∀ (S : List Nat) (A' : Option Addr) (c' : Nat) (w' : World), (∀ f1, (Res.sl e sz (.slice B n0 c0) rows).holds w f1 → ∀ b, b ∈ S → b ∈ f1) → Chg S w w' →
      (∀ f1, (Res.sl e sz (.slice B n0 c0) rows).holds w f1 → (c' = 0 ∧ rows ++ ys = []) ∨ (0 < c' ∧ ∃ g cur, A' = some ⟨g, 0, none⟩ ∧ (g ∈ f1 ∨ w.heap.size ≤ g) ∧ Blk w' g e cur ∧ rows.length + ys.length ≤ c' ∧ c' ≤ maxLen ∧ cur.size = c' * sz ∧ cur.toList.take ((rows.length + ys.length) * sz) = (rows ++ ys).flatten)) →
      Sep r M (.sl e sz (.slice A' (rows.length + ys.length) c') (rows ++ ys) :: L) w' := by
    intro S A' c' w' hin hc hnew
    refine hS.upd fun f1 hf1 => ⟨hc.mono (hin f1 hf1), ?_⟩
    rcases hnew f1 hf1 with ⟨rfl, hnil'⟩ | ⟨h0, g, cur, rfl, hg, hb, hle', hm', hs', ht'⟩
    · refine ⟨[], ⟨hall, A', 0, ?_, .inl ⟨rfl, hnil', rfl⟩⟩, by simp, by simp⟩
      have := congrArg List.length hnil'
      simp at this
      simp [this.1, this.2]
    · refine ⟨[g], ⟨hall, _, c', by simp, .inr ⟨h0, g, cur, rfl, rfl, hb, by simpa using hle', hm', hs', by simpa using ht'⟩⟩, by simp, ?_⟩
      intro b hb'
      simp at hb'
      subst hb'
      exact ⟨hb.lt, hg⟩
  rcases hx with ⟨rfl, hrows, _⟩ | ⟨h0, g, cur, rfl, hf1, hb, hle0, hm0, hs0, ht0⟩
  · -- no capacity: a new row
    subst hrows
    simp only [List.length_nil, Nat.zero_add, List.nil_append] at *
    subst e2
    obtain ⟨A', c', w', hrun, ho, hBn, hc, hn'⟩ := run_app0 (P := P) (w := w) t ty e i z sz bytes htt hi hz hsz hby hzs w.heap.size (Nat.le_refl _) B A ys.length c ys.flatten hnil hr (by omega) h63
    refine ⟨A', c', w', by simpa using hrun, fin [] A' c' w' (by simp) hc fun f1 _ => ?_⟩
    rcases ho with ⟨h2, h3, h4⟩ | ho
    · left
      exact ⟨h3, List.eq_nil_of_length_eq_zero h2⟩
    · rcases ho.2 with ⟨hv2, hn2⟩ | ⟨g, cap, cur, hv2, hbg, hg2, h5, h6, h7, h8⟩
      · injection hv2 with _ _ e3
        left
        exact ⟨e3, List.eq_nil_of_length_eq_zero hn2⟩
      · injection hv2 with e1 _ e3
        subst e1
        subst e3
        by_cases hc0 : c' = 0
        · left
          exact ⟨hc0, List.eq_nil_of_length_eq_zero (by omega)⟩
        · right
          exact ⟨by omega, g, cur, rfl, .inr hbg, hg2, h5, h6, h7, by rw [h8]⟩
  · have hown : w.ownsRow 0 e sz (.slice (some ⟨g, 0, none⟩) rows.length c0) rows.length rows.flatten :=
      ⟨flatten_length fun row hr => (h1 row hr).1, .inr ⟨g, c0, cur, rfl, Nat.zero_le _, hb, hle0, hm0, hs0, ht0⟩⟩
    have hn0 : n0 = rows.length := e2
    subst hn0
    cases A with
    | none =>
      have hm : ys.length = 0 := by
        rcases Nat.eq_zero_or_pos ys.length with h | h
        · exact h
        · obtain ⟨ad, he', _⟩ := hr.2 h
          cases he'
      have hys : ys = [] := List.eq_nil_of_length_eq_zero hm
      subst hys
      have hc0 := hnil rfl
      subst hc0
      have hrun := run_append_owned_none (P := P) (w := w) 0 t ty e i sz htt hi _ rows.length rows.flatten hown
      exact ⟨_, c0, w, by simpa using hrun, by simpa using hS⟩
    | some ad =>
      have hnews : ∀ j u, ys.flatten[j]? = some u → w.cell? (ad.add j) = some u := by
        intro j u hu
        rcases Nat.eq_zero_or_pos ys.length with h | h
        · have hy : ys = [] := List.eq_nil_of_length_eq_zero h
          rw [hy] at hu
          simp at hu
        · obtain ⟨ad', he', hcell⟩ := hr.2 h
          injection he' with he'
          subst he'
          exact hcell j u hu
      by_cases hroom : rows.length + ys.length ≤ c0
      · obtain ⟨w', hrun, ho, hg'⟩ := run_append_fits (P := P) (w := w) 0 t ty e i sz htt hi hsz g rows.length c0 rows.flatten hown ad ys.length c ys.flatten hyl hnews hy1' hroom
        refine ⟨_, c0, w', hrun, fin [g] _ c0 w' ?_ (Chg.of_grown hg' (fun x hx => by simp at hx; simp [hx])) fun f1 hf => ?_⟩
        · rintro f1 ⟨_, A2, c2, hv2, hx2⟩ b hb2
          injection hv2 with e1 _ e3
          subst e3
          rcases hx2 with ⟨h3, _⟩ | ⟨_, g2, _, hA2, hf2, _⟩
          · omega
          · rw [← e1] at hA2
            injection hA2 with hA2
            injection hA2 with hg2
            rw [hf2, ← hg2]
            exact hb2
        · right
          rcases ho.2 with ⟨hv2, _⟩ | ⟨g2, cap2, cur2, hv2, _, hg2, h5, h6, h7, h8⟩
          · injection hv2 with h9; cases h9
          · injection hv2 with e1 _ e3
            injection e1 with e1
            injection e1 with e1
            subst e1
            subst e3
            obtain ⟨_, A2, c2, hv3, hx2⟩ := hf
            injection hv3 with e4 _ e5
            subst e5
            refine ⟨h0, g, cur2, rfl, ?_, hg2, h5, h6, h7, by rw [h8, List.flatten_append]⟩
            rcases hx2 with ⟨h3, _⟩ | ⟨_, g3, _, hA3, hf3, _⟩
            · omega
            · rw [← e4] at hA3
              injection hA3 with hA3
              injection hA3 with hg3
              rw [hf3, ← hg3]
              simp
      · subst hsz
        subst hby
        have holds : ∀ j u, rows.flatten[j]? = some u → w.cell? ((⟨g, 0, none⟩ : Addr).add j) = some u := by
          intro j u hu
          rw [add_lit, hb.cell, Nat.zero_add, ← Array.getElem?_toList]
          rw [← ht0, List.getElem?_take] at hu
          split at hu
          · exact hu
          · cases hu
        have h63' : rows.length + ys.length ≤ 9223372036854775807 := by simp only [maxLen] at hm; omega
        have hge := grownCap_ge w (rows.length + ys.length) c0 e
        have hcm : grownCap w (rows.length + ys.length) c0 e ≤ maxLen := grownCap_le_maxLen w (rows.length + ys.length) c0 e hm
        have hfit : Builtin.nextslicecap (rows.length + ys.length) c0 * i.bytes ≤ 281474976710656 := growslice_fits (by omega) h63
        have hrun := run_append_grow (P := P) w t ty e i z htt hi hz ⟨g, 0, none⟩ rows.length c0 rows.flatten hown.1 holds ad ys.length c ys.flatten hyl hnews (by omega) (by omega) hfit
        refine ⟨_, _, _, hrun, fin [] _ _ _ (by simp) (((Chg.refl [] w).drew).alloc _) fun f1 hf => .inr ⟨by omega, w.heap.size, _, rfl, .inr (Nat.le_refl _), heap_alloc_new w.drew _, by omega, hcm, ?_, ?_⟩⟩
        · simp only [Array.size_append, List.size_toArray, size_zeroCells, hzs, hown.1, hyl, ← Nat.add_mul]
          congr 1
          omega
        · simp only [Array.toList_append]
          rw [List.flatten_append, Nat.add_mul, ← hown.1, ← hyl, ← List.length_append]
          exact List.take_left
end
end Z
end Go.Proofs.Ytabpapdickolgaa
