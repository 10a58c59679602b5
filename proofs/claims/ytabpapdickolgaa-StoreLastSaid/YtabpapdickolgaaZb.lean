/-
  Memory as a list of resources, each with blocks of its own. No program in sight.
-/
import Derived.Test.YtabpapdickolgaaZa
import Derived.Test.YtabpapdickolgaaBig
namespace Go.Proofs.Ytabpapdickolgaa
open Go.RowKit
set_option linter.unusedSimpArgs false
set_option linter.unusedVariables false

/-- A fact on memory that rests on the blocks of a list alone. -/
structure Res where
  holds : World → List Nat → Prop
  loc : ∀ {w w' : World} {fp : List Nat}, holds w fp → (∀ b, b ∈ fp → w'.heap[b]? = w.heap[b]?) → holds w' fp
/-- Block g is just these cells. -/
def Res.blk (g : Nat) (T : TypeId) (cs : List Value) : Res where
  holds w fp := fp = [g] ∧ Blk w g T cs.toArray
  loc := fun h hb => ⟨h.1, by have := hb g (by rw [h.1]; simp); unfold Blk; rw [this]; exact h.2⟩
def Res.star (A B : Res) : Res where
  holds w fp := ∃ f1 f2, fp = f1 ++ f2 ∧ A.holds w f1 ∧ B.holds w f2
  loc := fun ⟨f1, f2, e, h1, h2⟩ hb => ⟨f1, f2, e, A.loc h1 (fun b hx => hb b (by rw [e]; simp [hx])), B.loc h2 (fun b hx => hb b (by rw [e]; simp [hx]))⟩
def Res.ex {α : Type} (R : α → Res) : Res where
  holds w fp := ∃ x, (R x).holds w fp
  loc := fun ⟨x, h⟩ hb => ⟨x, (R x).loc h hb⟩
def Res.pure (p : Prop) : Res where
  holds _ fp := fp = [] ∧ p
  loc := fun h _ => h
def holdsL : List Res → World → List Nat → Prop
  | [], _, fp => fp = []
  | R :: L, w, fp => ∃ f1 f2, fp = f1 ++ f2 ∧ R.holds w f1 ∧ holdsL L w f2
theorem holdsL_loc : ∀ {L : List Res} {w w' : World} {fp : List Nat}, holdsL L w fp → (∀ b, b ∈ fp → w'.heap[b]? = w.heap[b]?) → holdsL L w' fp
  | [], _, _, _, h, _ => h
  | R :: L, _, _, _, ⟨f1, f2, e, h1, h2⟩, hb => ⟨f1, f2, e, R.loc h1 (fun b hx => hb b (by rw [e]; simp [hx])), holdsL_loc h2 (fun b hx => hb b (by rw [e]; simp [hx]))⟩

/-- Several resources as one. -/
def Res.all (Ls : List Res) : Res where
  holds w fp := holdsL Ls w fp
  loc := fun h hb => holdsL_loc h hb

/-- Since world r only the blocks of M, and new ones, have changed; the resources of L lie there, each in blocks of its own. -/
structure Sep (r : World) (M : List Nat) (L : List Res) (w : World) : Prop where
  chg : Chg M r w
  ex : ∃ fp, holdsL L w fp ∧ fp.Nodup ∧ (∀ b, b ∈ fp → b < w.heap.size) ∧ ∀ b, b ∈ fp → b ∈ M ∨ r.heap.size ≤ b

inductive At : List Res → List Res → Res → Prop
  | here {R : Res} {L : List Res} : At (R :: L) L R
  | next {R R' : Res} {L k : List Res} : At L k R → At (R' :: L) (R' :: k) R

theorem holdsL_focus {R : Res} : ∀ {L k : List Res}, At L k R → ∀ {w : World} {fp : List Nat}, holdsL L w fp → ∃ f1 f2, R.holds w f1 ∧ holdsL k w f2 ∧ fp.Perm (f1 ++ f2)
  | _, _, .here, _, _, ⟨f1, f2, e, h1, h2⟩ => ⟨f1, f2, h1, h2, e ▸ List.Perm.refl _⟩
  | _, _, .next h, _, _, ⟨f1, f2, e, h1, h2⟩ => by
    obtain ⟨g1, g2, k1, k2, hp⟩ := holdsL_focus h h2
    refine ⟨g1, f1 ++ g2, k1, ⟨f1, g2, rfl, h1, k2⟩, ?_⟩
    rw [e]
    exact (List.Perm.append_left f1 hp).trans (by rw [← List.append_assoc, ← List.append_assoc]; exact List.Perm.append_right g2 List.perm_append_comm)

section
variable {r w w' : World} {M : List Nat} {L L' : List Res} {R R' : Res} {k : List Res} {g : Nat} {T : TypeId} {cs : List Value}

theorem Sep.focus (h : Sep r M L w) (ha : At L k R) : Sep r M (R :: k) w := by
  obtain ⟨fp, h1, h2, h3, h4⟩ := h.ex
  obtain ⟨f1, f2, k1, k2, hp⟩ := holdsL_focus ha h1
  exact ⟨h.chg, f1 ++ f2, ⟨f1, f2, rfl, k1, k2⟩, hp.nodup_iff.1 h2, fun b hb => h3 b (hp.mem_iff.2 hb), fun b hb => h4 b (hp.mem_iff.2 hb)⟩
theorem Sep.tail (h : Sep r M (R :: L) w) : Sep r M L w := by
  obtain ⟨fp, ⟨f1, f2, rfl, _, k2⟩, h2, h3, h4⟩ := h.ex
  exact ⟨h.chg, f2, k2, (List.nodup_append.1 h2).2.1, fun b hb => h3 b (by simp [hb]), fun b hb => h4 b (by simp [hb])⟩
/-- What is wanted is among what is there. -/
inductive Sub : List Res → List Res → Prop
  | rest {L : List Res} : Sub L L
  | nil {L : List Res} : Sub L []
  | keep {L L2 : List Res} {R : Res} : Sub L L2 → Sub (R :: L) (R :: L2)
  | cons {L L2 k : List Res} {R : Res} : At L k R → Sub k L2 → Sub L (R :: L2)
  | skip {L L2 : List Res} {R : Res} : Sub L L2 → Sub (R :: L) L2
theorem Sep.sub_aux : ∀ {L L' : List Res}, Sub L L' → ∀ {w : World} {fp : List Nat}, holdsL L w fp → ∃ fp' rest, holdsL L' w fp' ∧ fp.Perm (fp' ++ rest)
  | _, _, .rest, _, fp, h => ⟨fp, [], h, by simp⟩
  | _, _, .nil, _, fp, _ => ⟨[], fp, rfl, by simp⟩
  | _, _, .cons ha hs, _, fp, h => by
    obtain ⟨f1, f2, k1, k2, hp⟩ := holdsL_focus ha h
    obtain ⟨g1, g2, m1, mp⟩ := Sep.sub_aux hs k2
    refine ⟨f1 ++ g1, g2, ⟨f1, g1, rfl, k1, m1⟩, hp.trans ?_⟩
    rw [List.append_assoc]
    exact List.Perm.append_left f1 mp
  | _, _, .keep hs, _, fp, ⟨f1, f2, e, h1, h2⟩ => by
    obtain ⟨g1, g2, m1, mp⟩ := Sep.sub_aux hs h2
    refine ⟨f1 ++ g1, g2, ⟨f1, g1, rfl, h1, m1⟩, ?_⟩
    rw [e, List.append_assoc]
    exact List.Perm.append_left f1 mp
  | _, _, .skip hs, _, fp, ⟨f1, f2, e, _, h2⟩ => by
    obtain ⟨g1, g2, m1, mp⟩ := Sep.sub_aux hs h2
    refine ⟨g1, f1 ++ g2, m1, ?_⟩
    rw [e]
    exact (List.Perm.append_left f1 mp).trans (by rw [← List.append_assoc, ← List.append_assoc]; exact List.Perm.append_right g2 List.perm_append_comm)
theorem Sep.sub (h : Sep r M L w) (hs : Sub L L') : Sep r M L' w := by
  obtain ⟨fp, h1, h2, h3, h4⟩ := h.ex
  obtain ⟨f1, f2, k1, hp⟩ := Sep.sub_aux hs h1
  exact ⟨h.chg, f1, k1, (List.nodup_append.1 (hp.nodup_iff.1 h2)).1, fun b hb => h3 b (hp.mem_iff.2 (by simp [hb])), fun b hb => h4 b (hp.mem_iff.2 (by simp [hb]))⟩

/-- The first resource is replaced: only its blocks, and new ones, have changed. -/
theorem Sep.upd (h : Sep r M (R :: L) w) (hu : ∀ f1, R.holds w f1 → Chg f1 w w' ∧ ∃ f2, R'.holds w' f2 ∧ f2.Nodup ∧ ∀ b, b ∈ f2 → b < w'.heap.size ∧ (b ∈ f1 ∨ w.heap.size ≤ b)) : Sep r M (R' :: L) w' := by
  obtain ⟨fp, ⟨f1, f2, rfl, k1, k2⟩, h2, h3, h4⟩ := h.ex
  obtain ⟨hc, f3, k3, n3, s3⟩ := hu f1 k1
  obtain ⟨n1, n2, n12⟩ := List.nodup_append.1 h2
  have hM : ∀ b, b ∈ f1 → b ∈ M ∨ r.heap.size ≤ b := fun b hb => h4 b (by simp [hb])
  refine ⟨h.chg.trans_new hc hM, f3 ++ f2, ⟨f3, f2, rfl, k3, holdsL_loc k2 fun b hb => hc.block b (h3 b (by simp [hb])) fun hx => n12 b hx b hb rfl⟩, ?_, ?_, ?_⟩
  · refine List.nodup_append.2 ⟨n3, n2, ?_⟩
    rintro b hb c hc' rfl
    rcases (s3 b hb).2 with h5 | h5
    · exact n12 b h5 b hc' rfl
    · have := h3 b (by simp [hc'])
      omega
  · intro b hb
    rcases List.mem_append.1 hb with hb | hb
    · exact (s3 b hb).1
    · have := h3 b (by simp [hb]); have := hc.size; omega
  · intro b hb
    rcases List.mem_append.1 hb with hb | hb
    · rcases (s3 b hb).2 with h5 | h5
      · exact hM b h5
      · right; have := h.chg.size; omega
    · exact h4 b (by simp [hb])
/-- A new resource, over new blocks. -/
theorem Sep.add (h : Sep r M L w) (hc : Chg [] w w') {f2 : List Nat} (hR : R'.holds w' f2) (hn : f2.Nodup) (hs : ∀ b, b ∈ f2 → b < w'.heap.size ∧ w.heap.size ≤ b) : Sep r M (R' :: L) w' := by
  have h' : Sep r M (Res.pure True :: L) w := by
    obtain ⟨fp, k2, h2, h3, h4⟩ := h.ex
    exact ⟨h.chg, fp, ⟨[], fp, rfl, ⟨rfl, trivial⟩, k2⟩, h2, h3, h4⟩
  refine h'.upd (fun f1 hf => ?_)
  obtain ⟨rfl, _⟩ := hf
  exact ⟨hc, f2, hR, hn, fun b hb => ⟨(hs b hb).1, .inr (hs b hb).2⟩⟩
theorem Sep.ext (h : Sep r M L w) (hc : Chg [] w w') : Sep r M L w' :=
  (h.add (R' := Res.pure True) (f2 := []) hc ⟨rfl, trivial⟩ (by simp) (by simp)).tail
theorem Sep.blk (h : Sep r M L w) (ha : At L k (.blk g T cs)) : Blk w g T cs.toArray := by
  obtain ⟨fp, ⟨f1, f2, rfl, k1, k2⟩, h2, h3, h4⟩ := (h.focus ha).ex
  exact k1.2
theorem Sep.drew (h : Sep r M L w) : Sep r M L w.drew := h.ext (Chg.refl _ _).drew
theorem Sep.drewN (h : Sep r M L w) (n : Nat) : Sep r M L (w.drewN n) := h.ext ((Chg.refl _ _).drewN n)
theorem Sep.box (h : Sep r M L w) (T : TypeId) (cs : List Value) : Sep r M (.blk w.heap.size T cs :: L) (w.alloc (.cells cs.toArray T)) :=
  h.add (f2 := [w.heap.size]) ((Chg.refl _ _).alloc _) ⟨rfl, Blk.new _ _ _⟩ (by simp) (by simp)
/-- The block g is made anew. -/
theorem Sep.put (h : Sep r M L w) (ha : At L k (.blk g T cs)) {cs' : List Value} (hc : Chg [g] w w') (hb : Blk w' g T cs'.toArray) : Sep r M (.blk g T cs' :: k) w' := by
  refine (h.focus ha).upd (fun f1 hf => ?_)
  obtain ⟨rfl, _⟩ := hf
  exact ⟨hc, [g], ⟨rfl, hb⟩, by simp, fun b hb' => by simp at hb'; subst hb'; exact ⟨hb.lt, .inl (by simp)⟩⟩
theorem Sep.root (w : World) : Sep w [] [] w := ⟨Chg.refl _ _, [], rfl, by simp, by simp, by simp⟩
theorem Sep.star_open {A B : Res} : Sep r M (.star A B :: L) w ↔ Sep r M (A :: B :: L) w := by
  constructor
  · rintro ⟨hc, fp, ⟨f1, f2, rfl, ⟨g1, g2, rfl, hA, hB⟩, h2⟩, hr⟩
    exact ⟨hc, (g1 ++ g2) ++ f2, ⟨g1, g2 ++ f2, by simp, hA, g2, f2, rfl, hB, h2⟩, hr⟩
  · rintro ⟨hc, fp, ⟨g1, f', rfl, hA, g2, f2, rfl, hB, h2⟩, hr⟩
    exact ⟨hc, g1 ++ (g2 ++ f2), ⟨g1 ++ g2, f2, by simp, ⟨g1, g2, rfl, hA, hB⟩, h2⟩, hr⟩
theorem holdsL_append : ∀ {A B : List Res} {w : World} {fp : List Nat}, holdsL (A ++ B) w fp ↔ ∃ f1 f2, fp = f1 ++ f2 ∧ holdsL A w f1 ∧ holdsL B w f2
  | [], B, w, fp => ⟨fun h => ⟨[], fp, rfl, rfl, h⟩, fun ⟨f1, f2, e, h1, h2⟩ => by simp only [holdsL] at h1; subst h1; simpa [e] using h2⟩
  | R :: A, B, w, fp => by
    constructor
    · rintro ⟨g1, g2, rfl, h1, h2⟩
      obtain ⟨f1, f2, rfl, h3, h4⟩ := holdsL_append.1 h2
      exact ⟨g1 ++ f1, f2, by simp, ⟨g1, f1, rfl, h1, h3⟩, h4⟩
    · rintro ⟨_, f2, rfl, ⟨g1, f1, rfl, h1, h3⟩, h4⟩
      exact ⟨g1, f1 ++ f2, by simp, h1, holdsL_append.2 ⟨f1, f2, rfl, h3, h4⟩⟩
theorem Sep.all_open {Ls : List Res} : Sep r M (.all Ls :: L) w ↔ Sep r M (Ls ++ L) w := by
  constructor
  · rintro ⟨hc, fp, ⟨f1, f2, rfl, h1, h2⟩, hr⟩
    exact ⟨hc, _, holdsL_append.2 ⟨f1, f2, rfl, h1, h2⟩, hr⟩
  · rintro ⟨hc, fp, h, hr⟩
    obtain ⟨f1, f2, rfl, h1, h2⟩ := holdsL_append.1 h
    exact ⟨hc, _, ⟨f1, f2, rfl, h1, h2⟩, hr⟩
theorem Sep.ex_open {α : Type} {R : α → Res} : Sep r M (.ex R :: L) w ↔ ∃ x, Sep r M (R x :: L) w := by
  constructor
  · rintro ⟨hc, fp, ⟨f1, f2, rfl, ⟨x, hx⟩, h2⟩, hr⟩
    exact ⟨x, hc, _, ⟨f1, f2, rfl, hx, h2⟩, hr⟩
  · rintro ⟨x, hc, fp, ⟨f1, f2, rfl, hx, h2⟩, hr⟩
    exact ⟨hc, _, ⟨f1, f2, rfl, ⟨x, hx⟩, h2⟩, hr⟩
theorem Sep.pure_open {p : Prop} : Sep r M (.pure p :: L) w ↔ p ∧ Sep r M L w := by
  constructor
  · rintro ⟨hc, fp, ⟨f1, f2, rfl, ⟨rfl, hp⟩, h2⟩, hr⟩
    exact ⟨hp, hc, _, h2, by simpa using hr⟩
  · rintro ⟨hp, hc, fp, h2, hr⟩
    exact ⟨hc, _, ⟨[], fp, rfl, ⟨rfl, hp⟩, h2⟩, by simpa using hr⟩
end
end Go.Proofs.Ytabpapdickolgaa
