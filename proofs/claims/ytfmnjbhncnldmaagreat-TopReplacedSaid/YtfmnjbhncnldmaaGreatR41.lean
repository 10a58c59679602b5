import Derived.Test.YtfmnjbhncnldmaaGreatR18
set_option linter.unusedSimpArgs false
set_option linter.unusedVariables false
namespace Go.Proofs.YtfmnjbhncnldmaaGreat
open Go.RowKit
attribute [local irreducible] Res.blk Res.sl Res.all Res.ex Res.pure Res.star
theorem Pr.on_cases {x : Pr} {i : Nat} (hi : i < 2) (h : ¬ x.on i) : i = 1 ∧ x.two = false := by
  unfold Pr.on at h
  rcases (by omega : i = 0 ∨ i = 1) with rfl | rfl
  · exact absurd (.inl rfl) h
  · refine ⟨rfl, ?_⟩
    cases h2 : x.two
    · rfl
    · exact absurd (.inr ⟨rfl, h2⟩) h
section
variable {x : Pr} {B : Nat}
theorem PI.at (h : PI x B) {i : Nat} (hi : x.on i) : sdAt x.ld.l ((i : Int) + 1) = some (x.sd i) ∧ sidx x.ld.l ((i : Int) + 1) = i := by
  rcases hi with rfl | ⟨rfl, h2⟩
  · exact h.at0
  · exact h.at1 h2
theorem PI.shipOn (h : PI x B) {i : Nat} (hi : x.on i) (l : List Ch) : shipL x.ld ((i : Int) + 1) l = (shipS 1 (x.sd i) l, true) := by
  unfold shipL
  rw [(h.at hi).1]
  rfl
theorem PI.shipOff (h : PI x B) {i : Nat} (hi : i < 2) (hn : ¬ x.on i) (l : List Ch) : shipL x.ld ((i : Int) + 1) l = (⟨0, 0, 0, []⟩, false) := by
  obtain ⟨rfl, h2⟩ := Pr.on_cases hi hn
  unfold shipL
  have : sdAt x.ld.l ((1 : Nat) + 1 : Int) = none := h.no1 h2
  rw [this]
theorem PI.shNil (h : PI x B) {i : Nat} (hi : i < 2) (hn : ¬ x.on i) : x.sh i = [] ∧ x.he i = [] ∧ x.fo i = fo0 := by
  obtain ⟨rfl, h2⟩ := Pr.on_cases hi hn
  obtain ⟨h3, h4, h5⟩ := h.n1 h2
  exact ⟨h4, h5, h3⟩
theorem PI.hearOn (h : PI x B) {i : Nat} (hi : x.on i) (hB : B ≤ 4096) {a : He} (ha : a ∈ x.he i) : hearL x.ld ((i : Int) + 1) a = (({ x with sd := setN x.sd i (hearS (x.sd i) a) } : Pr).ld, true) := by
  obtain ⟨j, hj⟩ := h.f i hi
  obtain ⟨e1, e2, e3, _⟩ := hj.he a ha
  have hl := h.len
  unfold hearL
  rw [(h.at hi).1]
  dsimp only
  rw [if_neg (by simp only [Pr.ld]; omega), (h.at hi).2]
  rcases hi with rfl | ⟨rfl, h2⟩
  · cases h2 : x.two <;> simp [Pr.ld, Pr.sides, h2, setN]
  · simp [Pr.ld, Pr.sides, h2, setN]
end
theorem range_set {α : Type} (g : Nat → α) {n i : Nat} (hi : i < n) (z : α) : ((List.range n).map g).set i z = (List.range n).map (setN g i z) := by
  apply List.ext_getElem
  · simp
  · intro k h1 h2
    simp only [List.getElem_set, List.getElem_map, List.getElem_range, setN]
    by_cases h : i = k
    · rw [if_pos h, if_pos h.symm]
    · rw [if_neg h, if_neg (fun e => h e.symm)]
end Go.Proofs.YtfmnjbhncnldmaaGreat
