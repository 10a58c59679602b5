/-
  The steps of a home with two followers. No program in sight.
-/
import Derived.Test.YtmjdkgpckcdndaaNFwN
namespace Go.Proofs.Ytmjdkgpckcdndaa
open Go.RowKit
set_option linter.unusedSimpArgs false
set_option linter.unusedVariables false
attribute [local irreducible] Res.blk Res.sl Res.all Res.ex Res.pure Res.star

def up2 {α : Type} (f : Nat → α) (i : Nat) (v : α) : Nat → α := fun k => cond (Nat.beq k i) v (f k)
theorem up2_at {α : Type} (f : Nat → α) (i : Nat) (v : α) : up2 f i v i = v := by unfold up2; rw [show Nat.beq i i = true from Nat.beq_refl i]; rfl
theorem up2_ne {α : Type} (f : Nat → α) {i k : Nat} (v : α) (h : k ≠ i) : up2 f i v k = f k := by
  unfold up2
  cases hb : Nat.beq k i
  · rfl
  · exact absurd (Nat.eq_of_beq_eq_true hb) h
/-- What never goes back, and what stays. -/
structure Mono (x x' : Net) : Prop where
  lag : x'.lag = x.lag
  acked : x'.acked = x.acked
  ep : x'.ep = x.ep
  home : x.home.h.length ≤ x'.home.h.length
  fo : ∀ i, i < 2 → (x.fo i).c.h.length ≤ (x'.fo i).c.h.length
  app : ∀ i, i < 2 → (x.sd i).applied ≤ (x'.sd i).applied
  req : ∀ i, i < 2 → (x'.sd i).req = (x.sd i).req
theorem FInv.len {H : List Ch} {ep : Int} {s : Sd} {f : Fo} {sh : List Shp} {he : List He} {j : Nat} (h : FInv H ep s f sh he j) (hH : IsH H) : f.c.h = H.take j ∧ f.c.h.length = j ∧ Good f.c := by
  have hg := (hH.take j).good
  have hj := h.jle
  rw [h.c]
  exact ⟨hg.2.1, by rw [hg.2.1, List.length_take]; omega, hg.1⟩
theorem hearS_app (s : Sd) (a : He) : s.applied ≤ (hearS s a).applied ∧ (hearS s a).req = s.req ∧ (hearS s a).cell = s.cell := by
  unfold hearS
  split
  · exact ⟨Int.le_max_left _ _, rfl, rfl⟩
  · exact ⟨Int.le_refl _, rfl, rfl⟩
def Net.change (x : Net) (y : Ch) : Net := ⟨(cApp x.home y).1, x.ep, x.lag, x.acked, x.sd, x.fo, x.sh, x.he⟩
def Net.ship (x : Net) (i : Nat) : Net := ⟨x.home, x.ep, x.lag, x.acked, x.sd, x.fo, up2 x.sh i (x.sh i ++ [shipS x.ep (x.sd i) x.home.h]), x.he⟩
def Net.take (x : Net) (i : Nat) (m : Shp) : Net := ⟨x.home, x.ep, x.lag, x.acked, x.sd, up2 x.fo i (takeF (x.fo i) m).1, x.sh, up2 x.he i (x.he i ++ [(takeF (x.fo i) m).2.1])⟩
def Net.hear (x : Net) (i : Nat) (a : He) : Net := ⟨x.home, x.ep, x.lag, x.acked, up2 x.sd i (hearS (x.sd i) a), x.fo, x.sh, x.he⟩
def Net.drop (x : Net) (i k : Nat) : Net := ⟨x.home, x.ep, x.lag, x.acked, x.sd, x.fo, up2 x.sh i ((x.sh i).take k ++ (x.sh i).drop (k + 1)), x.he⟩
def Net.calm (x : Net) (i : Nat) : Net := ⟨x.home, x.ep, x.lag, x.acked, up2 x.sd i (hearS (x.sd i) (takeF (x.fo i) (shipS x.ep (x.sd i) x.home.h)).2.1), up2 x.fo i (takeF (x.fo i) (shipS x.ep (x.sd i) x.home.h)).1, x.sh, x.he⟩
def Net.ack (x : Net) (a : Int) : Net := ⟨x.home, x.ep, x.lag, a, x.sd, x.fo, x.sh, x.he⟩
def Net.req (x : Net) (i : Nat) : Net := ⟨x.home, x.ep, x.lag, x.acked, up2 x.sd i ⟨(x.sd i).cell, (x.sd i).applied, (x.sd i).next, true⟩, x.fo, x.sh, x.he⟩
theorem Mono.refl (x : Net) : Mono x x := ⟨rfl, rfl, rfl, Nat.le_refl _, fun _ _ => Nat.le_refl _, fun _ _ => Int.le_refl _, fun _ _ => rfl⟩
section
variable {x : Net} {B : Nat}
theorem NInv.more (h : NInv x B) {B' : Nat} (hB : B ≤ B') : NInv x B' :=
  ⟨h.good, by have := h.hB; omega, h.ep, h.eps, h.lag, h.acked, h.cell, h.each, fun i hi => Nat.le_trans (h.shB i hi) hB, fun i hi => Nat.le_trans (h.heB i hi) hB⟩
theorem NInv.change (h : NInv x B) {y : Ch} (hy : y.epoch = x.ep) : NInv (x.change y) (B + 1) ∧ Mono x (x.change y) := by
  have hst := h.good.step y
  have hhB := h.hB
  by_cases h0 : (cApp x.home y).2 = 0
  · obtain ⟨_, _, _, _, _, _, e⟩ := cApp_ok h0
    have eh : (cApp x.home y).1.h = x.home.h ++ [y] := by rw [e]
    refine ⟨⟨hst.1, by simp only [Net.change]; omega, h.ep, fun z hz => ?_, h.lag, h.acked, h.cell, fun i hi => ?_, fun i hi => Nat.le_succ_of_le (h.shB i hi), fun i hi => Nat.le_succ_of_le (h.heB i hi)⟩, rfl, rfl, rfl, by simp only [Net.change, eh, List.length_append]; omega, fun _ _ => Nat.le_refl _, fun _ _ => Int.le_refl _, fun _ _ => rfl⟩
    · simp only [Net.change, eh, List.mem_append, List.mem_singleton] at hz
      rcases hz with hz | rfl
      · exact h.eps z hz
      · exact Int.le_of_eq hy
    · obtain ⟨j, hj⟩ := h.each i hi
      refine ⟨j, ?_⟩
      simp only [Net.change, eh]
      exact hj.grow y
  · have e : x.change y = x := by unfold Net.change; rw [cApp_bad h0]
    rw [e]
    exact ⟨h.more (by omega), Mono.refl x⟩
theorem two {i : Nat} (hi : i < 2) {P : Nat → Prop} {j : Nat} (hj : j < 2) (h1 : P j) (h2 : ∀ k, k < 2 → k ≠ j → P k) : P i := by
  by_cases h : i = j
  · rw [h]; exact h1
  · exact h2 i hi h
theorem NInv.ship (h : NInv x B) {i : Nat} (hi : i < 2) : NInv (x.ship i) (B + 1) ∧ Mono x (x.ship i) := by
  refine ⟨⟨h.good, by have := h.hB; simp only [Net.ship]; omega, h.ep, h.eps, h.lag, h.acked, h.cell, fun k hk => ?_, fun k hk => ?_, fun k hk => Nat.le_succ_of_le (h.heB k hk)⟩, rfl, rfl, rfl, Nat.le_refl _, fun _ _ => Nat.le_refl _, fun _ _ => Int.le_refl _, fun _ _ => rfl⟩
  · obtain ⟨j, hj⟩ := h.each k hk
    by_cases e : k = i
    · subst e
      exact ⟨j, by simp only [Net.ship, up2_at]; exact hj.ship⟩
    · exact ⟨j, by simp only [Net.ship, up2_ne _ _ e]; exact hj⟩
  · by_cases e : k = i
    · subst e
      simp only [Net.ship, up2_at, List.length_append, List.length_singleton]
      exact Nat.succ_le_succ (h.shB k hk)
    · simp only [Net.ship, up2_ne _ _ e]
      exact Nat.le_succ_of_le (h.shB k hk)
theorem NInv.isH (h : NInv x B) : IsH x.home.h := h.good.isH
theorem NInv.take (h : NInv x B) {i : Nat} (hi : i < 2) {m : Shp} (hm : m ∈ x.sh i) : NInv (x.take i m) (B + 1) ∧ Mono x (x.take i m) ∧ (takeF (x.fo i) m).2.2 = 0 := by
  obtain ⟨j, hj⟩ := h.each i hi
  obtain ⟨j', hjj, he0, hI, _⟩ := hj.take h.isH h.ep.1 (by have := h.ep; omega) h.eps hm
  refine ⟨⟨h.good, by have := h.hB; simp only [Net.take]; omega, h.ep, h.eps, h.lag, h.acked, h.cell, fun k hk => ?_, fun k hk => Nat.le_succ_of_le (h.shB k hk), fun k hk => ?_⟩, ⟨rfl, rfl, rfl, Nat.le_refl _, fun k hk => ?_, fun _ _ => Int.le_refl _, fun _ _ => rfl⟩, he0⟩
  · by_cases e : k = i
    · subst e
      exact ⟨j', by simp only [Net.take, up2_at]; exact hI⟩
    · obtain ⟨jk, hjk⟩ := h.each k hk
      exact ⟨jk, by simp only [Net.take, up2_ne _ _ e]; exact hjk⟩
  · by_cases e : k = i
    · subst e
      simp only [Net.take, up2_at, List.length_append, List.length_singleton]
      exact Nat.succ_le_succ (h.heB k hk)
    · simp only [Net.take, up2_ne _ _ e]
      exact Nat.le_succ_of_le (h.heB k hk)
  · by_cases e : k = i
    · subst e
      simp only [Net.take, up2_at]
      rw [(hj.len h.isH).2.1, (hI.len h.isH).2.1]
      exact hjj
    · simp only [Net.take, up2_ne _ _ e]
      exact Nat.le_refl _
theorem NInv.hear (h : NInv x B) {i : Nat} (hi : i < 2) {a : He} (ha : a ∈ x.he i) : NInv (x.hear i a) (B + 1) ∧ Mono x (x.hear i a) ∧ a.ep = x.ep ∧ 0 ≤ a.applied ∧ a.applied ≤ x.home.h.length := by
  obtain ⟨j, hj⟩ := h.each i hi
  obtain ⟨a1, a2, a3, _⟩ := hj.he a ha
  have hap := hearS_app (x.sd i) a
  refine ⟨⟨h.good, by have := h.hB; simp only [Net.hear]; omega, h.ep, h.eps, h.lag, h.acked, fun k hk => ?_, fun k hk => ?_, fun k hk => Nat.le_succ_of_le (h.shB k hk), fun k hk => Nat.le_succ_of_le (h.heB k hk)⟩, ⟨rfl, rfl, rfl, Nat.le_refl _, fun k hk => Nat.le_refl _, fun k hk => ?_, fun k hk => ?_⟩, a1, a2, a3⟩
  · by_cases e : k = i
    · subst e
      simp only [Net.hear, up2_at, hap.2.2]
      exact h.cell k hk
    · simp only [Net.hear, up2_ne _ _ e]
      exact h.cell k hk
  · by_cases e : k = i
    · subst e
      exact ⟨j, by simp only [Net.hear, up2_at]; exact hj.hear ha⟩
    · obtain ⟨jk, hjk⟩ := h.each k hk
      exact ⟨jk, by simp only [Net.hear, up2_ne _ _ e]; exact hjk⟩
  · by_cases e : k = i
    · subst e
      simp only [Net.hear, up2_at]
      exact hap.1
    · simp only [Net.hear, up2_ne _ _ e]
      exact Int.le_refl _
  · by_cases e : k = i
    · subst e
      simp only [Net.hear, up2_at]
      exact hap.2.1
    · simp only [Net.hear, up2_ne _ _ e]
theorem NInv.drop (h : NInv x B) {i : Nat} (hi : i < 2) (q : Nat) : NInv (x.drop i q) (B + 1) ∧ Mono x (x.drop i q) := by
  refine ⟨⟨h.good, by have := h.hB; simp only [Net.drop]; omega, h.ep, h.eps, h.lag, h.acked, h.cell, fun k hk => ?_, fun k hk => ?_, fun k hk => Nat.le_succ_of_le (h.heB k hk)⟩, rfl, rfl, rfl, Nat.le_refl _, fun _ _ => Nat.le_refl _, fun _ _ => Int.le_refl _, fun _ _ => rfl⟩
  · obtain ⟨j, hj⟩ := h.each k hk
    by_cases e : k = i
    · subst e
      refine ⟨j, ?_⟩
      simp only [Net.drop, up2_at]
      refine hj.less (fun m hm => ?_) (fun a ha => ha)
      rcases List.mem_append.1 hm with hm | hm
      · exact List.mem_of_mem_take hm
      · exact List.mem_of_mem_drop hm
    · exact ⟨j, by simp only [Net.drop, up2_ne _ _ e]; exact hj⟩
  · by_cases e : k = i
    · subst e
      simp only [Net.drop, up2_at, List.length_append, List.length_take, List.length_drop]
      have := h.shB k hk
      omega
    · simp only [Net.drop, up2_ne _ _ e]
      exact Nat.le_succ_of_le (h.shB k hk)
theorem NInv.ack (h : NInv x B) {a : Int} (ha : 0 ≤ a ∧ a ≤ 4096) : NInv (x.ack a) B :=
  ⟨h.good, h.hB, h.ep, h.eps, h.lag, ha, h.cell, h.each, h.shB, h.heB⟩
theorem NInv.req (h : NInv x B) {i : Nat} (hi : i < 2) : NInv (x.req i) B := by
  refine ⟨h.good, h.hB, h.ep, h.eps, h.lag, h.acked, fun k hk => ?_, fun k hk => ?_, h.shB, h.heB⟩
  · by_cases e : k = i
    · subst e
      simp only [Net.req, up2_at]
      exact h.cell k hk
    · simp only [Net.req, up2_ne _ _ e]
      exact h.cell k hk
  · obtain ⟨j, hj⟩ := h.each k hk
    by_cases e : k = i
    · subst e
      exact ⟨j, by simp only [Net.req, up2_at]; exact hj.req true⟩
    · exact ⟨j, by simp only [Net.req, up2_ne _ _ e]; exact hj⟩
/-- How far a follower is behind a number of rounds without losses. -/
def Near (x : Net) (i : Nat) (n : Nat) : Prop :=
  n = 0 ∨ ((x.sd i).next ≤ (x.fo i).c.h.length ∧ (n = 1 ∨ ((x.sd i).applied = (x.sd i).next ∧ min (x.home.h.length : Int) (8 * ((n : Int) - 1)) ≤ (x.sd i).next)))
theorem NInv.calm (h : NInv x B) {i : Nat} (hi : i < 2) {n : Nat} (hn : Near x i n) : NInv (x.calm i) B ∧ Near (x.calm i) i (n + 1) ∧ (takeF (x.fo i) (shipS x.ep (x.sd i) x.home.h)).2.2 = 0 ∧
    (takeF (x.fo i) (shipS x.ep (x.sd i) x.home.h)).2.1.ep = x.ep ∧ 0 ≤ (takeF (x.fo i) (shipS x.ep (x.sd i) x.home.h)).2.1.applied ∧ (takeF (x.fo i) (shipS x.ep (x.sd i) x.home.h)).2.1.applied ≤ x.home.h.length := by
  obtain ⟨j, hj⟩ := h.each i hi
  obtain ⟨j', c1, c2, c3, c4, c5, c6, c7⟩ := hj.calm h.isH h.ep.1 (by have := h.ep; omega) h.eps
  have hap := hearS_app (x.sd i) (takeF (x.fo i) (shipS x.ep (x.sd i) x.home.h)).2.1
  refine ⟨⟨h.good, h.hB, h.ep, h.eps, h.lag, h.acked, fun k hk => ?_, fun k hk => ?_, h.shB, h.heB⟩, .inr ?_, c1, c2, c3, c4⟩
  · by_cases e : k = i
    · subst e
      simp only [Net.calm, up2_at, hap.2.2]
      exact h.cell k hk
    · simp only [Net.calm, up2_ne _ _ e]
      exact h.cell k hk
  · by_cases e : k = i
    · subst e
      exact ⟨j', by simp only [Net.calm, up2_at]; exact c5⟩
    · obtain ⟨jk, hjk⟩ := h.each k hk
      exact ⟨jk, by simp only [Net.calm, up2_ne _ _ e]; exact hjk⟩
  · simp only [Net.calm, up2_at]
    rw [(c5.len h.isH).2.1]
    refine ⟨c7, ?_⟩
    rcases hn with rfl | ⟨hn1, hn2⟩
    · exact .inl rfl
    · rw [(hj.len h.isH).2.1] at hn1
      have h6 := c6 hn1
      refine .inr ⟨h6.1, ?_⟩
      have hnx := hj.an
      have ha0 := hj.a0
      rcases hn2 with rfl | ⟨_, hn3⟩
      · have := h6.2
        push_cast
        omega
      · have := h6.2
        push_cast
        omega
theorem Near.other {i k n : Nat} (h : Near x k n) (hk : k ≠ i) : Near (x.calm i) k n := by
  unfold Near at *
  simp only [Net.calm, up2_ne _ _ hk]
  exact h
/-- Behind enough rounds nothing is missing. -/
theorem NInv.ends (h : NInv x B) (hB : x.home.h.length ≤ 300) {i : Nat} (hi : i < 2) (hn : Near x i 40) : (x.fo i).c.h = x.home.h ∧ (x.sd i).applied = x.home.h.length := by
  obtain ⟨j, hj⟩ := h.each i hi
  have hl := hj.len h.isH
  rcases hn with hn | ⟨h1, hn | ⟨h2, h3⟩⟩
  · cases hn
  · cases hn
  · have hjl := hj.jle
    have hnH := hj.nH
    rw [hl.2.1] at h1
    have hjH : j = x.home.h.length := by push_cast at h3; omega
    refine ⟨?_, by push_cast at h3; omega⟩
    rw [hl.1, hjH, List.take_length]
end
end Go.Proofs.Ytmjdkgpckcdndaa
