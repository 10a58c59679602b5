/-
  Histories that match; common beginnings. No program in sight.
-/
import Derived.Test.YtabpapdickolgaaNSw
import Derived.Test.YtabpapdickolgaaNFork
namespace Go.Proofs.Ytabpapdickolgaa
open Go.RowKit
set_option linter.unusedSimpArgs false
set_option linter.unusedVariables false
attribute [local irreducible] Res.blk Res.sl Res.all Res.ex Res.pure Res.star

theorem IsH.lawful {h : List Ch} (hh : IsH h) : ∀ i, badAt h i = false := by
  obtain ⟨c, hc, rfl⟩ := hh
  exact hc.lawful
theorem IsH.seq {h : List Ch} (hh : IsH h) {i : Nat} (hi : i < h.length) : h[i].seq = (i : Int) + 1 := by
  have := hh.lawful i
  rw [badAt_eq hi] at this
  simp only [Bool.or_eq_false_iff, Bool.not_eq_false', decide_eq_true_eq] at this
  exact this.2.1
theorem matchB_at {h : List Ch} {i : Nat} (hi : i < h.length) (hs : h[i].seq = (i : Int) + 1) (e : Int) : matchB h ((i + 1 : Nat) : Int) e = decide (h[i].epoch = e) := by
  unfold matchB
  rw [if_neg (by omega), if_pos (by omega)]
  have : (((i + 1 : Nat) : Int) - 1).toNat = i := by omega
  rw [this, List.getElem?_eq_getElem hi]
  simp [hs]
theorem matchB_out {h : List Ch} {i : Nat} (hi : h.length ≤ i) (e : Int) : matchB h ((i + 1 : Nat) : Int) e = false := by
  unfold matchB
  rw [if_neg (by omega), if_neg (by omega)]
theorem comN_comm {α : Type} [DecidableEq α] : ∀ (a b : List α), comN a b = comN b a
  | [], b => by rw [nil_comN, comN_nil]
  | _ :: _, [] => rfl
  | x :: a, y :: b => by
    unfold comN
    by_cases h : x = y
    · subst h; simp [comN_comm a b]
    · rw [if_neg h, if_neg (fun e => h e.symm)]
theorem comN_le {α : Type} [DecidableEq α] : ∀ (a b : List α), comN a b ≤ a.length
  | [], b => by rw [nil_comN]; simp
  | _ :: _, [] => by rw [comN_nil]; simp
  | x :: a, y :: b => by
    unfold comN
    split
    · have := comN_le a b; simp only [List.length_cons]; omega
    · omega
/-- Two lists that agree up to an index and not at it. -/
theorem comN_eq {α : Type} [DecidableEq α] : ∀ {n : Nat} {a b : List α}, a.take n = b.take n → n ≤ a.length → n ≤ b.length → (∀ (h1 : n < a.length) (h2 : n < b.length), a[n] ≠ b[n]) → comN a b = n
  | 0, [], b, _, _, _, _ => by rw [nil_comN]
  | 0, _ :: _, [], _, _, _, _ => rfl
  | 0, x :: a, y :: b, _, _, _, h => by
    have : x ≠ y := h (by simp) (by simp)
    unfold comN
    rw [if_neg this]
  | n + 1, [], b, _, h1, _, _ => by simp at h1
  | n + 1, _ :: _, [], _, _, h2, _ => by simp at h2
  | n + 1, x :: a, y :: b, he, h1, h2, h => by
    simp only [List.take_succ_cons, List.cons.injEq] at he
    unfold comN
    rw [if_pos he.1, comN_eq he.2 (by simpa using h1) (by simpa using h2) (fun h3 h4 => by have := h (by simpa using h3) (by simpa using h4); simpa using this)]
/-- A history and its fork. -/
theorem fork_com {h : List Ch} (hh : IsH h) (n : Int) (l : List Int) : comN h (forkC h n l).h = (modN n ((h.length : Int) + 1)).toNat ∧
    ∀ i, i < h.length → matchB (forkC h n l).h ((i + 1 : Nat) : Int) (h[i]?.map (·.epoch) |>.getD 0) = decide (((i + 1 : Nat) : Int) ≤ (comN h (forkC h n l).h : Int)) := by
  have hk := modN_bd n ((h.length : Int) + 1) (by omega)
  obtain ⟨hg, ext, e, _, h4⟩ := hh.fork n l
  have hkl : (modN n ((h.length : Int) + 1)).toNat ≤ h.length := by omega
  generalize (modN n ((h.length : Int) + 1)).toNat = k at *
  have hf : IsH (forkC h n l).h := ⟨_, hg, rfl⟩
  generalize (forkC h n l).h = f at *
  have hfe : 0 < h.length → ∀ x, x ∈ h → x.epoch < forkEp h + 1 := fun h0 x hx => by
    have := (hh.epochs x hx).2
    unfold forkEp
    rw [if_neg (by omega)]
    omega
  have hne : ∀ (i : Nat) (h1 : i < h.length) (h2 : i < f.length), k ≤ i → h[i].epoch ≠ f[i].epoch := by
    intro i h1 h2 hki he
    have h5 := hfe (by omega) h[i] (by simp)
    have h6 : f[i] ∈ ext := by
      subst e
      rw [List.getElem_append_right (by rw [List.length_take]; omega)]
      simp
    have := h4 _ h6
    omega
  have hkf : k ≤ f.length := by rw [e]; simp; omega
  have hc : comN h f = k := by
    refine comN_eq ?_ hkl hkf fun h1 h2 he => hne k h1 h2 (Nat.le_refl _) (by rw [he])
    rw [e, List.take_append_of_le_length (by rw [List.length_take]; omega), List.take_take]
    simp
  refine ⟨hc, fun i hi => ?_⟩
  rw [hc, List.getElem?_eq_getElem hi]
  simp only [Option.map_some, Option.getD_some]
  by_cases hif : i < f.length
  · rw [matchB_at hif (hf.seq hif)]
    by_cases hik : i < k
    · have : f[i] = h[i] := by
        subst e
        rw [List.getElem_append_left (by rw [List.length_take]; omega), List.getElem_take]
      rw [this]
      have h7 : ((i + 1 : Nat) : Int) ≤ k := by omega
      rw [decide_eq_true h7, decide_eq_true rfl]
    · have h8 := hne i hi hif (by omega)
      have h7 : ¬ ((i + 1 : Nat) : Int) ≤ k := by omega
      rw [decide_eq_false h7, decide_eq_false (Ne.symm h8)]
  · rw [matchB_out (by omega)]
    have h7 : ¬ ((i + 1 : Nat) : Int) ≤ k := by omega
    rw [decide_eq_false h7]
end Go.Proofs.Ytabpapdickolgaa
