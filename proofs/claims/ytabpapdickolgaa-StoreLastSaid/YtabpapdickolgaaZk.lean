/-
  More rules: literals of slices as rows of one's own. No program in sight.
-/
import Derived.Test.YtabpapdickolgaaZj
namespace Go.Proofs.Ytabpapdickolgaa
open Go.RowKit
set_option linter.unusedSimpArgs false
set_option linter.unusedVariables false

/-- A literal of a slice as a row of one's own. -/
theorem mk_sl {r w : World} {M : List Nat} {F : List Res} {g e sz n : Nat} {cs : List Value} {rows : List (List Value)} (h : Sep r M (.blk g e cs :: F) w) (hn : n = rows.length) (h0 : 0 < n) (hm : n ≤ maxLen) (hok : ∀ row, row ∈ rows → row.length = sz ∧ ∀ u, u ∈ row → u.oneCell' = true) (hc : cs = rows.flatten) :
    Sep r M (.sl e sz (.slice (some ⟨g, 0, none⟩) n n) rows :: F) w := by
  subst hn
  subst hc
  refine h.upd fun f1 hf => ?_
  obtain ⟨rfl, hb⟩ := id hf
  have hl := flatten_length fun row hr => (hok row hr).1
  exact ⟨Chg.refl _ _, [g], ⟨hok, _, _, rfl, .inr ⟨h0, g, _, rfl, rfl, hb, Nat.le_refl _, hm, by simpa using hl, by rw [← hl]; exact List.take_length⟩⟩, by simp, fun b hb' => by simp at hb'; subst hb'; exact ⟨hb.lt, .inl (by simp)⟩⟩
end Go.Proofs.Ytabpapdickolgaa
