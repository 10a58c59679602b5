/-
  What is known of the followers of a net.
-/
import Derived.Test.YtmjdkgpckcdndaaNWp
import Derived.Test.YtmjdkgpckcdndaaZy
namespace Go.Proofs.Ytmjdkgpckcdndaa
open Go.RowKit Go.ChangeShapes Go.WideShapes Go.ChangeAt
set_option linter.unusedSimpArgs false
set_option linter.unusedVariables false

theorem comN_preN (H : List Ch) (j : Nat) : comN (H.take j) H = (H.take j).length := by
  refine comN_eq (n := (H.take j).length) ?_ (Nat.le_refl _) (by rw [List.length_take]; omega) (fun h1 _ => by omega)
  rw [List.length_take, List.take_of_length_le (by rw [List.length_take]; omega)]
  by_cases hj : j ≤ H.length
  · rw [Nat.min_eq_left hj]
  · rw [Nat.min_eq_right (by omega), List.take_of_length_le (by omega), List.take_of_length_le (Nat.le_refl _)]
theorem net_facts {x : Net} {B : Nat} (h : NInv x B) {i : Nat} (hi : i < 2) : comN (x.fo i).c.h x.home.h = (x.fo i).c.h.length ∧ (x.fo i).c.h.length ≤ x.home.h.length ∧ (x.sd i).applied ≤ (x.fo i).c.h.length := by
  obtain ⟨j, hj⟩ := h.each i hi
  have hl := hj.len h.isH
  have h1 := hj.jle
  have h2 := hj.aj
  refine ⟨?_, by omega, by omega⟩
  rw [hl.1]
  exact comN_preN _ _
theorem net_appl {x : Net} {B : Nat} (h : NInv x B) : appliedL x.ld 2 = (x.sd 0).applied ∧ appliedL x.ld 3 = (x.sd 1).applied := by
  have hl := ld_at (h.cell 0 (by omega)) (h.cell 1 (by omega))
  unfold appliedL
  rw [hl.1, hl.2.1]
  exact ⟨rfl, rfl⟩
end Go.Proofs.Ytmjdkgpckcdndaa
