/-
  Manifests of copies, in plain terms. No program in sight.
-/
import Derived.Test.YtiabhlogadboeaaGreatNHoP
import Derived.Test.YtiabhlogadboeaaGreatNCrP
namespace Go.Proofs.YtiabhlogadboeaaGreat
open Go.RowKit
set_option linter.unusedSimpArgs false
set_option linter.unusedVariables false
attribute [local irreducible] Res.blk Res.sl Res.all Res.ex Res.pure Res.star

/-- The manifest of a copy. -/
def mf0 (ten : Int) (c : Cp) : Mf := ⟨ten, c.h.length, epochOf c.h, c.s.map Ce.key, c.q.l.map It.number, (List.range 8).map c.t.n, 0⟩
def mfOf (ten key : Int) (c : Cp) : Mf := { mf0 ten c with sum := sumF key (mfL (mf0 ten c)) }
theorem mfL_sum (m : Mf) (s : Int) : mfL { m with sum := s } = mfL m := rfl
theorem mfOf_sum (ten key : Int) (c : Cp) : (mfOf ten key c).sum = sumF key (mfL (mfOf ten key c)) := by
  have e : mfL (mfOf ten key c) = mfL (mf0 ten c) := mfL_sum _ _
  rw [e]
  unfold mfOf
  rfl
def listsB (a b : Mf) : Bool := decide (a.keys = b.keys) && (decide (a.items = b.items) && decide (a.sessions = b.sessions))
theorem listsB_iff {a b : Mf} : listsB a b = true ↔ a.keys = b.keys ∧ a.items = b.items ∧ a.sessions = b.sessions := by simp [listsB]
def sameM (a b : Mf) : Bool := decide (a.tenant = b.tenant) && decide (a.length = b.length) && decide (a.epoch = b.epoch) && decide (a.sum = b.sum) && listsB a b
/-- What Check answers; 38: the signature, 37: the lists. -/
def checkM (ten key : Int) (c : Cp) (m : Mf) (eSig eCor : Int) : Int :=
  if m.sum ≠ sumF key (mfL m) then eSig
  else if m.tenant ≠ ten then 1
  else if m.length ≠ c.h.length then 36
  else if m.epoch ≠ epochOf c.h then 7
  else if listsB m (mfOf ten key c) then 0 else eCor
/-- What the reference asks at the end is the same. -/
theorem same_lists {ten key : Int} {c : Cp} {m : Mf} (h0 : m.sum = sumF key (mfL m)) (h1 : m.tenant = ten) (h2 : m.length = c.h.length) (h3 : m.epoch = epochOf c.h) : sameM m (mfOf ten key c) = listsB m (mfOf ten key c) := by
  by_cases hl : listsB m (mfOf ten key c) = true
  · obtain ⟨k1, k2, k3⟩ := listsB_iff.1 hl
    have hs : m.sum = (mfOf ten key c).sum := by
      rw [h0, mfOf_sum]
      have : mfL m = mfL (mfOf ten key c) := by
        unfold mfL
        rw [h1, h2, h3, k1, k2, k3]
        rfl
      rw [this]
    unfold sameM
    rw [hl]
    simp only [Bool.and_true, Bool.and_eq_true, decide_eq_true_eq]
    exact ⟨⟨⟨h1, h2⟩, h3⟩, hs⟩
  · have hl' : listsB m (mfOf ten key c) = false := by simpa using hl
    unfold sameM
    rw [hl', Bool.and_false]
def missM (c : Cp) (m : Mf) : Int := if m.length ≤ c.h.length then 0 else m.length - c.h.length
theorem mfOf_self (ten key : Int) (c : Cp) (eSig eCor : Int) : checkM ten key c (mfOf ten key c) eSig eCor = 0 := by
  unfold checkM
  rw [if_neg (by rw [mfOf_sum]; simp), if_neg (by simp [mfOf, mf0]), if_neg (by simp [mfOf, mf0]), if_neg (by simp [mfOf, mf0]), if_pos (by simp [listsB])]
end Go.Proofs.YtiabhlogadboeaaGreat
