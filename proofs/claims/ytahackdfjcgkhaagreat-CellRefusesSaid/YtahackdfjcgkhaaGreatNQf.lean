/-
  Fold of the queue, the program's and the reference's; the statements' own small functions; the sanity check.
-/
import Derived.Test.YtahackdfjcgkhaaGreatNQk
import Derived.Test.YtahackdfjcgkhaaGreatH1
import Derived.Test.YtahackdfjcgkhaaGreatML
namespace Go.Proofs.YtahackdfjcgkhaaGreat
open Go.RowKit
set_option linter.unusedSimpArgs false
set_option linter.unusedVariables false
attribute [local irreducible] Res.blk Res.sl Res.all Res.ex Res.pure Res.star

structure FdQ where
  q : Qu
  n : Nat
  e : Int
/-- What Fold makes of a list. -/
def foldQ : Qu → List Ch → Nat → FdQ
  | q, [], i => ⟨q, i, 0⟩
  | q, x :: h, i => if (qApp q x).2 = 0 then foldQ (qApp q x).1 h (i + 1) else ⟨q, i, (qApp q x).2⟩
theorem foldQ_drop {q : Qu} {h : List Ch} {k i : Nat} (hk : k < h.length) : foldQ q (h.drop k) i = if (qApp q h[k]).2 = 0 then foldQ (qApp q h[k]).1 (h.drop (k + 1)) (i + 1) else ⟨q, i, (qApp q h[k]).2⟩ := by
  rw [List.drop_eq_getElem_cons hk]
  rfl
theorem foldQ_snoc {h' : List Ch} : ∀ {h : List Ch} {q : Qu} {i : Nat}, (foldQ q h i).e = 0 → foldQ q (h ++ h') i = foldQ (foldQ q h i).q h' (foldQ q h i).n
  | [], q, i, _ => rfl
  | y :: h, q, i, he => by
    simp only [foldQ, List.cons_append] at he ⊢
    by_cases h0 : (qApp q y).2 = 0
    · simp only [if_pos h0] at he ⊢
      exact foldQ_snoc he
    · rw [if_neg h0] at he
      exact absurd he h0
theorem foldQ_ok : ∀ {h : List Ch} {q : Qu} {i : Nat}, q.l.length ≤ 16 ∧ q.r = [] → (foldQ q h i).q.l.length ≤ 16 ∧ (foldQ q h i).q.r = [] ∧ (foldQ q h i).n ≤ i + h.length
  | [], q, i, hq => ⟨hq.1, hq.2, Nat.le_refl _⟩
  | y :: h, q, i, hq => by
    unfold foldQ
    split
    · have := foldQ_ok (h := h) (i := i + 1) (qApp_len (x := y) hq.1 hq.2)
      exact ⟨this.1, this.2.1, by have := this.2.2; simp only [List.length_cons]; omega⟩
    · exact ⟨hq.1, hq.2, by simp⟩
theorem Good.foldQ {c : Cp} (h : Good c) : foldQ .zero c.h 0 = ⟨c.q, c.h.length, 0⟩ := by
  induction h with
  | zero => rfl
  | app hc hx ih =>
    obtain ⟨_, _, _, _, _, hq, e⟩ := cApp_ok hx
    rw [e]
    simp only
    rw [foldQ_snoc (by rw [ih]), ih]
    simp [Go.Proofs.YtahackdfjcgkhaaGreat.foldQ, hq]


/-! The statements' own changes. -/
def pushC (n : Int) (v : ByteArray) : Ch := ⟨1, n, 3, 1, n, 0, ⟨#[]⟩, v⟩
def doneC (n i : Int) : Ch := ⟨1, n, 4, 1, n, i, ⟨#[]⟩, ⟨#[]⟩⟩

/-! The sanity check. -/
def awX : ByteArray := ⟨#[120]⟩
def awY : ByteArray := ⟨#[121]⟩
theorem valid_push {n : Int} {v : ByteArray} (h1 : 1 ≤ n) (h2 : n ≤ 4096) (hv : v.size ≤ 64) : validB (pushC n v) = true := by
  have h3 : n ≤ 1048576 := by omega
  simp [validB, restB, inB, pushC, valB, h1, h2, h3, hv]
theorem aw1 : qApp Qu.zero (pushC 3 awX) = (⟨[⟨3, awX⟩], [], 3⟩, 0) := by
  unfold qApp
  rw [if_pos (valid_push (by decide) (by decide) (by decide))]
  rfl
theorem aw2 : qApp ⟨[⟨3, awX⟩], [], 3⟩ (pushC 5 awY) = (⟨[⟨3, awX⟩, ⟨5, awY⟩], [], 5⟩, 0) := by
  unfold qApp
  rw [if_pos (valid_push (by decide) (by decide) (by decide))]
  rfl
theorem aw3 : takeP ⟨[⟨3, awX⟩, ⟨5, awY⟩], [], 5⟩ 1 1 10 20 = ⟨⟨[⟨3, awX⟩, ⟨5, awY⟩], [⟨3, 1, 1, 30⟩], 5⟩, ⟨3, awX⟩, ⟨3, 1, 1, 30⟩, 0⟩ := by rfl
theorem aw4 : takeP ⟨[⟨3, awX⟩, ⟨5, awY⟩], [⟨3, 1, 1, 30⟩], 5⟩ 2 1 10 20 = ⟨⟨[⟨3, awX⟩, ⟨5, awY⟩], [⟨3, 1, 1, 30⟩, ⟨5, 2, 1, 30⟩], 5⟩, ⟨5, awY⟩, ⟨5, 2, 1, 30⟩, 0⟩ := by rfl
theorem aw5 : takeP ⟨[⟨3, awX⟩, ⟨5, awY⟩], [⟨3, 1, 1, 30⟩, ⟨5, 2, 1, 30⟩], 5⟩ 3 1 10 20 = ⟨⟨[⟨3, awX⟩, ⟨5, awY⟩], [⟨3, 1, 1, 30⟩, ⟨5, 2, 1, 30⟩], 5⟩, .zero, .zero, 34⟩ := by rfl
theorem aw6 : takeP ⟨[⟨3, awX⟩, ⟨5, awY⟩], [⟨3, 1, 1, 30⟩, ⟨5, 2, 1, 30⟩], 5⟩ 3 2 10 20 = ⟨⟨[⟨3, awX⟩, ⟨5, awY⟩], [⟨3, 3, 2, 30⟩, ⟨5, 2, 1, 30⟩], 5⟩, ⟨3, awX⟩, ⟨3, 3, 2, 30⟩, 0⟩ := by rfl
end Go.Proofs.YtahackdfjcgkhaaGreat
