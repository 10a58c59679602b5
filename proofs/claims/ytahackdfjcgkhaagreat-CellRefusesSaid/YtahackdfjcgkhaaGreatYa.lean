/-
  A region that draws its order, by a graph of states. No program in sight.
-/
import Derived.Test.YtahackdfjcgkhaaGreatE1
namespace Go.Proofs.YtahackdfjcgkhaaGreat
open Go.RowKit
set_option linter.unusedSimpArgs false
set_option linter.unusedVariables false
theorem Same.trans {Ms : List Nat} {f g h : Nat → Value} (h1 : Same Ms f g) (h2 : Same Ms g h) : Same Ms f h := fun i hi => (h1 i hi).trans (h2 i hi)
namespace D
section
variable {P : Program} {ops : Array Oper} {Q : Exit → Act → World → Prop} {S : World → Prop} {L n : Nat}
theorem EWall {k m : Nat} {f : Nat → Value} {w : World} {J : Nat → (Nat → Value) → World → Prop} : ∀ rs : List Nat,
    (∀ i, i ∈ rs → okStep ops m (m ||| 2 ^ i) i = true ∧ (∃ oi, ops[i]? = some oi ∧ oi.guard = none ∧ WE P oi (J i) (NoPanic Q) n f w) ∧ ∀ f' w', J i f' w' → (HM ops S L (m ||| 2 ^ i) w' ∧ WR P ops Q S L k (m ||| 2 ^ i) n f' w')) →
    EW P ops Q S L k m n f w rs
  | [], _ => enil
  | i :: rs, h => by
    obtain ⟨h1, ⟨⟨dd, op, ty, pos, aft, gd⟩, hi, hg, hw⟩, h3⟩ := h i (List.mem_cons_self ..)
    cases hg
    exact econs i _ hi wantedN h1 h3 hw (EWall rs fun j hj => h j (List.mem_cons_of_mem _ hj))
/-- Every order runs through a graph of states: I holds of each. -/
theorem graph {σ : Type} [BEq σ] [LawfulBEq σ] (I : σ → (Nat → Value) → World → Prop) (ok : σ → Nat → Bool) (next : σ → Nat → σ) (fin : σ → Bool) (ms : List (Nat × Nat × σ))
    (hc : ms.all (fun x => match Region.ready .any ops (listedOf ops.size x.2.1) with | [] => fin x.2.2 | i :: rs => Nat.blt 0 x.1 && (i :: rs).all fun i => ok x.2.2 i && (okStep ops x.2.1 (x.2.1 ||| 2 ^ i) i && ms.elem (x.1 - 1, x.2.1 ||| 2 ^ i, next x.2.2 i))) = true)
    (hS : ∀ s f w, I s f w → S w)
    (hst : ∀ s i f w, ok s i = true → I s f w → ∃ oi, ops[i]? = some oi ∧ oi.guard = none ∧ WE P oi (I (next s i)) (NoPanic Q) n f w)
    (hend : ∀ s f w, fin s = true → I s f w → Q .normal (act n f) w) :
    ∀ k m s f w, (k, m, s) ∈ ms → I s f w → WR P ops Q S L k m n f w := by
  intro k
  induction k with
  | zero =>
    intro m s f w hm hI
    have := List.all_eq_true.1 hc _ hm
    dsimp only at this
    split at this
    · rename_i he
      exact done he (hend s f w this hI)
    · simp at this
  | succ k ih =>
    intro m s f w hm hI
    have := List.all_eq_true.1 hc _ hm
    dsimp only at this
    split at this
    · rename_i he
      exact done he (hend s f w this hI)
    · rename_i i rs he
      rw [Bool.and_eq_true] at this
      refine each (i :: rs) he rfl (EWall (J := fun j => I (next s j)) _ fun j hj => ?_)
      have hj := List.all_eq_true.1 this.2 j hj
      rw [Bool.and_eq_true, Bool.and_eq_true] at hj
      refine ⟨hj.2.1, hst s j f w hj.1 hI, fun f' w' hI' => ⟨.s (hS _ _ _ hI'), ih _ _ _ _ ?_ hI'⟩⟩
      have := List.elem_iff.1 hj.2.2
      simpa using this
end
end D
end Go.Proofs.YtahackdfjcgkhaaGreat
