/-
  Rows of blocks, in plain terms. No program in sight.
-/
import Derived.Test.YtpaoommfcmeagaaZm
namespace Go.Proofs.Ytpaoommfcmeagaa
open Go.RowKit
set_option linter.unusedSimpArgs false
set_option linter.unusedVariables false
attribute [local irreducible] Res.blk Res.sl Res.all Res.ex Res.pure Res.star

theorem zerosL_len (zs : List Value) (q : Nat) : (Z.zerosL zs q).length = q * zs.length := by
  induction q with
  | zero => simp [Z.zerosL]
  | succ q ih => simp [Z.zerosL, ih, Nat.add_mul, Nat.add_comm]
/-- Some of a block's rows. -/
theorem sub_rows {α : Type} {c : α → List Value} {sz : Nat} (hc : ∀ x, (c x).length = sz) {l : List α} {cs : List Value} (hct : cs.take (l.length * sz) = (l.map c).flatten) (a m : Nat) (h : a + m ≤ l.length) : (cs.drop (a * sz)).take (m * sz) = (((l.drop a).take m).map c).flatten := by
  have hlen : ∀ l : List α, ((l.map c).flatten).length = l.length * sz := fun l => by rw [flatten_length (sz := sz) fun row hr => by obtain ⟨x, _, rfl⟩ := List.mem_map.1 hr; exact hc x, List.length_map]
  have h1 : l = l.take a ++ ((l.drop a).take m ++ (l.drop a).drop m) := by rw [List.take_append_drop, List.take_append_drop]
  have h2 : cs = cs.take (l.length * sz) ++ cs.drop (l.length * sz) := (List.take_append_drop _ _).symm
  rw [hct] at h2
  conv at h2 => rhs; rw [h1]
  rw [List.map_append, List.flatten_append, List.map_append, List.flatten_append] at h2
  rw [h2, List.append_assoc, List.drop_left' (by rw [hlen, List.length_take, Nat.min_eq_left (by omega)]), List.append_assoc]
  exact List.take_left' (by rw [hlen, List.length_take, List.length_drop, Nat.min_eq_left (by omega)])
theorem splice_grow {a x b cs : List Value} {A s B : Nat} (ha : cs.take A = a) (hal : a.length = A) (hx : x.length = s) (hb : b.length = B) (hl : A + s + B ≤ cs.length) :
    ((cs.take A ++ x ++ cs.drop (A + s)).take (A + s) ++ b ++ (cs.take A ++ x ++ cs.drop (A + s)).drop (A + s + B)).take (A + s + B) = a ++ x ++ b ∧ ((cs.take A ++ x ++ cs.drop (A + s)).take (A + s) ++ b ++ (cs.take A ++ x ++ cs.drop (A + s)).drop (A + s + B)).length = cs.length := by
  have h1 : (cs.take A ++ x ++ cs.drop (A + s)).take (A + s) = a ++ x := by rw [ha]; exact List.take_left' (by simp; omega)
  constructor
  · rw [h1]
    exact List.take_left' (by simp; omega)
  · rw [h1]
    simp only [List.length_append, List.length_drop, List.length_take]
    omega
theorem splice_room {a x b cs : List Value} {A s B : Nat} (ha : cs.take A = a) (hal : a.length = A) (hx : x.length = s) (hb : b.length = B) (hl : A + s + B ≤ cs.length) :
    ((cs.take (A + s) ++ b ++ cs.drop (A + s + B)).take A ++ x ++ (cs.take (A + s) ++ b ++ cs.drop (A + s + B)).drop (A + s)).take (A + s + B) = a ++ x ++ b ∧ ((cs.take (A + s) ++ b ++ cs.drop (A + s + B)).take A ++ x ++ (cs.take (A + s) ++ b ++ cs.drop (A + s + B)).drop (A + s)).length = cs.length := by
  have hl1 : (cs.take (A + s)).length = A + s := by simp; omega
  have h1 : (cs.take (A + s) ++ b ++ cs.drop (A + s + B)).take A = a := by rw [List.append_assoc, List.take_append_of_le_length (by omega), List.take_take, Nat.min_eq_left (by omega), ha]
  have h2 : (cs.take (A + s) ++ b ++ cs.drop (A + s + B)).drop (A + s) = b ++ cs.drop (A + s + B) := by rw [List.append_assoc]; exact List.drop_left' hl1
  rw [h1, h2]
  constructor
  · rw [← List.append_assoc]
    exact List.take_left' (by simp; omega)
  · simp only [List.length_append, List.length_drop]
    omega
end Go.Proofs.Ytpaoommfcmeagaa
