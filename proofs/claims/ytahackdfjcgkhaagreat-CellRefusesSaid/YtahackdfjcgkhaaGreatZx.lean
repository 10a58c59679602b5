/-
  More rules: min, make of a slice. No program in sight.
-/
import Derived.Test.YtahackdfjcgkhaaGreatE2
namespace Go.Proofs.YtahackdfjcgkhaaGreat
open Go.RowKit
set_option linter.unusedSimpArgs false
set_option linter.unusedVariables false

section
variable {P : Program} {n : Nat} {f : Nat → Value} {d : Option Tmp} {ty t : TypeId} {pos : String} {aft : Array Edge} {gd : Option (Nat × Bool)} {x y : Operand}
/-- min(a, b) -/
theorem R.min2 {ats : Array TypeId} {a b : Int} (hx : ev n f x = .int .i64 a) (hy : ev n f y = .int .i64 b) : Runs P n f ⟨d, .call ⟨.builtin .min, #[x, y], ats⟩, ty, pos, aft, gd⟩ (.int .i64 (min a b)) := by
  refine ⟨fun W => ?_⟩
  have e : (if b < a then b else a) = min a b := by split <;> omega
  simp [execOp, resolve, invoke, builtin, hx, hy, run_min_int2, e]
end
section
variable {P : Program} {Q : Exit → Act → World → Prop} {K : (Nat → Value) → World → Prop} {n : Nat} {f : Nat → Value} {w r : World} {M : List Nat} {L k : List Res} {d : Tmp} {ty t e sz bytes : TypeId} {pos : String} {aft : Array Edge} {x y : Operand} {zs : List Value}
/-- make([]T, l, c) -/
theorem Z.mks [ht : HasTT P] {l c : Nat} (hS : Sep r M L w) (hx : ev n f x = .int .i64 (l : Int)) (hy : ev n f y = .int .i64 (c : Int)) (hk : kindOf ht.tt t = .sl e sz) [he : HasE P e sz bytes] [hz : HasZ P e zs] (hlc : l ≤ c) (hb : bytes * c ≤ 281474976710656) (hm : c ≤ maxLen)
    (h : ∀ g w', Sep r M (.blk g e (zerosL zs c) :: L) w' → w.heap.size ≤ g → K (upd' f d (.slice (some ⟨g, 0, none⟩) l c)) w') : WE P ⟨some d, .makeSlice t x y, ty, pos, aft, none⟩ K Q n f w := by
  refine ⟨fun K' hK => ?_⟩
  obtain ⟨hu, hs⟩ := kind_sl hk
  obtain ⟨i, z, hi, hz1, hsz, hby, hzs, h0⟩ := he.ok
  have hz' := hz.ok
  simp [hi, hz1] at hz'
  obtain ⟨hz2, hz3⟩ := hz'
  have hb' : (i.bytes : Int) * (c : Int) ≤ 281474976710656 := by
    rw [hby]
    have h1 : ((bytes * c : Nat) : Int) ≤ ((281474976710656 : Nat) : Int) := Int.ofNat_le.2 hb
    rw [Int.natCast_mul] at h1
    exact h1
  have hm' : (c : Int) ≤ 9223372036854775807 := by unfold maxLen at hm; omega
  have hrun := run_make (P := P) w t e i z hu hi hz1 .i64 .i64 (l : Int) (c : Int) (by omega) (by omega) hb' hm'
  simp only [Int.toNat_natCast] at hrun
  have hmc : madeCells z.cells (c * i.size) = (zerosL zs c).toArray := by
    have h1 := zerosL_ok zs c
    rw [hz2, hz3]
    exact h1
  rw [hmc] at hrun
  unfold Oper.wp
  rw [act_eval']
  unfold execOp
  simp only [hx, hy, Sem.run_bind]
  rw [hrun]
  simp only [Result.andThen_ok, Sem.run_pure, Oper.upon_value, act_put]
  exact hK _ _ (h _ _ (hS.box e (zerosL zs c)) (Nat.le_refl _))
end
/-- What is made since w stands beside what is there. -/
theorem Sep.over {r w w' : World} {M : List Nat} {L L' : List Res} (h : Sep r M L w) (h' : Sep w [] L' w') : Sep r M (L' ++ L) w' := by
  obtain ⟨fp, k1, k2, k3, k4⟩ := h'.ex
  exact Sep.all_open.1 (h.add (R' := .all L') (f2 := fp) h'.chg k1 k2 fun b hb => ⟨k3 b hb, (k4 b hb).resolve_left (by simp)⟩)
end Go.Proofs.YtahackdfjcgkhaaGreat
