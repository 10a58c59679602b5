/-
  More rules: an element of an array value; cells at reckoned places; slices of arrays. No program in sight.
-/
import Derived.Test.YtabpapdickolgaaZt
namespace Go.Proofs.Ytabpapdickolgaa
open Go.RowKit
set_option linter.unusedSimpArgs false
set_option linter.unusedVariables false

namespace R
section
variable {P : Program} {n : Nat} {f : Nat → Value} {d : Option Tmp} {ty t : TypeId} {pos : String} {aft : Array Edge} {gd : Option (Nat × Bool)} {x y : Operand} {xs : Array Value} {v : Value}
/-- a[j], a an array value -/
theorem ixv [hq : HasQ P] {len e sz : Nat} {ag : Bool} {j : Int} (hx : ev n f x = .agg xs) (hy : ev n f y = .int .i64 j) (hk : kq hq.qt t = .ar len e sz ag) (hj : 0 ≤ j ∧ j < len) (hp : partL ag (j.toNat * sz) sz xs.toList = some v) :
    Runs P n f ⟨d, .index t x y, ty, pos, aft, gd⟩ v := by
  refine ⟨fun W => ?_⟩
  have hok := kq_ok (P := P) t
  rw [hk] at hok
  simp only [okQ] at hok
  cases hu : P.underlying t with
  | none => simp [hu] at hok
  | some dd =>
    cases dd <;> simp [hu] at hok
    obtain ⟨⟨⟨⟨⟨rfl, rfl⟩, hs⟩, ha⟩, hsome⟩, _⟩ := hok
    have := part_run (P := P) (w := W) hs ha (by simpa using hsome) hp
    simp only [execOp, hx, hy, Instr.index, asIntOf, Sem.run_bind, Sem.run_pure, Result.andThen_ok, run_under hu]
    simp [hj.1, hj.2, run_size hs, this]
end
end R
section
variable {w r : World} {g T : Nat} {cs : List Value} {sz : Nat}
/-- Cells of a block read as a slice. -/
theorem rows_blk {o m : Nat} {rows : List (List Value)} (hb : Blk w g T cs.toArray) (hok : ∀ row, row ∈ rows → row.length = sz ∧ ∀ u, u ∈ row → u.oneCell' = true) (hm : m = rows.length) (hsub : ∀ j u, rows.flatten[j]? = some u → cs[o + j]? = some u) : Rows' w sz (.slice (some ⟨g, o, none⟩) m m) rows := by
  subst hm
  refine ⟨hok, _, _, rfl, by simp, Nat.le_refl _, flatten_length fun row hr => (hok row hr).1, fun _ => ⟨_, rfl, fun j u hu => ?_⟩⟩
  rw [add_lit, hb.cell]
  simpa using hsub j u hu
/-- Cells of a block at a reckoned place. -/
theorem range_blk {o : Nat} {row : List Value} (hb : Blk w g T cs.toArray) (h : ∀ j u, row[j]? = some u → cs[o + j]? = some u) : w.rangeAt g o row := fun j u hu => by
  rw [hb.cell]
  simpa using h j u hu
end
theorem memb_all {P : Nat → Bool} : ∀ {l : List Nat} {i : Nat}, l.all P = true → memb l i = true → P i = true
  | [], _, _, h => by cases h
  | a :: l, i, hl, h => by
    simp only [List.all_cons, Bool.and_eq_true] at hl
    unfold memb at h
    cases hb : Nat.beq i a
    · rw [hb] at h; exact memb_all hl.2 h
    · rw [Nat.eq_of_beq_eq_true hb]; exact hl.1
/-- Slots behind a loop within. -/
theorem Same.mixS {Ms Ms' : List Nat} {g f f0 : Nat → Value} (hs : Ms'.all (memb Ms) = true) (h : Same Ms f f0) : Same Ms (Go.Proofs.Ytabpapdickolgaa.mix Ms' g f) f0 := fun i hi => by
  unfold Go.Proofs.Ytabpapdickolgaa.mix
  cases hb : memb Ms' i
  · exact h i hi
  · have := memb_all hs hb
    rw [hi] at this
    cases this
/-- An int as a row. -/
def intC (z : Int) : List Value := [.int .i64 z]
theorem flat_intC (l : List Int) : (l.map intC).flatten = l.map (Value.int .i64) := by induction l with | nil => rfl | cons a l ih => simp [intC, ih]
theorem rows_ints {w : World} {A : Option Addr} {l : List Int} {c : Nat} (hA : A = none → c = 0) (hc : l.length ≤ c) (h : Rd w 1 A l.length (l.map (Value.int .i64))) : Rows' w 1 (.slice A l.length c) (l.map intC) := by
  refine ⟨fun row hr => ?_, A, c, by simp, hA, by simpa using hc, by rw [flat_intC, List.length_map]; exact h⟩
  obtain ⟨z, _, rfl⟩ := List.mem_map.1 hr
  exact ⟨rfl, by simp [intC, Value.oneCell']⟩
end Go.Proofs.Ytabpapdickolgaa
