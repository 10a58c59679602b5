/-
  In a region that draws its order: an operation guarded by one that was left out. No program in sight.
-/
import Derived.Test.YtabpapdickolgaaZm
namespace Go.Proofs.Ytabpapdickolgaa
open Go.RowKit
set_option linter.unusedSimpArgs false
set_option linter.unusedVariables false

namespace D
section
variable {P : Program} {ops : Array Oper} {Q : Exit → Act → World → Prop} {S : World → Prop} {L k m n : Nat} {f : Nat → Value} {w : World} {d : Tmp} {op : Op} {ty : TypeId} {pos : String} {aft : Array Edge}
theorem skU (i m' : Nat) {j s : Nat} {b : Bool} (hi : ops[i]? = some ⟨some d, op, ty, pos, aft, some (j, b)⟩) (hc : okTake ops L m m' i = true) (hj : (ops[j]?).bind (·.dst) = some s) (hs : ev n f (.tmp s) = undef) (h : WR P ops Q S L k m' n (upd' f d undef) w) : WR P ops Q S L (k + 1) m n f w := by
  refine skipped i m' hi hc ?_ h
  have hy : yielded ops (fr n f) j = none := by
    unfold yielded
    rw [hj]
    simp only [Option.bind_some]
    simp only [ev] at hs
    cases hb : Nat.blt s n
    · have hge : ¬ s < n := fun hlt => by rw [← Nat.blt_eq, hb] at hlt; cases hlt
      have : (fr n f)[s]? = none := by simp [fr]; omega
      rw [this]
    · rw [hb] at hs
      have hlt : s < n := by simpa [Nat.blt_eq] using hb
      rw [fr_get hlt]
      simp only [cond_true] at hs
      rw [hs]
      simp [undef]
  simp [Region.wanted, hy]
end
end D
namespace Z
section
variable {P : Program} {K : (Nat → Value) → World → Prop} {Q : Exit → Act → World → Prop} {n : Nat} {f : Nat → Value} {w r : World} {M : List Nat} {L : List Res} {ty t : TypeId} {pos : String} {aft : Array Edge} {v : Value} {x y : Operand} {e sz : Nat} {k : List Res}
theorem stv_one [ht : HasTT P] {cs : List Value} {o : Nat} (hz : sizeT ht.tt t = some 1) (h1 : v.oneCell' = true) (ho : o < cs.length) : stv ht.tt t cs o v = some (cs.set o v) := by
  unfold sizeT at hz
  unfold stv
  cases hy : ht.tt[t]? with
  | none => simp [hy] at hz
  | some y =>
    simp only [hy] at hz
    have hb : Nat.blt o cs.length = true := by simpa [Nat.blt_eq] using ho
    cases hk : y.k <;> simp only [hk] at hz ⊢ <;> first | cases hz | (injection hz with hz; rw [hz]; cases v <;> first | (simp [Value.oneCell'] at h1; done) | simp [stv1, someV, hb])
/-- A store into a field of an element: the field takes one cell. -/
theorem stF [ht : HasTT P] {α : Type} {fc : α → List Value} {l : List α} {q j n0 c g : Nat} (z : α) (hS : Sep r M L w) (hx : ev n f x = .pointer (some ⟨g, 0 + q * sz + j, none⟩)) (ha : At L k (.sl e sz (.slice (some ⟨g, 0, none⟩) n0 c) (l.map fc))) (hq : q < l.length) (hy : ev n f y = v)
    (hz : sizeT ht.tt t = some 1) (h1 : v.oneCell' = true) (hj : j < sz) (hzc : fc z = (fc (l[q]'hq)).set j v)
    (h : ∀ w', Sep r M (.sl e sz (.slice (some ⟨g, 0, none⟩) n0 c) ((l.set q z).map fc) :: k) w' → K f w') : WE P ⟨none, .store t x y, ty, pos, aft, none⟩ K Q n f w := by
  obtain ⟨g', cs, hA, hn, hnc, hm, hl, ht', hok, hS2⟩ := open_sl (hS.focus ha) (by simpa using (by omega : 0 < l.length))
  injection hA with hA
  injection hA with hA _
  subst hA
  have hrow : ∀ a, a ∈ l → (fc a).length = sz := fun a ha => (hok (fc a) (List.mem_map.2 ⟨a, ha, rfl⟩)).1
  simp only [List.length_map] at hn
  have hlt : q * sz + j < l.length * sz := by
    have : (q + 1) * sz ≤ l.length * sz := Nat.mul_le_mul_right _ (by omega)
    rw [Nat.add_mul] at this
    omega
  have hcs : l.length * sz ≤ cs.length := by rw [hl]; exact Nat.mul_le_mul_right _ (by omega)
  rw [Nat.zero_add] at hx
  refine st hS2 hx .here hy (stv_one hz h1 (by omega)) ?_
  intro w' hS'
  refine h w' ?_
  have hlen : (l.set q z).length = l.length := by simp
  have := close_sl (rows := (l.set q z).map fc) (sz := sz) hS' (by omega) hm (by simpa using hl) (by simpa using (by omega : l.length ≤ c)) ?_ ?_
  · simp only [List.length_map, List.length_set] at this
    rw [hn]
    exact this
  · have e1 := flatten_set (fun row hr => (hok row hr).1) (q := q) (rows := l.map fc) (by simpa using hq) (row' := fc z) (by rw [hzc, List.length_set]; exact hrow _ (by simp))
    have e0 := flatten_set (fun row hr => (hok row hr).1) (q := q) (rows := l.map fc) (by simpa using hq) (row' := fc l[q]) (hrow _ (by simp))
    have e2 : (l.map fc).set q (fc l[q]) = l.map fc := by
      have : (l.map fc)[q]'(by simpa using hq) = fc l[q] := by simp
      rw [← this]
      exact List.set_getElem_self _
    rw [e2] at e0
    rw [List.map_set, e1]
    simp only [List.length_set, List.length_map]
    rw [List.take_set, ← hn, ht']
    have hX : ((l.map fc).flatten.take (q * sz)).length = q * sz := by
      rw [List.length_take, ← ht', List.length_take, hn]
      have : q * sz ≤ l.length * sz := Nat.mul_le_mul_right _ (by omega)
      omega
    have hA := hrow l[q] (by simp)
    conv => lhs; rw [e0]
    rw [List.append_assoc, List.set_append, if_neg (by rw [hX]; omega), hX, Nat.add_sub_cancel_left, List.set_append, if_pos (by rw [hA]; exact hj), hzc, List.append_assoc]
  · intro row hr
    obtain ⟨a, ha, rfl⟩ := List.mem_map.1 hr
    rcases List.mem_or_eq_of_mem_set ha with h2 | h2
    · exact hok _ (List.mem_map.2 ⟨a, h2, rfl⟩)
    · subst h2
      rw [hzc]
      refine ⟨by rw [List.length_set]; exact hrow _ (by simp), fun u hu => ?_⟩
      rcases List.mem_or_eq_of_mem_set hu with h3 | h3
      · exact (hok _ (List.mem_map.2 ⟨l[q], by simp, rfl⟩)).2 u h3
      · subst h3; exact h1
end
end Z
end Go.Proofs.Ytabpapdickolgaa
