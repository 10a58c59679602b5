/-
  Rules for appends, literals of slices, parts of slices. No program in sight.
-/
import Derived.Test.YtabpapdickolgaaZg
namespace Go.Proofs.Ytabpapdickolgaa
open Go.RowKit
set_option linter.unusedSimpArgs false
set_option linter.unusedVariables false

/-- The operation reckons v, whatever the world. -/
structure Runs (P : Program) (n : Nat) (f : Nat → Value) (o : Oper) (v : Value) : Prop where
  out : ∀ W, (execOp (ev n f) o).run P W = .ok (.value v) W

namespace R
section
variable {P : Program} {n : Nat} {f : Nat → Value} {d : Option Tmp} {ty t : TypeId} {pos : String} {aft : Array Edge} {gd : Option (Nat × Bool)} {v : Value} {x y lo hi : Operand} {e sz : Nat} {A : Option Addr} {m c : Nat}

theorem bound {P : Program} {W : World} {i : Int} {q : Nat} (cd : BoundsCode) (h : 0 ≤ i ∧ i ≤ q) : (Instr.sliceBound (.int .i64 i) q cd).run P W = .ok i.toNat W := by
  simp [Instr.sliceBound, asIntOf, h.1, h.2]
/-- s[:h] -/
theorem upto [ht : HasTT P] {h : Int} (hx : ev n f x = .slice A m c) (hh : ev n f hi = .int .i64 h) (hk : kindOf ht.tt t = .sl e sz) (hb : 0 ≤ h ∧ h ≤ c) :
    Runs P n f ⟨d, .slice t x none (some hi) none, ty, pos, aft, gd⟩ (.slice A h.toNat c) := by
  obtain ⟨hu, hs⟩ := Z.kind_sl hk
  refine ⟨fun W => ?_⟩
  have e0 : ∀ k, (Option.map (fun a : Addr => a.add (0 * k)) A) = A := fun k => by cases A <;> simp [Addr.add]
  simp only [execOp, hx, Instr.sliceAt, Option.map_none, Option.map_some, hh, Sem.run_bind, run_under hu, Result.andThen_ok, Instr.slice, Instr.sliceBounds, Sem.run_pure, if_true, bound _ hb, run_size hs, e0]
  simp
/-- s[l:] -/
theorem since [ht : HasTT P] {l : Int} (hx : ev n f x = .slice A m c) (hl : ev n f lo = .int .i64 l) (hk : kindOf ht.tt t = .sl e sz) (hb : 0 ≤ l ∧ l ≤ m) :
    Runs P n f ⟨d, .slice t x (some lo) none none, ty, pos, aft, gd⟩ (.slice (if c = l.toNat then A else A.map fun x => x.add (l.toNat * sz)) (m - l.toNat) (c - l.toNat)) := by
  obtain ⟨hu, hs⟩ := Z.kind_sl hk
  refine ⟨fun W => ?_⟩
  simp only [execOp, hx, Instr.sliceAt, Option.map_none, Option.map_some, hl, Sem.run_bind, run_under hu, Result.andThen_ok, Instr.slice, Instr.sliceBounds, Sem.run_pure, bound _ hb, run_size hs]
/-- s[l:h] -/
theorem span [ht : HasTT P] {l h : Int} (hx : ev n f x = .slice A m c) (hl : ev n f lo = .int .i64 l) (hh : ev n f hi = .int .i64 h) (hk : kindOf ht.tt t = .sl e sz) (hb : 0 ≤ h ∧ h ≤ c) (hb' : 0 ≤ l ∧ l ≤ h.toNat) :
    Runs P n f ⟨d, .slice t x (some lo) (some hi) none, ty, pos, aft, gd⟩ (.slice (if c = l.toNat then A else A.map fun x => x.add (l.toNat * sz)) (h.toNat - l.toNat) (c - l.toNat)) := by
  obtain ⟨hu, hs⟩ := Z.kind_sl hk
  refine ⟨fun W => ?_⟩
  simp only [execOp, hx, Instr.sliceAt, Option.map_none, Option.map_some, hl, hh, Sem.run_bind, run_under hu, Result.andThen_ok, Instr.slice, Instr.sliceBounds, Sem.run_pure, if_true, bound _ hb, bound _ hb', run_size hs]
/-- a[:], a an array -/
theorem whole [ht : HasTT P] {g o len : Nat} (hx : ev n f x = .pointer (some ⟨g, o, none⟩)) (hk : kindOf ht.tt t = .ar len e sz) :
    Runs P n f ⟨d, .slice t x none none none, ty, pos, aft, gd⟩ (.slice (some ⟨g, o, none⟩) len len) := by
  obtain ⟨hu, hs⟩ := Z.kind_ar hk
  refine ⟨fun W => ?_⟩
  simp only [execOp, hx, Instr.sliceAt, Option.map_none, Sem.run_bind, run_under hu, Result.andThen_ok, Instr.sureAddr, Instr.sliceBounds, Sem.run_pure, run_size hs]
  simp [Addr.add]
end
end R

namespace Z
section
variable {P : Program} {ops : Array Oper} {Q : Exit → Act → World → Prop} {n : Nat} {f : Nat → Value} {w : World} {rest : List Oper} {d : Tmp} {op : Op} {ty : TypeId} {pos : String} {aft : Array Edge} {v : Value}
/-- Reckoning by a law of its own. -/
theorem pl (hr : Runs P n f ⟨some d, op, ty, pos, aft, none⟩ v) (h : WL P ops Q rest n (upd' f d v) w) : WL P ops Q (⟨some d, op, ty, pos, aft, none⟩ :: rest) n f w := plain rfl hr.out h
end
section
variable {P : Program} {K : (Nat → Value) → World → Prop} {Q : Exit → Act → World → Prop} {n : Nat} {f : Nat → Value} {w r : World} {M : List Nat} {L : List Res} {d : Tmp} {ty t : TypeId} {pos : String} {aft : Array Edge} {v : Value}
  {x y : Operand} {e sz bytes : Nat} {k : List Res} {rows ys : List (List Value)}

theorem nilsl (hS : Sep r M L w) (e sz : Nat) (A : Option Addr) : Sep r M (.sl e sz (.slice A 0 0) [] :: L) w :=
  hS.add (f2 := []) (Chg.refl _ _) ⟨by simp, A, 0, rfl, .inl ⟨rfl, rfl, rfl⟩⟩ (by simp) (by simp)
theorem ap_run (x y : Operand) {ty : TypeId} {pos : String} {aft : Array Edge} {dd : Option Tmp} {gd : Option (Nat × Bool)} {u : Value} {res : Result Value} (hx : ev n f x = v) (hy : ev n f y = u) (h : (Builtin.append_ #[t, t] ty #[v, u]).run P w = res) :
    (execOp (ev n f) ⟨dd, .call ⟨.builtin .append, #[x, y], #[t, t]⟩, ty, pos, aft, gd⟩).run P w = res.andThen fun a w' => .ok (.value a) w' := by
  simp [execOp, resolve, invoke, builtin, hx, hy, h]
/-- append onto a row of one's own -/
theorem ap [ht : HasTT P] {B : Option Addr} {n0 c0 : Nat} {u : Value} (hS : Sep r M L w) (hx : ev n f x = .slice B n0 c0) (hy : ev n f y = u) (hk : kindOf ht.tt t = .sl e sz) [he : HasE P e sz bytes] (ha : At L k (.sl e sz (.slice B n0 c0) rows)) (hu : Rows' w sz u ys)
    (h63 : (rows.length + ys.length) * bytes ≤ 140737488355328) (hm : rows.length + ys.length ≤ maxLen)
    (h : ∀ A' c' w', Sep r M (.sl e sz (.slice A' (rows.length + ys.length) c') (rows ++ ys) :: k) w' → K (upd' f d (.slice A' (rows.length + ys.length) c')) w') :
    WE P ⟨some d, .call ⟨.builtin .append, #[x, y], #[t, t]⟩, ty, pos, aft, none⟩ K Q n f w := by
  refine ⟨fun K' hK => ?_⟩
  obtain ⟨A', c', w', hrun, hS'⟩ := run_ap (P := P) t (kind_sl hk).1 (hS.focus ha) u hu h63 hm ty
  unfold Oper.wp
  rw [act_eval', ap_run x y hx hy hrun]
  simp only [Result.andThen_ok, Oper.upon_value, act_put]
  exact hK _ _ (h A' c' w' hS')
/-- append onto a slice without capacity -/
theorem ap0 [ht : HasTT P] {B : Option Addr} {u : Value} (hS : Sep r M L w) (hx : ev n f x = .slice B 0 0) (hy : ev n f y = u) (hk : kindOf ht.tt t = .sl e sz) [he : HasE P e sz bytes] (hu : Rows' w sz u ys)
    (h63 : ys.length * bytes ≤ 140737488355328) (hm : ys.length ≤ maxLen)
    (h : ∀ A' c' w', Sep r M (.sl e sz (.slice A' ys.length c') ys :: L) w' → K (upd' f d (.slice A' ys.length c')) w') :
    WE P ⟨some d, .call ⟨.builtin .append, #[x, y], #[t, t]⟩, ty, pos, aft, none⟩ K Q n f w := by
  refine ap (nilsl hS e sz B) hx hy hk .here hu (by simpa using h63) (by simpa using hm) ?_
  intro A' c' w' hS'
  simp only [List.length_nil, Nat.zero_add, List.nil_append] at hS' ⊢
  exact h A' c' w' hS'

/-! The same over lists. -/
theorem apm [ht : HasTT P] {α : Type} {fc : α → List Value} {l l' : List α} {B : Option Addr} {n0 c0 : Nat} {u : Value} (hS : Sep r M L w) (hx : ev n f x = .slice B n0 c0) (hy : ev n f y = u) (hk : kindOf ht.tt t = .sl e sz) [he : HasE P e sz bytes] (ha : At L k (.sl e sz (.slice B n0 c0) (l.map fc))) (hu : Rows' w sz u (l'.map fc))
    (h63 : (l.length + l'.length) * bytes ≤ 140737488355328) (hm : l.length + l'.length ≤ maxLen)
    (h : ∀ A' c' w', Sep r M (.sl e sz (.slice A' (l.length + l'.length) c') ((l ++ l').map fc) :: k) w' → K (upd' f d (.slice A' (l.length + l'.length) c')) w') :
    WE P ⟨some d, .call ⟨.builtin .append, #[x, y], #[t, t]⟩, ty, pos, aft, none⟩ K Q n f w := by
  refine ap hS hx hy hk ha hu (by simpa using h63) (by simpa using hm) ?_
  intro A' c' w' hS'
  simp only [List.length_map, ← List.map_append] at hS' ⊢
  exact h A' c' w' hS'
theorem ap0m [ht : HasTT P] {α : Type} {fc : α → List Value} {l : List α} {B : Option Addr} {u : Value} (hS : Sep r M L w) (hx : ev n f x = .slice B 0 0) (hy : ev n f y = u) (hk : kindOf ht.tt t = .sl e sz) [he : HasE P e sz bytes] (hu : Rows' w sz u (l.map fc))
    (h63 : l.length * bytes ≤ 140737488355328) (hm : l.length ≤ maxLen)
    (h : ∀ A' c' w', Sep r M (.sl e sz (.slice A' l.length c') (l.map fc) :: L) w' → K (upd' f d (.slice A' l.length c')) w') :
    WE P ⟨some d, .call ⟨.builtin .append, #[x, y], #[t, t]⟩, ty, pos, aft, none⟩ K Q n f w := by
  refine ap0 hS hx hy hk hu (by simpa using h63) (by simpa using hm) ?_
  intro A' c' w' hS'
  simp only [List.length_map] at hS' ⊢
  exact h A' c' w' hS'

/-! Stores into elements. -/
def sizeT (tt : List Ty) (t : Nat) : Option Nat := match tt[t]? with | some y => (match y.k with | .other => none | _ => some y.size) | none => none
theorem sizeT_ok [ht : HasTT P] {t m : Nat} (h : sizeT ht.tt t = some m) : (P.info? t).map (·.size) = some m := by
  unfold sizeT at h
  cases hy : ht.tt[t]? with
  | none => simp [hy] at h
  | some y =>
    simp only [hy] at h
    have hk : y.k ≠ .other := by intro e; simp [e] at h
    have := ok_size hy hk
    cases hk' : y.k <;> simp only [hk'] at h <;> first | exact absurd hk' hk | (injection h with h; rw [this, h])
theorem flatten_set {sz : Nat} {rows : List (List Value)} (h : ∀ row, row ∈ rows → row.length = sz) {q : Nat} (hq : q < rows.length) {row' : List Value} (hl : row'.length = sz) :
    (rows.set q row').flatten = rows.flatten.take (q * sz) ++ row' ++ rows.flatten.drop (q * sz + sz) := by
  have hfl : (rows.take q).flatten.length = q * sz := by rw [flatten_length fun row hr => h row (List.mem_of_mem_take hr), List.length_take, Nat.min_eq_left (by omega)]
  have hr : rows = rows.take q ++ rows[q] :: rows.drop (q + 1) := by rw [← List.drop_eq_getElem_cons hq, List.take_append_drop]
  have hq' := h rows[q] (by simp)
  rw [List.set_eq_take_append_cons_drop, if_pos hq]
  conv => rhs; rw [hr]
  simp only [List.flatten_append, List.flatten_cons]
  rw [← hfl, List.take_left, ← List.append_assoc]
  congr 1
  have e1 : List.drop ((List.take q rows).flatten.length + sz) (List.take q rows).flatten = [] := List.drop_eq_nil_of_le (by omega)
  have e2 : List.drop sz rows[q] = [] := List.drop_eq_nil_of_le (by omega)
  rw [List.drop_append, e1, List.nil_append, Nat.add_sub_cancel_left, List.drop_append, e2, hq', Nat.sub_self]
  simp
theorem stE [ht : HasTT P] {q n0 c g : Nat} {row' : List Value} (hS : Sep r M L w) (hx : ev n f x = .pointer (some ⟨g, 0 + q * sz, none⟩)) (ha : At L k (.sl e sz (.slice (some ⟨g, 0, none⟩) n0 c) rows)) (hq : q < rows.length) (hy : ev n f y = .agg row'.toArray)
    (hz : sizeT ht.tt t = some sz) (hl : Nat.beq row'.length sz = true) (h1 : row'.all (·.oneCell') = true)
    (h : ∀ w', Sep r M (.sl e sz (.slice (some ⟨g, 0, none⟩) n0 c) (rows.set q row') :: k) w' → K f w') : WE P ⟨none, .store t x y, ty, pos, aft, none⟩ K Q n f w := by
  refine ⟨fun K' hK => ?_⟩
  have hlen := Nat.eq_of_beq_eq_true hl
  obtain ⟨fp, ⟨f1, f2, rfl, ⟨hok, A, c1, hv, hx1⟩, _⟩, _⟩ := id (hS.focus ha).ex
  injection hv with e1 e2 e3
  subst e1
  subst e3
  rcases hx1 with ⟨_, hnil, _⟩ | ⟨h0, g', cur, hA, hf1, hb, hle, hm, hs, ht'⟩
  · subst hnil; simp at hq
  injection hA with hA
  injection hA with hA _
  subst hA
  rw [Nat.zero_add] at hx
  have hbound : q * sz + sz ≤ cur.size := by
    rw [hs]
    have : (q + 1) * sz ≤ c * sz := Nat.mul_le_mul_right _ (by omega)
    rw [Nat.add_mul] at this
    omega
  have hthere : w.there g (q * sz) row'.toArray.size := fun j hj => by
    simp at hj
    rw [hb.cell, hb.frozen]
    exact ⟨by rw [Array.getElem?_eq_getElem (by omega)]; rfl, rfl⟩
  have hrun := run_storeVar_mid (P := P) w g (q * sz) t row'.toArray hthere (by rw [sizeT_ok hz]; simp [hlen]) (by simpa using h1)
  unfold Oper.wp
  rw [act_eval']
  unfold execOp
  simp only [hx, hy, Instr.storeAt, Instr.sureAddr, Sem.run_bind, Sem.run_pure, Result.andThen_ok, hrun, Oper.upon_skip, act_put]
  refine hK _ _ (h _ ((hS.focus ha).upd fun f3 hf3 => ?_))
  have hf3' : f3 = [g] := by
    obtain ⟨_, A, c1, hv, hx1⟩ := hf3
    injection hv with e1 e2 e3
    subst e1
    subst e3
    rcases hx1 with ⟨hc0, _⟩ | ⟨_, g', cur', hA, hf1', _⟩
    · omega
    · injection hA with hA
      injection hA with hA _
      subst hA
      exact hf1'
  subst hf3'
  refine ⟨chg_setCells g _ _ w, [g], ⟨?_, some ⟨g, 0, none⟩, c, by simp [e2], .inr ⟨h0, g, (cur.toList.take (q * sz) ++ row' ++ cur.toList.drop (q * sz + row'.length)).toArray, rfl, rfl, ?_, by simpa using hle, hm, ?_, ?_⟩⟩, by simp, ?_⟩
  · intro row hrow
    rcases List.mem_or_eq_of_mem_set hrow with h2 | h2
    · exact hok row h2
    · subst h2
      exact ⟨hlen, by simpa using h1⟩
  · have := blk_setCells row' (q * sz) w cur hb (by omega)
    simpa using this
  · simp only [List.size_toArray, List.length_append, List.length_take, List.length_drop, Array.length_toList]
    omega
  · have hfl := flatten_set (fun row hr => (hok row hr).1) hq hlen
    rw [hfl, List.length_set]
    have hq2 : (q + 1) * sz ≤ rows.length * sz := Nat.mul_le_mul_right _ (by omega)
    rw [Nat.add_mul, Nat.one_mul] at hq2
    have hrs : rows.length * sz ≤ cur.toList.length := by
      have := Nat.mul_le_mul_right sz hle
      simp only [Array.length_toList]
      omega
    rw [← ht']
    simp only [List.append_assoc]
    rw [List.take_append, List.take_append, List.take_take, List.take_of_length_le (l := row') (by simp; omega), List.drop_take]
    simp only [List.length_take, Array.length_toList]
    rw [List.take_take, Nat.min_comm (q * sz) (rows.length * sz), Nat.min_eq_left (by omega : q * sz ≤ cur.size), hlen, Nat.sub_sub]
  · intro b hb'
    simp at hb'
    subst hb'
    exact ⟨by have := (chg_setCells b row' (q * sz) w).size; have := hb.lt; omega, .inl (by simp)⟩
theorem stEm [ht : HasTT P] {α : Type} {fc : α → List Value} {l : List α} {q n0 c g : Nat} (z : α) (hS : Sep r M L w) (hx : ev n f x = .pointer (some ⟨g, 0 + q * sz, none⟩)) (ha : At L k (.sl e sz (.slice (some ⟨g, 0, none⟩) n0 c) (l.map fc))) (hq : q < l.length) (hy : ev n f y = .agg (fc z).toArray)
    (hz : sizeT ht.tt t = some sz) (hl : Nat.beq (fc z).length sz = true) (h1 : (fc z).all (·.oneCell') = true)
    (h : ∀ w', Sep r M (.sl e sz (.slice (some ⟨g, 0, none⟩) n0 c) ((l.set q z).map fc) :: k) w' → K f w') : WE P ⟨none, .store t x y, ty, pos, aft, none⟩ K Q n f w := by
  refine stE hS hx ha (by simpa using hq) hy hz hl h1 ?_
  intro w' hS'
  rw [← List.map_set] at hS'
  exact h w' hS'
theorem Sep_slform (hS : Sep r M L w) {A : Option Addr} {n0 c : Nat} (ha : At L k (.sl e sz (.slice A n0 c) rows)) (h0 : 0 < rows.length) : ∃ g, A = some ⟨g, 0, none⟩ := by
  obtain ⟨fp, ⟨f1, f2, rfl, ⟨hok, A', c1, hv, hx1⟩, _⟩, _⟩ := (hS.focus ha).ex
  injection hv with e1 e2 e3
  subst e1
  rcases hx1 with ⟨_, hnil, _⟩ | ⟨_, g', cur, hA, _⟩
  · subst hnil; simp at h0
  · exact ⟨g', hA⟩

/-! Literals of slices. -/
def fillA (sz : Nat) (cs : List Value) : List (Nat × Value) → Option (List Value)
  | [] => some cs
  | (i, v) :: r => match stv1 sz cs (i * sz) v with | none => none | some cs' => fillA sz cs' r
theorem fillA_ok {sz : Nat} : ∀ (ps : List (Nat × Value)) (cs cs' : List Value), fillA sz cs ps = some cs' → Instr.fill (fun i => some (i * sz, sz)) cs.toArray ps = some cs'.toArray
  | [], cs, cs', h => by simp only [fillA, Option.some.injEq] at h; subst h; rfl
  | (i, v) :: ps, cs, cs', h => by
    simp only [fillA] at h
    cases hs : stv1 sz cs (i * sz) v with
    | none => simp [hs] at h
    | some c1 =>
      simp only [hs] at h
      obtain ⟨h1, h2, h3⟩ := stv1_fill hs
      have := fillA_ok ps c1 cs' h
      simp only [Instr.fill]
      rw [if_neg (by simp [h1]; omega)]
      have hfold := fold_set v.cells.toList cs.toArray (i * sz) 0 (by simpa using h2)
      simp only [Nat.add_zero] at hfold
      have e : (v.cells.zipIdx.foldl (fun cs (c, j) => cs.setIfInBounds (i * sz + j) c) cs.toArray) = c1.toArray := by
        rw [← Array.foldl_toList, Array.toList_zipIdx, h3]
        simpa using hfold
      rw [e]
      exact this
def zerosL (zs : List Value) : Nat → List Value
  | 0 => []
  | k + 1 => zs ++ zerosL zs k
theorem zerosL_ok (zs : List Value) (len : Nat) : (Array.range (len * zs.length)).map (fun i => zs.toArray[i % zs.toArray.size]!) = (zerosL zs len).toArray := by
  have hl : ∀ k, (zerosL zs k).length = k * zs.length := by
    intro k
    induction k with
    | zero => simp [zerosL]
    | succ k ih => simp [zerosL, ih, Nat.add_mul, Nat.add_comm]
  have hat : ∀ k i, i < k * zs.length → (zerosL zs k)[i]? = zs[i % zs.length]? := by
    intro k
    induction k with
    | zero => intro i hi; simp at hi
    | succ k ih =>
      intro i hi
      simp only [zerosL]
      by_cases h : i < zs.length
      · rw [List.getElem?_append_left h, Nat.mod_eq_of_lt h]
      · rw [List.getElem?_append_right (by omega), ih _ (by rw [Nat.add_mul] at hi; omega), ← Nat.mod_eq_sub_mod (by omega)]
  apply Array.ext
  · simp [hl]
  · intro i h1 h2
    simp only [Array.size_map, Array.size_range] at h1
    have hz : 0 < zs.length := by
      rcases Nat.eq_zero_or_pos zs.length with h | h
      · rw [h] at h1; omega
      · exact h
    have h3 := hat len i h1
    have hlt : i % zs.length < zs.length := Nat.mod_lt _ hz
    rw [List.getElem?_eq_getElem (by rw [hl]; exact h1), List.getElem?_eq_getElem hlt] at h3
    injection h3 with h3
    simp only [Array.getElem_map, Array.getElem_range, List.getElem_toArray]
    rw [h3]
    simp [hlt]
/-- A literal of a slice. -/
theorem bs [ht : HasTT P] {ps : List (Nat × Operand)} {len : Nat} {zs cs : List Value} (hS : Sep r M L w) (hk : kindOf ht.tt t = .sl e sz) [hz : HasZ P e zs] (hf : fillA sz (zerosL zs len) (partsV n f ps) = some cs) (hn : Nat.ble (len * sz) 16777216 = true)
    (h : ∀ g w', Sep r M (.blk g e cs :: L) w' → w.heap.size ≤ g → K (upd' f d (.slice (some ⟨g, 0, none⟩) len len)) w') : WE P ⟨some d, .buildSlice t len ps.toArray, ty, pos, aft, none⟩ K Q n f w := by
  refine ⟨fun K' hK => ?_⟩
  obtain ⟨hu, hs⟩ := kind_sl hk
  have hz := hz.ok
  cases hi : P.info? e with
  | none => simp [hi] at hz
  | some i =>
    simp [hi] at hz
    obtain ⟨⟨z, hz1, hz2⟩, hz3⟩ := hz
    have hsz : i.size = sz := by unfold sizeB at hs; simp [hi] at hs; exact hs
    have hzl : zs.length = sz := by omega
    have hn' := Nat.le_of_ble_eq_true hn
    have hp : (ps.toArray.map fun p => (p.1, ev n f p.2)).toList = partsV n f ps := by simp [partsV, hdv_eq]
    have hfill := fillA_ok _ _ _ hf
    have hrun : (Instr.buildSlice t len (ps.toArray.map fun p => (p.1, ev n f p.2))).run P w = .ok (.slice (some ⟨w.heap.size, 0, none⟩) len len) (w.alloc (.cells cs.toArray e)) := by
      unfold Instr.buildSlice
      have hzl' : ∀ k, (zerosL zs k).length = k * zs.length := by
        intro k
        induction k with
        | zero => simp [zerosL]
        | succ k ih => simp [zerosL, ih, Nat.add_mul, Nat.add_comm]
      simp only [Sem.run_bind, run_under hu, Result.andThen_ok, run_size hs]
      rw [if_neg (by omega)]
      by_cases h0 : len * sz = 0
      · have : zerosL zs len = [] := by
          apply List.eq_nil_of_length_eq_zero
          rw [hzl', hzl, h0]
        rw [this] at hfill
        simp only [h0, if_true, Sem.run_pure, Sem.run_bind, Result.andThen_ok, hp]
        have hr0 : (Array.range 0).map (fun x => (#[] : Array Value)[x % (#[] : Array Value).size]!) = #[] := by simp [Array.range]
        simp only [hr0, hfill]
        simp [newRow, go_sem]
      · have hc := zerosL_ok zs len
        rw [hzl] at hc
        simp only [h0, if_false, Sem.run_pure, Sem.run_bind, Result.andThen_ok, hp, zeroValue, typeInfo]
        have hprog : (program).run P w = .ok P w := rfl
        simp only [hprog, Result.andThen_ok, hi, Sem.run_pure, hz1, hz2, hc, hfill]
        simp [newRow, go_sem]
    unfold Oper.wp
    rw [act_eval']
    unfold execOp
    simp only [Sem.run_bind]
    rw [hrun]
    simp only [Result.andThen_ok, Sem.run_pure, Oper.upon_value, act_put]
    exact hK _ _ (h _ _ (hS.box e cs) (Nat.le_refl _))
end
end Z
namespace D
section
variable {P : Program} {ops : Array Oper} {Q : Exit → Act → World → Prop} {S : World → Prop} {L k m n : Nat} {f : Nat → Value} {w : World} {d : Tmp} {op : Op} {ty t : TypeId} {pos : String} {aft : Array Edge} {v : Value}
theorem pl (i m' : Nat) {gd : Option (Nat × Bool)} (hi : ops[i]? = some ⟨some d, op, ty, pos, aft, gd⟩) (hw : Region.wanted ⟨some d, op, ty, pos, aft, gd⟩ (yielded ops (fr n f)) = true) (hc : okTake ops L m m' i = true) (hr : Runs P n f ⟨some d, op, ty, pos, aft, gd⟩ v) (h : WR P ops Q S L k m' n (upd' f d v) w) : WR P ops Q S L (k + 1) m n f w :=
  first i m' hi hc hw hr.out h
end
end D
end Go.Proofs.Ytabpapdickolgaa
