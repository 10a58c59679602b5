/-
  Rules for loops and for indexes, literals and slices. No program in sight.
-/
import Derived.Test.YtabpapdickolgaaZd
import Derived.LoopN
namespace Go.Proofs.Ytabpapdickolgaa
open Go.RowKit
set_option linter.unusedSimpArgs false
set_option linter.unusedVariables false

/-! Slots at a loop's head. -/
def memb : List Nat → Nat → Bool
  | [], _ => false
  | a :: l, i => cond (Nat.beq i a) true (memb l i)
def mix (Ms : List Nat) (g f0 : Nat → Value) : Nat → Value := fun i => cond (memb Ms i) (g i) (f0 i)
def setL (f : Nat → Value) : List (Nat × Value) → (Nat → Value)
  | [] => f
  | (s, v) :: l => upd' (setL f l) s v
def Same (Ms : List Nat) (f f0 : Nat → Value) : Prop := ∀ i, memb Ms i = false → f i = f0 i
def slotsL (f : Nat → Value) : List (Nat × Value) → Prop
  | [] => True
  | (s, v) :: l => someV (f s) = some v ∧ slotsL f l
/-- Outside Ms the slots are as f0 has them; l says what some of the others hold. -/
def Slots (Ms : List Nat) (f0 f : Nat → Value) (l : List (Nat × Value)) : Prop := Same Ms f f0 ∧ slotsL f l
theorem upd_eq {f : Nat → Value} {s : Nat} {v : Value} (h : f s = v) : upd' f s v = f := by rw [← h]; exact Z.upd_self f s
theorem setL_eq {f : Nat → Value} : ∀ {l : List (Nat × Value)}, slotsL f l → setL f l = f
  | [], _ => rfl
  | (s, v) :: l, h => by simp only [setL, setL_eq h.2]; have h1 := h.1; rw [someV_eq] at h1; injection h1 with h1; exact upd_eq h1
theorem Slots.eq {Ms : List Nat} {f0 f : Nat → Value} {l : List (Nat × Value)} (h : Slots Ms f0 f l) : ∃ g, f = setL (mix Ms g f0) l := by
  refine ⟨f, ?_⟩
  have : mix Ms f f0 = f := by
    funext i
    unfold mix
    cases hm : memb Ms i
    · exact (h.1 i hm).symm
    · rfl
  rw [this, setL_eq h.2]
theorem Same.mix {Ms : List Nat} {g f0 : Nat → Value} : Same Ms (mix Ms g f0) f0 := fun i hi => by unfold Go.Proofs.Ytabpapdickolgaa.mix; rw [hi]; rfl
theorem Same.refl {Ms : List Nat} {f0 : Nat → Value} : Same Ms f0 f0 := fun _ _ => rfl
theorem Same.upd {Ms : List Nat} {f f0 : Nat → Value} {s : Nat} {v : Value} (hs : memb Ms s = true) (h : Same Ms f f0) : Same Ms (upd' f s v) f0 := fun i hi => by
  unfold upd'
  cases hb : Nat.beq i s
  · exact h i hi
  · rw [Nat.eq_of_beq_eq_true hb] at hi; rw [hi] at hs; cases hs
theorem Same.nil {Ms : List Nat} {f f0 : Nat → Value} (h : Same Ms f f0) : Same Ms (setL f []) f0 := h
theorem Same.cons {Ms : List Nat} {f f0 : Nat → Value} {s : Nat} {v : Value} {l : List (Nat × Value)} (hs : memb Ms s = true) (h : Same Ms (setL f l) f0) : Same Ms (setL f ((s, v) :: l)) f0 := Same.upd hs h

namespace Z
section
variable {P : Program} {ops : Array Oper} {Q : Exit → Act → World → Prop} {n : Nat} {f : Nat → Value} {w r : World} {M : List Nat} {L : List Res} {rest : List Oper} {d : Tmp} {op : Op} {ty t : TypeId} {pos : String} {aft : Array Edge} {v : Value}
  {x y : Operand} {g o T k : Nat} {cs cs' : List Value}

/-- The head of the next round. -/
structure Again (n m : Nat) (I : Nat → (Nat → Value) → World → Prop) (a : Act) (w : World) : Prop where
  out : ∃ f' m', a = act n f' ∧ m' < m ∧ I m' f' w
theorem again {I : Nat → (Nat → Value) → World → Prop} {m : Nat} (m' : Nat) (hm : m' < m) (h : I m' f w) : Exit.then (Again n m I) Q .normal (act n f) w := ⟨f, m', rfl, hm, h⟩
/-- A loop: I holds at every round's head, under a number that falls. -/
theorem lp {c : Code} (I : Nat → (Nat → Value) → World → Prop) (m : Nat) (h0 : I m f w)
    (hr : ∀ m f w, I m f w → WC P c (Exit.then (Again n m I) Q) n f w) : WC P (.loop c) Q n f w := by
  refine ⟨?_⟩
  intro b k cs
  have key : ∀ m f w, I m f w → ∃ e a' w', Q e a' w' ∧ Arrives P (lone (b.at (act n f) (.code c :: .inLoop c :: k)) cs w) b k cs e a' w' := by
    intro m
    induction m using Nat.strongRecOn with
    | _ m ih =>
      intro f w hI
      obtain ⟨e, a₁, w₁, hq, harr⟩ := (hr m f w hI).out b (.inLoop c :: k) cs
      cases e with
      | normal =>
        obtain ⟨f', m', rfl, hlt, hI'⟩ := hq.out
        obtain ⟨e₂, a₂, w₂, hq₂, harr₂⟩ := ih m' hlt f' w₁ hI'
        exact ⟨e₂, a₂, w₂, hq₂, .of_steps (Steps.trans harr (.one step_inLoop)) harr₂⟩
      | exit id => exact ⟨_, a₁, w₁, hq, .pass (x := .inLoop c) rfl (fun _ _ => .inl (by simp)) harr⟩
      | goto l => exact ⟨_, a₁, w₁, hq, .pass (x := .inLoop c) rfl (fun _ _ => .inl (by simp)) harr⟩
      | ret => exact ⟨_, a₁, w₁, hq, .pass (x := .inLoop c) rfl (fun _ _ => .inl (by simp)) harr⟩
      | panic ch => exact ⟨_, a₁, w₁, hq, .pass (x := .inLoop c) rfl (fun _ _ => .inl (by simp)) harr⟩
      | outgrown => exact ⟨_, a₁, w₁, hq, .pass (x := .inLoop c) rfl (fun _ _ => .inl (by simp)) harr⟩
  obtain ⟨e, a', w', hq, harr⟩ := key m f w h0
  exact ⟨e, a', w', hq, .of_steps (.one step_loop) harr⟩

/-- The head of the next round, by slots. -/
structure AgainS (n m : Nat) (Ms : List Nat) (f0 : Nat → Value) (I : Nat → World → List (Nat × Value) → Prop) (a : Act) (w : World) : Prop where
  out : ∃ f' m' l', a = act n f' ∧ m' < m ∧ Slots Ms f0 f' l' ∧ I m' w l'
theorem againS {Ms : List Nat} {f0 : Nat → Value} {I : Nat → World → List (Nat × Value) → Prop} {m : Nat} (m' : Nat) (l' : List (Nat × Value)) (hm : m' < m) (h1 : Same Ms f f0) (h2 : slotsL f l') (h : I m' w l') : Exit.then (AgainS n m Ms f0 I) Q .normal (act n f) w :=
  ⟨f, m', l', rfl, hm, ⟨h1, h2⟩, h⟩
/-- A loop that writes the slots Ms; I says what some of them hold. -/
theorem lpS {c : Code} (Ms : List Nat) (I : Nat → World → List (Nat × Value) → Prop) (m : Nat) (l0 : List (Nat × Value)) (hs : slotsL f l0) (h0 : I m w l0)
    (hr : ∀ m g w l, I m w l → WC P c (Exit.then (AgainS n m Ms f I) Q) n (setL (mix Ms g f) l) w) : WC P (.loop c) Q n f w := by
  refine lp (fun m f' w => ∃ l, Slots Ms f f' l ∧ I m w l) m ⟨l0, ⟨Same.refl, hs⟩, h0⟩ ?_
  rintro m f' w ⟨l, hsl, hI⟩
  obtain ⟨g, rfl⟩ := hsl.eq
  refine ⟨wp_mono (hr m g w l hI).out ?_⟩
  intro e a w' hq
  cases e with
  | normal =>
    obtain ⟨f'', m', l', rfl, hm, hsl', hI'⟩ := hq.out
    exact ⟨f'', m', rfl, hm, l', hsl', hI'⟩
  | _ => exact hq

/-- A loop of few rounds. -/
theorem unr {c : Code} (N : Nat) (h : WC P c (Exit.then (Code.rounds P c Q N) Q) n f w) : WC P (.loop c) Q n f w := ⟨wp_loop_rounds (N + 1) h.out⟩
theorem thU {c : Code} {N : Nat} (h : WC P c (Exit.then (Code.rounds P c Q N) Q) n f w) : Exit.then (Code.rounds P c Q (N + 1)) Q .normal (act n f) w := h.out
/-- Where ways meet again. -/
structure CutS (n : Nat) (Ms : List Nat) (f0 : Nat → Value) (I : World → List (Nat × Value) → Prop) (a : Act) (w : World) : Prop where
  out : ∃ f' l', a = act n f' ∧ Slots Ms f0 f' l' ∧ I w l'
theorem cutE {Ms : List Nat} {f0 : Nat → Value} {I : World → List (Nat × Value) → Prop} (l' : List (Nat × Value)) (h1 : Same Ms f f0) (h2 : slotsL f l') (h : I w l') : Exit.then (CutS n Ms f0 I) Q .normal (act n f) w :=
  ⟨f, l', rfl, ⟨h1, h2⟩, h⟩
theorem cut {c y : Code} (Ms : List Nat) (I : World → List (Nat × Value) → Prop) (hx : WC P c (Exit.then (CutS n Ms f I) Q) n f w)
    (hy : ∀ g w l, I w l → WC P y Q n (setL (mix Ms g f) l) w) : WC P c (Exit.then (y.wp P Q) Q) n f w := by
  refine ⟨wp_mono hx.out ?_⟩
  intro e a w' hq
  cases e with
  | normal =>
    obtain ⟨f', l', rfl, hsl, hI⟩ := hq.out
    obtain ⟨g, rfl⟩ := hsl.eq
    exact (hy g w' l' hI).out
  | _ => exact hq

theorem kind_sl [ht : HasTT P] {e sz : Nat} (h : kindOf ht.tt t = .sl e sz) : P.underlying t = some (.slice e) ∧ sizeB P e sz = true := by
  obtain ⟨z, hz⟩ := kindOf_ok ht.ok t
  rw [h] at hz
  unfold okTy at hz
  cases hu : P.underlying t with
  | none => simp [hu] at hz
  | some d => cases d <;> simp [hu] at hz; obtain ⟨⟨_, rfl⟩, h2⟩ := hz; exact ⟨rfl, h2⟩
theorem kind_ar [ht : HasTT P] {m e sz : Nat} (h : kindOf ht.tt t = .ar m e sz) : P.underlying t = some (.array m e) ∧ sizeB P e sz = true := by
  obtain ⟨z, hz⟩ := kindOf_ok ht.ok t
  rw [h] at hz
  unfold okTy at hz
  cases hu : P.underlying t with
  | none => simp [hu] at hz
  | some d => cases d <;> simp [hu] at hz; obtain ⟨⟨⟨_, rfl⟩, rfl⟩, h2⟩ := hz; exact ⟨rfl, h2⟩
/-- The address of an element of a slice. -/
theorem ix [ht : HasTT P] {e sz len cap : Nat} {j : Int} (hx : ev n f x = .slice (some ⟨g, o, none⟩) len cap) (hy : ev n f y = .int .i64 j) (hk : kindOf ht.tt t = .sl e sz) (hj : 0 ≤ j ∧ j < len)
    (h : WL P ops Q rest n (upd' f d (.pointer (some ⟨g, o + j.toNat * sz, none⟩))) w) : WL P ops Q (⟨some d, .indexAddr t x y, ty, pos, aft, none⟩ :: rest) n f w := by
  obtain ⟨hu, hs⟩ := kind_sl hk
  refine plain rfl (fun W => ?_) h
  simp only [execOp, hx, hy, Instr.indexAt, asIntOf, Sem.run_bind, Sem.run_pure, Result.andThen_ok, run_under hu]
  simp [hj.1, hj.2, run_size hs, add_lit]
/-- The same, the index being a natural number. -/
theorem ixn [ht : HasTT P] {e sz len cap j : Nat} (hx : ev n f x = .slice (some ⟨g, o, none⟩) len cap) (hy : ev n f y = .int .i64 (j : Int)) (hk : kindOf ht.tt t = .sl e sz) (hj : j < len)
    (h : WL P ops Q rest n (upd' f d (.pointer (some ⟨g, o + j * sz, none⟩))) w) : WL P ops Q (⟨some d, .indexAddr t x y, ty, pos, aft, none⟩ :: rest) n f w :=
  ix hx hy hk ⟨by omega, by omega⟩ (by simpa using h)
/-- The address of an element of an array. -/
theorem ia [ht : HasTT P] {e sz len : Nat} {j : Int} (hx : ev n f x = .pointer (some ⟨g, o, none⟩)) (hy : ev n f y = .int .i64 j) (hk : kindOf ht.tt t = .ar len e sz) (hj : 0 ≤ j ∧ j < len)
    (h : WL P ops Q rest n (upd' f d (.pointer (some ⟨g, o + j.toNat * sz, none⟩))) w) : WL P ops Q (⟨some d, .indexAddr t x y, ty, pos, aft, none⟩ :: rest) n f w := by
  obtain ⟨hu, hs⟩ := kind_ar hk
  refine plain rfl (fun W => ?_) h
  simp only [execOp, hx, hy, Instr.indexAt, asIntOf, Sem.run_bind, Sem.run_pure, Result.andThen_ok, run_under hu, Instr.sureAddr]
  simp [hj.1, hj.2, run_size hs, add_lit]

/-! Struct literals. -/
def fillS (fs : List (Nat × Nat × Bool)) (cs : List Value) : List (Nat × Value) → Option (List Value)
  | [] => some cs
  | (i, v) :: r =>
    match fs[i]? with
    | none => none
    | some (o, sz, _) => match stv1 sz cs o v with | none => none | some cs' => fillS fs cs' r
theorem fold_set : ∀ (vs : List Value) (cs : Array Value) (o k : Nat), o + k + vs.length ≤ cs.size →
    (vs.zipIdx k).foldl (fun (cs : Array Value) (p : Value × Nat) => cs.setIfInBounds (o + p.2) p.1) cs = (cs.toList.take (o + k) ++ vs ++ cs.toList.drop (o + k + vs.length)).toArray
  | [], cs, o, k, _ => by simp
  | v :: vs, cs, o, k, h => by
    simp only [List.length_cons] at h
    simp only [List.zipIdx_cons, List.foldl_cons]
    rw [fold_set vs _ o (k + 1) (by simp; omega)]
    have ho : o + k < cs.toList.length := by simp; omega
    rw [Array.toList_setIfInBounds, ← Nat.add_assoc, List.take_succ_eq_append_getElem (by simpa using ho), List.take_set_of_le (Nat.le_refl _), List.getElem_set_self, List.drop_set_of_lt (by omega)]
    simp [Nat.add_comm, Nat.add_left_comm]
theorem stv1_fill {sz : Nat} {cs cs' : List Value} {v : Value} (h : stv1 sz cs o v = some cs') : v.cells.size = sz ∧ o + v.cells.size ≤ cs.length ∧ cs' = cs.take o ++ v.cells.toList ++ cs.drop (o + v.cells.size) := by
  have one : v.cells = #[v] → (cond (Nat.beq sz 1 && Nat.blt o cs.length) (some (cs.set o v)) none : Option (List Value)) = some cs' → v.cells.size = sz ∧ o + v.cells.size ≤ cs.length ∧ cs' = cs.take o ++ v.cells.toList ++ cs.drop (o + v.cells.size) := by
    intro hc h2
    cases h3 : (Nat.beq sz 1 && Nat.blt o cs.length)
    · rw [h3] at h2; cases h2
    · rw [h3] at h2
      simp only [cond_true, Option.some.injEq] at h2
      simp only [Bool.and_eq_true] at h3
      have e1 := Nat.eq_of_beq_eq_true h3.1
      have hlt : o < cs.length := by simpa [Nat.blt_eq] using h3.2
      rw [hc]
      refine ⟨by simp [e1], by simp; omega, ?_⟩
      rw [← h2, List.set_eq_take_append_cons_drop, if_pos hlt]
      simp
  unfold stv1 at h
  cases v with
  | agg vs =>
    simp only at h
    cases h1 : (Nat.beq sz vs.toList.length && vs.toList.all (·.oneCell'))
    · rw [h1] at h; cases h
    · rw [h1] at h
      simp only [Bool.and_eq_true] at h1
      have e1 := Nat.eq_of_beq_eq_true h1.1
      simp only [cond_true] at h
      cases h2 : (Nat.beq o 0 && Nat.beq vs.toList.length cs.length)
      · rw [h2] at h
        simp only [cond_false] at h
        cases h3 : Nat.ble (o + sz) cs.length
        · rw [h3] at h; cases h
        · rw [h3] at h
          simp only [cond_true, Option.some.injEq] at h
          have h4 := Nat.le_of_ble_eq_true h3
          simp only [Value.cells]
          exact ⟨by simpa using e1.symm, by simp at e1; omega, by rw [← h, e1]; simp⟩
      · rw [h2] at h
        simp only [cond_true, Option.some.injEq] at h
        simp only [Bool.and_eq_true] at h2
        have e2 := Nat.eq_of_beq_eq_true h2.1
        have e3 := Nat.eq_of_beq_eq_true h2.2
        subst e2
        simp only [Value.cells]
        refine ⟨by simpa using e1.symm, by simp at e3; omega, ?_⟩
        rw [← h, Nat.zero_add, List.drop_eq_nil_of_le (by simp at e3; omega)]
        simp
  | tuple _ => cases h
  | _ => exact one rfl h
theorem fillS_ok {pl : Nat → Option (Nat × Nat)} {fs : List (Nat × Nat × Bool)} (hpl : ∀ i q, fs[i]? = some q → pl i = some (q.1, q.2.1)) : ∀ (ps : List (Nat × Value)) (cs cs' : List Value), fillS fs cs ps = some cs' → Instr.fill pl cs.toArray ps = some cs'.toArray
  | [], cs, cs', h => by simp only [fillS, Option.some.injEq] at h; subst h; rfl
  | (i, v) :: ps, cs, cs', h => by
    simp only [fillS] at h
    cases hf : fs[i]? with
    | none => simp [hf] at h
    | some q =>
      obtain ⟨qo, qs, qb⟩ := q
      simp only [hf] at h
      cases hs : stv1 qs cs qo v with
      | none => simp [hs] at h
      | some c1 =>
        simp only [hs] at h
        obtain ⟨h1, h2, h3⟩ := stv1_fill hs
        have := fillS_ok hpl ps c1 cs' h
        simp only [Instr.fill, hpl i _ hf]
        rw [if_neg (by simp [h1]; omega)]
        have hfold := fold_set v.cells.toList cs.toArray qo 0 (by simpa using h2)
        simp only [Nat.add_zero] at hfold
        have e : (v.cells.zipIdx.foldl (fun cs (c, j) => cs.setIfInBounds (qo + j) c) cs.toArray) = c1.toArray := by
          rw [← Array.foldl_toList, Array.toList_zipIdx, h3]
          simpa using hfold
        rw [e]
        exact this
/-- The operands of a literal's parts. -/
def partsV (n : Nat) (f : Nat → Value) (ps : List (Nat × Operand)) : List (Nat × Value) := ps.map fun p => (p.1, hdv (ev n f p.2))
theorem bu_run [ht : HasTT P] {ps : List (Nat × Operand)} {fs : List (Nat × Nat × Bool)} [hz : HasZ P t cs] (hk : kindOf ht.tt t = .st fs) (hf : fillS fs cs (partsV n f ps) = some cs') {dd : Option Tmp} {gd : Option (Nat × Bool)} (W : World) :
    (execOp (ev n f) ⟨dd, .build t ps.toArray, ty, pos, aft, gd⟩).run P W = .ok (.value (.agg cs'.toArray)) W := by
  obtain ⟨z, hok⟩ := kindOf_ok ht.ok t
  rw [hk] at hok
  unfold okTy at hok
  have hz := hz.ok
  cases hi : P.info? t with
  | none => simp [hi] at hz
  | some i =>
    simp [hi] at hz
    obtain ⟨⟨z0, hz1, hz2⟩, hz3⟩ := hz
    cases hu : P.underlying t with
    | none => simp [hu] at hok
    | some dd =>
      cases dd <;> simp [hu] at hok
      rename_i fields
      obtain ⟨fl, rfl⟩ : ∃ fl : List Field, fields = fl.toArray := ⟨fields.toList, by simp⟩
      have hplaces : ∀ (l : List Field) (fs : List (Nat × Nat × Bool)), okFields P l fs = true → (l.mapM fun f => do Pure.pure (f.offset, ← sizeOf f.type) : Sem (List (Nat × Nat))).run P W = .ok (fs.map fun q => (q.1, q.2.1)) W := by
        intro l
        induction l with
        | nil => intro fs h; cases fs <;> simp [okFields] at h; rfl
        | cons a l ih =>
          intro fs h
          match fs, h with
          | [], h => simp [okFields] at h
          | (q1, q2, q3) :: fs, h =>
            simp only [okFields, Bool.and_eq_true, beq_iff_eq, bne_iff_ne] at h
            obtain ⟨⟨⟨⟨⟨h1, h2⟩, h3⟩, h4⟩, h5⟩, h6⟩ := h
            simp only [List.mapM_cons, Sem.run_bind, run_size h2, Result.andThen_ok, Sem.run_pure, ih fs h6, h1, List.map_cons]
      have hfill := fillS_ok (pl := fun i => ((fs.map fun q => (q.1, q.2.1)).toArray)[i]?) (fs := fs) (fun i q hq => by simp [hq]) _ cs cs' hf
      have hp : (ps.toArray.map fun p => (p.1, ev n f p.2)).toList = partsV n f ps := by simp [partsV, hdv_eq]
      simp only [execOp]
      have e : (Instr.build t (ps.toArray.map fun p => (p.1, ev n f p.2))).run P W = .ok (.agg cs'.toArray) W := by
        unfold Instr.build
        simp only [zeroValue, typeInfo, Sem.run_bind, hz1, Result.andThen_ok, Sem.run_pure, run_under hu]
        have hprog : (program).run P W = .ok P W := rfl
        simp only [hprog, Result.andThen_ok, hi, Sem.run_pure, hz1, List.mapM_toArray, Sem.run_map]
        rw [hplaces fl fs (by simpa using hok.2)]
        simp only [Result.andThen_ok, hp, hz2, hfill, Sem.run_pure]
      simp only [Sem.run_bind]
      rw [e]
      rfl
theorem bu [ht : HasTT P] {ps : List (Nat × Operand)} {fs : List (Nat × Nat × Bool)} [hz : HasZ P t cs] (hk : kindOf ht.tt t = .st fs) (hf : fillS fs cs (partsV n f ps) = some cs')
    (h : WL P ops Q rest n (upd' f d (.agg cs'.toArray)) w) : WL P ops Q (⟨some d, .build t ps.toArray, ty, pos, aft, none⟩ :: rest) n f w :=
  plain rfl (fun W => bu_run hk hf W) h
end
end Z
end Go.Proofs.Ytabpapdickolgaa
