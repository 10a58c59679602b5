/-
  Rules for operations on memory, calls, loops and results. No program in sight.
-/
import Derived.Test.YtabpapdickolgaaZc
namespace Go.Proofs.Ytabpapdickolgaa
open Go.RowKit
set_option linter.unusedSimpArgs false
set_option linter.unusedVariables false
/-- A function of the program with a text. -/
class HasF (P : Program) (F : FuncId) : Prop where
  ok : ∃ fn : Func, P.funcs[F]? = some fn ∧ (fn.name == "runtime.NumGoroutine") = false ∧ fn.body.isSome = true
namespace Z

def stv1 (sz : Nat) (cs : List Value) (o : Nat) (v : Value) : Option (List Value) :=
  match v with
  | .agg vs => cond (Nat.beq sz vs.toList.length && vs.toList.all (·.oneCell'))
      (cond (Nat.beq o 0 && Nat.beq vs.toList.length cs.length) (some vs.toList) (cond (Nat.ble (o + sz) cs.length) (some (cs.take o ++ vs.toList ++ cs.drop (o + sz))) none)) none
  | .tuple _ => none
  | v => match someV v with | none => none | some v => cond (Nat.beq sz 1 && Nat.blt o cs.length) (some (cs.set o v)) none
def stv (tt : List Ty) (ty : Nat) (cs : List Value) (o : Nat) (v : Value) : Option (List Value) :=
  match tt[ty]? with
  | none => none
  | some y =>
    match y.k with
    | .other => none
    | _ => stv1 y.size cs o v

section
variable {P : Program} {K : (Nat → Value) → World → Prop} {Q : Exit → Act → World → Prop} {n : Nat} {f : Nat → Value} {w r : World} {M : List Nat} {L : List Res} {d : Tmp} {dd : Option Tmp} {op : Op} {ty t : TypeId} {pos : String} {aft : Array Edge} {v : Value}
  {x y : Operand} {g o T : Nat} {k : List Res} {cs cs' : List Value}

theorem ok_size [ht : HasTT P] {t : Nat} {y : Ty} (hy : ht.tt[t]? = some y) (hk : y.k ≠ .other) : (P.info? t).map (·.size) = some y.size := by
  have hok := ht.ok t y hy
  obtain ⟨k, sz⟩ := y
  unfold okTy at hok
  apply sizeB_info
  cases hu : P.underlying t with
  | none => cases k <;> simp [hu] at hok <;> exact absurd rfl hk
  | some d => cases k <;> cases d <;> simp [hu] at hok <;> first | exact absurd rfl hk | exact hok | exact hok.1 | exact hok.1.1 | exact hok.1.1.1

/-- A load. -/
theorem ld [ht : HasTT P] (hS : Sep r M L w) (hx : ev n f x = .pointer (some ⟨g, o, none⟩)) (ha : At L k (.blk g T cs)) (hv : ldv ht.tt t cs o = some v)
    (h : K (upd' f d v) w) : WE P ⟨some d, .load t x, ty, pos, aft, none⟩ K Q n f w :=
  .mk fun K' hK => by
    unfold Oper.wp
    rw [act_eval']
    unfold execOp
    simp only [hx, Instr.loadAt, Instr.sureAddr, Sem.run_bind, Sem.run_pure, Result.andThen_ok, ldv_ok (hS.blk ha) hv, Oper.upon_value, act_put]
    exact hK _ _ h
theorem ldvR [ht : HasTT P] (hc : w.rangeAt g o cs) (hl : ldv ht.tt t cs 0 = some v) : (loadVar t ⟨g, o, none⟩).run P w = .ok v w := by
  unfold ldv at hl
  cases hy : ht.tt[t]? with
  | none => simp [hy] at hl
  | some y =>
    have hok := ht.ok t y hy
    obtain ⟨k, sz⟩ := y
    simp only [hy] at hl
    have agg : ∀ dd, P.underlying t = some dd → dd.isRow = true → sizeB P t sz = true → (cond (Nat.beq 0 0 && Nat.beq sz cs.length) (some (.agg cs.toArray)) (cond (Nat.ble (0 + sz) cs.length) (some (.agg ((cs.drop 0).take sz).toArray)) none) : Option Value) = some v →
        (loadVar t ⟨g, o, none⟩).run P w = .ok v w := by
      intro dd hu hd hs hv
      have key : ∀ l : List Value, l = cs.take sz → l.length = sz → v = .agg l.toArray → (loadVar t ⟨g, o, none⟩).run P w = .ok v w := by
        rintro l hl0 hlen hv0
        rw [hv0]
        refine run_loadVar_mid w g o t l dd ?_ hu hd (by rw [sizeB_info hs, hlen])
        intro j u hu'
        rw [hl0, List.getElem?_take] at hu'
        split at hu'
        · exact hc j u hu'
        · cases hu'
      cases h1 : (Nat.beq 0 0 && Nat.beq sz cs.length)
      · rw [h1] at hv
        simp only [cond_false] at hv
        cases h2 : Nat.ble (0 + sz) cs.length
        · rw [h2] at hv; cases hv
        · rw [h2] at hv
          simp only [cond_true, Option.some.injEq, List.drop_zero] at hv
          refine key _ rfl ?_ hv.symm
          have := Nat.le_of_ble_eq_true h2
          simp; omega
      · rw [h1] at hv
        simp only [cond_true, Option.some.injEq] at hv
        simp only [Bool.and_eq_true] at h1
        have e2 := Nat.eq_of_beq_eq_true h1.2
        refine key cs ?_ e2.symm hv.symm
        rw [e2]; simp
    have sc : ∀ dd, P.underlying t = some dd → dd.isRow = false → bindV cs[0]? = some v → (loadVar t ⟨g, o, none⟩).run P w = .ok v w := by
      intro dd hu hd hv
      cases hc0 : cs[0]? with
      | none => simp [hc0, bindV] at hv
      | some u =>
        simp [hc0, bindV_eq] at hv
        subst hv
        have hcell : w.cell? ⟨g, o, none⟩ = some u := by have := hc 0 u hc0; simpa using this
        have hag : (isAgg t).run P w = .ok false w := by
          unfold isAgg
          simp only [Sem.run_bind, run_under hu, Result.andThen_ok]
          cases dd <;> first | rfl | cases hd
        simp [loadVar, hag, go_sem, hcell]
    unfold okTy at hok
    cases hu : P.underlying t with
    | none => cases k <;> simp [hu] at hok <;> simp at hl
    | some dd =>
      cases k <;> cases dd <;> simp [hu] at hok <;> first | (simp at hl; done) | exact sc _ hu rfl hl | exact agg _ hu rfl (by first | exact hok | exact hok.1 | exact hok.1.1 | exact hok.1.1.1) hl
/-- A load of cells that lie somewhere. -/
theorem ldR [ht : HasTT P] (hx : ev n f x = .pointer (some ⟨g, o, none⟩)) (hc : w.rangeAt g o cs) (hl : ldv ht.tt t cs 0 = some v)
    (h : K (upd' f d v) w) : WE P ⟨some d, .load t x, ty, pos, aft, none⟩ K Q n f w :=
  .mk fun K' hK => by
    unfold Oper.wp
    rw [act_eval']
    unfold execOp
    simp only [hx, Instr.loadAt, Instr.sureAddr, Sem.run_bind, Sem.run_pure, Result.andThen_ok, ldvR hc hl, Oper.upon_value, act_put]
    exact hK _ _ h
theorem range_drop (hc : w.rangeAt g o cs) (q : Nat) : w.rangeAt g (o + q) (cs.drop q) := fun j u hu => by
  rw [List.getElem?_drop] at hu
  have := hc _ u hu
  rw [Nat.add_assoc]
  exact this
/-- A load out of a row that lies somewhere. -/
theorem ldE [ht : HasTT P] {q : Nat} (hx : ev n f x = .pointer (some ⟨g, o + q, none⟩)) (hc : w.rangeAt g o cs) (hl : ldv ht.tt t (cs.drop q) 0 = some v)
    (h : K (upd' f d v) w) : WE P ⟨some d, .load t x, ty, pos, aft, none⟩ K Q n f w := ldR hx (range_drop hc q) hl h
theorem stv_ok [ht : HasTT P] (hb : Blk w g T cs.toArray) (hv : stv ht.tt t cs o v = some cs') : ∃ w', (storeVar t ⟨g, o, none⟩ v).run P w = .ok () w' ∧ Blk w' g T cs'.toArray ∧ Chg [g] w w' := by
  unfold stv at hv
  cases hy : ht.tt[t]? with
  | none => simp [hy] at hv
  | some y =>
    simp only [hy] at hv
    have hk : y.k ≠ .other := by intro e; simp [e] at hv
    have hsz := ok_size hy hk
    have there : ∀ m, o + m ≤ cs.length → w.there g o m := fun m hm j hj => by
      rw [hb.cell, hb.frozen]
      exact ⟨by rw [Array.getElem?_eq_getElem (by simp; omega)]; rfl, rfl⟩
    have hv' : stv1 y.size cs o v = some cs' := by
      cases hk' : y.k <;> simp only [hk'] at hv <;> first | exact hv | exact absurd hk' hk
    clear hv
    have one : v.oneCell' = true → (cond (Nat.beq y.size 1 && Nat.blt o cs.length) (some (cs.set o v)) none : Option (List Value)) = some cs' → ∃ w', (storeVar t ⟨g, o, none⟩ v).run P w = .ok () w' ∧ Blk w' g T cs'.toArray ∧ Chg [g] w w' := by
      intro h1 h2
      cases h3 : (Nat.beq y.size 1 && Nat.blt o cs.length)
      · rw [h3] at h2; cases h2
      · rw [h3] at h2
        simp only [cond_true, Option.some.injEq] at h2
        simp only [Bool.and_eq_true] at h3
        have e1 := Nat.eq_of_beq_eq_true h3.1
        have hlt : o < cs.length := by simpa [Nat.blt_eq] using h3.2
        refine ⟨w.setCell ⟨g, o, none⟩ v, ?_, ?_, (Chg.refl _ _).setCell (.inl (by simp)) _⟩
        · have hcells : v.cells = #[v] := by cases v <;> first | rfl | cases h1
          have hc : w.cell? ⟨g, o, none⟩ = some cs[o] := by rw [hb.cell]; simp [hlt]
          cases hi : P.info? t with
          | none => simp [hi] at hsz
          | some i =>
            simp [hi, e1] at hsz
            have := run_store P w ⟨g, o, none⟩ v .plain h1
            rw [hc, hb.frozen] at this
            simp only [Bool.false_eq_true, if_false] at this
            simp [storeVar, sizeOf, typeInfo, hi, hcells, hsz, storeCells, Addr.add, this]
        · have := hb.set o v
          rw [← h2]
          simpa using this
    unfold stv1 at hv'
    cases v with
    | agg vs =>
      simp only at hv'
      cases h1 : (Nat.beq y.size vs.toList.length && vs.toList.all (·.oneCell'))
      · rw [h1] at hv'; cases hv'
      · rw [h1] at hv'
        simp only [Bool.and_eq_true] at h1
        have e1 := Nat.eq_of_beq_eq_true h1.1
        have hall : vs.all (·.oneCell') = true := by rw [← Array.all_toList]; exact h1.2
        have hlen : vs.toList.length = vs.size := by simp
        simp only [cond_true] at hv'
        cases h2 : (Nat.beq o 0 && Nat.beq vs.toList.length cs.length)
        · rw [h2] at hv'
          simp only [cond_false] at hv'
          cases h3 : Nat.ble (o + y.size) cs.length
          · rw [h3] at hv'; cases hv'
          · rw [h3] at hv'
            simp only [cond_true, Option.some.injEq] at hv'
            have h4 := Nat.le_of_ble_eq_true h3
            refine ⟨_, run_storeVar_mid w g o t vs (there _ (by omega)) (by rw [hsz]; simp; omega) hall, ?_, chg_setCells g _ o w⟩
            have := blk_setCells vs.toList o w cs.toArray hb (by simp; omega)
            rw [← hv', e1]
            simpa using this
        · rw [h2] at hv'
          simp only [cond_true, Option.some.injEq] at hv'
          simp only [Bool.and_eq_true] at h2
          have e2 := Nat.eq_of_beq_eq_true h2.1
          have e3 := Nat.eq_of_beq_eq_true h2.2
          subst e2
          refine ⟨_, run_storeVar_mid w g 0 t vs (there _ (by omega)) (by rw [hsz]; simp; omega) hall, ?_, chg_setCells g _ 0 w⟩
          rw [← hv']
          exact blk_setCells_all hb (by simp; omega)
    | tuple _ => cases hv'
    | _ => exact one rfl hv'
/-- A store. -/
theorem st [ht : HasTT P] (hS : Sep r M L w) (hx : ev n f x = .pointer (some ⟨g, o, none⟩)) (ha : At L k (.blk g T cs)) (hy : ev n f y = v) (hv : stv ht.tt t cs o v = some cs')
    (h : ∀ w', Sep r M (.blk g T cs' :: k) w' → K f w') : WE P ⟨none, .store t x y, ty, pos, aft, none⟩ K Q n f w :=
  .mk fun K' hK => by
    obtain ⟨w', hrun, hb, hc⟩ := stv_ok (P := P) (hS.blk ha) hv
    unfold Oper.wp
    rw [act_eval']
    unfold execOp
    simp only [hx, hy, Instr.storeAt, Instr.sureAddr, Sem.run_bind, Sem.run_pure, Result.andThen_ok, hrun, Oper.upon_skip, act_put]
    exact hK _ _ (h w' (hS.put ha hc hb))
/-- A new variable. -/
theorem al [hz : HasZ P t cs] (hS : Sep r M L w) (h : ∀ g w', Sep r M (.blk g t cs :: L) w' → w.heap.size ≤ g → K (upd' f d (.pointer (some ⟨g, 0, none⟩))) w') :
    WE P ⟨some d, .alloc t, ty, pos, aft, none⟩ K Q n f w :=
  .mk fun K' hK => by
    have hz := hz.ok
    cases hi : P.info? t with
    | none => simp [hi] at hz
    | some i =>
      simp [hi] at hz
      obtain ⟨⟨z, hz1, hz2⟩, hz3⟩ := hz
      unfold Oper.wp
      unfold execOp
      have : (Instr.alloc t true (.tuple #[])).run P w = .ok (.pointer (some ⟨w.heap.size, 0, none⟩)) (w.alloc (.cells cs.toArray t)) := by
        have e : (Instr.alloc t true (.tuple #[])).run P w = .ok (.pointer (some ⟨w.heap.size, 0, none⟩)) (w.alloc (.cells z.cells t)) := by
          simp [Instr.alloc, zeroValue, typeInfo, hi, hz1, newVar, newRow, go_sem]
        rw [e, hz2]
      simp only [Sem.run_bind, this, Result.andThen_ok, Sem.run_pure, Oper.upon_value, act_put]
      exact hK _ _ (h _ _ (hS.box t cs) (Nat.le_refl _))
/-- A value laid into memory. -/
def vcells : Value → Option (List Value)
  | .agg cs => some cs.toList
  | .tuple _ => none
  | v => match someV v with | some u => some [u] | none => none
theorem vcells_ok {v : Value} (h : vcells v = some cs) : v.cells.toList = cs := by
  cases v <;> simp [vcells, someV] at h <;> first | (subst h; rfl)
theorem bx (hS : Sep r M L w) (hx : vcells (ev n f x) = some cs) (h : ∀ g w', Sep r M (.blk g t cs :: L) w' → w.heap.size ≤ g → K (upd' f d (.pointer (some ⟨g, 0, none⟩))) w') :
    WE P ⟨some d, .box t x, ty, pos, aft, none⟩ K Q n f w :=
  .mk fun K' hK => by
    unfold Oper.wp
    rw [act_eval']
    unfold execOp
    have hc := vcells_ok hx
    have : (Instr.box t (ev n f x)).run P w = .ok (.pointer (some ⟨w.heap.size, 0, none⟩)) (w.alloc (.cells cs.toArray t)) := by
      simp [Instr.box, newVar, newRow, go_sem, ← hc]
    simp only [Sem.run_bind, this, Result.andThen_ok, Sem.run_pure, Oper.upon_value, act_put]
    exact hK _ _ (h _ _ (hS.box t cs) (Nat.le_refl _))

/-- A call of a function of the program. -/
theorem cl {F : FuncId} [hfn : HasF P F] {args : List Operand} {ats : Array TypeId} {as : Array Value} {R : Ending → World → Prop} (h : Calls P F as w R) (ha : args.map (ev n f) = as.toList)
    (hk : ∀ e w', R e w' → ∃ v, e = .returned v ∧ K (upd' f d v) w') : WE P ⟨some d, .call ⟨.value (.func F), args.toArray, ats⟩, ty, pos, aft, none⟩ K Q n f w :=
  .mk fun K' hK => by
    unfold Oper.wp
    rw [act_eval']
    have has : (List.map (ev n f) args).toArray = as := by rw [ha]
    have : (execOp (ev n f) ⟨some d, .call ⟨.value (.func F), args.toArray, ats⟩, ty, pos, aft, none⟩).run P w = .ok (.enter F as) w := by
      obtain ⟨fn, hF, hn, hb⟩ := hfn.ok
      have hn' : fn.name ≠ "runtime.NumGoroutine" := by simpa using hn
      obtain ⟨c, hc⟩ := Option.isSome_iff_exists.1 hb
      simp [execOp, resolve, ev, Deferred.ofValue, invoke, callFunc, hF, hn', hc, has, go_sem]
    rw [this, Oper.upon_enter]
    refine h.mono ?_
    intro e w' hR
    obtain ⟨v, rfl, hw⟩ := hk e w' hR
    simp only [act_put]
    exact hK _ _ hw
theorem cl0 {F : FuncId} [hfn : HasF P F] {args : List Operand} {ats : Array TypeId} {as : Array Value} {R : Ending → World → Prop} (h : Calls P F as w R) (ha : args.map (ev n f) = as.toList)
    (hk : ∀ e w', R e w' → ∃ v, e = .returned v ∧ K f w') : WE P ⟨none, .call ⟨.value (.func F), args.toArray, ats⟩, ty, pos, aft, none⟩ K Q n f w :=
  .mk fun K' hK => by
    unfold Oper.wp
    rw [act_eval']
    have has : (List.map (ev n f) args).toArray = as := by rw [ha]
    have : (execOp (ev n f) ⟨none, .call ⟨.value (.func F), args.toArray, ats⟩, ty, pos, aft, none⟩).run P w = .ok (.enter F as) w := by
      obtain ⟨fn, hF, hn, hb⟩ := hfn.ok
      have hn' : fn.name ≠ "runtime.NumGoroutine" := by simpa using hn
      obtain ⟨c, hc⟩ := Option.isSome_iff_exists.1 hb
      simp [execOp, resolve, ev, Deferred.ofValue, invoke, callFunc, hF, hn', hc, has, go_sem]
    rw [this, Oper.upon_enter]
    refine h.mono ?_
    intro e w' hR
    obtain ⟨v, rfl, hw⟩ := hk e w' hR
    simp only [act_put]
    exact hK _ _ hw
end

/-! Results. -/
inductive RV (P : Program) [ht : HasTT P] (n : Nat) (f : Nat → Value) (r : World) (M : List Nat) (L : List Res) (w : World) : List ResultVar → List Value → Prop
  | nil : RV P n f r M L w [] []
  | tmp {t : Tmp} {v : Value} {rs : List ResultVar} {vs : List Value} : someV (ev n f (.tmp t)) = some v → RV P n f r M L w rs vs → RV P n f r M L w (.tmp t :: rs) (v :: vs)
  | cell {a : Tmp} {t g o T : Nat} {k : List Res} {cs : List Value} {v : Value} {rs : List ResultVar} {vs : List Value} : ev n f (.tmp a) = .pointer (some ⟨g, o, none⟩) → At L k (.blk g T cs) → ldv ht.tt t cs o = some v → RV P n f r M L w rs vs → RV P n f r M L w (.cell a t :: rs) (v :: vs)
section
variable {P : Program} {n : Nat} {f : Nat → Value} {w r : World} {M : List Nat} {L : List Res} {fn : Func} {R : Ending → World → Prop} {vs : List Value} {rs : List ResultVar}
theorem RV.run [ht : HasTT P] (hS : Sep r M L w) (φ : ResultVar → Sem Value) (h1 : ∀ t, φ (.tmp t) = Pure.pure ((fr n f).getD t undef)) (h2 : ∀ a t, φ (.cell a t) = do loadVar t (← asAddr ((fr n f).getD a undef)))
    (h : RV P n f r M L w rs vs) : (rs.mapM φ).run P w = .ok vs w := by
  induction h with
  | nil => rfl
  | tmp hv _ ih =>
    simp only [List.mapM_cons, h1, Sem.run_bind, Sem.run_pure, Result.andThen_ok, ih, fr_getD]
    rw [someV_eq] at hv
    injection hv with hv
    rw [← hv]
    rfl
  | cell ha hat hl _ ih =>
    simp only [List.mapM_cons, h2, Sem.run_bind, ih, fr_getD]
    have : ∀ x, ev n f (.tmp x) = (bif Nat.blt x n then f x else undef) := fun _ => rfl
    rw [← this, ha]
    simp only [asAddr, Sem.run_pure, Result.andThen_ok, ldv_ok (hS.blk hat) hl, ih]
def packR : List Value → Value
  | [v] => v
  | vs => .tuple vs.toArray
theorem results_ok [ht : HasTT P] (hS : Sep r M L w) (hr : fn.results = rs.toArray) (h : RV P n f r M L w rs vs) : (results fn (fr n f)).run P w = .ok (packR vs) w := by
  unfold results
  rw [hr, List.mapM_toArray]
  simp only [Sem.run_bind, Sem.run_map]
  rw [RV.run hS _ (fun t => ?_) (fun a t => ?_) h]
  · simp only [Result.andThen_ok, Sem.run_pure]
    congr 1
    match vs with
    | [] => rfl
    | [v] => rfl
    | _ :: _ :: _ => simp [packR]
  · rfl
  · rfl
/-- The end. -/
theorem done [ht : HasTT P] (hS : Sep r M L w) (hr : fn.results = rs.toArray) (h : RV P n f r M L w rs vs) (hR : R (.returned (packR vs)) w) : bodyPost P fn R .ret (act n f) w :=
  ⟨rfl, _, results_ok hS hr h, hR⟩
theorem doneN [ht : HasTT P] (hS : Sep r M L w) (hr : fn.results = rs.toArray) (h : RV P n f r M L w rs vs) (hR : R (.returned (packR vs)) w) : bodyPost P fn R .normal (act n f) w :=
  ⟨rfl, _, results_ok hS hr h, hR⟩
end
end Z
end Go.Proofs.Ytabpapdickolgaa
