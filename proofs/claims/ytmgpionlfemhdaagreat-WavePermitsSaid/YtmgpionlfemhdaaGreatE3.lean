/-
  More rules: min, make of a slice. No program in sight.
  Literals of arrays. No program in sight.
  Method values: functions with bound arguments. No program in sight.
  A region that draws its order, by a graph of states. No program in sight.
  Two pointers to blocks of their own are not equal. No program in sight.
-/
import Derived.Test.YtmgpionlfemhdaaGreatE2
import Derived.Test.YtmgpionlfemhdaaGreatE1
import Derived.LaidEqlPtr
namespace Go.Proofs.YtmgpionlfemhdaaGreat
open Go.RowKit
set_option linter.unusedSimpArgs false
set_option linter.unusedVariables false

section
variable {P : Program} {n : Nat} {f : Nat → Value} {d : Option Tmp} {ty t : TypeId} {pos : String} {aft : Array Edge} {gd : Option (Nat × Bool)} {x y : Operand}
/-- min(a, b) -/
theorem R.min2 {ats : Array TypeId} {a b : Int} (hx : ev n f x = .int .i64 a) (hy : ev n f y = .int .i64 b) : Runs P n f ⟨d, .call ⟨.builtin .min, #[x, y], ats⟩, ty, pos, aft, gd⟩ (.int .i64 (min a b)) := by
  refine ⟨fun W => ?_⟩
  have e : (if b < a then b else a) = min a b := by split <;> omega
  simp [execOp, resolve, invoke, builtin, hx, hy, run_min_int2, e]
end
section
variable {P : Program} {Q : Exit → Act → World → Prop} {K : (Nat → Value) → World → Prop} {n : Nat} {f : Nat → Value} {w r : World} {M : List Nat} {L k : List Res} {d : Tmp} {ty t e sz bytes : TypeId} {pos : String} {aft : Array Edge} {x y : Operand} {zs : List Value}
/-- make([]T, l, c) -/
theorem Z.mks [ht : HasTT P] {l c : Nat} (hS : Sep r M L w) (hx : ev n f x = .int .i64 (l : Int)) (hy : ev n f y = .int .i64 (c : Int)) (hk : kindOf ht.tt t = .sl e sz) [he : HasE P e sz bytes] [hz : HasZ P e zs] (hlc : l ≤ c) (hb : bytes * c ≤ 281474976710656) (hm : c ≤ maxLen)
    (h : ∀ g w', Sep r M (.blk g e (zerosL zs c) :: L) w' → w.heap.size ≤ g → K (upd' f d (.slice (some ⟨g, 0, none⟩) l c)) w') : WE P ⟨some d, .makeSlice t x y, ty, pos, aft, none⟩ K Q n f w := by
  refine ⟨fun K' hK => ?_⟩
  obtain ⟨hu, hs⟩ := kind_sl hk
  obtain ⟨i, z, hi, hz1, hsz, hby, hzs, h0⟩ := he.ok
  have hz' := hz.ok
  simp [hi, hz1] at hz'
  obtain ⟨hz2, hz3⟩ := hz'
  have hb' : (i.bytes : Int) * (c : Int) ≤ 281474976710656 := by
    rw [hby]
    have h1 : ((bytes * c : Nat) : Int) ≤ ((281474976710656 : Nat) : Int) := Int.ofNat_le.2 hb
    rw [Int.natCast_mul] at h1
    exact h1
  have hm' : (c : Int) ≤ 9223372036854775807 := by unfold maxLen at hm; omega
  have hrun := run_make (P := P) w t e i z hu hi hz1 .i64 .i64 (l : Int) (c : Int) (by omega) (by omega) hb' hm'
  simp only [Int.toNat_natCast] at hrun
  have hmc : madeCells z.cells (c * i.size) = (zerosL zs c).toArray := by
    have h1 := zerosL_ok zs c
    rw [hz2, hz3]
    exact h1
  rw [hmc] at hrun
  unfold Oper.wp
  rw [act_eval']
  unfold execOp
  simp only [hx, hy, Sem.run_bind]
  rw [hrun]
  simp only [Result.andThen_ok, Sem.run_pure, Oper.upon_value, act_put]
  exact hK _ _ (h _ _ (hS.box e (zerosL zs c)) (Nat.le_refl _))
end
/-- What is made since w stands beside what is there. -/
theorem Sep.over {r w w' : World} {M : List Nat} {L L' : List Res} (h : Sep r M L w) (h' : Sep w [] L' w') : Sep r M (L' ++ L) w' := by
  obtain ⟨fp, k1, k2, k3, k4⟩ := h'.ex
  exact Sep.all_open.1 (h.add (R' := .all L') (f2 := fp) h'.chg k1 k2 fun b hb => ⟨k3 b hb, (k4 b hb).resolve_left (by simp)⟩)
end Go.Proofs.YtmgpionlfemhdaaGreat

namespace Go.Proofs.YtmgpionlfemhdaaGreat
open Go.RowKit
set_option linter.unusedSimpArgs false
set_option linter.unusedVariables false
namespace Z
section
variable {P : Program} {ops : Array Oper} {Q : Exit → Act → World → Prop} {n : Nat} {f : Nat → Value} {w : World} {rest : List Oper} {d : Tmp} {t ty : TypeId} {pos : String} {aft : Array Edge} {cs cs' : List Value}
theorem buA_run [ht : HasTT P] {ps : List (Nat × Operand)} {m e sz : Nat} [hz : HasZ P t cs] (hk : kindOf ht.tt t = .ar m e sz) (hf : fillA sz cs (partsV n f ps) = some cs') {dd : Option Tmp} {gd : Option (Nat × Bool)} (W : World) :
    (execOp (ev n f) ⟨dd, .build t ps.toArray, ty, pos, aft, gd⟩).run P W = .ok (.value (.agg cs'.toArray)) W := by
  obtain ⟨hu, hs⟩ := kind_ar hk
  have hz := hz.ok
  cases hi : P.info? t with
  | none => simp [hi] at hz
  | some i =>
    simp [hi] at hz
    obtain ⟨⟨z0, hz1, hz2⟩, hz3⟩ := hz
    have hfill := fillA_ok _ cs cs' hf
    have hp : (ps.toArray.map fun p => (p.1, ev n f p.2)).toList = partsV n f ps := by simp [partsV, hdv_eq]
    simp only [execOp]
    have e : (Instr.build t (ps.toArray.map fun p => (p.1, ev n f p.2))).run P W = .ok (.agg cs'.toArray) W := by
      unfold Instr.build
      simp only [zeroValue, typeInfo, Sem.run_bind, hz1, Result.andThen_ok, Sem.run_pure, run_under hu]
      have hprog : (program).run P W = .ok P W := rfl
      simp only [hprog, Result.andThen_ok, hi, Sem.run_pure, hz1, run_size hs, hp, hz2, hfill]
    simp only [Sem.run_bind]
    rw [e]
    rfl
theorem buA [ht : HasTT P] {ps : List (Nat × Operand)} {m e sz : Nat} [hz : HasZ P t cs] (hk : kindOf ht.tt t = .ar m e sz) (hf : fillA sz cs (partsV n f ps) = some cs')
    (h : WL P ops Q rest n (upd' f d (.agg cs'.toArray)) w) : WL P ops Q (⟨some d, .build t ps.toArray, ty, pos, aft, none⟩ :: rest) n f w :=
  plain rfl (fun W => buA_run hk hf W) h
theorem _root_.Go.Proofs.YtmgpionlfemhdaaGreat.D.buA [ht : HasTT P] {S : World → Prop} {L k mm : Nat} (i m' : Nat) {ps : List (Nat × Operand)} {m e sz : Nat} {gd : Option (Nat × Bool)} [hz : HasZ P t cs] (hi : ops[i]? = some ⟨some d, .build t ps.toArray, ty, pos, aft, gd⟩) (hw : Region.wanted ⟨some d, .build t ps.toArray, ty, pos, aft, gd⟩ (yielded ops (fr n f)) = true) (hc : okTake ops L mm m' i = true) (hk : kindOf ht.tt t = .ar m e sz) (hf : fillA sz cs (partsV n f ps) = some cs')
    (h : WR P ops Q S L k m' n (upd' f d (.agg cs'.toArray)) w) : WR P ops Q S L (k + 1) mm n f w :=
  D.pl i m' hi hw hc ⟨fun W => buA_run hk hf W⟩ h
end
end Z
end Go.Proofs.YtmgpionlfemhdaaGreat

namespace Go.Proofs.YtmgpionlfemhdaaGreat
open Go.RowKit
set_option linter.unusedSimpArgs false
set_option linter.unusedVariables false
section
variable {P : Program} {ops : Array Oper} {Q : Exit → Act → World → Prop} {K : (Nat → Value) → World → Prop} {n : Nat} {f : Nat → Value} {w : World} {d : Tmp} {dd : Option Tmp} {ty : TypeId} {pos : String} {aft : Array Edge} {gd : Option (Nat × Bool)}
theorem R.mfb {fn : Fn} {bnd : List Operand} : Runs P n f ⟨dd, .makeFunc fn bnd.toArray #[], ty, pos, aft, gd⟩ (.func fn (bnd.map (ev n f)).toArray #[]) :=
  ⟨fun W => by simp [execOp, Instr.makeFunc]⟩
theorem Z.clb {F : FuncId} [hfn : HasF P F] {c : Operand} {bnd : List Value} {args : List Operand} {ats : Array TypeId} {avs : Array Value} {R : Ending → World → Prop} (hc : ev n f c = .func (.func F) bnd.toArray #[]) (h : Calls P F avs w R) (ha : bnd ++ args.map (ev n f) = avs.toList)
    (hk : ∀ e w', R e w' → ∃ v, e = .returned v ∧ K (upd' f d v) w') : WE P ⟨some d, .call ⟨.value c, args.toArray, ats⟩, ty, pos, aft, none⟩ K Q n f w :=
  .mk fun K' hK => by
    unfold Oper.wp
    rw [act_eval']
    have has : bnd.toArray ++ (List.map (ev n f) args).toArray = avs := by rw [List.append_toArray, ha]
    have : (execOp (ev n f) ⟨some d, .call ⟨.value c, args.toArray, ats⟩, ty, pos, aft, none⟩).run P w = .ok (.enter F avs) w := by
      obtain ⟨fn, hF, hn, hb⟩ := hfn.ok
      have hn' : fn.name ≠ "runtime.NumGoroutine" := by simpa using hn
      obtain ⟨c', hc'⟩ := Option.isSome_iff_exists.1 hb
      simp only [execOp, resolve, hc, Deferred.ofValue, Sem.run_bind, Sem.run_pure, Result.andThen_ok, invoke]
      have e1 : (bnd.toArray ++ Array.map (ev n f) args.toArray) ++ #[] = avs := by rw [← has]; simp
      simp [callFunc, hF, hn', hc', go_sem] at e1 ⊢
      rw [← e1]
    rw [this, Oper.upon_enter]
    refine h.mono ?_
    intro e w' hR
    obtain ⟨v, rfl, hw⟩ := hk e w' hR
    simp only [act_put]
    exact hK _ _ hw
end
end Go.Proofs.YtmgpionlfemhdaaGreat

namespace Go.Proofs.YtmgpionlfemhdaaGreat
open Go.RowKit
set_option linter.unusedSimpArgs false
set_option linter.unusedVariables false
theorem Same.trans {Ms : List Nat} {f g h : Nat → Value} (h1 : Same Ms f g) (h2 : Same Ms g h) : Same Ms f h := fun i hi => (h1 i hi).trans (h2 i hi)
namespace D
section
variable {P : Program} {ops : Array Oper} {Q : Exit → Act → World → Prop} {S : World → Prop} {L n : Nat}
theorem EWall {k m : Nat} {f : Nat → Value} {w : World} {J : Nat → (Nat → Value) → World → Prop} : ∀ rs : List Nat,
    (∀ i, i ∈ rs → okStep ops m (m ||| 2 ^ i) i = true ∧ (∃ oi, ops[i]? = some oi ∧ oi.guard = none ∧ WE P oi (J i) (NoPanic Q) n f w) ∧ ∀ f' w', J i f' w' → (HM ops S L (m ||| 2 ^ i) w' ∧ WR P ops Q S L k (m ||| 2 ^ i) n f' w')) →
    EW P ops Q S L k m n f w rs
  | [], _ => enil
  | i :: rs, h => by
    obtain ⟨h1, ⟨⟨dd, op, ty, pos, aft, gd⟩, hi, hg, hw⟩, h3⟩ := h i (List.mem_cons_self ..)
    cases hg
    exact econs i _ hi wantedN h1 h3 hw (EWall rs fun j hj => h j (List.mem_cons_of_mem _ hj))
/-- Every order runs through a graph of states: I holds of each. -/
theorem graph {σ : Type} [BEq σ] [LawfulBEq σ] (I : σ → (Nat → Value) → World → Prop) (ok : σ → Nat → Bool) (next : σ → Nat → σ) (fin : σ → Bool) (ms : List (Nat × Nat × σ))
    (hc : ms.all (fun x => match Region.ready .any ops (listedOf ops.size x.2.1) with | [] => fin x.2.2 | i :: rs => Nat.blt 0 x.1 && (i :: rs).all fun i => ok x.2.2 i && (okStep ops x.2.1 (x.2.1 ||| 2 ^ i) i && ms.elem (x.1 - 1, x.2.1 ||| 2 ^ i, next x.2.2 i))) = true)
    (hS : ∀ s f w, I s f w → S w)
    (hst : ∀ s i f w, ok s i = true → I s f w → ∃ oi, ops[i]? = some oi ∧ oi.guard = none ∧ WE P oi (I (next s i)) (NoPanic Q) n f w)
    (hend : ∀ s f w, fin s = true → I s f w → Q .normal (act n f) w) :
    ∀ k m s f w, (k, m, s) ∈ ms → I s f w → WR P ops Q S L k m n f w := by
  intro k
  induction k with
  | zero =>
    intro m s f w hm hI
    have := List.all_eq_true.1 hc _ hm
    dsimp only at this
    split at this
    · rename_i he
      exact done he (hend s f w this hI)
    · simp at this
  | succ k ih =>
    intro m s f w hm hI
    have := List.all_eq_true.1 hc _ hm
    dsimp only at this
    split at this
    · rename_i he
      exact done he (hend s f w this hI)
    · rename_i i rs he
      rw [Bool.and_eq_true] at this
      refine each (i :: rs) he rfl (EWall (J := fun j => I (next s j)) _ fun j hj => ?_)
      have hj := List.all_eq_true.1 this.2 j hj
      rw [Bool.and_eq_true, Bool.and_eq_true] at hj
      refine ⟨hj.2.1, hst s j f w hj.1 hI, fun f' w' hI' => ⟨.s (hS _ _ _ hI'), ih _ _ _ _ ?_ hI'⟩⟩
      have := List.elem_iff.1 hj.2.2
      simpa using this
end
end D
end Go.Proofs.YtmgpionlfemhdaaGreat

namespace Go.Proofs.YtmgpionlfemhdaaGreat
open Go.RowKit
set_option linter.unusedSimpArgs false
set_option linter.unusedVariables false

section
variable {P : Program} {K : (Nat → Value) → World → Prop} {Q : Exit → Act → World → Prop} {n : Nat} {f : Nat → Value} {w r : World} {M : List Nat} {L : List Res} {d : Tmp} {ty t t' : TypeId} {pos : String} {aft : Array Edge} {x y : Operand} {a b T T' : Nat} {cs cs' : List Value} {k k' : List Res}
theorem holdsL_mem {R : Res} : ∀ {L k : List Res}, At L k R → ∀ {w : World} {fp : List Nat}, holdsL L w fp → ∃ f1, R.holds w f1 ∧ ∀ b, b ∈ f1 → b ∈ fp := by
  intro L k ha w fp h
  obtain ⟨f1, f2, h1, _, hp⟩ := holdsL_focus ha h
  exact ⟨f1, h1, fun b hb => hp.symm.subset (by simp [hb])⟩
theorem Sep.apart (h : Sep r M (.blk a T cs :: L) w) (ha : At L k (.blk b T' cs')) : a ≠ b := by
  obtain ⟨fp, ⟨f1, f2, rfl, h1, h2⟩, hn, _⟩ := h.ex
  obtain ⟨f3, h3, hs⟩ := holdsL_mem ha h2
  have e1 : f1 = [a] := h1.1
  have e3 : f3 = [b] := h3.1
  subst e1 e3
  rintro rfl
  have hb := hs a (by simp)
  rw [List.nodup_append] at hn
  exact hn.2.2 a (by simp) a hb rfl
/-- Pointers to blocks of their own: not equal. -/
theorem Z.pne [hq : HasTT P] (hS : Sep r M L w) (hx : ev n f x = .pointer (some ⟨a, 0, none⟩)) (hy : ev n f y = .pointer (some ⟨b, 0, none⟩)) {te : TypeId} (hp : P.underlying t = some (.pointer te)) (hte : (P.info? te).map (fun i => Nat.beq i.size 0) = some false)
    (ha : At L k (.blk a T cs)) (hb : At L k' (.blk b T' cs')) (hne : a ≠ b) (h : K (upd' f d (.bool false)) w) : WE P ⟨some d, .binOp .eql t x y t', ty, pos, aft, none⟩ K Q n f w :=
  .mk fun K' hK => by
    unfold Oper.wp
    rw [act_eval']
    unfold execOp
    have hba : Blk w a T cs.toArray := hS.blk ha
    have hbb : Blk w b T' cs'.toArray := hS.blk hb
    obtain ⟨j, hj, hj2⟩ := Option.map_eq_some_iff.1 hte
    have hsz' : j.size ≠ 0 := fun e => by rw [e] at hj2; cases hj2
    have hg : (eqGuard .eql t x y (.pointer (some ⟨a, 0, none⟩)) (.pointer (some ⟨b, 0, none⟩))).run P w = .ok () w := Go.Proofs.YtmgpionlfemhdaaGreat.eqGuard_none .eql t x y (fun c h => by cases h) (fun h => by cases h) w
    have he := run_eql_ptr_other (P := P) w (a := ⟨a, 0, none⟩) (b := ⟨b, 0, none⟩) hp hj hsz' (fun e => hne (congrArg Addr.block e)) hba hbb
    simp only [hx, hy, Sem.run_bind, hg, Result.andThen_ok, he, Sem.run_pure, Oper.upon_value, act_put]
    exact hK _ _ h
end
end Go.Proofs.YtmgpionlfemhdaaGreat
