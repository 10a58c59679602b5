/-
  Rules for regions that draw their order. No program in sight.
-/
import Derived.Test.YtabpapdickolgaaZe
namespace Go.Proofs.Ytabpapdickolgaa
open Go.RowKit
set_option linter.unusedSimpArgs false
set_option linter.unusedVariables false

/-- Whatever order is picked from here on: of the operations those of m have come up; S holds until L has come up. -/
structure WR (P : Program) (ops : Array Oper) (Q : Exit → Act → World → Prop) (S : World → Prop) (L k m n : Nat) (f : Nat → Value) (w : World) : Prop where
  out : HM ops S L m w → RM P ops Q S L k m (act n f) w

structure EW (P : Program) (ops : Array Oper) (Q : Exit → Act → World → Prop) (S : World → Prop) (L k m n : Nat) (f : Nat → Value) (w : World) (rs : List Nat) : Prop where
  out : EM P ops Q S L k m (act n f) w rs

namespace D
section
variable {P : Program} {ops : Array Oper} {Q : Exit → Act → World → Prop} {S : World → Prop} {L k m n : Nat} {f : Nat → Value} {w : World} {d : Tmp} {dd : Option Tmp} {op : Op} {ty t : TypeId} {pos : String} {aft : Array Edge} {gd : Option (Nat × Bool)} {v : Value}
  {x y : Operand} {g o T : Nat} {cs cs' : List Value}

theorem start (S : World → Prop) (L N : Nat) {id : Nat} (hm : P.follows .mixedOrders = true) (hn : Nat.beq ops.toList.length N = true) (hS : S w.drew) (h : WR P ops Q S L N 0 n f w.drew) : WC P (.region id ops true) Q n f w :=
  ⟨RM.region S L N hm (by have := Nat.eq_of_beq_eq_true hn; simpa using this) hS h.out⟩
theorem startS {r : World} {M : List Nat} {Lr : List Res} (hS : Sep r M Lr w) (L N : Nat) {id : Nat} (hm : P.follows .mixedOrders = true) (hn : Nat.beq ops.toList.length N = true) (h : WR P ops Q (Sep r M Lr) L N 0 n f w.drew) : WC P (.region id ops true) Q n f w :=
  start (Sep r M Lr) L N hm hn hS.drew h
theorem first (i m' : Nat) {oi : Oper} (hi : ops[i]? = some oi) (hc : okTake ops L m m' i = true) (hw : Region.wanted oi (yielded ops (fr n f)) = true) (hr : ∀ W, (execOp (ev n f) oi).run P W = .ok (.value v) W)
    (h : WR P ops Q S L k m' n (putf f oi.dst v) w) : WR P ops Q S L (k + 1) m n f w := by
  refine ⟨fun hH => ?_⟩
  simp only [okTake, Bool.and_eq_true, decide_eq_true_eq, beq_iff_eq] at hc
  obtain ⟨⟨hlt, rfl⟩, hc⟩ := hc
  have h := h.out
  unfold RM HM at *
  rw [← listedOf_set hlt] at h
  refine RG.take (v := v) i hi hc hw hH (fun W => ?_) ?_
  · rw [act_eval']; exact hr W
  · rw [act_put]; exact h
theorem skipped (i m' : Nat) {oi : Oper} (hi : ops[i]? = some oi) (hc : okTake ops L m m' i = true) (hw : Region.wanted oi (yielded ops (fr n f)) = false)
    (h : WR P ops Q S L k m' n (putf f oi.dst undef) w) : WR P ops Q S L (k + 1) m n f w := by
  refine ⟨fun hH => ?_⟩
  simp only [okTake, Bool.and_eq_true, decide_eq_true_eq, beq_iff_eq] at hc
  obtain ⟨⟨hlt, rfl⟩, hc⟩ := hc
  have h := h.out
  unfold RM HM at *
  rw [← listedOf_set hlt] at h
  simp only [canTake, Bool.and_eq_true, bne_iff_ne] at hc
  obtain ⟨⟨⟨hs, hf⟩, hr⟩, hne⟩ := hc
  refine RG.first (v := undef) hi (Region.noSelect_spec hs) (fun _ _ _ h => h) hne (fun _ => True) (.inl fun _ => trivial) _ _ _ w (Region.free_spec hi hf) (by simpa using hr)
    (.inr ⟨hw, rfl⟩) trivial (.inl fun _ => trivial) hH ?_
  rw [act_put]
  exact h (hH.set i)
theorem firstS (i m' : Nat) {oi : Oper} (hi : ops[i]? = some oi) (hc : okLoad ops L m m' i = true) (hw : Region.wanted oi (yielded ops (fr n f)) = true) (hr : ∀ W, S W → (execOp (ev n f) oi).run P W = .ok (.value v) W)
    (h : WR P ops Q S L k m' n (putf f oi.dst v) w) : WR P ops Q S L (k + 1) m n f w := by
  refine ⟨fun hH => ?_⟩
  simp only [okLoad, Bool.and_eq_true, decide_eq_true_eq, beq_iff_eq] at hc
  obtain ⟨⟨hlt, rfl⟩, hc⟩ := hc
  have h := h.out
  unfold RM HM at *
  rw [← listedOf_set hlt] at h
  refine RG.load (v := v) i hi hc hw hH (fun W hS => ?_) ?_
  · rw [act_eval']; exact hr W hS
  · rw [act_put]; exact h
theorem wantedN {dd : Option Tmp} {tm : Array Value} : Region.wanted ⟨dd, op, ty, pos, aft, none⟩ (yielded ops tm) = true := by simp [Region.wanted]
theorem wantedT {j s : Nat} {b : Bool} (hj : (ops[j]?).bind (·.dst) = some s) (hs : ev n f (.tmp s) = .bool b) : Region.wanted ⟨dd, op, ty, pos, aft, some (j, b)⟩ (yielded ops (fr n f)) = true := by
  simp [Region.wanted, Z.yields hj hs]
theorem wantedF {j s : Nat} {b : Bool} (hj : (ops[j]?).bind (·.dst) = some s) (hs : ev n f (.tmp s) = .bool (!b)) : Region.wanted ⟨dd, op, ty, pos, aft, some (j, b)⟩ (yielded ops (fr n f)) = false := by
  cases b <;> simp [Region.wanted, Z.yields hj hs]
/-- Plain reckoning. -/
theorem pr [ht : HasTT P] (i m' : Nat) (hi : ops[i]? = some ⟨some d, op, ty, pos, aft, gd⟩) (hw : Region.wanted ⟨some d, op, ty, pos, aft, gd⟩ (yielded ops (fr n f)) = true) (hc : okTake ops L m m' i = true) (hp : pureOp ht.tt n f op = some v) (h : WR P ops Q S L k m' n (upd' f d v) w) : WR P ops Q S L (k + 1) m n f w :=
  first i m' hi hc hw (fun W => pureOp_ok (o := ⟨some d, op, ty, pos, aft, gd⟩) ht.ok hp W) h
theorem skF (i m' : Nat) {j s : Nat} {b : Bool} (hi : ops[i]? = some ⟨some d, op, ty, pos, aft, some (j, b)⟩) (hc : okTake ops L m m' i = true) (hj : (ops[j]?).bind (·.dst) = some s) (hs : ev n f (.tmp s) = .bool (!b)) (h : WR P ops Q S L k m' n (upd' f d undef) w) : WR P ops Q S L (k + 1) m n f w :=
  skipped i m' hi hc (wantedF hj hs) h
theorem sum (i m' : Nat) {c : Int} (hi : ops[i]? = some ⟨some d, op, ty, pos, aft, gd⟩) (hw : Region.wanted ⟨some d, op, ty, pos, aft, gd⟩ (yielded ops (fr n f)) = true) (hc : okTake ops L m m' i = true) (hp : Z.ari n f op = some c) (h1 : -9223372036854775808 ≤ c ∧ c ≤ 9223372036854775807) (h : WR P ops Q S L k m' n (upd' f d (.int .i64 c)) w) : WR P ops Q S L (k + 1) m n f w :=
  first i m' hi hc hw (fun W => by rw [Z.ari_ok (o := ⟨some d, op, ty, pos, aft, gd⟩) hp W, Z.wrap_in h1.1 h1.2]) h
theorem sumW (i m' : Nat) {c : Int} (hi : ops[i]? = some ⟨some d, op, ty, pos, aft, gd⟩) (hw : Region.wanted ⟨some d, op, ty, pos, aft, gd⟩ (yielded ops (fr n f)) = true) (hc : okTake ops L m m' i = true) (hp : Z.ari n f op = some c) (h : WR P ops Q S L k m' n (upd' f d (.int .i64 (IntKind.i64.wrap c))) w) : WR P ops Q S L (k + 1) m n f w :=
  first i m' hi hc hw (fun W => Z.ari_ok (o := ⟨some d, op, ty, pos, aft, gd⟩) hp W) h
theorem ix [ht : HasTT P] (i m' : Nat) {e sz len cap : Nat} {j : Int} (hi : ops[i]? = some ⟨some d, .indexAddr t x y, ty, pos, aft, gd⟩) (hw : Region.wanted ⟨some d, .indexAddr t x y, ty, pos, aft, gd⟩ (yielded ops (fr n f)) = true) (hc : okTake ops L m m' i = true) (hx : ev n f x = .slice (some ⟨g, o, none⟩) len cap) (hy : ev n f y = .int .i64 j) (hk : kindOf ht.tt t = .sl e sz) (hj : 0 ≤ j ∧ j < len)
    (h : WR P ops Q S L k m' n (upd' f d (.pointer (some ⟨g, o + j.toNat * sz, none⟩))) w) : WR P ops Q S L (k + 1) m n f w := by
  obtain ⟨hu, hs⟩ := Z.kind_sl hk
  refine first i m' hi hc hw (fun W => ?_) h
  simp only [execOp, hx, hy, Instr.indexAt, asIntOf, Sem.run_bind, Sem.run_pure, Result.andThen_ok, run_under hu]
  simp [hj.1, hj.2, run_size hs, add_lit]
theorem ixn [ht : HasTT P] (i m' : Nat) {e sz len cap : Nat} {j : Nat} (hi : ops[i]? = some ⟨some d, .indexAddr t x y, ty, pos, aft, gd⟩) (hw : Region.wanted ⟨some d, .indexAddr t x y, ty, pos, aft, gd⟩ (yielded ops (fr n f)) = true) (hc : okTake ops L m m' i = true) (hx : ev n f x = .slice (some ⟨g, o, none⟩) len cap) (hy : ev n f y = .int .i64 (j : Int)) (hk : kindOf ht.tt t = .sl e sz) (hj : j < len)
    (h : WR P ops Q S L k m' n (upd' f d (.pointer (some ⟨g, o + j * sz, none⟩))) w) : WR P ops Q S L (k + 1) m n f w :=
  ix i m' hi hw hc hx hy hk ⟨by omega, by omega⟩ (by simpa using h)
theorem ia [ht : HasTT P] (i m' : Nat) {e sz len : Nat} {j : Int} (hi : ops[i]? = some ⟨some d, .indexAddr t x y, ty, pos, aft, gd⟩) (hw : Region.wanted ⟨some d, .indexAddr t x y, ty, pos, aft, gd⟩ (yielded ops (fr n f)) = true) (hc : okTake ops L m m' i = true) (hx : ev n f x = .pointer (some ⟨g, o, none⟩)) (hy : ev n f y = .int .i64 j) (hk : kindOf ht.tt t = .ar len e sz) (hj : 0 ≤ j ∧ j < len)
    (h : WR P ops Q S L k m' n (upd' f d (.pointer (some ⟨g, o + j.toNat * sz, none⟩))) w) : WR P ops Q S L (k + 1) m n f w := by
  obtain ⟨hu, hs⟩ := Z.kind_ar hk
  refine first i m' hi hc hw (fun W => ?_) h
  simp only [execOp, hx, hy, Instr.indexAt, asIntOf, Sem.run_bind, Sem.run_pure, Result.andThen_ok, run_under hu, Instr.sureAddr]
  simp [hj.1, hj.2, run_size hs, add_lit]
/-- A load of what S gives. -/
theorem ld [ht : HasTT P] (i m' : Nat) (hi : ops[i]? = some ⟨some d, .load t x, ty, pos, aft, gd⟩) (hw : Region.wanted ⟨some d, .load t x, ty, pos, aft, gd⟩ (yielded ops (fr n f)) = true) (hc : okLoad ops L m m' i = true) (hx : ev n f x = .pointer (some ⟨g, o, none⟩)) (hb : ∀ W, S W → Blk W g T cs.toArray) (hv : Z.ldv ht.tt t cs o = some v)
    (h : WR P ops Q S L k m' n (upd' f d v) w) : WR P ops Q S L (k + 1) m n f w := by
  refine firstS i m' hi hc hw (fun W hS => ?_) h
  unfold execOp
  simp only [hx, Instr.loadAt, Instr.sureAddr, Sem.run_bind, Sem.run_pure, Result.andThen_ok, Z.ldv_ok (hb W hS) hv]
/-- A load out of a row that lies somewhere. -/
theorem ldE [ht : HasTT P] (i m' : Nat) {q : Nat} (hi : ops[i]? = some ⟨some d, .load t x, ty, pos, aft, gd⟩) (hw : Region.wanted ⟨some d, .load t x, ty, pos, aft, gd⟩ (yielded ops (fr n f)) = true) (hc : okLoad ops L m m' i = true) (hx : ev n f x = .pointer (some ⟨g, o + q, none⟩)) (hb : ∀ W, S W → W.rangeAt g o cs) (hv : Z.ldv ht.tt t (cs.drop q) 0 = some v)
    (h : WR P ops Q S L k m' n (upd' f d v) w) : WR P ops Q S L (k + 1) m n f w := by
  refine firstS i m' hi hc hw (fun W hS => ?_) h
  unfold execOp
  simp only [hx, Instr.loadAt, Instr.sureAddr, Sem.run_bind, Sem.run_pure, Result.andThen_ok, Z.ldvR (Z.range_drop (hb W hS) q) hv]
theorem ldR [ht : HasTT P] (i m' : Nat) (hi : ops[i]? = some ⟨some d, .load t x, ty, pos, aft, gd⟩) (hw : Region.wanted ⟨some d, .load t x, ty, pos, aft, gd⟩ (yielded ops (fr n f)) = true) (hc : okLoad ops L m m' i = true) (hx : ev n f x = .pointer (some ⟨g, o, none⟩)) (hb : ∀ W, S W → W.rangeAt g o cs) (hv : Z.ldv ht.tt t cs 0 = some v)
    (h : WR P ops Q S L k m' n (upd' f d v) w) : WR P ops Q S L (k + 1) m n f w := by
  refine firstS i m' hi hc hw (fun W hS => ?_) h
  unfold execOp
  simp only [hx, Instr.loadAt, Instr.sureAddr, Sem.run_bind, Sem.run_pure, Result.andThen_ok, Z.ldvR (hb W hS) hv]
theorem bu [ht : HasTT P] (i m' : Nat) {ps : List (Nat × Operand)} {fs : List (Nat × Nat × Bool)} [hz : HasZ P t cs] (hi : ops[i]? = some ⟨some d, .build t ps.toArray, ty, pos, aft, gd⟩) (hw : Region.wanted ⟨some d, .build t ps.toArray, ty, pos, aft, gd⟩ (yielded ops (fr n f)) = true) (hc : okTake ops L m m' i = true) (hk : kindOf ht.tt t = .st fs) (hf : Z.fillS fs cs (Z.partsV n f ps) = some cs')
    (h : WR P ops Q S L k m' n (upd' f d (.agg cs'.toArray)) w) : WR P ops Q S L (k + 1) m n f w :=
  first i m' hi hc hw (fun W => Z.bu_run hk hf W) h

/-- What follows an operation with an effect. -/
theorem eff (i m' : Nat) {oi : Oper} {K : (Nat → Value) → World → Prop} (hi : ops[i]? = some oi) (hw : Region.wanted oi (yielded ops (fr n f)) = true) (hr : Region.ready .any ops (listedOf ops.size m) = [i]) (hc : okStep ops m m' i = true) (hK : ∀ f' w', K f' w' → (HM ops S L m' w' ∧ WR P ops Q S L k m' n f' w'))
    (h : WE P oi K (NoPanic Q) n f w) : WR P ops Q S L (k + 1) m n f w := by
  refine ⟨fun _ => RM.each [i] hr (by simp) (EM.consW i m' hi hc hw (fun K' hK' => ?_) EM.nil)⟩
  exact h.out K' fun f' w' hk => hK'.out _ _ (hK f' w' hk).1 (hK f' w' hk).2.out
/-- Several may come up. -/
theorem each (rs : List Nat) (hr : Region.ready .any ops (listedOf ops.size m) = rs) (hne : rs.isEmpty = false) (h : EW P ops Q S L k m n f w rs) : WR P ops Q S L (k + 1) m n f w :=
  ⟨fun _ => RM.each rs hr (fun e => by rw [e] at hne; cases hne) h.out⟩
theorem enil : EW P ops Q S L k m n f w [] := ⟨EM.nil⟩
theorem econs (i m' : Nat) {oi : Oper} {rs : List Nat} {K : (Nat → Value) → World → Prop} (hi : ops[i]? = some oi) (hw : Region.wanted oi (yielded ops (fr n f)) = true) (hc : okStep ops m m' i = true) (hK : ∀ f' w', K f' w' → (HM ops S L m' w' ∧ WR P ops Q S L k m' n f' w'))
    (h : WE P oi K (NoPanic Q) n f w) (hs : EW P ops Q S L k m n f w rs) : EW P ops Q S L k m n f w (i :: rs) :=
  ⟨EM.consW i m' hi hc hw (fun K' hK' => h.out K' fun f' w' hk => hK'.out _ _ (hK f' w' hk).1 (hK f' w' hk).2.out) hs.out⟩
/-- All have come up. -/
theorem done (hr : Region.ready .any ops (listedOf ops.size m) = []) (h : Q .normal (act n f) w) : WR P ops Q S L k m n f w := ⟨fun _ => RM.done hr h⟩
theorem slot (s : Nat) {b : Bool} (hs : ev n f (.tmp s) = .bool b) (h1 : b = true → WR P ops Q S L k m n (upd' f s (.bool true)) w) (h2 : b = false → WR P ops Q S L k m n (upd' f s (.bool false)) w) : WR P ops Q S L k m n f w := by
  have hf : f s = .bool b := by
    simp only [ev] at hs
    cases hb : Nat.blt s n
    · rw [hb] at hs; simp [undef] at hs
    · rw [hb] at hs; exact hs
  have := Z.upd_self f s
  rw [hf] at this
  cases b
  · rw [← this]; exact h2 rfl
  · rw [← this]; exact h1 rfl
end
end D
end Go.Proofs.Ytabpapdickolgaa
