/-
  The rules of the walk with what they always ask for laid in: short to write. No program in sight.
-/
import Derived.Test.YtabpapdickolgaaZl
namespace Go.Proofs.Ytabpapdickolgaa
open Go.RowKit
set_option linter.unusedSimpArgs false
set_option linter.unusedVariables false

section
variable {r w : World} {M : List Nat} {L L' k : List Res} {R : Res} {g T : Nat} {cs : List Value}
theorem Sep.sb (h : Sep r M L w) (hs : Sub L L' := by repeat (first | exact Sub.rest | exact Sub.nil | exact .skip .rest | exact .skip (.skip .rest) | exact .skip (.skip (.skip .rest)) | apply Sub.keep | refine Sub.cons (by repeat (first | exact At.here | apply At.next)) ?_ | apply Sub.skip)) : Sep r M L' w := h.sub hs
theorem Sep.fo (h : Sep r M L w) (ha : At L k R := by repeat (first | exact At.here | apply At.next)) : Sep r M (R :: k) w := h.focus ha
theorem Sep.bk (h : Sep r M L w) (ha : At L k (.blk g T cs) := by repeat (first | exact At.here | apply At.next)) : Blk w g T cs.toArray := h.blk ha
end
namespace R
section
variable {P : Program} {n : Nat} {f : Nat → Value} {d : Option Tmp} {ty t : TypeId} {pos : String} {aft : Array Edge} {gd : Option (Nat × Bool)} {x lo hi : Operand} {e sz : Nat} {m c : Nat} {l h : Int}
/-- s[l:h], l within the capacity -/
theorem spanL [ht : HasTT P] {g o : Nat} (hx : ev n f x = .slice (some ⟨g, o, none⟩) m c) (hl : ev n f lo = .int .i64 l) (hh : ev n f hi = .int .i64 h) (hk : kindOf ht.tt t = .sl e sz) (hb : 0 ≤ h ∧ h ≤ c) (hb' : 0 ≤ l ∧ l ≤ h.toNat) (hc : l.toNat < c) :
    Runs P n f ⟨d, .slice t x (some lo) (some hi) none, ty, pos, aft, gd⟩ (.slice (some ⟨g, o + l.toNat * sz, none⟩) (h.toNat - l.toNat) (c - l.toNat)) := by
  have h1 := span (P := P) (d := d) (ty := ty) (pos := pos) (aft := aft) (gd := gd) hx hl hh hk hb hb'
  rw [if_neg (by omega)] at h1
  simpa [add_lit] using h1
end
end R
namespace Z
section
variable {P : Program} {ops : Array Oper} {Q : Exit → Act → World → Prop} {n : Nat} {f : Nat → Value} {w : World} {rest : List Oper} {d : Tmp} {op : Op} {ty : TypeId} {pos : String} {aft : Array Edge}
/-- A guard on an operation that was left out itself. -/
theorem gU {j s : Nat} {b : Bool} (hj : (ops[j]?).bind (·.dst) = some s) (hs : ev n f (.tmp s) = undef) (h : WL P ops Q rest n (upd' f d undef) w) : WL P ops Q (⟨some d, op, ty, pos, aft, some (j, b)⟩ :: rest) n f w := by
  refine ⟨?_⟩
  unfold wpList
  have hy : yielded ops (fr n f) j = none := by
    unfold yielded
    rw [hj]
    simp only [Option.bind_some]
    simp only [ev] at hs
    cases hb : Nat.blt s n
    · have hge : ¬ s < n := fun hlt => by rw [← Nat.blt_eq, hb] at hlt; cases hlt
      have : (fr n f)[s]? = none := by simp [fr]; omega
      rw [this]
    · rw [hb] at hs
      have hlt : s < n := by simpa [Nat.blt_eq] using hb
      rw [fr_get hlt]
      simp only [cond_true] at hs
      rw [hs]
      simp [undef]
  rw [if_neg (by simp [Region.wanted, hy])]
  rw [act_put]
  exact h.out
end
end Z
namespace Sh
section
variable {P : Program} {ops : Array Oper} {Q : Exit → Act → World → Prop} {n : Nat} {f : Nat → Value} {w r : World} {M : List Nat} {L k : List Res} {rest : List Oper} {d : Tmp} {op : Op} {ty t t' : TypeId} {pos : String} {aft : Array Edge} {v : Value} {x y lo hi : Operand} {g o T q e sz len m c : Nat} {cs cs' zs : List Value} {A : Option Addr} {j l h' : Int} {xs ys : Array Value} {b ag : Bool}
theorem la [ht : HasTT P] (hS : Sep r M L w) (h : WL P ops Q rest n (upd' f d v) w) (hx : ev n f x = .pointer (some ⟨g, o, none⟩) := by exact rfl) (ha : At L k (.blk g T cs) := by repeat (first | exact At.here | apply At.next)) (hv : Z.ldv ht.tt t cs o = some v := by exact rfl) : WL P ops Q (⟨some d, .load t x, ty, pos, aft, none⟩ :: rest) n f w := Z.eff (Z.ld hS hx ha hv h) rfl
theorem lb [ht : HasTT P] (h : WL P ops Q rest n (upd' f d v) w) (hx : ev n f x = .pointer (some ⟨g, o, none⟩) := by exact rfl) (hc : w.rangeAt g o cs := by assumption) (hl : Z.ldv ht.tt t cs 0 = some v := by exact rfl) : WL P ops Q (⟨some d, .load t x, ty, pos, aft, none⟩ :: rest) n f w := Z.eff (Z.ldR hx hc hl h) rfl
theorem lc [ht : HasTT P] (h : WL P ops Q rest n (upd' f d v) w) (hx : ev n f x = .pointer (some ⟨g, o + q, none⟩) := by exact rfl) (hc : w.rangeAt g o cs := by assumption) (hl : Z.ldv ht.tt t (cs.drop q) 0 = some v := by exact rfl) : WL P ops Q (⟨some d, .load t x, ty, pos, aft, none⟩ :: rest) n f w := Z.eff (Z.ldE hx hc hl h) rfl
theorem sa [ht : HasTT P] (hS : Sep r M L w) (h : ∀ w', Sep r M (.blk g T cs' :: k) w' → WL P ops Q rest n f w') (hx : ev n f x = .pointer (some ⟨g, o, none⟩) := by exact rfl) (ha : At L k (.blk g T cs) := by repeat (first | exact At.here | apply At.next)) (hy : ev n f y = v := by exact rfl) (hv : Z.stv ht.tt t cs o v = some cs' := by exact rfl) : WL P ops Q (⟨none, .store t x y, ty, pos, aft, none⟩ :: rest) n f w := Z.eff (Z.st hS hx ha hy hv h) rfl
theorem aa [hz : HasZ P t cs] (hS : Sep r M L w) (h : ∀ g w', Sep r M (.blk g t cs :: L) w' → w.heap.size ≤ g → WL P ops Q rest n (upd' f d (.pointer (some ⟨g, 0, none⟩))) w') : WL P ops Q (⟨some d, .alloc t, ty, pos, aft, none⟩ :: rest) n f w := Z.eff (Z.al hS h) rfl
theorem ab (hS : Sep r M L w) {fn : Nat → Value} (h : ∀ g w', Sep r M (.blk g t cs :: L) w' → w.heap.size ≤ g → WL P ops Q rest n (upd' fn d (.pointer (some ⟨g, 0, none⟩))) w') (hx : Z.vcells (ev n fn x) = some cs := by exact rfl) : WL P ops Q (⟨some d, .box t x, ty, pos, aft, none⟩ :: rest) n fn w := Z.eff (Z.bx hS hx h) rfl
theorem ac [ht : HasTT P] {ps : List (Nat × Operand)} {fn : Nat → Value} (hS : Sep r M L w) (h : ∀ g w', Sep r M (.blk g e cs :: L) w' → w.heap.size ≤ g → WL P ops Q rest n (upd' fn d (.slice (some ⟨g, 0, none⟩) len len)) w') (hk : kindOf ht.tt t = .sl e sz := by exact rfl) (hz : HasZ P e zs := by infer_instance) (hf : Z.fillA sz (Z.zerosL zs len) (Z.partsV n fn ps) = some cs := by exact rfl) (hn : Nat.ble (len * sz) 16777216 = true := by exact rfl) : WL P ops Q (⟨some d, .buildSlice t len ps.toArray, ty, pos, aft, none⟩ :: rest) n fn w := Z.eff (Z.bs hS hk hf hn h) rfl
theorem su {z : Int} {fn : Nat → Value} (hw : WL P ops Q rest n (upd' fn d (.int .i64 z)) w) (hp : Z.ari n fn op = some z := by exact rfl) (h1 : -9223372036854775808 ≤ z ∧ z ≤ 9223372036854775807 := by constructor <;> omega) : WL P ops Q (⟨some d, op, ty, pos, aft, none⟩ :: rest) n fn w := Z.sum hp h1 hw
theorem ix [ht : HasTT P] {jj cap : Nat} {fn : Nat → Value} (hw : WL P ops Q rest n (upd' fn d (.pointer (some ⟨g, o + jj * sz, none⟩))) w) (hx : ev n fn x = .slice (some ⟨g, o, none⟩) len cap := by exact rfl) (hy : ev n fn y = .int .i64 (jj : Int) := by exact rfl) (hk : kindOf ht.tt t = .sl e sz := by exact rfl) (hj : jj < len := by omega) : WL P ops Q (⟨some d, .indexAddr t x y, ty, pos, aft, none⟩ :: rest) n fn w := Z.ixn hx hy hk hj hw
theorem ix2 [ht : HasTT P] {cap : Nat} {fn : Nat → Value} (hw : WL P ops Q rest n (upd' fn d (.pointer (some ⟨g, o + j.toNat * sz, none⟩))) w) (hx : ev n fn x = .slice (some ⟨g, o, none⟩) len cap := by exact rfl) (hy : ev n fn y = .int .i64 j := by exact rfl) (hk : kindOf ht.tt t = .sl e sz := by exact rfl) (hj : 0 ≤ j ∧ j < len := by omega) : WL P ops Q (⟨some d, .indexAddr t x y, ty, pos, aft, none⟩ :: rest) n fn w := Z.ix hx hy hk hj hw
theorem ix3 [ht : HasTT P] {fn : Nat → Value} (hw : WL P ops Q rest n (upd' fn d (.pointer (some ⟨g, o + j.toNat * sz, none⟩))) w) (hx : ev n fn x = .pointer (some ⟨g, o, none⟩) := by exact rfl) (hy : ev n fn y = .int .i64 j := by exact rfl) (hk : kindOf ht.tt t = .ar len e sz := by exact rfl) (hj : 0 ≤ j ∧ j < len := by omega) : WL P ops Q (⟨some d, .indexAddr t x y, ty, pos, aft, none⟩ :: rest) n fn w := Z.ia hx hy hk hj hw
theorem up [ht : HasTT P] {z : Int} {fn : Nat → Value} (hw : WL P ops Q rest n (upd' fn d (.slice A z.toNat c)) w) (hx : ev n fn x = .slice A m c := by exact rfl) (hh : ev n fn hi = .int .i64 z := by exact rfl) (hk : kindOf ht.tt t = .sl e sz := by exact rfl) (hb : 0 ≤ z ∧ z ≤ c := by omega) : WL P ops Q (⟨some d, .slice t x none (some hi) none, ty, pos, aft, none⟩ :: rest) n fn w := Z.pl (R.upto hx hh hk hb) hw
theorem sl1 [ht : HasTT P] {z : Int} {fn : Nat → Value} (hw : WL P ops Q rest n (upd' fn d (.slice (some ⟨g, o + z.toNat * sz, none⟩) (m - z.toNat) (c - z.toNat))) w) (hx : ev n fn x = .slice (some ⟨g, o, none⟩) m c := by exact rfl) (hl : ev n fn lo = .int .i64 z := by exact rfl) (hk : kindOf ht.tt t = .sl e sz := by exact rfl) (hb : 0 ≤ z ∧ z ≤ m := by omega) (hc : z.toNat < c := by omega) : WL P ops Q (⟨some d, .slice t x (some lo) none none, ty, pos, aft, none⟩ :: rest) n fn w := Z.pl (R.sinceL hx hl hk hb hc) hw
theorem sl2 [ht : HasTT P] {z : Int} {fn : Nat → Value} (hw : WL P ops Q rest n (upd' fn d (.slice (if c = z.toNat then A else A.map fun x => x.add (z.toNat * sz)) (m - z.toNat) (c - z.toNat))) w) (hx : ev n fn x = .slice A m c := by exact rfl) (hl : ev n fn lo = .int .i64 z := by exact rfl) (hk : kindOf ht.tt t = .sl e sz := by exact rfl) (hb : 0 ≤ z ∧ z ≤ m := by omega) : WL P ops Q (⟨some d, .slice t x (some lo) none none, ty, pos, aft, none⟩ :: rest) n fn w := Z.pl (R.since hx hl hk hb) hw
theorem sl3 [ht : HasTT P] {z z' : Int} {fn : Nat → Value} (hw : WL P ops Q rest n (upd' fn d (.slice (if c = z.toNat then A else A.map fun x => x.add (z.toNat * sz)) (z'.toNat - z.toNat) (c - z.toNat))) w) (hx : ev n fn x = .slice A m c := by exact rfl) (hl : ev n fn lo = .int .i64 z := by exact rfl) (hh : ev n fn hi = .int .i64 z' := by exact rfl) (hk : kindOf ht.tt t = .sl e sz := by exact rfl) (hb : 0 ≤ z' ∧ z' ≤ c := by omega) (hb' : 0 ≤ z ∧ z ≤ z'.toNat := by omega) : WL P ops Q (⟨some d, .slice t x (some lo) (some hi) none, ty, pos, aft, none⟩ :: rest) n fn w := Z.pl (R.span hx hl hh hk hb hb') hw
theorem sl5 [ht : HasTT P] {z z' : Int} {fn : Nat → Value} (hw : WL P ops Q rest n (upd' fn d (.slice (some ⟨g, o + z.toNat * sz, none⟩) (z'.toNat - z.toNat) (c - z.toNat))) w) (hx : ev n fn x = .slice (some ⟨g, o, none⟩) m c := by exact rfl) (hl : ev n fn lo = .int .i64 z := by exact rfl) (hh : ev n fn hi = .int .i64 z' := by exact rfl) (hk : kindOf ht.tt t = .sl e sz := by exact rfl) (hb : 0 ≤ z' ∧ z' ≤ c := by omega) (hb' : 0 ≤ z ∧ z ≤ z'.toNat := by omega) (hc : z.toNat < c := by omega) : WL P ops Q (⟨some d, .slice t x (some lo) (some hi) none, ty, pos, aft, none⟩ :: rest) n fn w := Z.pl (R.spanL hx hl hh hk hb hb' hc) hw
theorem sl4 [ht : HasTT P] {fn : Nat → Value} (hw : WL P ops Q rest n (upd' fn d (.slice (some ⟨g, o, none⟩) len len)) w) (hx : ev n fn x = .pointer (some ⟨g, o, none⟩) := by exact rfl) (hk : kindOf ht.tt t = .ar len e sz := by exact rfl) : WL P ops Q (⟨some d, .slice t x none none none, ty, pos, aft, none⟩ :: rest) n fn w := Z.pl (R.whole hx hk) hw
theorem eq [hq : HasQ P] {fn : Nat → Value} (hw : WL P ops Q rest n (upd' fn d (.bool b)) w) (hx : ev n fn x = .agg xs := by exact rfl) (hy : ev n fn y = .agg ys := by exact rfl) (hk : (match kq hq.qt t with | .st _ => true | .ar _ _ _ _ => true | _ => false) = true := by exact rfl) (hb : eqV hq.qt 20 t (.agg xs) (.agg ys) = some b := by exact rfl) : WL P ops Q (⟨some d, .binOp .eql t x y t', ty, pos, aft, none⟩ :: rest) n fn w := Z.pl (R.eqa hx hy hk hb) hw
theorem ne [hq : HasQ P] {fn : Nat → Value} (hw : WL P ops Q rest n (upd' fn d (.bool (!b))) w) (hx : ev n fn x = .agg xs := by exact rfl) (hy : ev n fn y = .agg ys := by exact rfl) (hk : (match kq hq.qt t with | .st _ => true | .ar _ _ _ _ => true | _ => false) = true := by exact rfl) (hb : eqV hq.qt 20 t (.agg xs) (.agg ys) = some b := by exact rfl) : WL P ops Q (⟨some d, .binOp .neq t x y t', ty, pos, aft, none⟩ :: rest) n fn w := Z.pl (R.nea hx hy hk hb) hw
/-- Once more round the loop. -/
theorem again {fn f0 : Nat → Value} {Ms : List Nat} {I : Nat → World → List (Nat × Value) → Prop} {mm : Nat} (m' : Nat) (l' : List (Nat × Value)) (h : I m' w l') (hm : m' < mm := by omega)
    (h1 : Same Ms fn f0 := by repeat (first | with_reducible exact Same.mix | ((with_reducible refine Same.upd ?_ ?_); · rfl) | ((with_reducible refine Same.cons ?_ ?_); · rfl) | with_reducible exact Same.refl | with_reducible refine Same.nil ?_ | ((with_reducible refine Same.mixS ?_ ?_); · rfl)))
    (h2 : slotsL fn l' := by repeat (first | exact trivial | refine ⟨rfl, ?_⟩)) : Exit.then (Z.AgainS n mm Ms f0 I) Q .normal (act n fn) w := Z.againS m' l' hm h1 h2 h
/-- The end of a part. -/
theorem cut {fn f0 : Nat → Value} {Ms : List Nat} {I : World → List (Nat × Value) → Prop} (l' : List (Nat × Value)) (h : I w l')
    (h1 : Same Ms fn f0 := by repeat (first | with_reducible exact Same.mix | ((with_reducible refine Same.upd ?_ ?_); · rfl) | ((with_reducible refine Same.cons ?_ ?_); · rfl) | with_reducible exact Same.refl | with_reducible refine Same.nil ?_ | ((with_reducible refine Same.mixS ?_ ?_); · rfl)))
    (h2 : slotsL fn l' := by repeat (first | exact trivial | refine ⟨rfl, ?_⟩)) : Exit.then (Z.CutS n Ms f0 I) Q .normal (act n fn) w := Z.cutE l' h1 h2 h
end
section
variable {P : Program} {ops : Array Oper} {Q : Exit → Act → World → Prop} {S : World → Prop} {L k m n : Nat} {f : Nat → Value} {w r : World} {M : List Nat} {Lr kr : List Res} {d : Tmp} {op : Op} {ty t : TypeId} {pos : String} {aft : Array Edge} {gd : Option (Nat × Bool)} {v : Value} {x : Operand} {g o T : Nat} {cs : List Value}
theorem dp [ht : HasTT P] (i m' : Nat) (h : WR P ops Q S L k m' n (upd' f d v) w) (hi : ops[i]? = some ⟨some d, op, ty, pos, aft, gd⟩ := by exact rfl) (hw : Region.wanted ⟨some d, op, ty, pos, aft, gd⟩ (yielded ops (fr n f)) = true := by first | exact D.wantedN | exact D.wantedT rfl rfl) (hc : okTake ops L m m' i = true := by kernel_rfl) (hp : pureOp ht.tt n f op = some v := by exact rfl) : WR P ops Q S L (k + 1) m n f w := D.pr i m' hi hw hc hp h
theorem dl [ht : HasTT P] (i m' : Nat) (h : WR P ops Q (Sep r M Lr) L k m' n (upd' f d v) w) (hi : ops[i]? = some ⟨some d, .load t x, ty, pos, aft, gd⟩ := by exact rfl) (hw : Region.wanted ⟨some d, .load t x, ty, pos, aft, gd⟩ (yielded ops (fr n f)) = true := by first | exact D.wantedN | exact D.wantedT rfl rfl) (hc : okLoad ops L m m' i = true := by kernel_rfl) (hx : ev n f x = .pointer (some ⟨g, o, none⟩) := by exact rfl) (ha : At Lr kr (.blk g T cs) := by repeat (first | exact At.here | apply At.next)) (hv : Z.ldv ht.tt t cs o = some v := by exact rfl) : WR P ops Q (Sep r M Lr) L (k + 1) m n f w := D.ld i m' hi hw hc hx (fun W hW => hW.blk ha) hv h
end
end Sh
end Go.Proofs.Ytabpapdickolgaa
