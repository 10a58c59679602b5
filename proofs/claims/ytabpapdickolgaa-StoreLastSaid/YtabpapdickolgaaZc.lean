/-
  Rules for walking code over slots (act n f) and resources (Sep r M L w). No program in sight.
-/
import Derived.Test.YtabpapdickolgaaZb
namespace Go.Proofs.Ytabpapdickolgaa
open Go.RowKit
set_option linter.unusedSimpArgs false
set_option linter.unusedVariables false

/-- The table of the program's types. -/
class HasTT (P : Program) where
  tt : List Ty
  ok : TabOk P tt
/-- The zero value of a type, as cells. -/
class HasZ (P : Program) (T : TypeId) (cs : outParam (List Value)) : Prop where
  ok : (P.info? T).map (fun i => (i.zero.map (·.cells), i.size)) = some (some cs.toArray, cs.length)

/-- The code c runs from the slots f. -/
structure WC (P : Program) (c : Code) (Q : Exit → Act → World → Prop) (n : Nat) (f : Nat → Value) (w : World) : Prop where
  out : c.wp P Q (act n f) w
/-- The operations l of a region run from the slots f. -/
structure WL (P : Program) (ops : Array Oper) (Q : Exit → Act → World → Prop) (l : List Oper) (n : Nat) (f : Nat → Value) (w : World) : Prop where
  out : wpList P ops Q l (act n f) w

/-- The operation o runs from the slots f, and then K holds. -/
structure WE (P : Program) (o : Oper) (K : (Nat → Value) → World → Prop) (Q : Exit → Act → World → Prop) (n : Nat) (f : Nat → Value) (w : World) : Prop where
  out : ∀ K' : Act → World → Prop, (∀ f' w', K f' w' → K' (act n f') w') → o.wp P (act n f) w K' Q

namespace Z
section
variable {P : Program} {Q : Exit → Act → World → Prop} {K : Act → World → Prop} {n : Nat} {f : Nat → Value} {w : World} {a : Act}

theorem enter {id : FuncId} {fn : Func} {c : Code} {args : Array Value} {R : Ending → World → Prop} (hf : P.funcs[id]? = some fn) (hn : fn.ntmps = n) (hb : fn.body = some c) (hl : Nat.ble args.toList.length n = true)
    (h : WC P c (bodyPost P fn R) n (fun i => args.toList.getD i undef) w) : Calls P id args w R := by
  refine calls_of_wp hf hb ?_
  have hl' : args.size ≤ n := by simpa using Nat.le_of_ble_eq_true hl
  have : args ++ Array.replicate (fn.ntmps - args.size) undef = fr n (fun i => args.toList.getD i undef) := by
    apply Array.ext
    · simp [fr, hn]; omega
    · intro i h1 h2
      simp only [fr, Array.size_map, Array.size_range] at h2
      simp only [fr, Array.getElem_map, Array.getElem_range, List.getD_eq_getElem?_getD, Array.getElem?_toList]
      by_cases hi : i < args.size
      · simp [Array.getElem_append_left hi, hi]
      · rw [Array.getElem_append_right (by omega)]
        simp [Array.getElem?_eq_none (Nat.le_of_not_lt hi)]
  rw [this]
  exact h.out
theorem seq {x y : Code} (h : WC P x (Exit.then (y.wp P Q) Q) n f w) : WC P (.seq x y) Q n f w := ⟨wp_seq h.out⟩
theorem reg {id : Nat} {l : List Oper} (h : WL P l.toArray Q l n f w) : WC P (.region id l.toArray false) Q n f w := ⟨wp_region_lit h.out⟩
theorem nil {ops : Array Oper} (h : Q .normal (act n f) w) : WL P ops Q [] n f w := ⟨h⟩
theorem skip (h : Q .normal (act n f) w) : WC P .skip Q n f w := ⟨wp_skip h⟩
theorem exit {id : Nat} (h : Q (.exit id) (act n f) w) : WC P (.exit id) Q n f w := ⟨wp_exit h⟩
theorem ret (h : Q .ret (act n f) w) : WC P .ret Q n f w := ⟨wp_ret h⟩
theorem block {id : Nat} {c : Code} (h : WC P c (Exit.inBlock id Q) n f w) : WC P (.block id c) Q n f w := ⟨wp_block h.out⟩
theorem thN {y : Code} (h : WC P y Q n f w) : Exit.then (y.wp P Q) Q .normal (act n f) w := h.out
theorem thE {i : Nat} (h : Q (.exit i) a w) : Exit.then K Q (.exit i) a w := h
theorem thR (h : Q .ret a w) : Exit.then K Q .ret a w := h
theorem blN {i : Nat} (h : Q .normal a w) : Exit.inBlock i Q .normal a w := h
theorem blR {i : Nat} (h : Q .ret a w) : Exit.inBlock i Q .ret a w := h
theorem blE {i : Nat} (h : Q .normal a w) : Exit.inBlock i Q (.exit i) a w := by unfold Exit.inBlock; simpa using h
theorem blX {i j : Nat} (h : Q (.exit j) a w) (hij : Nat.beq j i = false) : Exit.inBlock i Q (.exit j) a w := by
  have : j ≠ i := fun e => by subst e; simp at hij
  unfold Exit.inBlock
  simpa [this] using h
theorem brT {c : Operand} {x y : Code} (hc : ev n f c = .bool true) (h : WC P x Q n f w) : WC P (.cond c x y) Q n f w := ⟨wp_cond_true (by rw [act_eval]; exact hc) h.out⟩
theorem brF {c : Operand} {x y : Code} (hc : ev n f c = .bool false) (h : WC P y Q n f w) : WC P (.cond c x y) Q n f w := ⟨wp_cond_false (by rw [act_eval]; exact hc) h.out⟩
theorem br {c : Operand} {x y : Code} {b : Bool} (hc : ev n f c = .bool b) (h1 : b = true → WC P x Q n f w) (h2 : b = false → WC P y Q n f w) : WC P (.cond c x y) Q n f w :=
  ⟨wp_cond_split (by rw [act_eval]; exact hc) (fun h => (h1 h).out) (fun h => (h2 h).out)⟩
end

section
variable {P : Program} {ops : Array Oper} {Q : Exit → Act → World → Prop} {n : Nat} {f : Nat → Value} {w : World} {rest : List Oper} {d : Tmp} {dd : Option Tmp} {op : Op} {ty : TypeId} {pos : String} {aft : Array Edge} {v : Value}

theorem upd_self (f : Nat → Value) (s : Nat) : upd' f s (f s) = f := by
  funext i
  unfold upd'
  cases h : Nat.beq i s
  · rfl
  · rw [Nat.eq_of_beq_eq_true h]; rfl
theorem base {o : Oper} (hg : o.guard = none) (h : ∀ K : Act → World → Prop, (∀ f' w', WL P ops Q rest n f' w' → K (act n f') w') → o.wp P (act n f) w K Q) : WL P ops Q (o :: rest) n f w :=
  ⟨wpList_plain hg fun K hK => h K fun _ _ h => hK _ _ h.out⟩
/-- An operation by a rule of its own. -/
theorem eff {o : Oper} (h : WE P o (fun f' w' => WL P ops Q rest n f' w') Q n f w) (hg : o.guard = none) : WL P ops Q (o :: rest) n f w := base hg h.out
theorem _root_.Go.Proofs.Ytabpapdickolgaa.WE.guard {K : (Nat → Value) → World → Prop} {gd : Option (Nat × Bool)} (h : WE P ⟨dd, op, ty, pos, aft, none⟩ K Q n f w) : WE P ⟨dd, op, ty, pos, aft, gd⟩ K Q n f w := ⟨h.out⟩
theorem plain {o : Oper} (hg : o.guard = none) (hr : ∀ W, (execOp (ev n f) o).run P W = .ok (.value v) W) (h : WL P ops Q rest n (putf f o.dst v) w) : WL P ops Q (o :: rest) n f w :=
  base hg fun K hK => by
    unfold Oper.wp
    rw [act_eval', hr w, Oper.upon_value, act_put]
    exact hK _ _ h
/-- Plain reckoning. -/
theorem pr [ht : HasTT P] (hp : pureOp ht.tt n f op = some v) (h : WL P ops Q rest n (upd' f d v) w) : WL P ops Q (⟨some d, op, ty, pos, aft, none⟩ :: rest) n f w :=
  plain rfl (fun W => pureOp_ok (o := ⟨some d, op, ty, pos, aft, none⟩) ht.ok hp W) h
theorem pr0 [ht : HasTT P] (hp : pureOp ht.tt n f op = some v) (h : WL P ops Q rest n f w) : WL P ops Q (⟨none, op, ty, pos, aft, none⟩ :: rest) n f w :=
  plain rfl (fun W => pureOp_ok (o := ⟨none, op, ty, pos, aft, none⟩) ht.ok hp W) h

/-! Guards. -/
theorem yields {j s : Nat} {b : Bool} (hj : (ops[j]?).bind (·.dst) = some s) (hs : ev n f (.tmp s) = .bool b) : yielded ops (fr n f) j = some b := by
  unfold yielded
  rw [hj]
  simp only [Option.bind_some]
  simp only [ev] at hs
  cases hb : Nat.blt s n
  · rw [hb] at hs; simp [undef] at hs
  · rw [hb] at hs
    have hlt : s < n := by simpa [Nat.blt_eq] using hb
    rw [fr_get hlt]
    simp only [cond_true] at hs
    rw [hs]
theorem gT {j s : Nat} {b : Bool} (hj : (ops[j]?).bind (·.dst) = some s) (hs : ev n f (.tmp s) = .bool b) (h : WL P ops Q (⟨dd, op, ty, pos, aft, none⟩ :: rest) n f w) :
    WL P ops Q (⟨dd, op, ty, pos, aft, some (j, b)⟩ :: rest) n f w := by
  refine ⟨?_⟩
  have h := h.out
  unfold wpList at h ⊢
  have hy := yields hj hs
  rw [if_pos (by simp [Region.wanted])] at h
  rw [if_pos (by simp [Region.wanted, hy])]
  exact h
theorem gF {j s : Nat} {b : Bool} (hj : (ops[j]?).bind (·.dst) = some s) (hs : ev n f (.tmp s) = .bool (!b)) (h : WL P ops Q rest n (upd' f d undef) w) :
    WL P ops Q (⟨some d, op, ty, pos, aft, some (j, b)⟩ :: rest) n f w := by
  refine ⟨?_⟩
  unfold wpList
  have hy := yields hj hs
  rw [if_neg (by cases b <;> simp [Region.wanted, hy])]
  rw [act_put]
  exact h.out
theorem gF0 {j s : Nat} {b : Bool} (hj : (ops[j]?).bind (·.dst) = some s) (hs : ev n f (.tmp s) = .bool (!b)) (h : WL P ops Q rest n f w) :
    WL P ops Q (⟨none, op, ty, pos, aft, some (j, b)⟩ :: rest) n f w := by
  refine ⟨?_⟩
  unfold wpList
  have hy := yields hj hs
  rw [if_neg (by cases b <;> simp [Region.wanted, hy])]
  rw [act_put]
  exact h.out
/-- An open bool in a slot is decided. -/
theorem slot {l : List Oper} (s : Nat) {b : Bool} (hs : ev n f (.tmp s) = .bool b) (h1 : b = true → WL P ops Q l n (upd' f s (.bool true)) w) (h2 : b = false → WL P ops Q l n (upd' f s (.bool false)) w) :
    WL P ops Q l n f w := by
  have hf : f s = .bool b := by
    simp only [ev] at hs
    cases hb : Nat.blt s n
    · rw [hb] at hs; simp [undef] at hs
    · rw [hb] at hs; exact hs
  have := upd_self f s
  rw [hf] at this
  cases b
  · rw [← this]; exact h2 rfl
  · rw [← this]; exact h1 rfl
theorem gS {j s : Nat} {b c : Bool} (hj : (ops[j]?).bind (·.dst) = some s) (hs : ev n f (.tmp s) = .bool b)
    (h1 : b = true → WL P ops Q (⟨dd, op, ty, pos, aft, some (j, c)⟩ :: rest) n (upd' f s (.bool true)) w) (h2 : b = false → WL P ops Q (⟨dd, op, ty, pos, aft, some (j, c)⟩ :: rest) n (upd' f s (.bool false)) w) :
    WL P ops Q (⟨dd, op, ty, pos, aft, some (j, c)⟩ :: rest) n f w := slot s hs h1 h2

/-! Sums. -/
def ari (n : Nat) (f : Nat → Value) : Op → Option Int
  | .binOp .add _ x y _ => match ev n f x, ev n f y with | .int .i64 a, .int .i64 b => some (a + b) | _, _ => none
  | .binOp .sub _ x y _ => match ev n f x, ev n f y with | .int .i64 a, .int .i64 b => some (a - b) | _, _ => none
  | .binOp .mul _ x y _ => match ev n f x, ev n f y with | .int .i64 a, .int .i64 b => some (a * b) | _, _ => none
  | _ => none
theorem ari_ok {c : Int} {o : Oper} (h : ari n f o.op = some c) (W : World) : (execOp (ev n f) o).run P W = .ok (.value (.int .i64 (IntKind.i64.wrap c))) W := by
  obtain ⟨d, op, ty, pos, aft, g⟩ := o
  simp only at h
  unfold ari at h
  split at h
  case h_4 => cases h
  all_goals
    split at h
    · rename_i hx hy
      simp only [Option.some.injEq] at h
      subst h
      simp [execOp, hx, hy, eqGuard_none, binOp, Op.intArith]
    · cases h
theorem wrap_in {c : Int} (h1 : -9223372036854775808 ≤ c) (h2 : c ≤ 9223372036854775807) : IntKind.i64.wrap c = c := IntWalk.i64_in _ (by omega)
/-- A sum within bounds. -/
theorem sum {c : Int} (hp : ari n f op = some c) (h1 : -9223372036854775808 ≤ c ∧ c ≤ 9223372036854775807) (h : WL P ops Q rest n (upd' f d (.int .i64 c)) w) : WL P ops Q (⟨some d, op, ty, pos, aft, none⟩ :: rest) n f w :=
  plain rfl (fun W => by rw [ari_ok (o := ⟨some d, op, ty, pos, aft, none⟩) hp W, wrap_in h1.1 h1.2]) h
/-- A sum that may go round. -/
theorem sumW {c : Int} (hp : ari n f op = some c) (h : WL P ops Q rest n (upd' f d (.int .i64 (IntKind.i64.wrap c))) w) : WL P ops Q (⟨some d, op, ty, pos, aft, none⟩ :: rest) n f w :=
  plain rfl (fun W => ari_ok (o := ⟨some d, op, ty, pos, aft, none⟩) hp W) h
def remOf (n : Nat) (f : Nat → Value) : Op → Option (Int × Int)
  | .binOp .rem _ x y _ => match ev n f x, ev n f y with | .int .i64 a, .int .i64 b => some (a, b) | _, _ => none
  | _ => none
theorem rem {x y : Int} (hp : remOf n f op = some (x, y)) (h0 : y ≠ 0) (h : WL P ops Q rest n (upd' f d (.int .i64 (x.tmod y))) w) : WL P ops Q (⟨some d, op, ty, pos, aft, none⟩ :: rest) n f w := by
  refine plain rfl (fun W => ?_) h
  unfold remOf at hp
  split at hp
  · split at hp
    · rename_i hx hy; simp only [Option.some.injEq, Prod.mk.injEq] at hp; obtain ⟨rfl, rfl⟩ := hp; simp [execOp, hx, hy, eqGuard_none, binOp, Op.intDiv, h0]
    · cases hp
  · cases hp

/-! Memory. -/
def ldv (tt : List Ty) (ty : Nat) (cs : List Value) (o : Nat) : Option Value :=
  match tt[ty]? with
  | none => none
  | some y =>
    match y.k with
    | .other => none
    | .st _ => cond (Nat.beq o 0 && Nat.beq y.size cs.length) (some (.agg cs.toArray)) (cond (Nat.ble (o + y.size) cs.length) (some (.agg ((cs.drop o).take y.size).toArray)) none)
    | .ar _ _ _ => cond (Nat.beq o 0 && Nat.beq y.size cs.length) (some (.agg cs.toArray)) (cond (Nat.ble (o + y.size) cs.length) (some (.agg ((cs.drop o).take y.size).toArray)) none)
    | _ => bindV cs[o]?
theorem sizeB_info {P : Program} {t m : Nat} (h : sizeB P t m = true) : (P.info? t).map (·.size) = some m := by
  unfold sizeB at h
  cases hi : P.info? t with
  | none => simp [hi] at h
  | some i => simp [hi] at h; simp [h]
theorem ldv_ok [ht : HasTT P] {t T g o : Nat} {cs : List Value} (hb : Blk w g T cs.toArray) (hv : ldv ht.tt t cs o = some v) : (loadVar t ⟨g, o, none⟩).run P w = .ok v w := by
  unfold ldv at hv
  cases hy : ht.tt[t]? with
  | none => simp [hy] at hv
  | some y =>
    have hok := ht.ok t y hy
    obtain ⟨k, sz⟩ := y
    have agg : ∀ d, P.underlying t = some d → d.isRow = true → sizeB P t sz = true → (cond (Nat.beq o 0 && Nat.beq sz cs.length) (some (.agg cs.toArray)) (cond (Nat.ble (o + sz) cs.length) (some (.agg ((cs.drop o).take sz).toArray)) none) : Option Value) = some v →
        (loadVar t ⟨g, o, none⟩).run P w = .ok v w := by
      intro d hu hd hs hv
      have key : ∀ l : List Value, l = (cs.drop o).take sz → l.length = sz → v = .agg l.toArray → (loadVar t ⟨g, o, none⟩).run P w = .ok v w := by
        rintro l hl hlen rfl
        refine run_loadVar_mid w g o t l d ?_ hu hd (by rw [sizeB_info hs, hlen])
        intro j u hu'
        rw [hb.cell]
        rw [hl, List.getElem?_take] at hu'
        split at hu'
        · rw [List.getElem?_drop] at hu'; simpa using hu'
        · cases hu'
      cases h1 : (Nat.beq o 0 && Nat.beq sz cs.length)
      · rw [h1] at hv
        simp only [cond_false] at hv
        cases h2 : Nat.ble (o + sz) cs.length
        · rw [h2] at hv; cases hv
        · rw [h2] at hv
          simp only [cond_true, Option.some.injEq] at hv
          refine key _ rfl ?_ hv.symm
          have := Nat.le_of_ble_eq_true h2
          simp; omega
      · rw [h1] at hv
        simp only [cond_true, Option.some.injEq] at hv
        simp only [Bool.and_eq_true] at h1
        have e1 := Nat.eq_of_beq_eq_true h1.1
        have e2 := Nat.eq_of_beq_eq_true h1.2
        refine key cs ?_ e2.symm hv.symm
        rw [e1, e2]; simp
    have sc : ∀ d, P.underlying t = some d → d.isRow = false → bindV cs[o]? = some v → (loadVar t ⟨g, o, none⟩).run P w = .ok v w := by
      intro d hu hd hv
      cases hc : cs[o]? with
      | none => simp [hc, bindV] at hv
      | some u =>
        simp [hc, bindV_eq] at hv
        subst hv
        have hcell : w.cell? ⟨g, o, none⟩ = some u := by rw [hb.cell]; simpa using hc
        have hag : (isAgg t).run P w = .ok false w := by
          unfold isAgg
          simp only [Sem.run_bind, run_under hu, Result.andThen_ok]
          cases d <;> first | rfl | cases hd
        simp [loadVar, hag, go_sem, hcell]
    simp only [hy] at hv
    unfold okTy at hok
    cases hu : P.underlying t with
    | none => cases k <;> simp [hu] at hok <;> simp at hv
    | some d =>
      cases k <;> cases d <;> simp [hu] at hok <;> first | (simp at hv; done) | exact sc _ hu rfl hv | exact agg _ hu rfl (by first | exact hok | exact hok.1 | exact hok.1.1 | exact hok.1.1.1) hv
end
end Z
end Go.Proofs.Ytabpapdickolgaa
