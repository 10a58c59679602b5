/-
  Rules for function values, copies, clearing, growing, greatest numbers, halving. No program in sight.
-/
import Derived.Test.YtabpapdickolgaaZk
import Derived.Laws.CopyRow
import Derived.Lib.Overlaps
import Derived.Lib.AppendZerosOnto
namespace Go.Proofs.Ytabpapdickolgaa
open Go.RowKit
set_option linter.unusedSimpArgs false
set_option linter.unusedVariables false

namespace R
section
variable {P : Program} {n : Nat} {f : Nat → Value} {d : Option Tmp} {ty t t' : TypeId} {pos : String} {aft : Array Edge} {gd : Option (Nat × Bool)} {x y : Operand} {v : Value}
/-- A function value. -/
theorem mf {fn : Fn} {caps : List Operand} : Runs P n f ⟨d, .makeFunc fn #[] caps.toArray, ty, pos, aft, gd⟩ (.func fn #[] (caps.map (ev n f)).toArray) :=
  ⟨fun W => by simp [execOp, Instr.makeFunc]⟩
theorem max2 {ats : Array TypeId} {a b : Int} (hx : ev n f x = .int .i64 a) (hy : ev n f y = .int .i64 b) : Runs P n f ⟨d, .call ⟨.builtin .max, #[x, y], ats⟩, ty, pos, aft, gd⟩ (.int .i64 (max a b)) := by
  refine ⟨fun W => ?_⟩
  have e : (if b > a then b else a) = max a b := by split <;> omega
  simp [execOp, resolve, invoke, builtin, hx, hy, run_max_int2, e]
theorem cap [ht : HasTT P] {A : Option Addr} {m c e sz : Nat} (hx : ev n f x = .slice A m c) (hk : kindOf ht.tt t = .sl e sz) : Runs P n f ⟨d, .call ⟨.builtin .cap, #[x], #[t]⟩, ty, pos, aft, gd⟩ (.int .i64 c) := by
  obtain ⟨hu, _⟩ := Z.kind_sl hk
  refine ⟨fun W => ?_⟩
  simp [execOp, resolve, invoke, builtin, hx, Builtin.cap_, run_under hu, goInt]
/-- s[l:], l within the capacity -/
theorem sinceL [ht : HasTT P] {lo : Operand} {l : Int} {g o m c e sz : Nat} (hx : ev n f x = .slice (some ⟨g, o, none⟩) m c) (hl : ev n f lo = .int .i64 l) (hk : kindOf ht.tt t = .sl e sz) (hb : 0 ≤ l ∧ l ≤ m) (hc : l.toNat < c) :
    Runs P n f ⟨d, .slice t x (some lo) none none, ty, pos, aft, gd⟩ (.slice (some ⟨g, o + l.toNat * sz, none⟩) (m - l.toNat) (c - l.toNat)) := by
  have h := since (P := P) (d := d) (ty := ty) (pos := pos) (aft := aft) (gd := gd) hx hl hk hb
  rw [if_neg (by omega)] at h
  simpa [add_lit] using h
theorem cvt {k k' : IntKind} {a : Int} {dd : TypeDesc} (hx : ev n f x = .int k a) (hs : P.underlying t = some dd) (hd : P.underlying t' = some (.int k')) : Runs P n f ⟨d, .convert t t' x, ty, pos, aft, gd⟩ (.int k' (k'.wrap a)) := by
  refine ⟨fun W => ?_⟩
  simp [execOp, hx, convert, run_under hs, run_under hd, Conv.intToInt]
theorem shr1 {k k' : IntKind} {a : Int} (hx : ev n f x = .int k a) (hy : ev n f y = .int k' 1) (hk : 1 ≤ k.bits) : Runs P n f ⟨d, .binOp .shr t x y t', ty, pos, aft, gd⟩ (.int k (a / 2)) := by
  refine ⟨fun W => ?_⟩
  have e : min 1 k.bits = 1 := by omega
  have e2 : a.fdiv 2 = a / 2 := Int.fdiv_eq_ediv_of_nonneg _ (by omega)
  simp [execOp, hx, hy, eqGuard_none, binOp, Op.shift, e, e2]
end
end R

section
variable {w r : World} {M : List Nat} {L F : List Res} {e sz g : Nat}
theorem chg_setRow (w : World) (g : Nat) (cs : Array Value) : Chg [g] w (w.setRow g cs) :=
  ⟨rfl, rfl, rfl, by simp [World.setRow], fun k _ hk => setRow_other w g k cs (by simpa using hk)⟩
theorem blk_ne {g' T T' : Nat} {cs cs' : List Value} (h : Sep r M (.blk g T cs :: .blk g' T' cs' :: F) w) : g ≠ g' := by
  obtain ⟨fp, ⟨f1, f2, rfl, ⟨rfl, _⟩, ⟨f3, f4, rfl, ⟨rfl, _⟩, _⟩⟩, hn, _⟩ := h.ex
  rintro rfl
  simp at hn
/-- A row of one's own, with all that its block holds. -/
theorem open_sl {A : Option Addr} {n c : Nat} {rows : List (List Value)} (h : Sep r M (.sl e sz (.slice A n c) rows :: F) w) (h0 : 0 < rows.length) :
    ∃ g cs, A = some ⟨g, 0, none⟩ ∧ n = rows.length ∧ n ≤ c ∧ c ≤ maxLen ∧ cs.length = c * sz ∧ cs.take (n * sz) = rows.flatten ∧ (∀ row, row ∈ rows → row.length = sz ∧ ∀ u, u ∈ row → u.oneCell' = true) ∧ Sep r M (.blk g e cs :: F) w := by
  obtain ⟨fp, ⟨f1, f2, rfl, ⟨hok, A', c', hv, hx⟩, _⟩, _⟩ := id h.ex
  injection hv with e1 e2 e3
  subst e1
  subst e3
  subst e2
  rcases hx with ⟨_, hnil, _⟩ | ⟨hc, g, cur, rfl, hf, hb, hle, hm, hs, ht⟩
  · subst hnil; simp at h0
  · refine ⟨g, cur.toList, rfl, rfl, hle, hm, by simpa using hs, ht, hok, h.upd fun f3 hf3 => ⟨Chg.refl _ _, [g], ⟨rfl, by simpa using hb⟩, by simp, fun b hb' => ?_⟩⟩
    simp at hb'
    subst hb'
    obtain ⟨_, A', c', hv, hx⟩ := hf3
    injection hv with e1 e2 e3
    subst e1
    subst e3
    rcases hx with ⟨hc0, _⟩ | ⟨_, g', cur', hA, hf', _⟩
    · omega
    · injection hA with hA
      injection hA with hA _
      subst hA
      exact ⟨hb.lt, .inl (by rw [hf']; simp)⟩
theorem close_sl {c : Nat} {cs : List Value} {rows : List (List Value)} (h : Sep r M (.blk g e cs :: F) w) (hc : 0 < c) (hm : c ≤ maxLen) (hl : cs.length = c * sz) (hn : rows.length ≤ c) (ht : cs.take (rows.length * sz) = rows.flatten) (hok : ∀ row, row ∈ rows → row.length = sz ∧ ∀ u, u ∈ row → u.oneCell' = true) :
    Sep r M (.sl e sz (.slice (some ⟨g, 0, none⟩) rows.length c) rows :: F) w := by
  refine h.upd fun f1 hf => ?_
  obtain ⟨rfl, hb⟩ := id hf
  exact ⟨Chg.refl _ _, [g], ⟨hok, _, _, rfl, .inr ⟨hc, g, _, rfl, rfl, hb, hn, hm, by simpa using hl, by simpa using ht⟩⟩, by simp, fun b hb' => by simp at hb'; subst hb'; exact ⟨hb.lt, .inl (by simp)⟩⟩
/-- The first rows of a block read as a slice, wherever it begins. -/
theorem rows_mid {T o m c : Nat} {cs : List Value} {rows : List (List Value)} (hb : Blk w g T cs.toArray) (hok : ∀ row, row ∈ rows → row.length = sz ∧ ∀ u, u ∈ row → u.oneCell' = true) (hm : m = rows.length) (hc : m ≤ c) (hsub : (cs.drop o).take (m * sz) = rows.flatten) : Rows' w sz (.slice (some ⟨g, o, none⟩) m c) rows := by
  subst hm
  refine ⟨hok, _, _, rfl, by simp, hc, flatten_length fun row hr => (hok row hr).1, fun _ => ⟨_, rfl, fun j u hu => ?_⟩⟩
  rw [add_lit, hb.cell]
  rw [← hsub, List.getElem?_take] at hu
  split at hu
  · rw [List.getElem?_drop] at hu; simpa using hu
  · cases hu
end

namespace Z
section
variable {P : Program} {K : (Nat → Value) → World → Prop} {Q : Exit → Act → World → Prop} {n : Nat} {f : Nat → Value} {w r : World} {M : List Nat} {L : List Res} {d : Tmp} {ty t t' : TypeId} {pos : String} {aft : Array Edge} {v : Value}
  {x y : Operand} {e sz bytes g o T : Nat} {k : List Res} {cs zs : List Value} {ys : List (List Value)}

/-- A call through a function value. -/
theorem clf {F : FuncId} [hfn : HasF P F] {c : Operand} {caps : List Value} {args : List Operand} {ats : Array TypeId} {avs : Array Value} {R : Ending → World → Prop} (hc : ev n f c = .func (.func F) #[] caps.toArray) (h : Calls P F avs w R) (ha : args.map (ev n f) ++ caps = avs.toList)
    (hk : ∀ e w', R e w' → ∃ v, e = .returned v ∧ K (upd' f d v) w') : WE P ⟨some d, .call ⟨.value c, args.toArray, ats⟩, ty, pos, aft, none⟩ K Q n f w :=
  .mk fun K' hK => by
    unfold Oper.wp
    rw [act_eval']
    have has : (List.map (ev n f) args).toArray ++ caps.toArray = avs := by rw [List.append_toArray, ha]
    have : (execOp (ev n f) ⟨some d, .call ⟨.value c, args.toArray, ats⟩, ty, pos, aft, none⟩).run P w = .ok (.enter F avs) w := by
      obtain ⟨fn, hF, hn, hb⟩ := hfn.ok
      have hn' : fn.name ≠ "runtime.NumGoroutine" := by simpa using hn
      obtain ⟨c', hc'⟩ := Option.isSome_iff_exists.1 hb
      simp only [execOp, resolve, hc, Deferred.ofValue, Sem.run_bind, Sem.run_pure, Result.andThen_ok, invoke]
      have e1 : (#[] ++ Array.map (ev n f) args.toArray) ++ caps.toArray = avs := by rw [← has]; simp
      simp [callFunc, hF, hn', hc', go_sem] at e1 ⊢
      rw [← e1]
    rw [this, Oper.upon_enter]
    refine h.mono ?_
    intro e w' hR
    obtain ⟨v, rfl, hw⟩ := hk e w' hR
    simp only [act_put]
    exact hK _ _ hw
/-- A call of a function that the model itself carries out. -/
theorem clx {F : FuncId} {args : List Operand} {ats : Array TypeId} {avs : Array Value} (h : (callFunc F avs).run P w = .ok (.value v) w) (ha : args.map (ev n f) = avs.toList) (hk : K (upd' f d v) w) : WE P ⟨some d, .call ⟨.value (.func F), args.toArray, ats⟩, ty, pos, aft, none⟩ K Q n f w :=
  .mk fun K' hK => by
    unfold Oper.wp
    rw [act_eval']
    have has : (List.map (ev n f) args).toArray = avs := by rw [ha]
    have : (execOp (ev n f) ⟨some d, .call ⟨.value (.func F), args.toArray, ats⟩, ty, pos, aft, none⟩).run P w = .ok (.value v) w := by
      simp only [execOp, resolve, ev, Deferred.ofValue, Sem.run_bind, Sem.run_pure, Result.andThen_ok, invoke]
      have e1 : (#[] ++ Array.map (ev n f) args.toArray) ++ #[] = avs := by rw [← has]; simp
      rw [← h, ← e1]
    rw [this]
    simp only [Oper.upon_value, act_put]
    exact hK _ _ hk
theorem ap_run2 (x y : Operand) {ty : TypeId} {pos : String} {aft : Array Edge} {dd : Option Tmp} {gd : Option (Nat × Bool)} {u : Value} {res : Result Value} (hx : ev n f x = v) (hy : ev n f y = u) (h : (Builtin.append_ #[t, t'] ty #[v, u]).run P w = res) :
    (execOp (ev n f) ⟨dd, .call ⟨.builtin .append, #[x, y], #[t, t']⟩, ty, pos, aft, gd⟩).run P w = res.andThen fun a w' => .ok (.value a) w' := by
  simp [execOp, resolve, invoke, builtin, hx, hy, h]
/-- copy -/
theorem cp [ht : HasTT P] {dLen dCap sLen sCap : Nat} {ad : Addr} (kk : Nat) (hS : Sep r M L w) (hx : ev n f x = .slice (some ⟨g, o, none⟩) dLen dCap) (hy : ev n f y = .slice (some ad) sLen sCap) (hk : kindOf ht.tt t = .sl e sz) (ha : At L k (.blk g T cs)) (hkk : min sLen dLen = kk) (hsrc : Rows' w sz (.slice (some ad) kk kk) ys) (hfit : o + kk * sz ≤ cs.length)
    (h : ∀ w', Sep r M (.blk g T (cs.take o ++ ys.flatten ++ cs.drop (o + kk * sz)) :: k) w' → K (upd' f d (.int .i64 (kk : Nat))) w') :
    WE P ⟨some d, .call ⟨.builtin .copy, #[x, y], #[t, t']⟩, ty, pos, aft, none⟩ K Q n f w := by
  refine ⟨fun K' hK => ?_⟩
  obtain ⟨hu, hs⟩ := kind_sl hk
  obtain ⟨hok, A, c, hv, hnil, hle, hr⟩ := hsrc
  injection hv with e1 e2 e3
  subst e1
  subst e2
  have hb := hS.blk ha
  have hfl : ys.flatten.length = ys.length * sz := flatten_length fun row hr => (hok row hr).1
  have h1 : ∀ u ∈ ys.flatten, u.oneCell' = true := fun u hu => by
    obtain ⟨row, hrow, hu⟩ := List.mem_flatten.1 hu
    exact (hok row hrow).2 u hu
  have hload : (Builtin.firstCells sz ys.length (.slice (some ad) sLen sCap)).run P w = .ok ys.flatten.toArray w := by
    unfold Builtin.firstCells
    rw [← hfl]
    refine run_loadCells_list (P := P) w ad _ fun j u hu => ?_
    have hp : 0 < ys.length := by
      rcases Nat.eq_zero_or_pos ys.length with h | h
      · have : ys = [] := List.eq_nil_of_length_eq_zero h
        subst this; simp at hu
      · exact h
    obtain ⟨ad', e1, hc⟩ := hr.2 hp
    injection e1 with e1
    subst e1
    exact hc j u hu
  have hst := run_storeCells_at P g o T ys.flatten 0 cs.toArray w hb (by rw [hfl]; simp; omega) h1
  have hrun : (Builtin.copy_ #[t, t'] ty #[.slice (some ⟨g, o, none⟩) dLen dCap, .slice (some ad) sLen sCap]).run P w = .ok (.int .i64 (ys.length : Nat)) (w.setRow g (cs.take o ++ ys.flatten ++ cs.drop (o + ys.length * sz)).toArray) := by
    have e1 : Nat.min sLen dLen = ys.length := hkk
    simp only [Nat.add_zero, hfl] at hst
    simp [Builtin.copy_, run_under hu, Builtin.lenOf, run_size hs, e1, hload, hst, goInt]
  unfold Oper.wp
  rw [act_eval']
  have : (execOp (ev n f) ⟨some d, .call ⟨.builtin .copy, #[x, y], #[t, t']⟩, ty, pos, aft, none⟩).run P w = .ok (.value (.int .i64 (ys.length : Nat))) (w.setRow g (cs.take o ++ ys.flatten ++ cs.drop (o + ys.length * sz)).toArray) := by
    simp [execOp, resolve, invoke, builtin, hx, hy, hrun]
  rw [this]
  simp only [Oper.upon_value, act_put]
  exact hK _ _ (h _ (hS.put ha (chg_setRow w g _) (setRow_heap w g _ _ T _ hb)))
/-- append(s, make(.., m)...) where there is no room -/
theorem apz [ht : HasTT P] {i c m : Nat} {z : Int} [he : HasE P e sz bytes] [hzz : HasZ P e zs] (hS : Sep r M L w) (hx : ev n f x = .slice (some ⟨g, 0, none⟩) i c) (hy : ev n f y = .int .i64 z) (hk : kindOf ht.tt t = .sl e sz) (hti : P.underlying t' = some (.int .i64)) (hz : z = (m : Int)) (hsrc : Rows' w sz (.slice (some ⟨g, 0, none⟩) i c) ys) (h1 : zs.all (·.oneCell') = true)
    (hm0 : 0 < m) (hneed : c < i + m) (h63 : (i + m) * bytes ≤ 140737488355328) (hm : i + m ≤ maxLen)
    (h : ∀ A' c' w', Sep r M (.sl e sz (.slice A' (i + m) c') (ys ++ List.replicate m zs) :: L) w' → K (upd' f d (.slice A' (i + m) c')) w') :
    WE P ⟨some d, .call ⟨.builtin .append, #[x, y], #[t, t']⟩, ty, pos, aft, none⟩ K Q n f w := by
  refine ⟨fun K' hK => ?_⟩
  subst hz
  obtain ⟨hu, _⟩ := kind_sl hk
  obtain ⟨i0, z, hi, hz, hsz, hby, hzs, hpos⟩ := he.ok
  obtain ⟨hok, A, c1, hv, hnil, hle, hr⟩ := hsrc
  injection hv with e1 e2 e3
  subst e1
  subst e2
  have hz' := hzz.ok
  simp [hi, hz] at hz'
  have hzl : zs.length = sz := by omega
  have hfl : ys.flatten.length = ys.length * sz := flatten_length fun row hr => (hok row hr).1
  have hold : (Builtin.firstCells i0.size ys.length (.slice (some ⟨g, 0, none⟩) ys.length c)).run P w.drew = .ok ys.flatten.toArray w.drew := by
    unfold Builtin.firstCells
    rw [hsz, ← hfl]
    refine run_loadCells_list (P := P) w.drew _ _ fun j u hu => ?_
    have hp : 0 < ys.length := by
      rcases Nat.eq_zero_or_pos ys.length with h | h
      · have : ys = [] := List.eq_nil_of_length_eq_zero h
        subst this; simp at hu
      · exact h
    obtain ⟨ad', e1, hc⟩ := hr.2 hp
    injection e1 with e1
    subst e1
    exact hc j u hu
  have hmm : maxLen = 9223372036854775807 := rfl
  have hbytes : m * i0.bytes ≤ 281474976710656 := by
    have : m * bytes ≤ (ys.length + m) * bytes := Nat.mul_le_mul_right _ (by omega)
    rw [hby]; omega
  have hrun := Lib.run_append_grow_zeros (P := P) w t t' ty e i0 z .i64 .i64 hu hti hi hz (some ⟨g, 0, none⟩) ys.length c ys.flatten hold m hm0 (by omega) hneed (by omega) hbytes (by rw [hby]; exact growslice_fits hneed h63)
  have hge := grownCap_ge w (ys.length + m) c e
  have hle' := grownCap_le_maxLen w (ys.length + m) c e hm
  generalize grownCap w (ys.length + m) c e = c' at *
  have hzc : ∀ q, Builtin.zeroCells z.cells q = (zerosL zs q).toArray := fun q => by
    have := zerosL_ok zs q
    unfold Builtin.zeroCells
    rw [hz'.1]
    simpa using this
  have hlz : ∀ q, (zerosL zs q).length = q * sz := fun q => by
    have := congrArg Array.size (zerosL_ok zs q)
    simp at this
    rw [← this, hzl]
  have hrep : ∀ q, (List.replicate q zs).flatten = zerosL zs q := fun q => by
    induction q with
    | zero => rfl
    | succ q ih => rw [List.replicate_succ, List.flatten_cons, ih]; rfl
  rw [hzc, hzc] at hrun
  unfold Oper.wp
  rw [act_eval', ap_run2 x y hx hy hrun]
  simp only [Result.andThen_ok, Oper.upon_value, act_put]
  refine hK _ _ (h _ _ _ (hS.add (f2 := [w.heap.size]) ((Chg.refl _ _).drew.alloc _) ⟨?_, _, _, by simp, .inr ⟨by omega, w.heap.size, _, rfl, rfl, Blk.new' _ _ _ rfl, by simpa using hge, hle', ?_, ?_⟩⟩ (by simp) ?_))
  · intro row hrow
    rcases List.mem_append.1 hrow with h2 | h2
    · exact hok row h2
    · obtain ⟨_, rfl⟩ := List.mem_replicate.1 h2
      exact ⟨hzl, by simpa using h1⟩
  · simp only [Array.size_append, List.size_toArray, hfl, hlz]
    rw [← Nat.add_mul, ← Nat.add_mul]
    congr 1
    omega
  · rw [List.flatten_append, hrep]
    have : ((ys ++ List.replicate m zs).length * sz) = (ys.flatten ++ zerosL zs m).length := by
      simp only [List.length_append, List.length_replicate, hfl, hlz, Nat.add_mul]
    rw [this]
    simp only [Array.toList_append, List.append_assoc]
    rw [← List.append_assoc]
    exact List.take_left
  · intro b hb
    simp at hb
    subst hb
    have := (Blk.new' (g := w.heap.size) w.drew e (ys.flatten.toArray ++ (zerosL zs m).toArray ++ (zerosL zs (c' - (ys.length + m))).toArray) rfl).lt
    exact ⟨this, Nat.le_refl _⟩
/-- clear -/
theorem clr [ht : HasTT P] {m c : Nat} (hS : Sep r M L w) (hx : ev n f x = .slice (some ⟨g, o, none⟩) m c) (hk : kindOf ht.tt t = .sl e sz) [hz : HasZ P e zs] (ha : At L k (.blk g T cs)) (hfit : o + m * sz ≤ cs.length) (h1 : zs.all (·.oneCell') = true)
    (h : ∀ w', Sep r M (.blk g T (cs.take o ++ zerosL zs m ++ cs.drop (o + m * sz)) :: k) w' → K f w') :
    WE P ⟨none, .call ⟨.builtin .clear, #[x], #[t]⟩, ty, pos, aft, none⟩ K Q n f w := by
  refine ⟨fun K' hK => ?_⟩
  obtain ⟨hu, hs⟩ := kind_sl hk
  have hb := hS.blk ha
  have hz' := hz.ok
  cases hi : P.info? e with
  | none => simp [hi] at hz'
  | some i =>
    simp [hi] at hz'
    obtain ⟨⟨z, hz1, hz2⟩, hz3⟩ := hz'
    have hsz : i.size = sz := by
      have hs' := hs
      simp [sizeB, hi] at hs'
      exact hs'
    have hzl : zs.length = sz := by omega
    have hzv : (zeroValue e).run P w = .ok z w := by simp [zeroValue, typeInfo, hi, hz1]
    have hcells : Builtin.zeroCells z.cells m = (zerosL zs m).toArray := by
      have := zerosL_ok zs m
      unfold Builtin.zeroCells
      rw [hz2]
      simpa using this
    have hlz : (zerosL zs m).length = m * sz := by
      have := congrArg Array.size (zerosL_ok zs m)
      simp at this
      rw [← this, hzl]
    have h1' : ∀ u ∈ zerosL zs m, u.oneCell' = true := by
      clear hcells hlz
      induction m with
      | zero => simp [zerosL]
      | succ m ih => 
        intro u hu
        simp only [zerosL, List.mem_append] at hu
        rcases hu with hu | hu
        · simp at h1; exact h1 u hu
        · have hh : ∀ q u, u ∈ zerosL zs q → u.oneCell' = true := by
            intro q
            induction q with
            | zero => simp [zerosL]
            | succ q ih2 =>
              intro u hu
              simp only [zerosL, List.mem_append] at hu
              rcases hu with hu | hu
              · simp at h1; exact h1 u hu
              · exact ih2 u hu
          exact hh m u hu
    have hst := run_storeCells_at P g o T (zerosL zs m) 0 cs.toArray w hb (by rw [hlz]; simp; omega) h1'
    simp only [Nat.add_zero, hlz] at hst
    by_cases hm : m = 0
    · subst hm
      have hrun : (Builtin.clear_ #[t] ty #[.slice (some ⟨g, o, none⟩) 0 c]).run P w = .ok (.tuple #[]) w := by
        simp [Builtin.clear_, run_under hu]
      unfold Oper.wp
      rw [act_eval']
      have : (execOp (ev n f) ⟨none, .call ⟨.builtin .clear, #[x], #[t]⟩, ty, pos, aft, none⟩).run P w = .ok (.value (.tuple #[])) w := by
        simp [execOp, resolve, invoke, builtin, hx, hrun]
      rw [this]
      simp only [Oper.upon_value, act_put]
      refine hK _ _ (h _ ?_)
      simp only [zerosL, List.append_nil, Nat.zero_mul, Nat.add_zero, List.take_append_drop]
      exact hS.focus ha
    · have hrun : (Builtin.clear_ #[t] ty #[.slice (some ⟨g, o, none⟩) m c]).run P w = .ok (.tuple #[]) (w.setRow g (cs.take o ++ zerosL zs m ++ cs.drop (o + m * sz)).toArray) := by
        cases m with
        | zero => exact absurd rfl hm
        | succ m => simp [Builtin.clear_, run_under hu, hzv, hcells, hst]
      unfold Oper.wp
      rw [act_eval']
      have : (execOp (ev n f) ⟨none, .call ⟨.builtin .clear, #[x], #[t]⟩, ty, pos, aft, none⟩).run P w = .ok (.value (.tuple #[])) (w.setRow g (cs.take o ++ zerosL zs m ++ cs.drop (o + m * sz)).toArray) := by
        simp [execOp, resolve, invoke, builtin, hx, hrun]
      rw [this]
      simp only [Oper.upon_value, act_put]
      exact hK _ _ (h _ (hS.put ha (chg_setRow w g _) (setRow_heap w g _ _ T _ hb)))
end
end Z
end Go.Proofs.Ytabpapdickolgaa
