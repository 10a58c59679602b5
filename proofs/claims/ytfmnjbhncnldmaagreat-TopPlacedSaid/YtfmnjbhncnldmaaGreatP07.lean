import Derived.Test.YtfmnjbhncnldmaaGreatP06
set_option linter.unusedSimpArgs false
set_option linter.unusedVariables false
namespace Go.Proofs.YtfmnjbhncnldmaaGreat
open Go.RowKit
attribute [local irreducible] Res.blk Res.sl Res.all Res.ex Res.pure Res.star
section
variable {P : Program} {ops : Array Oper} {Q : Exit → Act → World → Prop} {n : Nat} {f : Nat → Value} {w : World} {rest : List Oper} {d : Tmp} {ty : TypeId} {op : Op} {pos : String} {aft : Array Edge}
theorem SWO {c : Int} (h : WL P ops Q rest n (upd' f d (.int .i64 (IntKind.i64.wrap c))) w) (hp : Z.ari n f op = some c := by exact rfl) : WL P ops Q (⟨some d, op, ty, pos, aft, none⟩ :: rest) n f w := Z.sumW hp h
end
theorem Kw {G H : Prop} (h : H) (k : H → G := by
    intro h
    first | exact K h | exact SWO h) : G := k h
theorem mid_set {X a b c Y R xs : List Value} (h : xs.length = b.length) : (X ++ (a ++ b ++ c) ++ Y ++ R).take (X.length + a.length) ++ xs ++ (X ++ (a ++ b ++ c) ++ Y ++ R).drop (X.length + a.length + xs.length) = X ++ (a ++ xs ++ c) ++ Y ++ R := by
  have e1 : X ++ (a ++ b ++ c) ++ Y ++ R = (X ++ a) ++ (b ++ (c ++ Y ++ R)) := by simp [List.append_assoc]
  have e2 : (X ++ a) ++ (b ++ (c ++ Y ++ R)) = (X ++ a ++ b) ++ (c ++ Y ++ R) := by simp
  have t : ((X ++ a) ++ (b ++ (c ++ Y ++ R))).take (X.length + a.length) = X ++ a := List.take_left' (by simp)
  have d : ((X ++ a ++ b) ++ (c ++ Y ++ R)).drop (X.length + a.length + xs.length) = c ++ Y ++ R := List.drop_left' (by simp; omega)
  rw [e1, t, e2, d]
  simp
namespace Z
section
variable {P : Program} {K : (Nat → Value) → World → Prop} {Q : Exit → Act → World → Prop} {n : Nat} {f : Nat → Value} {w r : World} {M : List Nat} {L : List Res} {ty t : TypeId} {pos : String} {aft : Array Edge} {v : Value} {x y : Operand} {k : List Res} {e sz : Nat}
theorem stv_many [ht : HasTT P] {cs xs : List Value} {o m : Nat} (hz : sizeT ht.tt t = some m) (hm : xs.length = m) (h1 : xs.all (·.oneCell') = true) (ho : o + m ≤ cs.length) : stv ht.tt t cs o (.agg xs.toArray) = some (cs.take o ++ xs ++ cs.drop (o + m)) := by
  unfold sizeT at hz
  unfold stv
  cases hy : ht.tt[t]? with
  | none => simp [hy] at hz
  | some y =>
    simp only [hy] at hz
    have hb : Nat.ble (o + m) cs.length = true := Nat.ble_eq_true_of_le ho
    have hmb : Nat.beq m xs.length = true := by rw [hm]; exact Nat.beq_refl m
    have key : stv1 m cs o (.agg xs.toArray) = some (cs.take o ++ xs ++ cs.drop (o + m)) := by
      unfold stv1
      simp only [hmb, h1, Bool.and_self, cond_true, hb]
      cases h0 : (Nat.beq o 0 && Nat.beq xs.length cs.length)
      · rfl
      · simp only [Bool.and_eq_true] at h0
        have h2 := Nat.eq_of_beq_eq_true h0.1
        have h3 := Nat.eq_of_beq_eq_true h0.2
        subst h2
        simp only [cond_true]
        rw [List.take_zero, List.nil_append, List.drop_of_length_le (by omega), List.append_nil]
    cases hk : y.k <;> simp only [hk] at hz ⊢ <;> cases hz <;> exact key
theorem stFw [ht : HasTT P] {α : Type} {fc : α → List Value} {l : List α} {q j m n0 c g : Nat} {xs : List Value} (z : α) (hS : Sep r M L w) (hx : ev n f x = .pointer (some ⟨g, 0 + q * sz + j, none⟩)) (ha : At L k (.sl e sz (.slice (some ⟨g, 0, none⟩) n0 c) (l.map fc))) (hq : q < l.length) (hy : ev n f y = .agg xs.toArray)
    (hz : sizeT ht.tt t = some m) (hxm : xs.length = m) (h1 : xs.all (·.oneCell') = true) (hj : j + m ≤ sz) (hzc : fc z = (fc (l[q]'hq)).take j ++ xs ++ (fc (l[q]'hq)).drop (j + m))
    (h : ∀ w', Sep r M (.sl e sz (.slice (some ⟨g, 0, none⟩) n0 c) ((l.set q z).map fc) :: k) w' → K f w') : WE P ⟨none, .store t x y, ty, pos, aft, none⟩ K Q n f w := by
  obtain ⟨g', cs, hA, hn, hnc, hm, hl, ht', hok, hS2⟩ := open_sl (hS.focus ha) (by simpa using (by omega : 0 < l.length))
  injection hA with hA
  injection hA with hA _
  subst hA
  have hrow : ∀ a, a ∈ l → (fc a).length = sz := fun a ha => (hok (fc a) (List.mem_map.2 ⟨a, ha, rfl⟩)).1
  simp only [List.length_map] at hn
  have hlt : q * sz + j + m ≤ l.length * sz := by
    have : (q + 1) * sz ≤ l.length * sz := Nat.mul_le_mul_right _ (by omega)
    rw [Nat.add_mul] at this
    omega
  have hlt2 : q * sz + sz ≤ l.length * sz := by
    have : (q + 1) * sz ≤ l.length * sz := Nat.mul_le_mul_right _ (by omega)
    rw [Nat.add_mul] at this
    omega
  have hcs : l.length * sz ≤ cs.length := by rw [hl]; exact Nat.mul_le_mul_right _ (by omega)
  rw [Nat.zero_add] at hx
  have hA := hrow l[q] (by simp)
  have hzl : (fc z).length = sz := by
    rw [hzc]
    simp only [List.length_append, List.length_take, List.length_drop, hA]
    omega
  refine st hS2 hx .here hy (stv_many hz hxm h1 (by omega)) ?_
  intro w' hS'
  refine h w' ?_
  have hlen : (l.set q z).length = l.length := by simp
  have := close_sl (rows := (l.set q z).map fc) (sz := sz) hS' (by omega) hm (by simp only [List.length_append, List.length_take, List.length_drop]; omega) (by simpa using (by omega : l.length ≤ c)) ?_ ?_
  · simp only [List.length_map, List.length_set] at this
    rw [hn]
    exact this
  · have e1 := flatten_set (fun row hr => (hok row hr).1) (q := q) (rows := l.map fc) (by simpa using hq) (row' := fc z) hzl
    have e0 := flatten_set (fun row hr => (hok row hr).1) (q := q) (rows := l.map fc) (by simpa using hq) (row' := fc l[q]) (hrow _ (by simp))
    have e2 : (l.map fc).set q (fc l[q]) = l.map fc := by
      have : (l.map fc)[q]'(by simpa using hq) = fc l[q] := by simp
      rw [← this]
      exact List.set_getElem_self _
    rw [e2] at e0
    rw [List.map_set, e1]
    simp only [List.length_set, List.length_map]
    rw [hn] at ht'
    have hFl : (l.map fc).flatten.length = l.length * sz := by
      rw [← ht', List.length_take]
      omega
    generalize (l.map fc).flatten = Fl at *
    have hX : (Fl.take (q * sz)).length = q * sz := by
      rw [List.length_take]
      omega
    have hY : (Fl.drop (q * sz + sz)).length = l.length * sz - (q * sz + sz) := by rw [List.length_drop, hFl]
    generalize Fl.take (q * sz) = X at *
    generalize Fl.drop (q * sz + sz) = Y at *
    have hab : fc l[q] = (fc l[q]).take j ++ ((fc l[q]).drop j).take m ++ (fc l[q]).drop (j + m) := by
      rw [← List.drop_drop, List.append_assoc, List.take_append_drop, List.take_append_drop]
    have hal : ((fc l[q]).take j).length = j := by rw [List.length_take, hA]; omega
    have hbl : (((fc l[q]).drop j).take m).length = m := by rw [List.length_take, List.length_drop, hA]; omega
    have hcl : ((fc l[q]).drop (j + m)).length = sz - (j + m) := by rw [List.length_drop, hA]
    rw [hzc]
    generalize (fc l[q]).drop (j + m) = C at *
    generalize ((fc l[q]).drop j).take m = Bm at *
    generalize (fc l[q]).take j = Aj at *
    have hcs2 : cs = X ++ (Aj ++ Bm ++ C) ++ Y ++ cs.drop (l.length * sz) := by
      conv => lhs; rw [← List.take_append_drop (l.length * sz) cs, ht', e0, hab]
    have hmid := mid_set (X := X) (a := Aj) (b := Bm) (c := C) (Y := Y) (R := cs.drop (l.length * sz)) (xs := xs) (by omega)
    rw [← hcs2, hX, hal, hxm] at hmid
    rw [hmid]
    refine List.take_left' ?_
    simp only [List.length_append, hX, hal, hxm, hcl, hY]
    omega
  · intro row hr
    obtain ⟨a, ha, rfl⟩ := List.mem_map.1 hr
    rcases List.mem_or_eq_of_mem_set ha with h2 | h2
    · exact hok _ (List.mem_map.2 ⟨a, h2, rfl⟩)
    · subst h2
      refine ⟨hzl, fun u hu => ?_⟩
      rw [hzc] at hu
      have hrow1 := (hok _ (List.mem_map.2 ⟨l[q], by simp, rfl⟩)).2
      rcases List.mem_append.1 hu with hu | hu
      · rcases List.mem_append.1 hu with hu | hu
        · exact hrow1 u (List.mem_of_mem_take hu)
        · exact List.all_eq_true.1 h1 u hu
      · exact hrow1 u (List.mem_of_mem_drop hu)
theorem stT [ht : HasTT P] {ts : List TS} {q j n0 c g : Nat} {y0 : TS} (y' : TS) (hS : Sep r M L w) (hx : ev n f x = .pointer (some ⟨g, 0 + q * 12 + j, none⟩)) (ha : At L k (.sl e 12 (.slice (some ⟨g, 0, none⟩) n0 c) ((ts.set q y0).map TS.cells))) (hq : q < ts.length) (hy : ev n f y = v)
    (hz : sizeT ht.tt t = some 1) (h1 : v.oneCell' = true) (hj : j < 12) (hzc : y'.cells = y0.cells.set j v)
    (h : ∀ w', Sep r M (.sl e 12 (.slice (some ⟨g, 0, none⟩) n0 c) ((ts.set q y').map TS.cells) :: k) w' → K f w') : WE P ⟨none, .store t x y, ty, pos, aft, none⟩ K Q n f w :=
  stF (fc := TS.cells) (l := ts.set q y0) y' hS hx ha (by simpa using hq) hy hz h1 hj (by rw [List.getElem_set_self]; exact hzc) fun w' h' => h w' (by rw [List.set_set] at h'; exact h')
theorem stTw [ht : HasTT P] {ts : List TS} {q n0 c g : Nat} {y0 : TS} {xs : List Value} (y' : TS) (hS : Sep r M L w) (hx : ev n f x = .pointer (some ⟨g, 0 + q * 12 + 7, none⟩)) (ha : At L k (.sl e 12 (.slice (some ⟨g, 0, none⟩) n0 c) ((ts.set q y0).map TS.cells))) (hq : q < ts.length) (hy : ev n f y = .agg xs.toArray)
    (hz : sizeT ht.tt t = some 5) (hxm : xs.length = 5) (h1 : xs.all (·.oneCell') = true) (hzc : y'.cells = y0.cells.take 7 ++ xs ++ y0.cells.drop 12)
    (h : ∀ w', Sep r M (.sl e 12 (.slice (some ⟨g, 0, none⟩) n0 c) ((ts.set q y').map TS.cells) :: k) w' → K f w') : WE P ⟨none, .store t x y, ty, pos, aft, none⟩ K Q n f w :=
  stFw (fc := TS.cells) (l := ts.set q y0) (j := 7) (m := 5) y' hS hx ha (by simpa using hq) hy hz hxm h1 (by omega) (by rw [List.getElem_set_self]; exact hzc) fun w' h' => h w' (by rw [List.set_set] at h'; exact h')
end
end Z
theorem row_at {r w : World} {L k : List Res} {α : Type} {fc : α → List Value} {l : List α} {e sz g n c q : Nat} {x : α} (hS : Sep r [] L w) (ha : At L k (.sl e sz (.slice (some ⟨g, 0, none⟩) n c) (l.map fc))) (hz : 0 < sz) (hq : q < l.length) (hx : l[q]'hq = x) : w.rangeAt g (0 + q * sz) (fc x) := by
  have h3 := (hS.slrows ha).elem (q := q) hz (by simpa using hq)
  subst hx
  simpa using h3
theorem set_self {α : Type} {l : List α} {q : Nat} {x : α} (hq : q < l.length) (hx : l[q]'hq = x) : l = l.set q x := by
  subst hx
  exact (List.set_getElem_self _).symm
def Sta.cc (s : Sta) (c : Cfg) (b : SAd) : List Value := [.int .i64 s.tick, .int .i64 s.count, .slice b.tA c.tenants.length b.tc, .slice b.kA c.cells.length b.kc, .int .i64 s.proven, .int .i64 s.evac, .int .i64 s.low, .int .i64 s.high]
def Sta.vc (s : Sta) (c : Cfg) (b : SAd) : Value := .agg (s.cc c b).toArray
structure StC (r : World) (F : List Res) (s : Sta) (c : Cfg) (b : SAd) : Prop where
  t : Reads r F 12 (.slice b.tA c.tenants.length b.tc) (s.tenants.map TS.cells)
  k : Reads r F 4 (.slice b.kA c.cells.length b.kc) (s.cells.map CS.cells)
theorem StC.str {r : World} {F : List Res} {s : Sta} {c : Cfg} {b : SAd} (h : StC r F s c b) (ho : s.ok c) : StR r F s b := ⟨by rw [ho.tl]; exact h.t, by rw [ho.kl]; exact h.k⟩
end Go.Proofs.YtfmnjbhncnldmaaGreat
