/-
  A region that draws its order, walked by a condition S on the world that holds until operation L (the store that ends the statement) is carried out: loads that read what S gives, and plain reckoning, are taken first; of the rest every order is walked.
-/
import Derived.Test.YtabpapdickolgaaReg
import Derived.Orders
import Derived.OrdersHeld
import Derived.RegionTactic
import Derived.Deep.RegionHeld3
namespace Go.Proofs.Ytabpapdickolgaa
open Go.RowKit
set_option linter.unusedSimpArgs false
set_option linter.unusedVariables false

/-- Operation L has come up, or S holds. -/
def Held (S : World → Prop) (L : Nat) (listed : Array Bool) (w : World) : Prop := listed.getD L false = true ∨ S w

/-- Whatever order is picked from here on; until L has come up S holds behind every operation. -/
def RG (P : Program) (ops : Array Oper) (Q : Exit → Act → World → Prop) (S : World → Prop) (L : Nat) : Nat → Array Bool → Act → World → Prop
  | 0, listed, a, w => Region.ready .any ops listed = [] ∧ Q .normal a w
  | fuel + 1, listed, a, w =>
    (Region.ready .any ops listed = [] → Q .normal a w) ∧
    ∀ i ∈ Region.ready .any ops listed, wpOp P ops Q i (fun a' w' => Held S L (listed.setIfInBounds i true) w' ∧ RG P ops Q S L fuel (listed.setIfInBounds i true) a' w') a w

section
variable {P : Program} {ops : Array Oper} {Q : Exit → Act → World → Prop} {S : World → Prop} {L : Nat}

theorem RG.any : ∀ (fuel : Nat) (listed : Array Bool) (a : Act) (w : World), RG P ops Q S L fuel listed a w → wpAny P .any ops Q fuel listed a w
  | 0, _, _, _, h => h
  | fuel + 1, _, _, _, h => ⟨h.1, fun i hi => wpOp_mono (fun a' w' h' => RG.any fuel _ a' w' h'.2) (h.2 i hi)⟩

/-- Operation L waits for operation i. -/
def waitsFor (ops : Array Oper) (L i : Nat) : Bool := match ops[L]? with | some o => o.after.any fun e => Region.binds .any e && e.on == i | none => true

theorem Held.set {listed : Array Bool} {w : World} (h : Held S L listed w) (i : Nat) : Held S L (listed.setIfInBounds i true) w := by
  rcases h with h | h
  · left
    exact getD_set_true h
  · exact .inr h
theorem Held.unset {listed : Array Bool} {w : World} {i : Nat} (h : Held S L (listed.setIfInBounds i true) w) (hi : i ≠ L) : Held S L listed w := by
  rcases h with h | h
  · rw [getD_set_ne false hi] at h; exact .inl h
  · exact .inr h

/-- The two ways to take an operation first: it reckons without memory; or it reads what S gives, and L waits for it. -/
theorem RG.first {i : Nat} {oi : Oper} {v : Value} (hi : ops[i]? = some oi) (hsel : ∀ (j : Nat) (o : Oper) cs b, ops[j]? = some o → o.op ≠ .select cs b)
    (hQ : ∀ c a w, Q (.panic c) (a.put oi.dst v) w → Q (.panic c) a w) (hLi : i ≠ L) (T : World → Prop) (hT : (∀ w, T w) ∨ ((∀ w, S w → T w) ∧ waitsFor ops L i = true)) :
    ∀ (fuel : Nat) (listed : Array Bool) (a : Act) (w : World),
      (∀ j oj, ops[j]? = some oj → j ≠ i → listed.getD j true = false → (∀ e ∈ oj.after, Region.binds .any e = true → e.on ≠ i) → oi.apart ops oj = true) →
      i ∈ Region.ready .any ops listed → YieldsIf P ops T oi v a → T w → ((∀ w, T w) ∨ listed.getD L false = false) → Held S L listed w →
      RG P ops Q S L fuel (listed.setIfInBounds i true) (a.put oi.dst v) w → RG P ops Q S L (fuel + 1) listed a w := by
  intro fuel
  induction fuel with
  | zero =>
    intro listed a w _ hr hy hTw _ hH H
    refine ⟨fun h => (by rw [h] at hr; cases hr), fun j hj => ?_⟩
    by_cases hji : j = i
    · subst hji
      exact hy.wpOp hi hTw ⟨hH.set j, H⟩
    · have hm := ready_mono hj hji
      rw [H.1] at hm
      cases hm
  | succ fuel ih =>
    intro listed a w hfree hr hy hTw hLun hH H
    refine ⟨fun h => (by rw [h] at hr; cases hr), fun j hj => ?_⟩
    by_cases hji : j = i
    · subst hji
      exact hy.wpOp hi hTw ⟨hH.set j, H⟩
    · have h1 := H.2 j (ready_mono hj hji)
      obtain ⟨hjun, oj, hoj, hall⟩ := mem_ready.1 hj
      have hiun : listed.getD i false = true → False := fun h1 => by
        have h0 := (mem_ready.1 hr).1
        rcases Nat.lt_or_ge i listed.size with h' | h'
        · simp [h'] at h0 h1
          rw [h0] at h1
          cases h1
        · simp [Array.getElem?_eq_none h'] at h1
      have hnot : ∀ e ∈ oj.after, Region.binds .any e = true → e.on ≠ i := fun e he hb heq => hiun (heq ▸ hall e he hb)
      have h2 := wpOp_putIf hoj (hfree j oj hoj hji hjun hnot) (fun cs b => hsel i oi cs b hi) (fun cs b => hsel j oj cs b hoj) hQ hy h1
      have hstill : i ∈ Region.ready .any ops (listed.setIfInBounds j true) := ready_mono hr (Ne.symm hji)
      refine wpOp_mono (fun a' w' h3 => ?_) h2
      obtain ⟨hy', hH', hrest⟩ := h3
      have hH2 : Held S L (listed.setIfInBounds j true) w' := by
        rw [Array.setIfInBounds_comm _ _ (Ne.symm hji)] at hH'
        exact hH'.unset hLi
      have hjL : (∀ w, T w) ∨ j ≠ L := by
        rcases hT with hT | ⟨_, hw⟩
        · exact .inl hT
        · refine .inr fun hjL => ?_
          subst hjL
          unfold waitsFor at hw
          rw [hoj] at hw
          obtain ⟨e, he, hb⟩ := Array.any_eq_true'.1 hw
          simp only [Bool.and_eq_true, beq_iff_eq] at hb
          exact hnot e he hb.1 hb.2
      have hLun2 : (∀ w, T w) ∨ (listed.setIfInBounds j true).getD L false = false := by
        rcases hLun with h | h
        · exact .inl h
        · rcases hjL with h' | h'
          · exact .inl h'
          · exact .inr (by rw [getD_set_ne false h']; exact h)
      have hT2 : T w' := by
        rcases hLun2 with h | h
        · exact h w'
        · rcases hH2 with h' | h'
          · rw [h] at h'; cases h'
          · rcases hT with hT | ⟨hT, _⟩
            · exact hT w'
            · exact hT w' h'
      refine ⟨hH2, ih (listed.setIfInBounds j true) a' w' ?_ hstill hy' hT2 hLun2 hH2 ?_⟩
      · intro k ok hk hki hun hno
        refine hfree k ok hk hki ?_ hno
        by_cases hjk : j = k
        · subst hjk; exact hjun
        · rw [getD_set_ne true hjk] at hun; exact hun
      · rw [Array.setIfInBounds_comm _ _ hji]
        exact hrest

/-- What is asked of the region's text to take operation i first. -/
def canTake (ops : Array Oper) (listed : Array Bool) (L i : Nat) : Bool := Region.noSelect ops && Region.free .any ops listed i && (Region.ready .any ops listed).contains i && (i != L)
def canLoad (ops : Array Oper) (listed : Array Bool) (L i : Nat) : Bool := canTake ops listed L i && waitsFor ops L i && !(listed.getD L false)

variable {fuel : Nat} {listed : Array Bool} {a : Act} {w : World}

/-- Plain reckoning is taken first. -/
theorem RG.take (i : Nat) {oi : Oper} {v : Value} (hi : ops[i]? = some oi) (hc : canTake ops listed L i = true) (hw : Region.wanted oi (yielded ops a.tmps) = true)
    (hH : Held S L listed w) (hy : ∀ W, (execOp a.eval oi).run P W = .ok (.value v) W)
    (h : Held S L (listed.setIfInBounds i true) w → RG P ops (NoPanic Q) S L fuel (listed.setIfInBounds i true) (a.put oi.dst v) w) : RG P ops (NoPanic Q) S L (fuel + 1) listed a w := by
  simp only [canTake, Bool.and_eq_true, bne_iff_ne] at hc
  obtain ⟨⟨⟨hs, hf⟩, hr⟩, hne⟩ := hc
  exact RG.first hi (Region.noSelect_spec hs) (fun _ _ _ h => h) hne (fun _ => True) (.inl fun _ => trivial) fuel listed a w (Region.free_spec hi hf) (by simpa using hr)
    (.inl ⟨hw, fun W _ => hy W⟩) trivial (.inl fun _ => trivial) hH (h (hH.set i))

/-- A load that reads what S gives is taken first. -/
theorem RG.load (i : Nat) {oi : Oper} {v : Value} (hi : ops[i]? = some oi) (hc : canLoad ops listed L i = true) (hw : Region.wanted oi (yielded ops a.tmps) = true)
    (hH : Held S L listed w) (hy : ∀ W, S W → (execOp a.eval oi).run P W = .ok (.value v) W)
    (h : Held S L (listed.setIfInBounds i true) w → RG P ops (NoPanic Q) S L fuel (listed.setIfInBounds i true) (a.put oi.dst v) w) : RG P ops (NoPanic Q) S L (fuel + 1) listed a w := by
  simp only [canLoad, canTake, Bool.and_eq_true, bne_iff_ne, Bool.not_eq_true'] at hc
  obtain ⟨⟨⟨⟨⟨hs, hf⟩, hr⟩, hne⟩, hwf⟩, hun⟩ := hc
  have hS : S w := by
    rcases hH with h' | h'
    · rw [hun] at h'; cases h'
    · exact h'
  exact RG.first hi (Region.noSelect_spec hs) (fun _ _ _ h => h) hne S (.inr ⟨fun _ h => h, hwf⟩) fuel listed a w (Region.free_spec hi hf) (by simpa using hr)
    (.inl ⟨hw, hy⟩) hS (.inr hun) hH (h (hH.set i))

/-- All have come up. -/
theorem RG.done (hr : Region.ready .any ops listed = []) (h : Q .normal a w) : ∀ fuel, RG P ops (NoPanic Q) S L fuel listed a w
  | 0 => ⟨hr, h⟩
  | _ + 1 => ⟨fun _ => h, by rw [hr]; simp⟩

/-- One of those that may come up now. -/
def Each (P : Program) (ops : Array Oper) (Q : Exit → Act → World → Prop) (S : World → Prop) (L fuel : Nat) (listed : Array Bool) (a : Act) (w : World) (rs : List Nat) : Prop :=
  ∀ i ∈ rs, wpOp P ops Q i (fun a' w' => Held S L (listed.setIfInBounds i true) w' ∧ RG P ops Q S L fuel (listed.setIfInBounds i true) a' w') a w
theorem Each.nil : Each P ops Q S L fuel listed a w [] := fun _ h => by cases h
theorem Each.cons {i : Nat} {o : Oper} {rs : List Nat} (ho : ops[i]? = some o) (hg : o.guard = none)
    (h : ∀ K : Act → World → Prop, Hid (∀ a w, Held S L (listed.setIfInBounds i true) w → (Held S L (listed.setIfInBounds i true) w → RG P ops Q S L fuel (listed.setIfInBounds i true) a w) → K a w) → o.wp P a w K Q)
    (hs : Each P ops Q S L fuel listed a w rs) : Each P ops Q S L fuel listed a w (i :: rs) := fun j hj => by
  rcases List.mem_cons.1 hj with rfl | hj
  · refine wpOp_step ho fun K' hK => ?_
    rw [if_pos (by simp [Region.wanted, hg])]
    exact h K' (fun a w hS hW => hK a w ⟨hS, hW hS⟩)
  · exact hs j hj
theorem Each.consW {i : Nat} {o : Oper} {rs : List Nat} (ho : ops[i]? = some o) (hw : Region.wanted o (yielded ops a.tmps) = true)
    (h : ∀ K : Act → World → Prop, Hid (∀ a w, Held S L (listed.setIfInBounds i true) w → (Held S L (listed.setIfInBounds i true) w → RG P ops Q S L fuel (listed.setIfInBounds i true) a w) → K a w) → o.wp P a w K Q)
    (hs : Each P ops Q S L fuel listed a w rs) : Each P ops Q S L fuel listed a w (i :: rs) := fun j hj => by
  rcases List.mem_cons.1 hj with rfl | hj
  · refine wpOp_step ho fun K' hK => ?_
    rw [if_pos hw]
    exact h K' (fun a w hS hW => hK a w ⟨hS, hW hS⟩)
  · exact hs j hj
theorem RG.each (rs : List Nat) (hr : Region.ready .any ops listed = rs) (hne : rs ≠ []) (h : Each P ops Q S L fuel listed a w rs) : RG P ops Q S L (fuel + 1) listed a w :=
  ⟨fun h0 => absurd (hr ▸ h0) hne, hr ▸ h⟩

/-- The beginning. -/
theorem RG.region (S : World → Prop) (L : Nat) {id : Nat} (hm : P.follows .mixedOrders = true) (hS : S w.drew)
    (h : Held S L (Array.replicate ops.size false) w.drew → RG P ops (NoPanic Q) S L ops.size (Array.replicate ops.size false) a w.drew) : (Code.region id ops true).wp P Q a w :=
  wp_region_noPanic (wp_region_any hm (RG.any _ _ _ _ (h (.inr hS))))

/-! The same with the set of those that have come up as one number. -/
def listedOf (n m : Nat) : Array Bool := (Array.range n).map m.testBit
def RM (P : Program) (ops : Array Oper) (Q : Exit → Act → World → Prop) (S : World → Prop) (L k m : Nat) (a : Act) (w : World) : Prop :=
  RG P ops (NoPanic Q) S L k (listedOf ops.size m) a w
def HM (ops : Array Oper) (S : World → Prop) (L m : Nat) (w : World) : Prop := Held S L (listedOf ops.size m) w

theorem listedOf_set {n m i : Nat} (hi : i < n) : (listedOf n m).setIfInBounds i true = listedOf n (m ||| 2 ^ i) := by
  apply Array.ext
  · simp [listedOf]
  · intro j h1 h2
    simp only [listedOf, Array.size_map, Array.size_range, Array.size_setIfInBounds] at h1
    simp only [listedOf, Array.getElem_setIfInBounds, Array.getElem_map, Array.getElem_range, Nat.testBit_or, Nat.testBit_two_pow]
    by_cases hij : i = j
    · subst hij
      simp
    · rw [Array.getElem_setIfInBounds_ne (by simpa using h1) hij]
      simp [hij]
theorem listedOf_zero (n : Nat) : listedOf n 0 = Array.replicate n false := by
  apply Array.ext
  · simp [listedOf]
  · intro j h1 h2
    simp [listedOf]

def okTake (ops : Array Oper) (L m m' i : Nat) : Bool := (i < ops.size) && (m' == (m ||| 2 ^ i)) && canTake ops (listedOf ops.size m) L i
def okLoad (ops : Array Oper) (L m m' i : Nat) : Bool := (i < ops.size) && (m' == (m ||| 2 ^ i)) && canLoad ops (listedOf ops.size m) L i
def okStep (ops : Array Oper) (m m' i : Nat) : Bool := (i < ops.size) && (m' == (m ||| 2 ^ i))

theorem RM.take (i m' : Nat) {k m : Nat} {oi : Oper} {v : Value} (hi : ops[i]? = some oi) (hc : okTake ops L m m' i = true) (hg : oi.guard = none) (d : Option Tmp) (hd : oi.dst = d)
    (hH : HM ops S L m w) (hy : ∀ W, (execOp a.eval oi).run P W = .ok (.value v) W) (h : HM ops S L m' w → RM P ops Q S L k m' (a.put d v) w) : RM P ops Q S L (k + 1) m a w := by
  simp only [okTake, Bool.and_eq_true, decide_eq_true_eq, beq_iff_eq] at hc
  obtain ⟨⟨hlt, rfl⟩, hc⟩ := hc
  subst hd
  unfold RM HM at *
  rw [← listedOf_set hlt] at h
  exact RG.take i hi hc (by simp [Region.wanted, hg]) hH hy h
theorem RM.load (i m' : Nat) {k m : Nat} {oi : Oper} {v : Value} (hi : ops[i]? = some oi) (hc : okLoad ops L m m' i = true) (hg : oi.guard = none) (d : Option Tmp) (hd : oi.dst = d)
    (hH : HM ops S L m w) (hy : ∀ W, S W → (execOp a.eval oi).run P W = .ok (.value v) W) (h : HM ops S L m' w → RM P ops Q S L k m' (a.put d v) w) : RM P ops Q S L (k + 1) m a w := by
  simp only [okLoad, Bool.and_eq_true, decide_eq_true_eq, beq_iff_eq] at hc
  obtain ⟨⟨hlt, rfl⟩, hc⟩ := hc
  subst hd
  unfold RM HM at *
  rw [← listedOf_set hlt] at h
  exact RG.load i hi hc (by simp [Region.wanted, hg]) hH hy h
theorem RM.done {k m : Nat} (hr : Region.ready .any ops (listedOf ops.size m) = []) (h : Q .normal a w) : RM P ops Q S L k m a w := RG.done hr h k
def EM (P : Program) (ops : Array Oper) (Q : Exit → Act → World → Prop) (S : World → Prop) (L k m : Nat) (a : Act) (w : World) (rs : List Nat) : Prop :=
  Each P ops (NoPanic Q) S L k (listedOf ops.size m) a w rs
theorem EM.nil {k m : Nat} : EM P ops Q S L k m a w [] := Each.nil
theorem EM.cons (i m' : Nat) {k m : Nat} {o : Oper} {rs : List Nat} (ho : ops[i]? = some o) (hc : okStep ops m m' i = true) (hg : o.guard = none)
    (h : ∀ K : Act → World → Prop, Hid (∀ a w, HM ops S L m' w → (HM ops S L m' w → RM P ops Q S L k m' a w) → K a w) → o.wp P a w K (NoPanic Q))
    (hs : EM P ops Q S L k m a w rs) : EM P ops Q S L k m a w (i :: rs) := by
  simp only [okStep, Bool.and_eq_true, decide_eq_true_eq, beq_iff_eq] at hc
  obtain ⟨hlt, rfl⟩ := hc
  unfold EM RM HM at *
  rw [← listedOf_set hlt] at h
  exact Each.cons ho hg h hs
theorem EM.consW (i m' : Nat) {k m : Nat} {o : Oper} {rs : List Nat} (ho : ops[i]? = some o) (hc : okStep ops m m' i = true) (hw : Region.wanted o (yielded ops a.tmps) = true)
    (h : ∀ K : Act → World → Prop, Hid (∀ a w, HM ops S L m' w → (HM ops S L m' w → RM P ops Q S L k m' a w) → K a w) → o.wp P a w K (NoPanic Q))
    (hs : EM P ops Q S L k m a w rs) : EM P ops Q S L k m a w (i :: rs) := by
  simp only [okStep, Bool.and_eq_true, decide_eq_true_eq, beq_iff_eq] at hc
  obtain ⟨hlt, rfl⟩ := hc
  unfold EM RM HM at *
  rw [← listedOf_set hlt] at h
  exact Each.consW ho hw h hs
theorem RM.each {k m : Nat} (rs : List Nat) (hr : Region.ready .any ops (listedOf ops.size m) = rs) (hne : rs ≠ []) (h : EM P ops Q S L k m a w rs) : RM P ops Q S L (k + 1) m a w :=
  RG.each rs hr hne h
theorem HM.s {m : Nat} (hS : S w) : HM ops S L m w := .inr hS
theorem HM.last {m : Nat} (h : (listedOf ops.size m).getD L false = true) : HM ops S L m w := .inl h
theorem HM.out {m : Nat} (h : HM ops S L m w) (hm : (listedOf ops.size m).getD L false = false) : S w := by
  rcases h with h | h
  · rw [hm] at h; cases h
  · exact h
theorem RM.region (S : World → Prop) (L n : Nat) {id : Nat} (hm : P.follows .mixedOrders = true) (hn : ops.size = n) (hS : S w.drew)
    (h : HM ops S L 0 w.drew → RM P ops Q S L n 0 a w.drew) : (Code.region id ops true).wp P Q a w := by
  refine RG.region S L hm hS ?_
  unfold RM HM at h
  rw [listedOf_zero, ← hn] at h
  exact h

/-! Appends as operations. -/
section
variable {o : Oper} {w0 : World} {K : Act → World → Prop} {R : List Nat}
theorem wp_app0 (s x : Operand) (t : TypeId) (hop : o.op = Op.call { callee := Callee.builtin Builtin.append, args := #[s, x], argTypes := #[t, t] })
    (e : TypeId) (i : TypeInfo) (z : Value) (sz bytes : Nat) (ht : P.underlying t = some (.slice e)) (hi : P.info? e = some i) (hz : i.zero = some z)
    (hsize : i.size = sz) (hby : i.bytes = bytes) (hzs : z.cells.size = sz) (hC : Chg R w0 w)
    (B A : Option Addr) (m c : Nat) (ys : List Value) (hs : a.eval s = .slice B 0 0) (hx : a.eval x = .slice A m c) (hnil : A = none → c = 0) (hr : Rd w sz A m ys) (h63 : m ≤ maxLen) (hb : m * bytes ≤ 140737488355328)
    (hK : ∀ A' c' w1, Own w1 w0.heap.size e sz A' m c' ys → Chg R w0 w1 → Chg [] w w1 → (A' = none → c' = 0) → K (a.put o.dst (.slice A' m c')) w1) : o.wp P a w K Q := by
  obtain ⟨A', c', w1, hrun, ho, _, hc, hn⟩ := run_app0 (P := P) (w := w) t o.type e i z sz bytes ht hi hz hsize hby hzs w0.heap.size hC.size B A m c ys hnil hr h63 hb
  unfold Oper.wp
  simp [execOp, hop, resolve, invoke, builtin, hs, hx, hrun, Result.andThen]
  exact hK A' c' w1 ho (hC.trans hc.ext) hc hn
theorem wp_app (s x : Operand) (t : TypeId) (hop : o.op = Op.call { callee := Callee.builtin Builtin.append, args := #[s, x], argTypes := #[t, t] })
    (e : TypeId) (i : TypeInfo) (z : Value) (sz bytes : Nat) (ht : P.underlying t = some (.slice e)) (hi : P.info? e = some i) (hz : i.zero = some z)
    (hsize : i.size = sz) (hby : i.bytes = bytes) (hzs : z.cells.size = sz) (hsz : 0 < sz) (hC : Chg R w0 w)
    (B : Option Addr) (n d : Nat) (xs : List Value) (hs : a.eval s = .slice B n d) (hown : Own w w0.heap.size e sz B n d xs)
    (A : Option Addr) (m c : Nat) (ys : List Value) (hx : a.eval x = .slice A m c) (hnil : A = none → c = 0) (hr : Rd w sz A m ys) (h1 : ∀ u ∈ ys, u.oneCell' = true) (h63 : n + m ≤ maxLen) (hb : (n + m) * bytes ≤ 140737488355328)
    (hK : ∀ A' c' w1, Own w1 w0.heap.size e sz A' (n + m) c' (xs ++ ys) → Chg R w0 w1 → (A' = none → c' = 0) → K (a.put o.dst (.slice A' (n + m) c')) w1) : o.wp P a w K Q := by
  obtain ⟨A', c', w1, hrun, ho, hc, hn⟩ := run_app (P := P) (w := w) t o.type e i z sz bytes ht hi hz hsize hby hzs hsz hC B n d xs hown A m c ys hnil hr h1 h63 hb
  unfold Oper.wp
  simp [execOp, hop, resolve, invoke, builtin, hs, hx, hrun, Result.andThen]
  exact hK A' c' w1 ho hc hn
theorem wpl_app0 {rest : List Oper} (hgd : o.guard = none) (s x : Operand) (t : TypeId) (hop : o.op = Op.call { callee := Callee.builtin Builtin.append, args := #[s, x], argTypes := #[t, t] })
    (e : TypeId) (i : TypeInfo) (z : Value) (sz bytes : Nat) (ht : P.underlying t = some (.slice e)) (hi : P.info? e = some i) (hz : i.zero = some z)
    (hsize : i.size = sz) (hby : i.bytes = bytes) (hzs : z.cells.size = sz) (hC : Chg R w0 w)
    (B A : Option Addr) (m c : Nat) (ys : List Value) (hs : a.eval s = .slice B 0 0) (hx : a.eval x = .slice A m c) (hnil : A = none → c = 0) (hr : Rd w sz A m ys) (h63 : m ≤ maxLen) (hb : m * bytes ≤ 140737488355328)
    (hK : ∀ A' c' w1, Own w1 w0.heap.size e sz A' m c' ys → Chg R w0 w1 → Chg [] w w1 → (A' = none → c' = 0) → wpList P ops Q rest (a.put o.dst (.slice A' m c')) w1) : wpList P ops Q (o :: rest) a w :=
  wpList_plain hgd fun _ hK' => wp_app0 s x t hop e i z sz bytes ht hi hz hsize hby hzs hC B A m c ys hs hx hnil hr h63 hb fun A' c' w1 h1 h2 h3 h4 => hK' _ _ (hK A' c' w1 h1 h2 h3 h4)
theorem wpl_app {rest : List Oper} (hgd : o.guard = none) (s x : Operand) (t : TypeId) (hop : o.op = Op.call { callee := Callee.builtin Builtin.append, args := #[s, x], argTypes := #[t, t] })
    (e : TypeId) (i : TypeInfo) (z : Value) (sz bytes : Nat) (ht : P.underlying t = some (.slice e)) (hi : P.info? e = some i) (hz : i.zero = some z)
    (hsize : i.size = sz) (hby : i.bytes = bytes) (hzs : z.cells.size = sz) (hsz : 0 < sz) (hC : Chg R w0 w)
    (B : Option Addr) (n d : Nat) (xs : List Value) (hs : a.eval s = .slice B n d) (hown : Own w w0.heap.size e sz B n d xs)
    (A : Option Addr) (m c : Nat) (ys : List Value) (hx : a.eval x = .slice A m c) (hnil : A = none → c = 0) (hr : Rd w sz A m ys) (h1 : ∀ u ∈ ys, u.oneCell' = true) (h63 : n + m ≤ maxLen) (hb : (n + m) * bytes ≤ 140737488355328)
    (hK : ∀ A' c' w1, Own w1 w0.heap.size e sz A' (n + m) c' (xs ++ ys) → Chg R w0 w1 → (A' = none → c' = 0) → wpList P ops Q rest (a.put o.dst (.slice A' (n + m) c')) w1) : wpList P ops Q (o :: rest) a w :=
  wpList_plain hgd fun _ hK' => wp_app s x t hop e i z sz bytes ht hi hz hsize hby hzs hsz hC B n d xs hs hown A m c ys hx hnil hr h1 h63 hb fun A' c' w1 h1 h2 h3 => hK' _ _ (hK A' c' w1 h1 h2 h3)
/-- A literal of one element. -/
theorem rd_lit {g : Nat} {t : TypeId} {sz : Nat} {xs : List Value} (h : Blk w g t xs.toArray) (hs : xs.length = 1 * sz := by rfl) : Rd w sz (some ⟨g, 0, none⟩) 1 xs :=
  ⟨hs, fun _ => ⟨_, rfl, fun j u hu => by rw [add_lit, h.cell]; simpa using hu⟩⟩
end
end
end Go.Proofs.Ytabpapdickolgaa
