/-
  Maps: a resource, and rules for making, looking up, storing, deleting, counting. No program in sight.
-/
import Derived.Test.YtabpapdickolgaaZm
import Derived.Maps.Keyed
import Derived.Carry
namespace Go.Proofs.Ytabpapdickolgaa
open Go.RowKit
set_option linter.unusedSimpArgs false
set_option linter.unusedVariables false
open Go.MapKept (Stamped stamped_iff stamped_empty stamped_push stamped_modify stamped_erase)
open Go.ChangeMaps (setBlock heap_setBlock_same heap_setBlock_other set_perm modify_eq_set map_eraseIdx)
attribute [local irreducible] Res.blk Res.sl Res.all Res.ex Res.pure Res.star

def kv (x : MapEntry) : Value × Value := (x.key, x.val)
/-- What stands at a key. -/
def LookM (m : List (Value × Value)) (key : Value) (o : Option Value) : Prop := (∃ v, o = some v ∧ (key, v) ∈ m) ∨ (o = none ∧ ∀ p, p ∈ m → p.1 ≠ key)
/-- Behind a store. -/
def PutM (m : List (Value × Value)) (key v : Value) (m' : List (Value × Value)) : Prop := (∃ u m0, m.Perm ((key, u) :: m0) ∧ m'.Perm ((key, v) :: m0)) ∨ ((∀ p, p ∈ m → p.1 ≠ key) ∧ m'.Perm ((key, v) :: m))
/-- Behind a deletion. -/
def DelM (m : List (Value × Value)) (key : Value) (m' : List (Value × Value)) : Prop := (∃ u, m.Perm ((key, u) :: m')) ∨ ((∀ p, p ∈ m → p.1 ≠ key) ∧ m'.Perm m)

/-- The block's entries, in any order. -/
def MapAt (P : Program) (k : TypeId) (w : World) (g : Nat) (m : List (Value × Value)) : Prop :=
  ∃ es clock, w.heap[g]? = some (.map es clock) ∧ Stamped es clock ∧ es.size ≤ maxLen ∧ (∀ x, x ∈ es.toList → ∃ l, keyOf P k x.key = some l) ∧ (es.toList.map kv).Perm m
/-- Block g is a map that holds just these entries, in any order. -/
def Res.mp (P : Program) (k : TypeId) (g : Nat) (m : List (Value × Value)) : Res where
  holds w fp := fp = [g] ∧ MapAt P k w g m
  loc := fun ⟨h1, es, cl, hb, h2⟩ hb' => ⟨h1, es, cl, by rw [hb' g (by rw [h1]; simp)]; exact hb, h2⟩

/-- A map's type: its keys', its elements', and their zero value. -/
class HasM (P : Program) (t : TypeId) (kt et : outParam TypeId) (z : outParam Value) : Prop where
  u : P.underlying t = some (.map kt et)
  key : Maps.Keyed P kt
  zero : ∀ w, (zeroValue et).run P w = .ok z w

section
variable {P : Program} {kt g : Nat} {m m' : List (Value × Value)} {w r : World} {M : List Nat} {L k : List Res}
theorem MapAt.perm (h : MapAt P kt w g m) (hp : m.Perm m') : MapAt P kt w g m' := by
  obtain ⟨es, cl, h1, h2, h3, h4, h5⟩ := h
  exact ⟨es, cl, h1, h2, h3, h4, h5.trans hp⟩
theorem MapAt.len (h : MapAt P kt w g m) : m.length ≤ maxLen := by
  obtain ⟨es, cl, h1, h2, h3, h4, h5⟩ := h
  have := h5.length_eq
  simp at this
  omega
theorem MapAt.nodup (h : MapAt P kt w g m) : m.Pairwise fun p q => p.1 ≠ q.1 := by
  obtain ⟨es, cl, h1, h2, h3, h4, h5⟩ := h
  have := ((stamped_iff es cl).1 h2).2.2
  refine (h5.pairwise_iff (fun {a b} h => h.symm)).1 ?_
  rw [List.pairwise_map]
  exact this
theorem MapAt.lt (h : MapAt P kt w g m) : g < w.heap.size := by
  obtain ⟨es, cl, h1, _⟩ := h
  exact (Array.getElem?_eq_some_iff.1 h1).1
theorem Sep.mapAt (h : Sep r M L w) (ha : At L k (.mp P kt g m)) : MapAt P kt w g m := by
  obtain ⟨fp, ⟨f1, f2, rfl, ⟨_, hm⟩, _⟩, _⟩ := (h.focus ha).ex
  exact hm
theorem Sep.mapPerm (h : Sep r M (.mp P kt g m :: L) w) (hp : m.Perm m') : Sep r M (.mp P kt g m' :: L) w :=
  h.upd (w' := w) fun f1 hf => ⟨Chg.refl _ _, f1, ⟨hf.1, hf.2.perm hp⟩, by rw [hf.1]; simp, fun b hb => ⟨by rw [hf.1] at hb; simp at hb; subst hb; exact hf.2.lt, .inl hb⟩⟩
theorem Sep.mapPut (h : Sep r M L w) (ha : At L k (.mp P kt g m)) {w' : World} (hc : Chg [g] w w') (hm : MapAt P kt w' g m') : Sep r M (.mp P kt g m' :: k) w' := by
  refine (h.focus ha).upd fun f1 hf => ?_
  obtain ⟨rfl, _⟩ := hf
  exact ⟨hc, [g], ⟨rfl, hm⟩, by simp, fun b hb => by simp at hb; subst hb; exact ⟨hm.lt, .inl (by simp)⟩⟩
theorem Sep.mapNew (h : Sep r M L w) : Sep r M (.mp P kt w.heap.size [] :: L) (w.alloc (.map #[] 0)) :=
  h.add (f2 := [w.heap.size]) ((Chg.refl _ _).alloc _) ⟨rfl, #[], 0, (MapKept.heap_alloc w _).1, stamped_empty 0, by simp, by simp, by simp⟩ (by simp) (fun b hb => by simp at hb; subst hb; exact ⟨by simp, Nat.le_refl _⟩)
theorem chg_setBlock {es : Array MapEntry} {cl : Nat} (hb : w.heap[g]? = some (.map es cl)) (o : Obj) : Chg [g] w (setBlock w g o) :=
  ⟨rfl, rfl, rfl, by simp [setBlock], fun i _ hn => heap_setBlock_other hb o (by simpa using hn)⟩

theorem kv_uniq {es : List MapEntry} (h : es.Pairwise fun x y => x.key ≠ y.key) {j : Nat} {e0 : MapEntry} (h2 : es[j]? = some e0) {u : Value} {m0 : List (Value × Value)} (hp : (es.map kv).Perm ((e0.key, u) :: m0)) : u = e0.val ∧ ((es.map kv).eraseIdx j).Perm m0 := by
  have hjl : j < es.length := (List.getElem?_eq_some_iff.1 h2).1
  have hej : es[j] = e0 := (List.getElem?_eq_some_iff.1 h2).2
  have h3 : (es.map kv).Perm ((e0.key, e0.val) :: (es.map kv).eraseIdx j) := by
    have := set_perm (es.map kv) j (by simpa using hjl) (kv e0)
    have e : (es.map kv).set j (kv e0) = es.map kv := by
      have : (es.map kv)[j]'(by simpa using hjl) = kv e0 := by simp [hej]
      rw [← this]
      exact List.set_getElem_self _
    rw [e] at this
    exact this
  have h4 : ((e0.key, u) :: m0).Pairwise fun p q => p.1 ≠ q.1 := by
    refine (hp.pairwise_iff (fun {a b} h => h.symm)).1 ?_
    rw [List.pairwise_map]
    exact h
  have h5 : (e0.key, e0.val) ∈ (e0.key, u) :: m0 := hp.mem_iff.1 (h3.mem_iff.2 (by simp))
  have hu : u = e0.val := by
    rcases List.mem_cons.1 h5 with e | e
    · exact (Prod.mk.injEq _ _ _ _ ▸ e).2.symm
    · exact absurd rfl ((List.pairwise_cons.1 h4).1 (e0.key, e0.val) e)
  subst hu
  exact ⟨rfl, (h3.symm.trans hp).cons_inv⟩
theorem kv_none {es : List MapEntry} {key : Value} (h2 : ∀ e, e ∈ es → e.key ≠ key) {m : List (Value × Value)} (hp : (es.map kv).Perm m) : ∀ p, p ∈ m → p.1 ≠ key := by
  intro p hpm
  obtain ⟨x, hx, rfl⟩ := List.mem_map.1 (hp.mem_iff.2 hpm)
  exact h2 x hx

theorem MapAt.look {t et : TypeId} {z : Value} [hm : HasM P t kt et z] (c : Bool) (h : MapAt P kt w g m) {key : Value} (hk : ∃ l, keyOf P kt key = some l) {o : Option Value} (ho : LookM m key o) :
    (Instr.lookup t (.map (some g)) key c).run P w = .ok (if c then .tuple #[o.getD z, .bool o.isSome] else o.getD z) w := by
  obtain ⟨es, cl, hb, hst, hsz, hks, hp⟩ := h
  obtain ⟨kl, hkl⟩ := hk
  have K := hm.key
  have hn := ((stamped_iff es cl).1 hst).2.2
  rcases K.find w hkl es.toList hks with ⟨h1, h2⟩ | ⟨j, e0, h1, h2, h3⟩
  · have h4 := kv_none h2 hp
    rcases ho with ⟨v, rfl, hv⟩ | ⟨rfl, _⟩
    · exact absurd rfl (h4 _ hv)
    · simp [Instr.lookup, run_underlying hm.u, MapKept.run_getObj_map hb, K.check w _ hkl, h1, hm.zero w, Result.andThen]
  · have hm0 : e0 ∈ es.toList := List.mem_of_getElem? h2
    rcases ho with ⟨v, rfl, hv⟩ | ⟨rfl, hno⟩
    · obtain ⟨x, hx, hxe⟩ := List.mem_map.1 (hp.mem_iff.2 hv)
      unfold kv at hxe
      simp only [Prod.mk.injEq] at hxe
      have hxe0 : x = e0 := by
        obtain ⟨i, hi, rfl⟩ := List.mem_iff_getElem.1 hx
        obtain ⟨j', hj', rfl⟩ := List.mem_iff_getElem.1 hm0
        rcases Nat.lt_trichotomy i j' with hlt | hlt | hlt
        · exact absurd (hxe.1.trans h3.symm) (List.pairwise_iff_getElem.1 hn i j' hi hj' hlt)
        · subst hlt; rfl
        · exact absurd (h3.trans hxe.1.symm) (List.pairwise_iff_getElem.1 hn j' i hj' hi hlt)
      subst hxe0
      rw [← hxe.2]
      simp [Instr.lookup, run_underlying hm.u, MapKept.run_getObj_map hb, K.check w _ hkl, h1, Result.andThen]
    · exact absurd h3 (hno (kv e0) (hp.mem_iff.1 (List.mem_map.2 ⟨e0, hm0, rfl⟩)))
theorem MapAt.put {t et : TypeId} {z : Value} [hm : HasM P t kt et z] (h : MapAt P kt w g m) {key v : Value} (hk : ∃ l, keyOf P kt key = some l) (ho : PutM m key v m') (hlen : m.length < maxLen) :
    ∃ w', (Instr.mapUpdate t (.map (some g)) key v).run P w = .ok () w' ∧ Chg [g] w w' ∧ MapAt P kt w' g m' := by
  obtain ⟨es, cl, hb, hst, hsz, hks, hp⟩ := h
  obtain ⟨kl, hkl⟩ := hk
  have K := hm.key
  have hn := ((stamped_iff es cl).1 hst).2.2
  have hle := hp.length_eq
  simp only [List.length_map, Array.length_toList] at hle
  rcases K.find w hkl es.toList hks with ⟨h1, h2⟩ | ⟨j, e0, h1, h2, h3⟩
  · have h4 := kv_none h2 hp
    refine ⟨setBlock w g (.map (es.push ⟨key, v, cl⟩) (cl + 1)), ?_, chg_setBlock hb _, es.push ⟨key, v, cl⟩, cl + 1, heap_setBlock_same hb _, stamped_push hst h2, by simp; omega, ?_, ?_⟩
    · simp [Instr.mapUpdate, run_underlying hm.u, MapKept.run_getObj_map hb, K.check w false hkl, h1, MapKept.run_setObj_map _ hb, Result.andThen, setBlock]
    · intro x hx
      simp only [Array.toList_push, List.mem_append, List.mem_singleton] at hx
      rcases hx with hx | rfl
      · exact hks x hx
      · exact ⟨kl, hkl⟩
    · rcases ho with ⟨u, m0, hu, _⟩ | ⟨_, hp'⟩
      · exact absurd rfl (h4 (key, u) (hu.mem_iff.2 (by simp)))
      · rw [Array.toList_push, List.map_append, List.map_singleton]
        exact (List.perm_append_singleton _ _).trans ((List.Perm.cons _ hp).trans hp'.symm)
  · have hj : es[j]? = some e0 := by simpa using h2
    have hjl : j < es.toList.length := (List.getElem?_eq_some_iff.1 h2).1
    have hkeyf : ∀ e', es[j]? = some e' → ({ e' with key := key, val := v } : MapEntry).key = e'.key := fun e' he' => by rw [hj] at he'; cases he'; exact h3.symm
    have hlist : (es.modify j (fun e' => { e' with key := key, val := v })).toList = es.toList.set j { e0 with key := key, val := v } := by rw [Array.toList_modify, modify_eq_set _ _ _ _ h2]
    refine ⟨setBlock w g (.map (es.modify j (fun e' => { e' with key := key, val := v })) cl), ?_, chg_setBlock hb _, _, cl, heap_setBlock_same hb _, stamped_modify hst _ _ (fun _ _ => rfl) (fun e' _ he' => hkeyf e' he'), by simpa using hsz, ?_, ?_⟩
    · simp [Instr.mapUpdate, run_underlying hm.u, MapKept.run_getObj_map hb, K.check w false hkl, h1, hj, h3, K.stays w hkl, MapKept.run_setObj_map _ hb, Result.andThen, setBlock]
    · intro x hx
      rw [hlist] at hx
      rcases List.mem_or_eq_of_mem_set hx with hx | rfl
      · exact hks x hx
      · exact ⟨kl, hkl⟩
    · rw [hlist, List.map_set]
      rcases ho with ⟨u, m0, hu, hp'⟩ | ⟨hno, _⟩
      · rw [← h3] at hu
        have := (kv_uniq hn h2 (hp.trans hu)).2
        refine (set_perm _ _ (by simpa using hjl) _).trans ((List.Perm.cons _ this).trans ?_)
        exact hp'.symm
      · exact absurd h3 (hno (kv e0) (hp.mem_iff.1 (List.mem_map.2 ⟨e0, List.mem_of_getElem? h2, rfl⟩)))
theorem MapAt.del {t et : TypeId} {z : Value} [hm : HasM P t kt et z] (h : MapAt P kt w g m) {key : Value} (hk : ∃ l, keyOf P kt key = some l) (ho : DelM m key m') (ty : TypeId) :
    ∃ w', (Builtin.delete_ #[t, kt] ty #[.map (some g), key]).run P w = .ok (.tuple #[]) w' ∧ Chg [g] w w' ∧ MapAt P kt w' g m' := by
  obtain ⟨es, cl, hb, hst, hsz, hks, hp⟩ := h
  obtain ⟨kl, hkl⟩ := hk
  have K := hm.key
  have hn := ((stamped_iff es cl).1 hst).2.2
  rcases K.find w hkl es.toList hks with ⟨h1, h2⟩ | ⟨j, e0, h1, h2, h3⟩
  · have h4 := kv_none h2 hp
    refine ⟨setBlock w g (.map es cl), ?_, chg_setBlock hb _, es, cl, heap_setBlock_same hb _, hst, hsz, hks, ?_⟩
    · simp [Builtin.delete_, run_underlying hm.u, MapKept.run_getObj_map hb, K.check w _ hkl, h1, MapKept.run_setObj_map _ hb, Result.andThen, setBlock]
    · rcases ho with ⟨u, hu⟩ | ⟨_, hp'⟩
      · exact absurd rfl (h4 (key, u) (hu.mem_iff.2 (by simp)))
      · exact hp.trans hp'.symm
  · have hjl : j < es.toList.length := (List.getElem?_eq_some_iff.1 h2).1
    have hjs : j < es.size := by simpa using hjl
    have hsub : (es.eraseIdxIfInBounds j).toList = es.toList.eraseIdx j := by
      unfold Array.eraseIdxIfInBounds
      rw [dif_pos hjs]
      simp
    refine ⟨setBlock w g (.map (es.eraseIdxIfInBounds j) cl), ?_, chg_setBlock hb _, _, cl, heap_setBlock_same hb _, stamped_erase hst j, Nat.le_trans (MapFrom.size_erase es j) hsz, ?_, ?_⟩
    · simp [Builtin.delete_, run_underlying hm.u, MapKept.run_getObj_map hb, K.check w _ hkl, h1, MapKept.run_setObj_map _ hb, Result.andThen, setBlock]
    · intro x hx
      rw [hsub] at hx
      exact hks x ((List.eraseIdx_sublist _ _).subset hx)
    · rw [hsub, map_eraseIdx]
      rcases ho with ⟨u, hu⟩ | ⟨hno, _⟩
      · rw [← h3] at hu
        exact (kv_uniq hn h2 (hp.trans hu)).2
      · exact absurd h3 (hno (kv e0) (hp.mem_iff.1 (List.mem_map.2 ⟨e0, List.mem_of_getElem? h2, rfl⟩)))
end

namespace Z
section
variable {P : Program} {Q : Exit → Act → World → Prop} {K : (Nat → Value) → World → Prop} {n : Nat} {f : Nat → Value} {w r : World} {M : List Nat} {L k : List Res} {d : Tmp} {ty t kt et : TypeId} {pos : String} {aft : Array Edge} {x y y2 : Operand} {g : Nat} {m : List (Value × Value)} {key v z : Value}
/-- A new map. -/
theorem mkm [hm : HasM P t kt et z] (hS : Sep r M L w) (h : ∀ g w', Sep r M (.mp P kt g [] :: L) w' → w.heap.size ≤ g → K (upd' f d (.map (some g))) w') : WE P ⟨some d, .makeMap t none, ty, pos, aft, none⟩ K Q n f w :=
  .mk fun K' hK => by
    unfold Oper.wp
    rw [act_eval']
    unfold execOp
    simp only [Option.map_none, Sem.run_bind, run_makeMap, Result.andThen_ok, Sem.run_pure, Oper.upon_value, act_put]
    exact hK _ _ (h _ _ hS.mapNew (Nat.le_refl _))
/-- v, ok := m[k] -/
theorem lkO [hm : HasM P t kt et z] (hS : Sep r M L w) (o : Option Value) (hx : ev n f x = .map (some g)) (hy : ev n f y = key) (ha : At L k (.mp P kt g m)) (hk : ∃ l, keyOf P kt key = some l) (hl : LookM m key o)
    (h : K (upd' f d (.tuple #[o.getD z, .bool o.isSome])) w) : WE P ⟨some d, .lookup t x y true, ty, pos, aft, none⟩ K Q n f w :=
  .mk fun K' hK => by
    unfold Oper.wp
    rw [act_eval']
    unfold execOp
    have := (hS.mapAt ha).look (t := t) true hk hl
    simp only [if_true] at this
    simp only [hx, hy, Sem.run_bind, this, Result.andThen_ok, Sem.run_pure, Oper.upon_value, act_put]
    exact hK _ _ h
/-- m[k] -/
theorem lk [hm : HasM P t kt et z] (hS : Sep r M L w) (o : Option Value) (hx : ev n f x = .map (some g)) (hy : ev n f y = key) (ha : At L k (.mp P kt g m)) (hk : ∃ l, keyOf P kt key = some l) (hl : LookM m key o)
    (h : K (upd' f d (o.getD z)) w) : WE P ⟨some d, .lookup t x y false, ty, pos, aft, none⟩ K Q n f w :=
  .mk fun K' hK => by
    unfold Oper.wp
    rw [act_eval']
    unfold execOp
    have := (hS.mapAt ha).look (t := t) false hk hl
    simp only [Bool.false_eq_true, if_false] at this
    simp only [hx, hy, Sem.run_bind, this, Result.andThen_ok, Sem.run_pure, Oper.upon_value, act_put]
    exact hK _ _ h
/-- m[k] = v -/
theorem upm [hm : HasM P t kt et z] (hS : Sep r M L w) (m' : List (Value × Value)) (hx : ev n f x = .map (some g)) (hy : ev n f y = key) (hv : ev n f y2 = v) (ha : At L k (.mp P kt g m)) (hk : ∃ l, keyOf P kt key = some l) (hp : PutM m key v m') (hl : m.length < maxLen)
    (h : ∀ w', Sep r M (.mp P kt g m' :: k) w' → K f w') : WE P ⟨none, .mapUpdate t x y y2, ty, pos, aft, none⟩ K Q n f w :=
  .mk fun K' hK => by
    unfold Oper.wp
    rw [act_eval']
    unfold execOp
    obtain ⟨w', hrun, hc, hm'⟩ := (hS.mapAt ha).put (t := t) hk hp hl
    simp only [hx, hy, hv, Sem.run_bind, hrun, Result.andThen_ok, Sem.run_pure, Oper.upon_skip, act_put]
    exact hK _ _ (h w' (hS.mapPut ha hc hm'))
/-- delete(m, k) -/
theorem dlm [hm : HasM P t kt et z] (hS : Sep r M L w) (m' : List (Value × Value)) (hx : ev n f x = .map (some g)) (hy : ev n f y = key) (ha : At L k (.mp P kt g m)) (hk : ∃ l, keyOf P kt key = some l) (hp : DelM m key m')
    (h : ∀ w', Sep r M (.mp P kt g m' :: k) w' → K f w') : WE P ⟨none, .call ⟨.builtin .delete, #[x, y], #[t, kt]⟩, ty, pos, aft, none⟩ K Q n f w :=
  .mk fun K' hK => by
    obtain ⟨w', hrun, hc, hm'⟩ := (hS.mapAt ha).del (t := t) hk hp ty
    unfold Oper.wp
    rw [act_eval']
    have : (execOp (ev n f) ⟨none, .call ⟨.builtin .delete, #[x, y], #[t, kt]⟩, ty, pos, aft, none⟩).run P w = .ok (.value (.tuple #[])) w' := by
      simp [execOp, resolve, invoke, builtin, hx, hy, hrun]
    simp only [this, Oper.upon_value, act_put]
    exact hK _ _ (h w' (hS.mapPut ha hc hm'))
/-- len(m) -/
theorem lnm [hm : HasM P t kt et z] (hS : Sep r M L w) (hx : ev n f x = .map (some g)) (ha : At L k (.mp P kt g m)) (h : K (upd' f d (.int .i64 m.length)) w) : WE P ⟨some d, .call ⟨.builtin .len, #[x], #[t]⟩, ty, pos, aft, none⟩ K Q n f w :=
  .mk fun K' hK => by
    obtain ⟨es, cl, hb, hst, hsz, hks, hp⟩ := hS.mapAt ha
    have hle := hp.length_eq
    simp only [List.length_map, Array.length_toList] at hle
    unfold Oper.wp
    rw [act_eval']
    have : (execOp (ev n f) ⟨some d, .call ⟨.builtin .len, #[x], #[t]⟩, ty, pos, aft, none⟩).run P w = .ok (.value (.int .i64 m.length)) w := by
      simp [execOp, resolve, invoke, builtin, Builtin.len_, hx, run_underlying hm.u, MapKept.run_getObj_map hb, goInt, hle, Result.andThen]
    simp only [this, Oper.upon_value, act_put]
    exact hK _ _ h
end
end Z
end Go.Proofs.Ytabpapdickolgaa
