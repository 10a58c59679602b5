/-
  Loops over maps: the map with its iterator as one resource. No program in sight.
-/
import Derived.Test.YtabpapdickolgaaZq
import Derived.Maps.RangeRun
namespace Go.Proofs.Ytabpapdickolgaa
open Go.RowKit
set_option linter.unusedSimpArgs false
set_option linter.unusedVariables false
open Go.MapKept (Stamped stamped_iff)
open Go.ChangeMaps (setBlock heap_setBlock_same heap_setBlock_other)
attribute [local irreducible] Res.blk Res.sl Res.all Res.ex Res.pure Res.star

/-- Map b with the entries m, iterator g over it: left are those to come, cur is the last one. -/
def IterAt (P : Program) (k : TypeId) (w : World) (g b : Nat) (m left : List (Value × Value)) (cur : Option (Value × Value)) : Prop :=
  ∃ es clock seen, w.heap[b]? = some (.map es clock) ∧ Stamped es clock ∧ es.size ≤ maxLen ∧ (∀ x, x ∈ es.toList → ∃ l, keyOf P k x.key = some l) ∧ (es.toList.map kv).Perm m ∧
    w.heap[g]? = some (.mapIter (some b) clock seen clock) ∧ ((leftOf es seen).toList.map kv).Perm left ∧ g ≠ b ∧ ∀ p, cur = some p → ∃ (e : MapEntry) (seen' : Array Nat), e ∈ es.toList ∧ kv e = p ∧ seen = seen'.push e.born
def Res.mit (P : Program) (k : TypeId) (g b : Nat) (m left : List (Value × Value)) (cur : Option (Value × Value)) : Res where
  holds w fp := fp = [g, b] ∧ IterAt P k w g b m left cur
  loc := fun ⟨h1, es, cl, seen, hb, h2, h3, h4, h5, hg, h6⟩ hb' => ⟨h1, es, cl, seen, by rw [hb' b (by rw [h1]; simp)]; exact hb, h2, h3, h4, h5, by rw [hb' g (by rw [h1]; simp)]; exact hg, h6⟩
theorem perm_drop_born : ∀ {L : List MapEntry} {e : MapEntry}, (L.map (·.born)).Nodup → e ∈ L → L.Perm (e :: L.filter fun x => !(x.born == e.born))
  | [], e, _, h => by simp at h
  | x :: L, e, hn, h => by
    simp only [List.map_cons, List.nodup_cons] at hn
    rcases List.mem_cons.1 h with rfl | h
    · have : (e :: L).filter (fun y => !(y.born == e.born)) = L := by
        rw [List.filter_cons]
        simp only [beq_self_eq_true, Bool.not_true, Bool.false_eq_true, if_false]
        refine List.filter_eq_self.2 fun y hy => ?_
        have : y.born ≠ e.born := fun hh => hn.1 (by rw [← hh]; exact List.mem_map.2 ⟨y, hy, rfl⟩)
        simpa using this
      rw [this]
    · have hne : x.born ≠ e.born := fun hh => hn.1 (by rw [hh]; exact List.mem_map.2 ⟨e, h, rfl⟩)
      have ih := perm_drop_born hn.2 h
      rw [List.filter_cons]
      simp only [show (!(x.born == e.born)) = true by simpa using hne, if_true]
      exact (List.Perm.cons x ih).trans (List.Perm.swap e x _)
section
variable {P : Program} {kt g b : Nat} {m left : List (Value × Value)} {cur : Option (Value × Value)} {w r : World} {M : List Nat} {L k : List Res}
theorem IterAt.lt (h : IterAt P kt w g b m left cur) : g < w.heap.size ∧ b < w.heap.size := by
  obtain ⟨es, cl, seen, hb, _, _, _, _, hg, _⟩ := h
  exact ⟨(Array.getElem?_eq_some_iff.1 hg).1, (Array.getElem?_eq_some_iff.1 hb).1⟩
theorem Sep.iterAt (h : Sep r M L w) (ha : At L k (.mit P kt g b m left cur)) : IterAt P kt w g b m left cur := by
  obtain ⟨fp, ⟨f1, f2, rfl, ⟨_, hm⟩, _⟩, _⟩ := (h.focus ha).ex
  exact hm
/-- The map alone again. -/
theorem Sep.iterEnd (h : Sep r M (.mit P kt g b m left cur :: L) w) : Sep r M (.mp P kt b m :: L) w :=
  h.upd (w' := w) fun f1 hf => by
    obtain ⟨rfl, es, cl, seen, hb, h2, h3, h4, h5, hg, h6, hne, _⟩ := hf
    refine ⟨Chg.refl _ _, [b], ⟨rfl, es, cl, hb, h2, h3, h4, h5⟩, by simp, fun x hx => ?_⟩
    simp at hx
    subst hx
    exact ⟨(Array.getElem?_eq_some_iff.1 hb).1, .inl (by simp)⟩
theorem chg_iter {mm : Option Nat} {s c : Nat} {seen : Array Nat} {w : World} (hg : w.heap[g]? = some (.mapIter mm s seen c)) (o : Obj) : Chg [g] w (setBlock w g o) := by
  refine ⟨rfl, rfl, rfl, by simp [setBlock], fun i _ hn => ?_⟩
  have : i ≠ g := by simpa using hn
  simp [setBlock, Array.getElem?_setIfInBounds, this.symm]
end
namespace Z
section
variable {P : Program} {Q : Exit → Act → World → Prop} {K : (Nat → Value) → World → Prop} {n : Nat} {f : Nat → Value} {w r : World} {M : List Nat} {L k : List Res} {d : Tmp} {ty t kt et : TypeId} {pos : String} {aft : Array Edge} {x : Operand} {g b : Nat} {m left : List (Value × Value)} {cur : Option (Value × Value)} {z : Value}
/-- for .. range m: the iterator -/
theorem rng [hm : HasM P t kt et z] (hS : Sep r M L w) (hx : ev n f x = .map (some b)) (ha : At L k (.mp P kt b m)) (h : ∀ g w', Sep r M (.mit P kt g b m m none :: k) w' → K (upd' f d (.pointer (some ⟨g, 0, none⟩))) w') : WE P ⟨some d, .range t x, ty, pos, aft, none⟩ K Q n f w :=
  .mk fun K' hK => by
    obtain ⟨es, cl, hb, h2, h3, h4, h5⟩ := hS.mapAt ha
    unfold Oper.wp
    rw [act_eval']
    have hlt : b < w.heap.size := (Array.getElem?_eq_some_iff.1 hb).1
    have hrun := run_range_map (P := P) w t kt et b es cl hm.u hb
    have : (execOp (ev n f) ⟨some d, .range t x, ty, pos, aft, none⟩).run P w = .ok (.value (.pointer (some ⟨w.heap.size, 0, none⟩))) (w.alloc (.mapIter (some b) cl #[] cl)) := by
      simp [execOp, hx, hrun]
    simp only [this, Oper.upon_value, act_put]
    refine hK _ _ (h _ _ ((hS.focus ha).upd fun f1 hf => ?_))
    obtain ⟨rfl, _⟩ := hf
    have hgb : w.heap.size ≠ b := by omega
    refine ⟨(Chg.refl _ _).alloc _, [w.heap.size, b], ⟨rfl, es, cl, #[], (Below.heap_alloc _ _ b hlt).trans hb, h2, h3, h4, h5, heap_alloc_new w _, ?_, hgb, by simp⟩, by simp [hgb], fun y hy => ?_⟩
    · have : leftOf es #[] = es := by unfold leftOf; exact Array.filter_eq_self.2 (fun x hx => by simp)
      rw [this]
      exact h5
    · simp at hy
      rcases hy with rfl | rfl
      · exact ⟨by simp, .inr (Nat.le_refl _)⟩
      · exact ⟨by simp; omega, .inl (by simp)⟩
/-- The next entry, whichever it is, or the end. -/
theorem nxt (hS : Sep r M L w) (hx : ev n f x = .pointer (some ⟨g, 0, none⟩)) (ha : At L k (.mit P kt g b m left cur))
    (hE : ∀ w', left = [] → Sep r M (.mit P kt g b m [] none :: k) w' → K (upd' f d (.tuple #[.bool false])) w')
    (hM : ∀ p rest w', left.Perm (p :: rest) → p ∈ m → Sep r M (.mit P kt g b m rest (some p) :: k) w' → K (upd' f d (.tuple #[.bool true, p.1, p.2])) w') : WE P ⟨some d, .next x false, ty, pos, aft, none⟩ K Q n f w :=
  .mk fun K' hK => by
    obtain ⟨es, cl, seen, hb, h2, h3, h4, h5, hg, h6, hne, _⟩ := hS.iterAt ha
    have hst := (stamped_iff es cl).1 h2
    unfold Oper.wp
    rw [act_eval']
    rcases run_next_at (P := P) w ty g b cl cl seen es cl hg hb hst.1 (Nat.le_refl _) with ⟨h0, hrun⟩ | ⟨e, he, w1, hw1, hrun⟩
    · have : (execOp (ev n f) ⟨some d, .next x false, ty, pos, aft, none⟩).run P w = .ok (.value (.tuple #[.bool false])) w := by simp [execOp, hx, hrun]
      simp only [this, Oper.upon_value, act_put]
      have hl : left = [] := by
        have := h6.length_eq
        simp only [List.length_map, Array.length_toList, h0] at this
        exact List.eq_nil_of_length_eq_zero this.symm
      refine hK _ _ (hE w hl ?_)
      refine (hS.focus ha).upd (w' := w) fun f1 hf => ?_
      obtain ⟨rfl, _⟩ := hf
      refine ⟨Chg.refl _ _, [g, b], ⟨rfl, es, cl, seen, hb, h2, h3, h4, h5, hg, by rw [← hl]; exact h6, hne, by simp⟩, by simp [hne], fun y hy => ⟨?_, .inl hy⟩⟩
      simp at hy
      rcases hy with rfl | rfl
      · exact (Array.getElem?_eq_some_iff.1 hg).1
      · exact (Array.getElem?_eq_some_iff.1 hb).1
    · have : (execOp (ev n f) ⟨some d, .next x false, ty, pos, aft, none⟩).run P w = .ok (.value (.tuple #[.bool true, e.key, e.val])) (setBlock w1 g (.mapIter (some b) cl (seen.push e.born) cl)) := by simp [execOp, hx, hrun]
      simp only [this, Oper.upon_value, act_put]
      obtain ⟨hee, hes⟩ := mem_left he
      have hg1 : w1.heap[g]? = some (.mapIter (some b) cl seen cl) := by rcases hw1 with rfl | rfl <;> exact hg
      have hb1 : w1.heap[b]? = some (.map es cl) := by rcases hw1 with rfl | rfl <;> exact hb
      have hc1 : Chg [g, b] w w1 := by rcases hw1 with rfl | rfl <;> first | exact Chg.refl _ _ | exact (Chg.refl _ _).drew
      have hnd : ((leftOf es seen).toList.map (·.born)).Nodup := by
        unfold leftOf
        rw [Array.toList_filter]
        exact (List.filter_sublist.map _).nodup hst.2.1
      have hperm := (perm_drop_born hnd he).map kv
      have hleft : (leftOf es (seen.push e.born)).toList = (leftOf es seen).toList.filter fun x => !(x.born == e.born) := by
        unfold leftOf
        rw [Array.toList_filter, Array.toList_filter, List.filter_filter]
        congr 1
        funext y
        rw [contains_push]
        cases seen.contains y.born <;> cases (y.born == e.born) <;> rfl
      refine hK _ _ (hM (kv e) ((leftOf es (seen.push e.born)).toList.map kv) _ ?_ ?_ ?_)
      · rw [hleft]
        exact h6.symm.trans hperm
      · exact h5.mem_iff.1 (List.mem_map.2 ⟨e, hee, rfl⟩)
      · refine (hS.focus ha).upd fun f1 hf => ?_
        obtain ⟨rfl, _⟩ := hf
        have hgs : (setBlock w1 g (.mapIter (some b) cl (seen.push e.born) cl)).heap[g]? = some (.mapIter (some b) cl (seen.push e.born) cl) := by
          have := (Array.getElem?_eq_some_iff.1 hg1).1
          simp [setBlock, this]
        have hbs : (setBlock w1 g (.mapIter (some b) cl (seen.push e.born) cl)).heap[b]? = some (.map es cl) := by
          simp [setBlock, Array.getElem?_setIfInBounds, hne, hb1]
        refine ⟨hc1.trans ((chg_iter hg1 _).mono (by simp)), [g, b], ⟨rfl, es, cl, seen.push e.born, hbs, h2, h3, h4, h5, hgs, List.Perm.refl _, hne, fun p hp => ?_⟩, by simp [hne], fun y hy => ⟨?_, .inl hy⟩⟩
        · simp at hp
          exact ⟨e, seen, hee, hp, rfl⟩
        · simp at hy
          rcases hy with rfl | rfl
          · exact (Array.getElem?_eq_some_iff.1 hgs).1
          · exact (Array.getElem?_eq_some_iff.1 hbs).1
/-- The entry of this round. -/
theorem ent {p : Value × Value} (hS : Sep r M L w) (hx : ev n f x = .pointer (some ⟨g, 0, none⟩)) (ha : At L k (.mit P kt g b m left (some p)))
    (h : K (upd' f d (.tuple #[p.1, p.2])) w) : WE P ⟨some d, .entry x, ty, pos, aft, none⟩ K Q n f w :=
  .mk fun K' hK => by
    obtain ⟨es, cl, seen, hb, h2, h3, h4, h5, hg, h6, hne, hcur⟩ := hS.iterAt ha
    obtain ⟨e, seen', hee, rfl, rfl⟩ := hcur p rfl
    have hst := (stamped_iff es cl).1 h2
    have hrun := run_entry_at (P := P) w g b cl seen' es cl e hg hb hee hst.2.1
    unfold Oper.wp
    rw [act_eval']
    have : (execOp (ev n f) ⟨some d, .entry x, ty, pos, aft, none⟩).run P w = .ok (.value (.tuple #[(kv e).1, (kv e).2])) w := by simp [execOp, hx, hrun, kv]
    simp only [this, Oper.upon_value, act_put]
    exact hK _ _ h
/-- A map literal's entry. -/
theorem ins {y y2 : Operand} {key v : Value} [hm : HasM P t kt et z] (hS : Sep r M L w) (m' : List (Value × Value)) (hx : ev n f x = .map (some g)) (hy : ev n f y = key) (hv : ev n f y2 = v) (ha : At L k (.mp P kt g m)) (hk : ∃ l, keyOf P kt key = some l) (hp : PutM m key v m') (hl : m.length < maxLen)
    (h : ∀ w', Sep r M (.mp P kt g m' :: k) w' → K f w') : WE P ⟨none, .insert t x y y2, ty, pos, aft, none⟩ K Q n f w :=
  .mk fun K' hK => by
    unfold Oper.wp
    rw [act_eval']
    unfold execOp
    obtain ⟨w', hrun, hc, hm'⟩ := (hS.mapAt ha).put (t := t) hk hp hl
    simp only [hx, hy, hv, Sem.run_bind, hrun, Result.andThen_ok, Sem.run_pure, Oper.upon_skip, act_put]
    exact hK _ _ (h w' (hS.mapPut ha hc hm'))
end
end Z
end Go.Proofs.Ytabpapdickolgaa
