/-
  Whole blocks: loaded, stored, made, as operations.
-/
import Derived.Test.YtabpapdickolgaaRG
import Derived.Deep.MidRow
namespace Go.Proofs.Ytabpapdickolgaa
open Go.RowKit
set_option linter.unusedSimpArgs false
set_option linter.unusedVariables false

theorem chg_setCells (b : Nat) : ∀ (vs : List Value) (o : Nat) (w : World), Chg [b] w (w.setCells b o vs)
  | [], _, w => Chg.refl _ _
  | v :: r, o, w => ((Chg.refl [b] w).setCell (.inl (by simp)) v).trans (chg_setCells b r (o + 1) _)
theorem blk_setCells {b : Nat} {t : TypeId} : ∀ (vs : List Value) (o : Nat) (w : World) (cs : Array Value), Blk w b t cs → o + vs.length ≤ cs.size →
    Blk (w.setCells b o vs) b t (cs.toList.take o ++ vs ++ cs.toList.drop (o + vs.length)).toArray
  | [], o, w, cs, h, _ => by simpa [World.setCells] using h
  | v :: r, o, w, cs, h, hl => by
    simp only [List.length_cons] at hl
    have ih := blk_setCells r (o + 1) (w.setCell ⟨b, o, none⟩ v) _ (h.set o v) (by simp; omega)
    have e : ((cs.setIfInBounds o v).toList.take (o + 1) ++ r ++ (cs.setIfInBounds o v).toList.drop (o + 1 + r.length)) = cs.toList.take o ++ (v :: r) ++ cs.toList.drop (o + (v :: r).length) := by
      have ho : o < cs.toList.length := by simp; omega
      rw [Array.toList_setIfInBounds, List.take_succ_eq_append_getElem (by simpa using ho), List.take_set_of_le (Nat.le_refl _), List.getElem_set_self, List.drop_set_of_lt (by omega)]
      simp [Nat.add_comm, Nat.add_left_comm]
    rw [e] at ih
    exact ih
theorem blk_setCells_all {b : Nat} {t : TypeId} {w : World} {cs : Array Value} (h : Blk w b t cs) {vs : Array Value} (hl : vs.size = cs.size) : Blk (w.setCells b 0 vs.toList) b t vs := by
  have := blk_setCells vs.toList 0 w cs h (by simp; omega)
  rw [List.drop_eq_nil_of_le (by simp; omega)] at this
  simpa using this

section
variable {P : Program} {o : Oper} {a : Act} {w : World} {K : Act → World → Prop} {Q : Exit → Act → World → Prop}
theorem ex_load_blk (ty : TypeId) (x : Operand) (ho : o.op = .load ty x) (g : Nat) (hx : a.eval x = .pointer (some ⟨g, 0, none⟩)) (t : TypeId) (cs : Array Value) (d : TypeDesc) (hb : Blk w g t cs)
    (hu : P.underlying ty = some d) (hd : (match d with | .struct _ | .array _ _ => true | _ => false) = true) (hi : (P.info? ty).map (·.size) = some cs.size) : (execOp a.eval o).run P w = .ok (.value (.agg cs)) w := by
  unfold execOp
  simp only [ho, hx, Instr.loadAt, Instr.sureAddr, Sem.run_bind, Sem.run_pure, Result.andThen_ok, run_loadVar_row w g t ty cs (0, 0) d hb hu hd hi]
theorem wp_store_blk (ty : TypeId) (x y : Operand) (ho : o.op = .store ty x y) (b : Nat) (cells : Array Value) (hx : a.eval x = .pointer (some ⟨b, 0, none⟩)) (hy : a.eval y = .agg cells)
    (t : TypeId) (old : Array Value) (hb : Blk w b t old) (hs : cells.size = old.size) (hi : (P.info? ty).map (·.size) = some cells.size) (h1 : ∀ u ∈ cells, u.oneCell' = true)
    (h : ∀ w1, Blk w1 b t cells → Chg [b] w w1 → K (a.put o.dst undef) w1) : o.wp P a w K Q := by
  refine wp_store_mid ty x y ho b 0 cells hx hy (fun j hj => ?_) hi (Array.all_eq_true_iff_forall_mem.2 h1) (h _ (blk_setCells_all hb hs) (chg_setCells b _ 0 w))
  rw [Nat.zero_add, hb.cell, hb.frozen]
  exact ⟨by rw [Array.getElem?_eq_getElem (by omega)]; rfl, rfl⟩
theorem wp_box_abs (ty : TypeId) (x : Operand) (ho : o.op = .box ty x) (cs : Array Value) (hx : a.eval x = .agg cs)
    (h : ∀ g w1, Blk w1 g ty cs → Chg [] w w1 → w.heap.size ≤ g → K (a.put o.dst (.pointer (some ⟨g, 0, none⟩))) w1) : o.wp P a w K Q := by
  unfold Oper.wp execOp
  simp only [ho, hx, Instr.box]
  have := h w.heap.size (w.alloc (.cells cs ty)) (Blk.new _ _ _) ((Chg.refl _ _).alloc _) (Nat.le_refl _)
  simpa [newVar, go_sem, Value.cells] using this
theorem wp_alloc_abs (ty : TypeId) (ho : o.op = .alloc ty) (i : TypeInfo) (cs : Array Value) (hi : P.info? ty = some i) (hz : i.zero = some (.agg cs))
    (h : ∀ g w1, Blk w1 g ty cs → Chg [] w w1 → w.heap.size ≤ g → K (a.put o.dst (.pointer (some ⟨g, 0, none⟩))) w1) : o.wp P a w K Q := by
  unfold Oper.wp execOp
  simp only [ho, Instr.alloc]
  have := h w.heap.size (w.alloc (.cells cs ty)) (Blk.new _ _ _) ((Chg.refl _ _).alloc _) (Nat.le_refl _)
  simpa [newVar, go_sem, zeroValue, typeInfo, hi, hz, Value.cells] using this
end
end Go.Proofs.Ytabpapdickolgaa
