/-
  Maps: a copy by maps.clone. No program in sight.
-/
import Derived.Test.YtabpapdickolgaaZq
import Derived.Test.YtabpapdickolgaaZu
import Derived.Laws.Externs
namespace Go.Proofs.Ytabpapdickolgaa
open Go.RowKit
set_option linter.unusedSimpArgs false
set_option linter.unusedVariables false
attribute [local irreducible] Res.blk Res.sl Res.all Res.ex Res.pure Res.star

theorem eq_mnil {P : Program} (w : World) (d : Nat) (t k e : TypeId) (p : Option Nat) (h : P.underlying t = some (.map k e)) : (Op.equalIn (d + 1) t (.map p) (.map none)).run P w = .ok p.isNone w := by
  cases p <;> simp [Op.equalIn, run_underlying h]
namespace R
section
variable {P : Program} {n : Nat} {f : Nat → Value} {d : Option Tmp} {ty t t' kt et : TypeId} {pos : String} {aft : Array Edge} {gd : Option (Nat × Bool)} {x y : Operand} {p : Option Nat} {z v : Value}
/-- A map compared with nil. -/
theorem mnil [hm : HasM P t kt et z] (hx : ev n f x = .map p) (hy : ev n f y = .map none) : Runs P n f ⟨d, .binOp .eql t x y t', ty, pos, aft, gd⟩ (.bool p.isNone) :=
  ⟨fun W => (eq_exec hx hy rfl t W (by
    rw [show Op.equal t (.map p) (.map none) = Op.equalIn (9999 + 1) t (.map p) (.map none) from rfl]
    exact eq_mnil W 9999 t kt et p hm.u) d t' ty pos aft gd).1⟩
/-- A map in an interface. -/
theorem mkI [hm : HasM P t kt et z] (hx : ev n f x = v) : Runs P n f ⟨d, .makeInterface t x, ty, pos, aft, gd⟩ (.iface t v) :=
  ⟨fun W => by simp [execOp, hx, Instr.makeInterface, run_underlying hm.u]⟩
theorem tas [hm : HasM P t kt et z] (hx : ev n f x = .iface t v) : Runs P n f ⟨d, .typeAssert x t' t false, ty, pos, aft, gd⟩ v :=
  ⟨fun W => by simp [execOp, hx, Instr.typeAssert, run_underlying hm.u, go_sem, Result.andThen]⟩
end
end R
section
variable {P : Program} {kt g : Nat} {m : List (Value × Value)} {w r : World} {M : List Nat} {L k : List Res}
theorem Sep.mapClone (h : Sep r M L w) (ha : At L k (.mp P kt g m)) : ∃ es cl, w.heap[g]? = some (.map es cl) ∧ Sep r M (.mp P kt w.heap.size m :: L) (w.alloc (.map es cl)) := by
  obtain ⟨es, cl, hb, h2, h3, h4, h5⟩ := h.mapAt ha
  exact ⟨es, cl, hb, h.add (f2 := [w.heap.size]) ((Chg.refl _ _).alloc _) ⟨rfl, es, cl, (MapKept.heap_alloc w _).1, h2, h3, h4, h5⟩ (by simp) (fun b hb => by simp at hb; subst hb; exact ⟨by simp, Nat.le_refl _⟩)⟩
theorem run_mclone {es : Array MapEntry} {cl : Nat} (t : TypeId) (hb : w.heap[g]? = some (.map es cl)) :
    (Extern.MapsClone.clone #[.iface t (.map (some g))]).run P w = .ok (.iface t (.map (some w.heap.size))) (w.alloc (.map es cl)) := by
  have e : Extern.MapsClone.clone #[.iface t (.map (some g))] = (getObj g >>= fun o => match o with
      | .map entries clock => (newObj (.map entries clock) >>= fun n => pure (.iface t (.map (some n))))
      | _ => stuck "maps.clone: a map expected") := rfl
  rw [e]
  simp [MapKept.run_getObj_map hb, Result.andThen, go_sem]
end
namespace Z
section
variable {P : Program} {Q : Exit → Act → World → Prop} {K : (Nat → Value) → World → Prop} {n : Nat} {f : Nat → Value} {w r : World} {M : List Nat} {L k : List Res} {d : Tmp} {ty t kt : TypeId} {pos : String} {aft : Array Edge} {g : Nat} {m : List (Value × Value)}
/-- maps.clone -/
theorem mcl {F : FuncId} {fn : Func} {x : Operand} {ats : Array TypeId} (hS : Sep r M L w) (hx : ev n f x = .iface t (.map (some g))) (ha : At L k (.mp P kt g m)) (hf : P.funcs[F]? = some fn) (hname : (fn.name == "runtime.NumGoroutine") = false)
    (hb : fn.body.isNone = true) (hn : Extern.findNext fn = none) (he : Extern.find fn = some Extern.MapsClone.clone)
    (h : ∀ g' w', Sep r M (.mp P kt g' m :: L) w' → K (upd' f d (.iface t (.map (some g')))) w') : WE P ⟨some d, .call ⟨.value (.func F), #[x], ats⟩, ty, pos, aft, none⟩ K Q n f w :=
  .mk fun K' hK => by
    obtain ⟨es, cl, hbk, hS'⟩ := hS.mapClone ha
    unfold Oper.wp
    rw [act_eval']
    have : (execOp (ev n f) ⟨some d, .call ⟨.value (.func F), #[x], ats⟩, ty, pos, aft, none⟩).run P w = .ok (.value (.iface t (.map (some w.heap.size)))) (w.alloc (.map es cl)) := by
      simp only [execOp, resolve, ev, Deferred.ofValue, Sem.run_bind, Sem.run_pure, Result.andThen_ok, invoke]
      have e1 : (#[] ++ Array.map (ev n f) #[x]) ++ #[] = #[.iface t (.map (some g))] := by simp [hx]
      rw [e1, run_callFunc_extern hf hname hb hn he, run_mclone t hbk]
      rfl
    simp only [this, Oper.upon_value, act_put]
    exact hK _ _ (h _ _ hS')
end
end Z
end Go.Proofs.Ytabpapdickolgaa
