/-
  Method values: functions with bound arguments. No program in sight.
-/
import Derived.Test.YtahackdfjcgkhaaGreatZx
namespace Go.Proofs.YtahackdfjcgkhaaGreat
open Go.RowKit
set_option linter.unusedSimpArgs false
set_option linter.unusedVariables false
section
variable {P : Program} {ops : Array Oper} {Q : Exit → Act → World → Prop} {K : (Nat → Value) → World → Prop} {n : Nat} {f : Nat → Value} {w : World} {d : Tmp} {dd : Option Tmp} {ty : TypeId} {pos : String} {aft : Array Edge} {gd : Option (Nat × Bool)}
theorem R.mfb {fn : Fn} {bnd : List Operand} : Runs P n f ⟨dd, .makeFunc fn bnd.toArray #[], ty, pos, aft, gd⟩ (.func fn (bnd.map (ev n f)).toArray #[]) :=
  ⟨fun W => by simp [execOp, Instr.makeFunc]⟩
theorem Z.clb {F : FuncId} [hfn : HasF P F] {c : Operand} {bnd : List Value} {args : List Operand} {ats : Array TypeId} {avs : Array Value} {R : Ending → World → Prop} (hc : ev n f c = .func (.func F) bnd.toArray #[]) (h : Calls P F avs w R) (ha : bnd ++ args.map (ev n f) = avs.toList)
    (hk : ∀ e w', R e w' → ∃ v, e = .returned v ∧ K (upd' f d v) w') : WE P ⟨some d, .call ⟨.value c, args.toArray, ats⟩, ty, pos, aft, none⟩ K Q n f w :=
  .mk fun K' hK => by
    unfold Oper.wp
    rw [act_eval']
    have has : bnd.toArray ++ (List.map (ev n f) args).toArray = avs := by rw [List.append_toArray, ha]
    have : (execOp (ev n f) ⟨some d, .call ⟨.value c, args.toArray, ats⟩, ty, pos, aft, none⟩).run P w = .ok (.enter F avs) w := by
      obtain ⟨fn, hF, hn, hb⟩ := hfn.ok
      have hn' : fn.name ≠ "runtime.NumGoroutine" := by simpa using hn
      obtain ⟨c', hc'⟩ := Option.isSome_iff_exists.1 hb
      simp only [execOp, resolve, hc, Deferred.ofValue, Sem.run_bind, Sem.run_pure, Result.andThen_ok, invoke]
      have e1 : (bnd.toArray ++ Array.map (ev n f) args.toArray) ++ #[] = avs := by rw [← has]; simp
      simp [callFunc, hF, hn', hc', go_sem] at e1 ⊢
      rw [← e1]
    rw [this, Oper.upon_enter]
    refine h.mono ?_
    intro e w' hR
    obtain ⟨v, rfl, hw⟩ := hk e w' hR
    simp only [act_put]
    exact hK _ _ hw
end
end Go.Proofs.YtahackdfjcgkhaaGreat
