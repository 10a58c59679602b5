/-
  Literals of arrays. No program in sight.
-/
import Derived.Test.YtahackdfjcgkhaaGreatZx
namespace Go.Proofs.YtahackdfjcgkhaaGreat
open Go.RowKit
set_option linter.unusedSimpArgs false
set_option linter.unusedVariables false
namespace Z
section
variable {P : Program} {ops : Array Oper} {Q : Exit → Act → World → Prop} {n : Nat} {f : Nat → Value} {w : World} {rest : List Oper} {d : Tmp} {t ty : TypeId} {pos : String} {aft : Array Edge} {cs cs' : List Value}
theorem buA_run [ht : HasTT P] {ps : List (Nat × Operand)} {m e sz : Nat} [hz : HasZ P t cs] (hk : kindOf ht.tt t = .ar m e sz) (hf : fillA sz cs (partsV n f ps) = some cs') {dd : Option Tmp} {gd : Option (Nat × Bool)} (W : World) :
    (execOp (ev n f) ⟨dd, .build t ps.toArray, ty, pos, aft, gd⟩).run P W = .ok (.value (.agg cs'.toArray)) W := by
  obtain ⟨hu, hs⟩ := kind_ar hk
  have hz := hz.ok
  cases hi : P.info? t with
  | none => simp [hi] at hz
  | some i =>
    simp [hi] at hz
    obtain ⟨⟨z0, hz1, hz2⟩, hz3⟩ := hz
    have hfill := fillA_ok _ cs cs' hf
    have hp : (ps.toArray.map fun p => (p.1, ev n f p.2)).toList = partsV n f ps := by simp [partsV, hdv_eq]
    simp only [execOp]
    have e : (Instr.build t (ps.toArray.map fun p => (p.1, ev n f p.2))).run P W = .ok (.agg cs'.toArray) W := by
      unfold Instr.build
      simp only [zeroValue, typeInfo, Sem.run_bind, hz1, Result.andThen_ok, Sem.run_pure, run_under hu]
      have hprog : (program).run P W = .ok P W := rfl
      simp only [hprog, Result.andThen_ok, hi, Sem.run_pure, hz1, run_size hs, hp, hz2, hfill]
    simp only [Sem.run_bind]
    rw [e]
    rfl
theorem buA [ht : HasTT P] {ps : List (Nat × Operand)} {m e sz : Nat} [hz : HasZ P t cs] (hk : kindOf ht.tt t = .ar m e sz) (hf : fillA sz cs (partsV n f ps) = some cs')
    (h : WL P ops Q rest n (upd' f d (.agg cs'.toArray)) w) : WL P ops Q (⟨some d, .build t ps.toArray, ty, pos, aft, none⟩ :: rest) n f w :=
  plain rfl (fun W => buA_run hk hf W) h
theorem _root_.Go.Proofs.YtahackdfjcgkhaaGreat.D.buA [ht : HasTT P] {S : World → Prop} {L k mm : Nat} (i m' : Nat) {ps : List (Nat × Operand)} {m e sz : Nat} {gd : Option (Nat × Bool)} [hz : HasZ P t cs] (hi : ops[i]? = some ⟨some d, .build t ps.toArray, ty, pos, aft, gd⟩) (hw : Region.wanted ⟨some d, .build t ps.toArray, ty, pos, aft, gd⟩ (yielded ops (fr n f)) = true) (hc : okTake ops L mm m' i = true) (hk : kindOf ht.tt t = .ar m e sz) (hf : fillA sz cs (partsV n f ps) = some cs')
    (h : WR P ops Q S L k m' n (upd' f d (.agg cs'.toArray)) w) : WR P ops Q S L (k + 1) mm n f w :=
  D.pl i m' hi hw hc ⟨fun W => buA_run hk hf W⟩ h
end
end Z
end Go.Proofs.YtahackdfjcgkhaaGreat
