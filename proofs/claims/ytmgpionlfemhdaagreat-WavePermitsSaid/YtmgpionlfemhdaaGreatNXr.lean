/-
  A law's row out of its walk: it returns true and changes nothing that was there.
-/
import Derived.Test.YtmgpionlfemhdaaGreatZt
import Derived.ChangeSame
import Derived.JoinedOf
import Derived.JoinedAt
import Derived.Carry
import Derived.ReadAgain
import Derived.RowKit3
import Derived.Laws.IdiomElems
import Derived.Laws.IdiomAt
import Derived.RowKit2
import Derived.ChangeSlices
namespace Go.Proofs.YtmgpionlfemhdaaGreat
open Go.RowKit Go.ChangeShapes Go.WideShapes Go.ChangeAt
set_option linter.unusedSimpArgs false
set_option linter.unusedVariables false

theorem Tryz.own : ownKnob Tryz.prog.godebug = none := by kernel_rfl
theorem Tryz.laidOut : laidOutB Tryz.prog = true := by kernel_rfl
section
variable {H : Type} {enc : TypeId × Value → H} {P : Program}
theorem trodAll_stays (hl : laidOutB P = true) {W W' : World} {sp : Nat → Bool} (hb : Below W.heap.size W W') :
    ∀ {ts : List TypeId} {vs : List Value} {ds : List (DataW H)} {ps : List MemPlace}, (∀ t ∈ ts, P.readableRec t = true ∧ t < P.types.size) → (∀ x ∈ ps, x.block < W.heap.size) → (∀ x ∈ ps, sp x.block = true) →
      DataW.TrodAll enc P W 0 (fun _ => true) true ts vs ds ps → DataW.TrodAll enc P W' 0 sp true ts vs ds ps := by
  intro ts
  induction ts with
  | nil => intro vs ds ps _ _ _ h; cases vs <;> cases ds <;> first | exact h | exact h.elim
  | cons t ts ih =>
    intro vs ds ps hts hlt hsp h
    cases vs with
    | nil => exact h.elim
    | cons v vs =>
      cases ds with
      | nil => exact h.elim
      | cons d ds =>
        obtain ⟨p, q, h1, h2, rfl⟩ := h
        have hlp : ∀ x ∈ p, x.block < W.heap.size := fun x hx => hlt x (List.mem_append_left _ hx)
        refine ⟨p, q, WideElems.Trod_stays hl (hts t (by simp)).1 (hts t (by simp)).2 h1 (fun x hx => hb.same (hlp x hx)) (fun x hx => hsp x (List.mem_append_left _ hx)),
          ih (fun t ht => hts t (by simp [ht])) (fun x hx => hlt x (List.mem_append_right _ hx)) (fun x hx => hsp x (List.mem_append_right _ hx)) h2, rfl⟩
/-- What a law's row asks behind the call: the result reads as true, the arguments as they did. -/
theorem law_post {f : Func} {s : ChangeSpec} {W W' : World} {args : Array Value} {ds gs : List (DataW H)} {before : List MemPlace} {tb : TypeId} (hl : laidOutB P = true) (hts : ∀ t ∈ f.params.toList, P.readableRec t = true ∧ t < P.types.size)
    (hv : s.vars = []) (hr : f.resultTypes = #[tb]) (hu : P.underlying tb = some .bool) (hfn : s.fn H ds = { results := [.lit (.bool true)], args := ds })
    (hW : DataW.Whole enc P f.params.toList s.vars false W args.toList ds gs before) (hb : Below W.heap.size W W') {fresh handsOn again : Bool} :
    s.post enc P f false fresh handsOn again W args (.bool true) W' := by
  have hlt : ∀ p ∈ before, p.block < W.heap.size := fun p hp => hW.lt p hp
  obtain ⟨pa, pv, hA, hV, hps, hz, hn⟩ := id hW
  rw [hv] at hV
  obtain ⟨rfl, rfl⟩ := trodVars_none hV
  simp only [List.append_nil] at hps
  subst hps
  have hold : ∀ p ∈ before, (fun b => decide (b < W.heap.size)) p.block = true := fun p hp => by simpa using hlt p hp
  have hfn' : s.fn H (ds ++ []) = { results := [.lit (.bool true)], args := ds } := by rw [List.append_nil]; exact hfn
  have hres : ∀ (b : Nat) (sp : Nat → Bool) (hd : Bool), DataW.TrodAll enc P W' b sp hd f.resultTypes.toList ((Value.bool true).resultList f.resultTypes.size) [.lit (.bool true)] [] := by
    intro b sp hd
    rw [hr]
    exact ⟨[], [], shut_bool hu true, rfl, rfl⟩
  refine ⟨ds, [], before, [], before, [], hW, ?_, ?_, ?_, World.keptBut_mono (fun p hp => ⟨hp, .inr (.inl hp)⟩) (hb.frame (· ∈ before)), fun _ => ⟨?_, .lit (.bool true) :: ds, [], before, ⟨before, [], ?_, ?_, by simp, ?_, ?_⟩, fun p hp _ => hp⟩⟩
  · rw [hfn']; exact hres _ _ _
  · rw [hfn']; exact trodAll_stays hl hb hts hlt hold hA
  · rw [hfn', hv]; rfl
  · intro j t r hj hr'
    rw [hr] at hj hr'
    match j with
    | 0 => simp at hj; subst hj; simp [Value.resultList] at hr'; subst hr'; exact okWide_bool_mk hu true
    | j + 1 => simp at hj
  · rw [hr]
    exact ⟨[], before, shut_bool hu true, trodAll_stays hl hb hts hlt (fun _ _ => rfl) hA, rfl⟩
  · rw [hv]; rfl
  · intro b off hp
    rw [hb.frozen (hlt _ hp)]
    exact hz b off hp
  · intro ha; cases ha
end
end Go.Proofs.YtmgpionlfemhdaaGreat
