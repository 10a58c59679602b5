/-
  An item is taken, and finished. No program in sight.
-/
import Derived.Test.YtahackdfjcgkhaaGreatNRdP
import Derived.Test.YtahackdfjcgkhaaGreatGA
namespace Go.Proofs.YtahackdfjcgkhaaGreat
open Go.RowKit
set_option linter.unusedSimpArgs false
set_option linter.unusedVariables false
attribute [local irreducible] Res.blk Res.sl Res.all Res.ex Res.pure Res.star

theorem mkChange_ep (l : List Int) (i : Nat) (c : Cp) (ep : Int) : (mkChange l i c ep).1.epoch = ep := by
  unfold mkChange
  dsimp only
  repeat' split
  all_goals rfl
theorem cApp_ep (c : Cp) (x : Ch) : epochOf (cApp c x).1.h = epochOf c.h ∨ epochOf (cApp c x).1.h = x.epoch := by
  by_cases h : (cApp c x).2 = 0
  · obtain ⟨_, _, _, _, _, _, e⟩ := cApp_ok h
    rw [e]
    exact .inr (epochOf_snoc _ _)
  · rw [cApp_bad h]
    exact .inl rfl
theorem growN_ep (l : List Int) : ∀ (k : Nat) (s : Cp × Int × Nat), epochOf s.1.h ≤ s.2.1 → epochOf (growN l k s).1.h ≤ s.2.1 + k
  | 0, s, h => by unfold growN; omega
  | k + 1, s, h => by
    unfold growN
    split
    · have e2 : (growStep l s).2.1 = if nxt l s.2.2 7 = 6 then s.2.1 + 1 else s.2.1 := rfl
      have h1 : epochOf (growStep l s).1.h ≤ (growStep l s).2.1 := by
        have := cApp_ep s.1 (mkChange l (adv l s.2.2) s.1 (if nxt l s.2.2 7 = 6 then s.2.1 + 1 else s.2.1)).1
        rw [mkChange_ep] at this
        have e1 : (growStep l s).1 = (cApp s.1 (mkChange l (adv l s.2.2) s.1 (if nxt l s.2.2 7 = 6 then s.2.1 + 1 else s.2.1)).1).1 := rfl
        rw [e1, e2]
        split at this <;> rename_i hh <;> simp only [hh, if_true, if_false] <;> omega
      have := growN_ep l k (growStep l s) h1
      rw [e2] at this
      split at this <;> omega
    · omega
theorem hist_ep (l : List Int) : epochOf (hist l).h ≤ 61 := by
  have := growN_ep l 60 (.zero, 1, 0) (by decide)
  exact this
theorem Good.items {c : Cp} (h : Good c) : ∀ y, y ∈ c.q.l → 1 ≤ y.number := by
  induction h with
  | zero => intro y hy; simp [Cp.zero] at hy
  | @app c x hg hx ih =>
    obtain ⟨hv, hs, _, _, _, hq, e⟩ := cApp_ok hx
    rw [e]
    dsimp only
    intro y hy
    unfold qApp at hy
    rw [if_pos hv] at hy
    split at hy
    · split at hy
      · exact ih y hy
      · split at hy
        · exact ih y hy
        · simp only [List.mem_append, List.mem_singleton] at hy
          rcases hy with hy | rfl
          · exact ih y hy
          · show 1 ≤ x.seq
            omega
    · split at hy
      · split at hy
        · exact ih y hy
        · simp only at hy
          rcases List.mem_append.1 hy with hy | hy
          · exact ih y (List.mem_of_mem_take hy)
          · exact ih y (List.mem_of_mem_drop hy)
      · exact ih y hy
theorem Good.lasts {c : Cp} (h : Good c) : ∀ i, c.t.n i ≤ c.h.length := by
  induction h with
  | zero => intro i; simp [Cp.zero, Tab.zero]
  | @app c x hg hx ih =>
    obtain ⟨hv, hs, _, ht, _, _, e⟩ := cApp_ok hx
    rw [e]
    dsimp only
    intro i
    unfold tApp at ht ⊢
    rw [if_pos hv] at ht ⊢
    split at ht
    case isFalse => simp at ht
    case isTrue hn =>
      rw [if_pos hn]
      simp only [upd, List.length_append, List.length_singleton]
      have h1 := ih i
      have h2 := ih (x.client - 1).toNat
      split
      · rw [hn]; push_cast; omega
      · push_cast; omega

/-- The copy behind a lease. -/
def leased (c : Cp) (R : List Le) : Cp := ⟨c.h, c.s, ⟨c.q.l, R, c.q.most⟩, c.t⟩
def takeRq (cl : Int) : Rq := ⟨0, cl, 0, 5, 0, ⟨#[]⟩, ⟨#[]⟩⟩
def doneRq (cl nu it : Int) : Rq := ⟨0, cl, nu, 6, it, ⟨#[]⟩, ⟨#[]⟩⟩
theorem take_none {c : Cp} (hg : Good c) {cl ep : Int} (h1 : 1 ≤ cl ∧ cl ≤ 8) (h2 : 1 ≤ ep ∧ ep ≤ 1048576) (h3 : epochOf c.h ≤ ep) (hl : c.q.l = []) : exP c 0 ep 10 (takeRq cl) = ⟨c, errR 34⟩ := by
  have hr := hg.ok.2.2.2
  have ht : takeP c.q cl ep 10 20 = ⟨c.q, .zero, .zero, 34⟩ := by
    unfold takeP
    rw [if_neg (by unfold takeBad; omega)]
    simp [freeI, hl]
  unfold exP exQ takeRq
  rw [if_pos ⟨⟨by show (0 : Int) ≤ 0; omega, by show (0 : Int) < 32; omega, by simpa using h1.1, by simpa using h1.2, by simp⟩, rfl, by omega, by omega⟩, if_pos ⟨by omega, h3⟩, if_neg (by simp), if_pos rfl]
  simp only [ht]
  rfl
theorem take_some {c : Cp} (hg : Good c) {cl ep : Int} (h1 : 1 ≤ cl ∧ cl ≤ 8) (h2 : 1 ≤ ep ∧ ep ≤ 1048576) (h3 : epochOf c.h ≤ ep) {y : It} {ys : List It} (hl : c.q.l = y :: ys) : exP c 0 ep 10 (takeRq cl) = ⟨leased c [⟨y.number, cl, ep, 30⟩], ⟨0, 0, y.number, y.value⟩⟩ := by
  have hr := hg.ok.2.2.2
  have ht : takeP c.q cl ep 10 20 = ⟨⟨c.q.l, [⟨y.number, cl, ep, 30⟩], c.q.most⟩, y, ⟨y.number, cl, ep, 30⟩, 0⟩ := by
    unfold takeP
    rw [if_neg (by unfold takeBad; omega)]
    have hf : freeI c.q.l c.q.r ep 10 = some y := by simp [freeI, hl, hr, heldB]
    rw [hf, hr]
    rfl
  unfold exP exQ takeRq
  rw [if_pos ⟨⟨by show (0 : Int) ≤ 0; omega, by show (0 : Int) < 32; omega, by simpa using h1.1, by simpa using h1.2, by simp⟩, rfl, by omega, by omega⟩, if_pos ⟨by omega, h3⟩, if_neg (by simp), if_pos rfl]
  simp only [ht]
  rfl
theorem leased_cg {c : Cp} (hg : Good c) {R : List Le} (hq : QOk ⟨c.q.l, R, c.q.most⟩) : CG (leased c R) := (hg.cg hg.qok).leases hq rfl rfl
theorem lease_qok {c : Cp} (hg : Good c) {cl ep : Int} (h1 : 1 ≤ cl ∧ cl ≤ 8) {y : It} {ys : List It} (hl : c.q.l = y :: ys) : QOk ⟨c.q.l, [⟨y.number, cl, ep, 30⟩], c.q.most⟩ := by
  have h := hg.qok
  refine ⟨h.up, h.le, h.len, by simp, fun z hz => ?_, fun z hz => ?_⟩
  · simp at hz
    subst hz
    exact ⟨y, by simp [hl], rfl⟩
  · simp at hz
    subst hz
    exact h1
theorem done_ex {c : Cp} (hg : Good c) (hlen : c.h.length ≤ 60) {R : List Le} {cl ep tk : Int} (h1 : 1 ≤ cl ∧ cl ≤ 8) (h2 : 1 ≤ ep ∧ ep ≤ 1048576) (h3 : epochOf c.h ≤ ep) (h4 : 0 ≤ tk ∧ tk ≤ 1000) {y : It} {ys : List It} (hl : c.q.l = y :: ys) :
    (exP (leased c R) 0 ep tk (doneRq cl (c.t.n (cl - 1).toNat + 1) y.number)).p = if holdsP R cl ep y.number tk then ⟨0, (c.h.length : Int) + 1, y.number, ⟨#[]⟩⟩ else errR 35 := by
  have hn := hg.lasts (cl - 1).toNat
  have hn0 := (hg.ok.1 (cl - 1).toNat)
  have hy1 := hg.items y (by simp [hl])
  have hy2 := hg.qok.le y (by simp [hl])
  have hy3 := hg.most
  have hf : findB (leased c R).t cl (c.t.n (cl - 1).toNat + 1) = (⟨0, 0, 0, ⟨#[]⟩⟩, 34) ∨ (findB (leased c R).t cl (c.t.n (cl - 1).toNat + 1)).2 = 34 := by
    right
    unfold findB
    rw [if_neg (by omega)]
    simp only [leased]
    rw [if_neg (by omega)]
    simp
  have hf2 : (findB (leased c R).t cl (c.t.n (cl - 1).toNat + 1)).2 = 34 := by
    rcases hf with h | h
    · rw [h]
    · exact h
  have hw : waitsB (leased c R).q.l y.number = true := by simp [waitsB, leased, hl]
  have hre : ∀ b, refuse (leased c R) (doneRq cl (c.t.n (cl - 1).toNat + 1) y.number) b = if b then 0 else 35 := by intro b; simp [refuse, doneRq, hw]
  unfold exP exQ doneRq
  rw [if_pos ⟨⟨by show (0 : Int) ≤ 0; omega, by show (0 : Int) < 32; omega, by simpa using h1.1, by simpa using h1.2, .inr (.inr (.inr (.inr (.inr ⟨rfl, ⟨by simp only; omega, by simp only; omega⟩, ⟨by simp only; omega, by simp only; omega⟩, rfl, rfl⟩))))⟩, rfl, by omega, by omega⟩, if_pos ⟨by omega, h3⟩, if_neg (by simp), if_neg (by simp)]
  unfold wrQ
  simp only [hf2]
  rw [if_neg (by omega), if_pos trivial, if_neg (by simp only [leased]; omega)]
  rw [show refuse (leased c R) ⟨0, cl, c.t.n (cl - 1).toNat + 1, 6, y.number, ⟨#[]⟩, ⟨#[]⟩⟩ (holdsP (leased c R).q.r cl ep y.number tk) = if holdsP R cl ep y.number tk then 0 else 35 from hre _]
  cases holdsP R cl ep y.number tk
  · simp [errR]
  · simp [repOf, chOf, leased, kindOp]
end Go.Proofs.YtahackdfjcgkhaaGreat
