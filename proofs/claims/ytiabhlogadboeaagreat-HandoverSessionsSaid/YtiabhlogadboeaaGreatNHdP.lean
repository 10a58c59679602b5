/-
  What a transfer leaves of requests and of leases, in plain terms. No program in sight.
-/
import Derived.Test.YtiabhlogadboeaaGreatNOnP
import Derived.Test.YtiabhlogadboeaaGreatNRdP
import Derived.Test.YtiabhlogadboeaaGreatNHpP
import Derived.Test.YtiabhlogadboeaaGreatEX
namespace Go.Proofs.YtiabhlogadboeaaGreat
open Go.RowKit
set_option linter.unusedSimpArgs false
set_option linter.unusedVariables false
attribute [local irreducible] Res.blk Res.sl Res.all Res.ex Res.pure Res.star

/-- The greatest number of a client is at most the number of changes. -/
theorem Good.num {c : Cp} (h : Good c) : ∀ k, c.t.n k ≤ c.h.length := by
  induction h with
  | zero => intro k; exact Int.le_refl _
  | @app c x hc hx ih =>
    obtain ⟨_, _, _, ht, _, _, e⟩ := cApp_ok hx
    rw [e]
    intro k
    simp only [List.length_append, List.length_singleton]
    push_cast
    have h0 := ih k
    have e2 : (tApp c.t x).1.n k = c.t.n k ∨ ((tApp c.t x).1.n k = x.number ∧ x.number = c.t.n (x.client - 1).toNat + 1) := by
      unfold tApp
      by_cases hv : validB x = true
      · rw [if_pos hv]
        by_cases hn : x.number = c.t.n (x.client - 1).toNat + 1
        · rw [if_pos hn]
          show upd c.t.n _ _ k = _ ∨ (upd c.t.n _ _ k = _ ∧ _)
          unfold upd
          split
          · exact .inr ⟨rfl, hn⟩
          · exact .inl rfl
        · rw [if_neg hn]
          exact .inl rfl
      · rw [if_neg hv]
        exact .inl rfl
    rcases e2 with e2 | ⟨e2, e3⟩
    · rw [e2]
      omega
    · have := ih (x.client - 1).toNat
      rw [e2]
      omega
theorem epochOf_bd {h : List Ch} {B : Int} (hB : 0 ≤ B) (hb : ∀ x, x ∈ h → 1 ≤ x.epoch ∧ x.epoch ≤ B) : 0 ≤ epochOf h ∧ epochOf h ≤ B := by
  by_cases h0 : h.length = 0
  · have e : h = [] := List.eq_nil_of_length_eq_zero h0
    subst e
    exact ⟨Int.le_refl _, hB⟩
  · rw [epochOf_eq (by omega)]
    have h5 : h[h.length - 1]'(by omega) ∈ h := by simp
    have := hb _ h5
    omega
/-- The answer to a put. -/
def putR (n : Nat) : Rep := ⟨0, (n : Int) + 1, 0, ⟨#[]⟩⟩
/-- A client's next put: refused because the store is full, or a change. -/
theorem put28 {c : Cp} (hc : CG c) {cl nu ep tk : Int} {k v : ByteArray} (hcl : 1 ≤ cl ∧ cl ≤ 8) (hnu : nu = c.t.n (cl - 1).toNat + 1) (hk : keyOk k) (hv : v.size ≤ 64) (hl : c.h.length ≤ 1000) (he : 1 ≤ ep ∧ ep ≤ 1048576) (hep : epochOf c.h ≤ ep) (htk : 0 ≤ tk ∧ tk ≤ 1073741824) :
    (((atK c.s k).isSome = false ∧ 32 ≤ c.s.length) ∧ exP c 0 ep tk ⟨0, cl, nu, 2, 0, k, v⟩ = ⟨c, errR 33⟩) ∨
    (¬ ((atK c.s k).isSome = false ∧ 32 ≤ c.s.length) ∧ ∃ c2, exP c 0 ep tk ⟨0, cl, nu, 2, 0, k, v⟩ = ⟨c2, putR c.h.length⟩ ∧ CG c2 ∧ c2.h.length = c.h.length + 1 ∧ epochOf c2.h = ep ∧ c2.t.n (cl - 1).toNat = nu ∧ findB c2.t cl nu = (putR c.h.length, 0) ∧ atK c2.s k = some ⟨k, v, (c.h.length : Int) + 1⟩) := by
  have h0 := hc.ok.1 (cl - 1).toNat
  have h1 : c.t.n (cl - 1).toNat ≤ c.h.length := hc.good.num _
  have hx : reqOk ⟨0, cl, nu, 2, 0, k, v⟩ := ⟨(by show (0 : Int) ≤ 0; decide), (by show (0 : Int) < 32; decide), hcl.1, hcl.2, .inr (.inl ⟨rfl, ⟨by show 1 ≤ nu; omega, by show nu ≤ 1048576; omega⟩, rfl, hk, hv⟩)⟩
  have e0 : findB c.t cl nu = (.zero, 34) := by
    unfold findB
    rw [if_neg (by omega), if_neg (by omega), if_pos hnu]
  have e1 : ∀ b, refuse c ⟨0, cl, nu, 2, 0, k, v⟩ b = if (atK c.s k).isSome = false ∧ 32 ≤ c.s.length then 33 else 0 := fun b => by
    unfold refuse
    rw [if_pos rfl]
  have e2 : exP c 0 ep tk ⟨0, cl, nu, 2, 0, k, v⟩ = wrQ c ep ⟨0, cl, nu, 2, 0, k, v⟩ (holdsP c.q.r cl ep 0 tk) := by
    unfold exP exQ
    rw [if_pos ⟨hx, rfl, htk.1, htk.2⟩, if_pos ⟨by omega, hep⟩, if_neg (by show ¬ (2 : Int) = 1; decide), if_neg (by show ¬ (2 : Int) = 5; decide)]
  rw [e2]
  generalize holdsP c.q.r cl ep 0 tk = b
  unfold wrQ
  rw [show findB c.t (Rq.mk 0 cl nu 2 0 k v).client (Rq.mk 0 cl nu 2 0 k v).number = (.zero, 34) from e0, if_neg (by decide), if_pos rfl, if_neg (by omega)]
  by_cases hf : (atK c.s k).isSome = false ∧ 32 ≤ c.s.length
  · refine .inl ⟨hf, ?_⟩
    rw [e1, if_pos hf, if_neg (by decide)]
  · refine .inr ⟨hf, ?_⟩
    rw [e1, if_neg hf, if_pos rfl]
    obtain ⟨hw, hfi⟩ := write_ok hc.cw hx (by show ¬ (2 : Int) = 1; decide) (by show ¬ (2 : Int) = 5; decide) he.1 he.2 hep (by rw [show findB c.t (Rq.mk 0 cl nu 2 0 k v).client (Rq.mk 0 cl nu 2 0 k v).number = (.zero, 34) from e0]) (by omega) (hold := b) (by rw [e1, if_neg hf])
    obtain ⟨hcv, hch, hce, hct, hcs, hcq, e⟩ := cApp_ok hw
    have hg := hc.app (chOf c ep ⟨0, cl, nu, 2, 0, k, v⟩)
    have hrep : repOf (chOf c ep ⟨0, cl, nu, 2, 0, k, v⟩) = putR c.h.length := rfl
    refine ⟨_, by rw [hrep], hg.1, ?_, ?_, ?_, ?_, ?_⟩
    · rw [e, List.length_append]; rfl
    · rw [e]; exact epochOf_snoc _ _
    · have hfi2 := congrArg Prod.snd hfi
      unfold findB at hfi2
      rw [if_neg (by show ¬ (cl < 1 ∨ 8 < cl ∨ nu < 1 ∨ 1048576 < nu); omega)] at hfi2
      split at hfi2
      · rename_i h; exact h.symm
      · split at hfi2 <;> simp at hfi2
    · rw [← hrep]; exact hfi
    · rw [e]
      show atK (sApp c.s _).1 k = _
      rw [sApp_atK hc.cok.ss hcs, if_pos ⟨.inl rfl, rfl⟩]
      exact if_pos rfl
theorem cpOf_cg {c : Cp} (hc : CG c) : CG (cpOf c.h) ∧ (cpOf c.h).h = c.h ∧ (cpOf c.h).t = c.t ∧ (cpOf c.h).s = c.s := by
  have h := hc.isH.good
  exact ⟨h.1.cg h.1.qok, h.2.1, by rw [bare_cpOf hc]; rfl, by rw [bare_cpOf hc]; rfl⟩
/-- A put at the old home, asked again at the new one; then the next put. -/
theorem sess28 {c : Cp} (hc : CG c) {cl nu ep : Int} {k v : ByteArray} (hcl : 1 ≤ cl ∧ cl ≤ 8) (hnu : nu = c.t.n (cl - 1).toNat + 1) (hk : keyOk k) (hv : v.size ≤ 64) (hl : c.h.length ≤ 500) (he : 1 ≤ ep ∧ ep ≤ 1000000) (hep : epochOf c.h ≤ ep) :
    (exP c 0 ep 5 ⟨0, cl, nu, 2, 0, k, v⟩ = ⟨c, errR 33⟩ ∧ exP (cpOf c.h) 0 (ep + 1) 6 ⟨0, cl, nu, 2, 0, k, v⟩ = ⟨cpOf c.h, errR 33⟩) ∨
    (∃ c2 c3, exP c 0 ep 5 ⟨0, cl, nu, 2, 0, k, v⟩ = ⟨c2, putR c.h.length⟩ ∧ CG c2 ∧ c2.h.length = c.h.length + 1 ∧ exP (cpOf c2.h) 0 (ep + 1) 6 ⟨0, cl, nu, 2, 0, k, v⟩ = ⟨cpOf c2.h, putR c.h.length⟩ ∧ atK (cpOf c2.h).s k = some ⟨k, v, (c.h.length : Int) + 1⟩ ∧
      exP (cpOf c2.h) 0 (ep + 1) 7 ⟨0, cl, nu + 1, 2, 0, k, v⟩ = ⟨c3, putR (c.h.length + 1)⟩ ∧ c3.h.length = c.h.length + 2) := by
  obtain ⟨hb, hbh, hbt, hbs⟩ := cpOf_cg hc
  rcases put28 hc hcl hnu hk hv (by omega) (tk := 5) ⟨he.1, by omega⟩ hep (by omega) with ⟨h1, h2⟩ | ⟨h1, c2, h2, h3, h4, h5, h6, h7, h8⟩
  · left
    refine ⟨h2, ?_⟩
    rcases put28 hb (nu := nu) (ep := ep + 1) (v := v) (tk := 6) hcl (by rw [hbt]; exact hnu) hk hv (by rw [hbh]; omega) ⟨by omega, by omega⟩ (by rw [hbh]; omega) (by omega) with ⟨_, g2⟩ | ⟨g1, _⟩
    · exact g2
    · rw [hbs] at g1; exact absurd h1 g1
  · right
    obtain ⟨hd, hdh, hdt, hds⟩ := cpOf_cg h3
    rcases put28 hd (ep := ep + 1) (v := v) (nu := nu + 1) (tk := 7) hcl (by rw [hdt, h6]) hk hv (by rw [hdh]; omega) ⟨by omega, by omega⟩ (by rw [hdh]; omega) (by omega) with ⟨g1, _⟩ | ⟨_, c3, g2, g3, g4, _⟩
    · rw [hds, h8] at g1; exact absurd g1.1 (by simp)
    · rw [hdh, h4] at g2 g4
      refine ⟨c2, c3, h2, h3, h4, ?_, by rw [hds]; exact h8, g2, by omega⟩
      have h0 := hc.ok.1 (cl - 1).toNat
      have h1 : c.t.n (cl - 1).toNat ≤ c.h.length := hc.good.num _
      have hx : reqOk ⟨0, cl, nu, 2, 0, k, v⟩ := ⟨(by show (0 : Int) ≤ 0; decide), (by show (0 : Int) < 32; decide), hcl.1, hcl.2, .inr (.inl ⟨rfl, ⟨by show 1 ≤ nu; omega, by show nu ≤ 1048576; omega⟩, rfl, hk, hv⟩)⟩
      refine ex_found hx rfl ⟨by decide, by decide⟩ ⟨by omega, by rw [hdh]; omega⟩ (by show ¬ (2 : Int) = 1; decide) (by show ¬ (2 : Int) = 5; decide) ?_
      rw [hdt]
      exact h7
/-- What the statement asks of the put and of the one behind it. -/
def SessOk (c c2 : Cp) (p2 : Rep) (ep cl nu : Int) (k v : ByteArray) : Prop := p2 = errR 33 ∨
  (p2 = putR c.h.length ∧ c2.h.length = c.h.length + 1 ∧ atK (cpOf c2.h).s k = some ⟨k, v, (c.h.length : Int) + 1⟩ ∧ ∃ c3, exP (cpOf c2.h) 0 (ep + 1) 7 ⟨0, cl, nu + 1, 2, 0, k, v⟩ = ⟨c3, putR (c.h.length + 1)⟩ ∧ c3.h.length = c.h.length + 2)
theorem sess_ok {c : Cp} (hc : CG c) {cl nu ep : Int} {k v : ByteArray} (hcl : 1 ≤ cl ∧ cl ≤ 8) (hnu : nu = c.t.n (cl - 1).toNat + 1) (hk : keyOk k) (hv : v.size ≤ 64) (hl : c.h.length ≤ 500) (he : 1 ≤ ep ∧ ep ≤ 1000000) (hep : epochOf c.h ≤ ep) :
    ∃ c2 p2, exP c 0 ep 5 ⟨0, cl, nu, 2, 0, k, v⟩ = ⟨c2, p2⟩ ∧ CG c2 ∧ c2.h.length ≤ c.h.length + 1 ∧ exP (cpOf c2.h) 0 (ep + 1) 6 ⟨0, cl, nu, 2, 0, k, v⟩ = ⟨cpOf c2.h, p2⟩ ∧ SessOk c c2 p2 ep cl nu k v := by
  rcases sess28 hc hcl hnu hk hv hl he hep with ⟨h1, h2⟩ | ⟨c2, c3, h1, h2, h3, h4, h5, h6, h7⟩
  · exact ⟨c, errR 33, h1, hc, by omega, h2, .inl rfl⟩
  · exact ⟨c2, putR c.h.length, h1, h2, by omega, h4, .inr ⟨rfl, h3, h5, c3, h6, h7⟩⟩
/-! Leases. -/
def takeQ : Rq := ⟨0, 1, 0, 5, 0, ⟨#[]⟩, ⟨#[]⟩⟩
theorem takeQ_ok : reqOk takeQ := ⟨by decide, by decide, by decide, by decide, .inr (.inr (.inr (.inr (.inl ⟨rfl, rfl, rfl, rfl, rfl⟩))))⟩
theorem take_any {l : List It} {m ep ep' tk tk' : Int} (he : 1 ≤ ep ∧ ep ≤ 1048576) (he' : 1 ≤ ep' ∧ ep' ≤ 1048576) (ht : 0 ≤ tk ∧ tk ≤ 1000) (ht' : 0 ≤ tk' ∧ tk' ≤ 1000) : (takeP ⟨l, [], m⟩ 1 ep tk 20).e = (takeP ⟨l, [], m⟩ 1 ep' tk' 20).e ∧ (takeP ⟨l, [], m⟩ 1 ep tk 20).x = (takeP ⟨l, [], m⟩ 1 ep' tk' 20).x := by
  have e : freeI l [] ep tk = freeI l [] ep' tk' := rfl
  unfold takeP
  rw [if_neg (by unfold takeBad; omega), if_neg (by unfold takeBad; omega)]
  simp only [e]
  cases freeI l [] ep' tk' <;> exact ⟨rfl, rfl⟩
/-- A take at the old home, then the first take at the new one. -/
theorem once32 {c : Cp} (hc : CG c) (hr : c.q.r = []) {ep : Int} (he : 1 ≤ ep ∧ ep ≤ 1000000) (hep : epochOf c.h ≤ ep) (E : ExR) (hE : exP c 0 ep 5 takeQ = E) :
    (exP (cpOf c.h) 0 (ep + 1) 6 takeQ).p = E.p ∧ CG E.c ∧ E.c.h = c.h ∧ exP E.c 0 0 6 takeQ = ⟨E.c, errR 30⟩ ∧ ∀ t k, mfOf t k (cpOf c.h) = mfOf t k E.c := by
  obtain ⟨hb, hbh, hbt, hbs⟩ := cpOf_cg hc
  have hg := (hc.ex 0 ep 5 takeQ).1
  rw [hE] at hg
  have h1 : exP c 0 ep 5 takeQ = ⟨⟨c.h, c.s, (takeP c.q 1 ep 5 20).q, c.t⟩, if (takeP c.q 1 ep 5 20).e = 0 then ⟨0, 0, (takeP c.q 1 ep 5 20).x.number, (takeP c.q 1 ep 5 20).x.value⟩ else errR (takeP c.q 1 ep 5 20).e⟩ := by
    unfold exP exQ
    rw [if_pos ⟨takeQ_ok, rfl, by decide, by decide⟩, if_pos ⟨by omega, hep⟩, if_neg (by decide), if_pos (show takeQ.op = 5 from rfl)]
    rfl
  have h2 : exP (cpOf c.h) 0 (ep + 1) 6 takeQ = ⟨⟨(cpOf c.h).h, (cpOf c.h).s, (takeP (cpOf c.h).q 1 (ep + 1) 6 20).q, (cpOf c.h).t⟩, if (takeP (cpOf c.h).q 1 (ep + 1) 6 20).e = 0 then ⟨0, 0, (takeP (cpOf c.h).q 1 (ep + 1) 6 20).x.number, (takeP (cpOf c.h).q 1 (ep + 1) 6 20).x.value⟩ else errR (takeP (cpOf c.h).q 1 (ep + 1) 6 20).e⟩ := by
    unfold exP exQ
    rw [if_pos ⟨takeQ_ok, rfl, by decide, by decide⟩, if_pos ⟨by omega, by rw [hbh]; omega⟩, if_neg (by decide), if_pos (show takeQ.op = 5 from rfl)]
    rfl
  have hq1 : c.q = ⟨c.q.l, [], c.q.most⟩ := by
    rw [← hr]
  have hq2 : (cpOf c.h).q = ⟨c.q.l, [], c.q.most⟩ := by rw [bare_cpOf hc]; rfl
  have ht := take_any (l := c.q.l) (m := c.q.most) (ep := ep) (ep' := ep + 1) (tk := 5) (tk' := 6) ⟨he.1, by omega⟩ ⟨by omega, by omega⟩ (by omega) (by omega)
  rw [← hq1] at ht
  rw [hq2, ← hq1, ← ht.1, ← ht.2] at h2
  have hqt := hc.q.take 1 ep 5 20
  have hEe := hE.symm.trans h1
  subst hEe
  refine ⟨by rw [h2], hg, rfl, ?_, fun t k => ?_⟩
  · unfold exP exQ
    rw [if_pos ⟨takeQ_ok, rfl, by decide, by decide⟩, if_neg (fun h => absurd h.1 (by decide))]
  · rw [bare_cpOf hc]
    unfold mfOf mf0 bare
    simp only [hqt.2.1]
end Go.Proofs.YtiabhlogadboeaaGreat
