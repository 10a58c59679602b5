/-
  Followers that agree with their home; forks. No program in sight.
-/
import Derived.Test.YtmjdkgpckcdndaaNLdP
namespace Go.Proofs.Ytmjdkgpckcdndaa
open Go.RowKit
set_option linter.unusedSimpArgs false
set_option linter.unusedVariables false
attribute [local irreducible] Res.blk Res.sl Res.all Res.ex Res.pure Res.star

theorem modN_in {v n : Int} (h0 : 0 ≤ v) (h : v < n) : modN v n = v := by
  unfold modN
  rw [Int.tmod_eq_of_lt h0 h]
  split <;> omega
theorem matchB_home {H : List Ch} (hH : IsH H) {n j : Nat} (hn : n ≤ j) (hj : j ≤ H.length) : matchB (H.take j) n (if n = 0 then 0 else epAt H (n - 1)) = true := by
  by_cases h0 : n = 0
  · subst h0; simp [matchB]
  · rw [if_neg h0]
    have hl : n - 1 < (H.take j).length := by rw [List.length_take]; omega
    have e := matchB_at (h := H.take j) (i := n - 1) hl ((hH.take j).seq hl) (epAt H (n - 1))
    rw [show ((n - 1 + 1 : Nat) : Int) = (n : Int) by omega] at e
    rw [e, epAt_eq (by omega)]
    simp
/-- What a follower that has a beginning of the home's history makes of a message of the home. -/
theorem take_pre {H : List Ch} (hH : IsH H) {ep : Int} (h1 : 1 ≤ ep) (h2 : ep ≤ 1048576) (he : ∀ x, x ∈ H → x.epoch ≤ ep) {f : Fo} {j : Nat} (hj : j ≤ H.length) (hc : f.c = cpOf (H.take j)) (hs : f.seen ≤ ep) {m : Shp} {n k : Nat} (hm : OfH H ep m n k) :
    (j < n → takeF f m = (⟨f.c, ep, f.agreed⟩, ⟨ep, j, false⟩, 0)) ∧
    (n ≤ j → (f.agreed < ep → n = j) → takeF f m = (⟨cpOf (H.take (max j (n + k))), ep, max f.agreed ep⟩, ⟨ep, (n : Int) + k, true⟩, 0)) := by
  have hv := hm.valid hH h1 h2 he
  have hg := (hH.take j).good
  have hl : f.c.h.length = j := by rw [hc, hg.2.1, List.length_take]; omega
  have hle := hm.le
  have e := hm.eq
  subst e
  constructor
  · intro hlt
    unfold takeF
    rw [if_pos hv]
    dsimp only
    rw [if_neg (by omega), if_pos (by rw [hl]; omega), hl]
  · intro hle2 hag
    have hmt : matchB f.c.h n (if n = 0 then 0 else epAt H (n - 1)) = true := by rw [hc, hg.2.1]; exact matchB_home hH hle2 hj
    have ha : agreeC f ⟨ep, n, if n = 0 then 0 else epAt H (n - 1), (H.drop n).take k⟩ = cpOf (H.take j) := by
      unfold agreeC
      dsimp only
      split
      · rename_i h0
        rw [hc, Int.toNat_natCast, cutC_all hg.1 (by rw [hg.2.1, List.length_take]; have := hag h0; omega)]
      · exact hc
    have ht := takeC_home hH k n j hle2 hj hle
    unfold takeF
    rw [if_pos hv]
    dsimp only
    rw [if_neg (by omega), if_neg (by rw [hl]; omega), if_pos hmt, ha, ht]
theorem eidx_le : ∀ {l : List Ch} {E : Int} {q : Nat} (hq : q < l.length), l[q].epoch = E → eidx l E ≤ q
  | x :: l, E, 0, _, h => by simp at h; simp [eidx, h]
  | x :: l, E, q + 1, hq, h => by
    unfold eidx
    split
    · omega
    · have := eidx_le (l := l) (E := E) (q := q) (by simpa using hq) (by simpa using h)
      omega
/-- The message that a leader sends. -/
theorem shipS_of {H : List Ch} {ep : Int} {s : Sd} (h0 : 0 ≤ s.next) (h1 : s.next ≤ H.length) : OfH H ep (shipS ep s H) s.next.toNat (min 8 (H.length - s.next.toNat)) := by
  refine ⟨by omega, by omega, ?_⟩
  have e : min s.next (H.length : Int) = s.next := by omega
  unfold shipS
  rw [e]
  have e2 : ((s.next.toNat : Nat) : Int) = s.next := by omega
  have e3 : (H.drop s.next.toNat).take 8 = (H.drop s.next.toNat).take (min 8 (H.length - s.next.toNat)) := by
    by_cases h8 : 8 ≤ H.length - s.next.toNat
    · rw [Nat.min_eq_left h8]
    · rw [List.take_of_length_le (by rw [List.length_drop]; omega), List.take_of_length_le (by rw [List.length_drop]; omega)]
  rw [e2, e3]
  congr 1
  by_cases hz : s.next = 0
  · rw [if_pos hz, if_pos (by omega)]
  · rw [if_neg hz, if_neg (by omega)]
    congr 1
    omega
/-! A history O and one, H, that forks from it behind n. -/
structure Frk (H O : List Ch) (n : Nat) : Prop where
  hH : IsH H
  hO : IsH O
  nH : n ≤ H.length
  nO : n ≤ O.length
  same : H.take n = O.take n
  apart : ∀ i j (hi : i < H.length) (hj : j < O.length), n ≤ i → O[j].epoch < H[i].epoch
  ep : ∀ x, x ∈ H → x.epoch ≤ 1000
theorem Frk.of {h : List Ch} (hh : IsH h) (he : ∀ x, x ∈ h → x.epoch ≤ 61) (hl : h.length ≤ 60) {n : Int} (hn : 0 ≤ n ∧ n ≤ h.length) (l l' : List Int) :
    Frk (forkC (forkC h n l).h n l').h (forkC h n l).h n.toNat ∧ (forkC h n l).h.length ≤ 90 ∧ (forkC (forkC h n l).h n l').h.length ≤ 90 ∧ (∀ x, x ∈ (forkC h n l).h → x.epoch ≤ 93) := by
  have hsm : ∀ k : Nat, n ≤ k → modN n ((k : Int) + 1) = n := fun k hk => by
    exact modN_in hn.1 (by omega)
  obtain ⟨g1, ext, e1, x1, ep1⟩ := hh.fork n l
  rw [hsm _ hn.2] at e1
  have hO : IsH (forkC h n l).h := g1.isH
  have heO := hh.fork_epochs n l (B := 61) (by omega) he
  have hlO : (forkC h n l).h.length = n.toNat + ext.length := by rw [e1, List.length_append, List.length_take]; omega
  obtain ⟨g2, ext2, e2, x2, ep2⟩ := hO.fork n l'
  rw [hsm _ (by omega)] at e2
  have heH := hO.fork_epochs n l' (B := 93) (by omega) (fun x hx => (heO x hx).2)
  have hlH : (forkC (forkC h n l).h n l').h.length = n.toNat + ext2.length := by rw [e2, List.length_append, List.length_take]; omega
  refine ⟨⟨g2.isH, hO, by omega, by omega, ?_, ?_, fun x hx => by have := heH x hx; omega⟩, by omega, by omega, fun x hx => (heO x hx).2⟩
  · rw [e2, List.take_append_of_le_length (by rw [List.length_take]; omega), List.take_take, Nat.min_self]
  · intro i j hi hj hni
    have hx : (forkC (forkC h n l).h n l').h[i] ∈ ext2 := by
      have : (forkC (forkC h n l).h n l').h[i] = ((forkC h n l).h.take n.toNat ++ ext2)[i]'(by rw [← e2]; exact hi) := by congr 1
      rw [this, List.getElem_append_right (by rw [List.length_take]; omega)]
      simp
    have h1 := ep2 _ hx
    have h2 := (hO.epochs _ (List.getElem_mem hj)).2
    have h3 : epochOf (forkC h n l).h ≤ forkEp (forkC h n l).h := by
      unfold forkEp
      rw [if_neg (by omega)]
      exact Int.le_refl _
    omega
/-- Ahead of the agreement, and behind it. -/
structure FBef (H O : List Ch) (s : Sd) (f : Fo) : Prop where
  c : f.c = cpOf O
  ag : f.agreed = 0
  seen : f.seen ≤ 1000
  app : s.applied = 0
  n0 : 0 ≤ s.next
  n1 : s.next ≤ H.length
structure FAft (H : List Ch) (s : Sd) (f : Fo) (j : Nat) : Prop where
  jle : j ≤ H.length
  c : f.c = cpOf (H.take j)
  ag : f.agreed = 1000
  seen : f.seen ≤ 1000
  app : s.applied = s.next
  n0 : 0 ≤ s.next
  n1 : s.next ≤ j
def FSt (H O : List Ch) (i : Nat) (s : Sd) (f : Fo) : Prop := (FBef H O s f ∧ s.next + i ≤ H.length) ∨ ∃ j, FAft H s f j ∧ min (H.length : Int) (8 * (i - H.length - 1)) ≤ s.next
structure Rnd (H O : List Ch) (i : Nat) (s : Sd) (R : Fo × He × Int) : Prop where
  e : R.2.2 = 0
  ep : R.2.1.ep = 1000
  a0 : 0 ≤ R.2.1.applied
  a1 : R.2.1.applied ≤ 4096
  ok : R.2.1.ok = true → ∃ j, j ≤ H.length ∧ R.1.c = cpOf (H.take j)
  good : Good R.1.c
  next : FSt H O (i + 1) (hearS s R.2.1) R.1
theorem FSt.round {H O : List Ch} {n : Nat} (hF : Frk H O n) (hHl : H.length ≤ 90) (hOl : O.length ≤ 90) {i : Nat} {s : Sd} {f : Fo} (h : FSt H O i s f) : Rnd H O i s (takeF f (shipS 1000 s H)) := by
  have hgO := hF.hO.good
  rcases h with ⟨h, hi⟩ | ⟨j, h, hi⟩
  · have hof := shipS_of (ep := 1000) h.n0 h.n1
    have hv := hof.valid hF.hH (by omega) (by omega) hF.ep
    generalize hk : min 8 (H.length - s.next.toNat) = k at *
    have hle := hof.le
    have e := hof.eq
    rw [e] at hv ⊢
    have hsn : ((s.next.toNat : Nat) : Int) = s.next := by have := h.n0; omega
    have hcl : f.c.h = O := by rw [h.c, hgO.2.1]
    by_cases hlt : O.length < s.next.toNat
    · have ht : takeF f ⟨1000, s.next.toNat, if s.next.toNat = 0 then 0 else epAt H (s.next.toNat - 1), (H.drop s.next.toNat).take k⟩ = (⟨f.c, 1000, f.agreed⟩, ⟨1000, O.length, false⟩, 0) := by
        have := h.seen
        unfold takeF
        rw [if_pos hv]
        dsimp only
        rw [if_neg (by omega), if_pos (by rw [hcl]; omega), hcl]
      rw [ht]
      refine ⟨rfl, rfl, by simp only; omega, by simp only; omega, fun h => (by cases h), by rw [h.c]; exact hgO.1, .inl ⟨⟨h.c, h.ag, Int.le_refl _, ?_, ?_, ?_⟩, ?_⟩⟩
      all_goals
        unfold hearS
        simp only [Bool.false_eq_true, if_false]
        have := h.app
        omega
    · by_cases hm : s.next.toNat ≤ n
      · have hmt : matchB f.c.h s.next.toNat (if s.next.toNat = 0 then 0 else epAt H (s.next.toNat - 1)) = true := by
          rw [hcl]
          have e0 := matchB_home hF.hO (n := s.next.toNat) (j := O.length) (by omega) (Nat.le_refl _)
          rw [List.take_length] at e0
          by_cases hz : s.next.toNat = 0
          · rw [if_pos hz] at e0 ⊢; exact e0
          · rw [if_neg hz] at e0 ⊢
            rw [epAt_eq (by omega)] at e0 ⊢
            have e1 : (H.take n)[s.next.toNat - 1]'(by rw [List.length_take]; have := hF.nH; omega) = (O.take n)[s.next.toNat - 1]'(by rw [List.length_take]; have := hF.nO; omega) := by
              congr 1
              exact hF.same
            simp only [List.getElem_take] at e1
            rw [e1]
            exact e0
        have htk : O.take s.next.toNat = H.take s.next.toNat := by
          have h1 := congrArg (List.take s.next.toNat) hF.same
          rw [List.take_take, List.take_take, Nat.min_eq_left hm] at h1
          exact h1.symm
        have ha : agreeC f ⟨1000, s.next.toNat, if s.next.toNat = 0 then 0 else epAt H (s.next.toNat - 1), (H.drop s.next.toNat).take k⟩ = cpOf (H.take s.next.toNat) := by
          unfold agreeC
          dsimp only
          rw [if_pos (by rw [h.ag]; omega), Int.toNat_natCast]
          unfold cutC
          rw [hcl, htk]
        have ht := takeC_home hF.hH k s.next.toNat s.next.toNat (Nat.le_refl _) (by omega) hle
        have hR : takeF f ⟨1000, s.next.toNat, if s.next.toNat = 0 then 0 else epAt H (s.next.toNat - 1), (H.drop s.next.toNat).take k⟩ = (⟨cpOf (H.take (max s.next.toNat (s.next.toNat + k))), 1000, 1000⟩, ⟨1000, (s.next.toNat : Int) + k, true⟩, 0) := by
          have hs := h.seen
          have hg := h.ag
          unfold takeF
          rw [if_pos hv]
          dsimp only
          rw [if_neg (by omega), if_neg (by rw [hcl]; omega), if_pos hmt, ha, ht, hg]
          try rfl
        rw [hR, Nat.max_eq_right (by omega)]
        refine ⟨rfl, rfl, by simp only; omega, by simp only; omega, fun _ => ⟨_, hle, rfl⟩, (hF.hH.take _).good.1, .inr ⟨s.next.toNat + k, ⟨hle, rfl, rfl, Int.le_refl _, ?_, ?_, ?_⟩, ?_⟩⟩
        all_goals
          have := h.app
          unfold hearS
          simp only [if_true]
          try omega
      · have hq : s.next.toNat - 1 < O.length := by omega
        have hq2 : s.next.toNat - 1 < H.length := by omega
        have hap := hF.apart (s.next.toNat - 1) (s.next.toNat - 1) hq2 hq (by omega)
        have hmt : matchB f.c.h s.next.toNat (if s.next.toNat = 0 then 0 else epAt H (s.next.toNat - 1)) = false := by
          rw [hcl, if_neg (by omega), epAt_eq hq2]
          have e0 := matchB_at hq (hF.hO.seq hq) (H[s.next.toNat - 1].epoch)
          rw [show ((s.next.toNat - 1 + 1 : Nat) : Int) = (s.next.toNat : Int) by omega] at e0
          rw [e0]
          exact decide_eq_false (by omega)
        have hix : eidx O (epAt O ((s.next.toNat : Int) - 1).toNat) ≤ s.next.toNat - 1 := by
          rw [show ((s.next.toNat : Int) - 1).toNat = s.next.toNat - 1 by omega, epAt_eq hq]
          exact eidx_le hq rfl
        have hR : takeF f ⟨1000, s.next.toNat, if s.next.toNat = 0 then 0 else epAt H (s.next.toNat - 1), (H.drop s.next.toNat).take k⟩ = (⟨f.c, 1000, f.agreed⟩, ⟨1000, eidx O (epAt O ((s.next.toNat : Int) - 1).toNat), false⟩, 0) := by
          have hs := h.seen
          unfold takeF
          rw [if_pos hv]
          dsimp only
          rw [if_neg (by omega), if_neg (by rw [hcl]; omega), if_neg (by rw [hmt]; simp), hcl]
        rw [hR]
        generalize eidx O (epAt O ((s.next.toNat : Int) - 1).toNat) = q at *
        refine ⟨rfl, rfl, by simp only; omega, by simp only; omega, fun h => (by cases h), by rw [h.c]; exact hgO.1, .inl ⟨⟨h.c, h.ag, Int.le_refl _, ?_, ?_, ?_⟩, ?_⟩⟩
        all_goals
          unfold hearS
          simp only [Bool.false_eq_true, if_false]
          have := h.app
          omega
  · have h1 := h.n1
    have h2 := h.jle
    have hof := shipS_of (ep := 1000) (H := H) h.n0 (by omega)
    have hsn : ((s.next.toNat : Nat) : Int) = s.next := by have := h.n0; omega
    have hR := (take_pre hF.hH (by omega) (by omega) hF.ep h.jle h.c h.seen hof).2 (by omega) (by rw [h.ag]; omega)
    have hle := hof.le
    generalize hk : min 8 (H.length - s.next.toNat) = k at *
    rw [hR, h.ag]
    refine ⟨rfl, rfl, by simp only; omega, by simp only; omega, fun _ => ⟨max j (s.next.toNat + k), by omega, rfl⟩, (hF.hH.take _).good.1, .inr ⟨max j (s.next.toNat + k), ⟨by omega, rfl, rfl, Int.le_refl _, ?_, ?_, ?_⟩, ?_⟩⟩
    all_goals
      have := h.app
      unfold hearS
      simp only [if_true]
      try omega
end Go.Proofs.Ytmjdkgpckcdndaa
