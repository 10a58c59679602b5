import Derived.Test.YtfmnjbhncnldmaaGreatP24
set_option linter.unusedSimpArgs false
set_option linter.unusedVariables false
namespace Go.Proofs.YtfmnjbhncnldmaaGreat
open Go.RowKit
attribute [local irreducible] Res.blk Res.sl Res.all Res.ex Res.pure Res.star
def LeL (l l' : List Int) : Prop := l.length = l'.length ∧ ∀ k : Nat, l.getD k 0 ≤ l'.getD k 0
theorem addP_getD (l : List Int) (i n : Int) (k : Nat) : (addP l i n).getD k 0 = if 0 ≤ i ∧ i.toNat = k ∧ k < l.length then l.getD k 0 + n else l.getD k 0 := by
  unfold addP
  by_cases h : 0 ≤ i ∧ i < l.length
  · rw [if_pos h]
    by_cases h2 : i.toNat = k
    · subst h2
      rw [if_pos ⟨h.1, rfl, by omega⟩]
      simp [List.getD_eq_getElem?_getD, (by omega : i.toNat < l.length)]
    · rw [if_neg (fun h3 => h2 h3.2.1)]
      simp [List.getD_eq_getElem?_getD, List.getElem?_set_ne h2]
  · rw [if_neg h, if_neg (by omega)]
theorem LeL.refl (l : List Int) : LeL l l := ⟨rfl, fun _ => Int.le_refl _⟩
theorem LeL.trans {l1 l2 l3 : List Int} (h : LeL l1 l2) (h' : LeL l2 l3) : LeL l1 l3 := ⟨h.1.trans h'.1, fun k => Int.le_trans (h.2 k) (h'.2 k)⟩
theorem LeL.add {l l' : List Int} (h : LeL l l') (i n : Int) : LeL (addP l i n) (addP l' i n) := by
  refine ⟨by rw [addP_len, addP_len, h.1], fun k => ?_⟩
  rw [addP_getD, addP_getD, h.1]
  have := h.2 k
  split <;> omega
theorem LeL.up (l : List Int) (i : Int) {n : Int} (hn : 0 ≤ n) : LeL l (addP l i n) := by
  refine ⟨(addP_len ..).symm, fun k => ?_⟩
  rw [addP_getD]
  split <;> omega
def plT (p : Int × Int) : TS := { TS.fresh with placed := true, home := p.1, standby := p.2 }
theorem bookT_pl (l : List Int) (d : Tn) (p : Int × Int) : bookT l d (plT p) = bkT l p d := by
  simp [bookT, plT, TS.fresh, addP_neg, bkT]
theorem bookT_fresh (l : List Int) (d : Tn) : bookT l d TS.fresh = l := by simp [bookT, TS.fresh]
def plTs (ps : List (Int × Int)) (m : List Nat) : List TS := (List.range ps.length).map fun i => if i ∈ m then plT (ps.getD i (0, 0)) else TS.fresh
def plSt (c : Cfg) (ps : List (Int × Int)) (m : List Nat) : Sta := { newS c with count := m.length, tenants := plTs ps m }
def plE (t : Nat) (p : Int × Int) : En := ⟨1, 0, t, p.1, p.2, 0, 0, 0, 0⟩
theorem plTs_len (ps : List (Int × Int)) (m : List Nat) : (plTs ps m).length = ps.length := by simp [plTs]
theorem plTs_get (ps : List (Int × Int)) (m : List Nat) {i : Nat} (h : i < ps.length) : (plTs ps m)[i]'(by rw [plTs_len]; exact h) = if i ∈ m then plT ps[i] else TS.fresh := by
  simp [plTs, List.getD_eq_getElem?_getD, h]
theorem plSt_new {c : Cfg} {ps : List (Int × Int)} (hl : ps.length = c.tenants.length) : plSt c ps [] = newS c := by
  have e : plTs ps [] = List.replicate c.tenants.length TS.fresh := by
    apply List.ext_getElem
    · simp [plTs_len, hl]
    · intro i h1 h2
      rw [plTs_len] at h1
      rw [plTs_get ps [] h1]
      simp
  unfold plSt
  rw [e]
  rfl
theorem plSt_ten {c : Cfg} {ps : List (Int × Int)} {m : List Nat} {t : Nat} (ht : t < ps.length) : tenP (plSt c ps m) t = if t ∈ m then plT ps[t] else TS.fresh := by
  have h2 : t < (plTs ps m).length := by rw [plTs_len]; exact ht
  have h := plTs_get ps m ht
  unfold tenP
  show (plTs ps m).getD (t : Int).toNat TS.fresh = _
  rw [Int.toNat_natCast, ← h]
  simp [List.getD_eq_getElem?_getD, h2]
theorem plSt_cel {c : Cfg} {ps : List (Int × Int)} {m : List Nat} {k : Int} (h : 0 ≤ k ∧ k < c.cells.length) : celP (plSt c ps m) k = ⟨1, 0, 0, 0⟩ := by
  unfold celP
  show (List.replicate c.cells.length (⟨1, 0, 0, 0⟩ : CS)).getD k.toNat _ = _
  simp [List.getD_eq_getElem?_getD, (by omega : k.toNat < c.cells.length)]
theorem plSt_ok {c : Cfg} (hv : CfgV c) {ps : List (Int × Int)} (hl : ps.length = c.tenants.length) (hr : ∀ i (h : i < ps.length), (0 ≤ ps[i].1 ∧ ps[i].1 < c.cells.length) ∧ (-1 ≤ ps[i].2 ∧ ps[i].2 < c.cells.length) ∧ ps[i].2 ≠ ps[i].1) (m : List Nat) : (plSt c ps m).ok c := by
  have h0 := newS_ok hv.ok.v.1
  refine ⟨by show (plTs ps m).length = _; rw [plTs_len, hl], h0.kl, fun x hx => ?_, h0.k⟩
  obtain ⟨i, hi, rfl⟩ := List.mem_iff_getElem.1 (show x ∈ plTs ps m from hx)
  rw [plTs_len] at hi
  rw [plTs_get ps m hi]
  obtain ⟨h1, h2, h3⟩ := hr i hi
  split
  · exact (TS.fresh_ok _).place rfl h1 h2 h3
  · exact TS.fresh_ok _
theorem bkT_le {l l' : List Int} (h : LeL l l') {d : Tn} (hl : 0 ≤ d.load) (hs : 0 ≤ d.shadow) (p : Int × Int) : LeL l (bkT l' p d) := (h.trans (LeL.up _ p.1 hl)).trans (LeL.up _ p.2 hs)
theorem book_le {c : Cfg} (hv : CfgV c) {ps : List (Int × Int)} (hl : ps.length = c.tenants.length) (m : List Nat) : ∀ i : Nat, i ≤ ps.length → LeL (bookN c (plSt c ps m) i) (bkN c ps i)
  | 0, _ => LeL.refl _
  | i + 1, hi => by
    have ih := book_le hv hl m i (by omega)
    have h1 : i < c.tenants.length := by omega
    have h2 : i < (plSt c ps m).tenants.length := by show i < (plTs ps m).length; rw [plTs_len]; omega
    rw [bookN_succ h1 h2, bkN_succ (by omega) h1]
    have e : (plSt c ps m).tenants[i] = if i ∈ m then plT (ps[i]'(by omega)) else TS.fresh := plTs_get ps m (by omega)
    have ht := hv.tn _ (List.getElem_mem h1)
    rw [e]
    split
    · rw [bookT_pl]
      unfold bkT
      exact (ih.add _ _).add _ _
    · rw [bookT_fresh]
      exact bkT_le ih (by omega) (by omega) _
theorem book_eq {c : Cfg} {ps : List (Int × Int)} (hl : ps.length = c.tenants.length) {m : List Nat} (hm : ∀ i, i < ps.length → i ∈ m) : ∀ i : Nat, i ≤ ps.length → bookN c (plSt c ps m) i = bkN c ps i
  | 0, _ => rfl
  | i + 1, hi => by
    have ih := book_eq hl hm i (by omega)
    have h1 : i < c.tenants.length := by omega
    have h2 : i < (plSt c ps m).tenants.length := by show i < (plTs ps m).length; rw [plTs_len]; omega
    rw [bookN_succ h1 h2, bkN_succ (by omega) h1, ih]
    have e : (plSt c ps m).tenants[i] = if i ∈ m then plT (ps[i]'(by omega)) else TS.fresh := plTs_get ps m (by omega)
    rw [e, if_pos (hm i (by omega)), bookT_pl]
theorem bookP_le {c : Cfg} (hv : CfgV c) {ps : List (Int × Int)} (hl : ps.length = c.tenants.length) (m : List Nat) : LeL (bookP c (plSt c ps m)) (bkN c ps ps.length) := by
  have h := book_le hv hl m ps.length (Nat.le_refl _)
  have e := bookN_all (c := c) (s := plSt c ps m)
  have e2 : min c.tenants.length (plSt c ps m).tenants.length = ps.length := by show min _ (plTs ps m).length = _; rw [plTs_len]; omega
  rw [e2] at e
  rw [← e]
  exact h
theorem bookP_eq {c : Cfg} {ps : List (Int × Int)} (hl : ps.length = c.tenants.length) {m : List Nat} (hm : ∀ i, i < ps.length → i ∈ m) : bookP c (plSt c ps m) = bkN c ps ps.length := by
  have h := book_eq hl hm ps.length (Nat.le_refl _)
  have e := bookN_all (c := c) (s := plSt c ps m)
  have e2 : min c.tenants.length (plSt c ps m).tenants.length = ps.length := by show min _ (plTs ps m).length = _; rw [plTs_len]; omega
  rw [e2] at e
  rw [← e]
  exact h
theorem over_no {c : Cfg} {s : Sta} (h : ∀ k (hk : k < c.cells.length), (bookP c s).getD k 0 ≤ c.cells[k].cap) : overP c s = false := by
  unfold overP
  rw [List.any_eq_false]
  intro p hp
  obtain ⟨k, hk, rfl⟩ := List.mem_iff_getElem.1 hp
  simp only [List.length_zip] at hk
  have h1 := h k (by omega)
  have e : (bookP c s).getD k 0 = (bookP c s)[k]'(by omega) := by simp [List.getD_eq_getElem?_getD, (by omega : k < (bookP c s).length)]
  rw [e] at h1
  simp only [List.getElem_zip, decide_eq_true_eq]
  omega
structure PlG (c : Cfg) (sg : Nat → Bool) (ps : List (Int × Int)) : Prop where
  len : ps.length = c.tenants.length
  h : ∀ i (h : i < ps.length), 0 ≤ ps[i].1 ∧ ps[i].1 < c.cells.length
  s : ∀ i (h : i < ps.length), -1 ≤ ps[i].2 ∧ ps[i].2 < c.cells.length
  sg : ∀ i (h : i < ps.length), ps[i].2 = -1 ↔ sg i = true
  mh : ∀ i (h : i < ps.length), mayP c i ps[i].1 = true
  ms : ∀ i (h : i < ps.length), ps[i].2 ≠ -1 → mayP c i ps[i].2 = true
  ap : ∀ i (h : i < ps.length), ps[i].2 ≠ -1 → apartP c ps[i].1 ps[i].2 = true
  cap : ∀ k (h : k < c.cells.length), (bkN c ps ps.length).getD k 0 ≤ c.cells[k].cap
  hr : ∀ g : Int, 0 ≤ g → g < c.regions → ∀ k (h : k < c.cells.length), regOf c k ≠ g → (bkN c ps ps.length).getD k 0 + (exN c g ps ps.length).getD k 0 ≤ c.cells[k].cap
theorem PlG.ne {c : Cfg} {sg : Nat → Bool} {ps : List (Int × Int)} (hp : PlG c sg ps) {i : Nat} (h : i < ps.length) : ps[i].2 ≠ ps[i].1 := by
  have h1 := hp.h i h
  by_cases h2 : ps[i].2 = -1
  · omega
  · have h3 := hp.ap i h h2
    unfold apartP at h3
    intro e
    rw [e] at h3
    simp at h3
theorem bitB_zero (i : Int) : bitB 0 i = false := by
  unfold bitB
  rw [Int.zero_fdiv]
  rfl
theorem hasB_zero (i : Int) : hasB 0 i = false := by
  unfold hasB
  rw [bitB_zero]
  simp
theorem plSt_step {c : Cfg} {ps : List (Int × Int)} {m : List Nat} {t : Nat} (ht : t < ps.length) (hm : t ∉ m) : effP (plSt c ps m) (plE t ps[t]) = plSt c ps (t :: m) := by
  rw [effP_t (.inl rfl)]
  have e1 : onT (tenP (plSt c ps m) (plE t ps[t]).tenant) (plE t ps[t]) = plT ps[t] := by
    show onT (tenP (plSt c ps m) (t : Int)) _ = _
    rw [plSt_ten ht, if_neg hm]
    rfl
  rw [e1]
  have e2 : (plTs ps m).set t (plT ps[t]) = plTs ps (t :: m) := by
    apply List.ext_getElem
    · simp [plTs_len]
    · intro i h1 h2
      rw [plTs_len] at h2
      rw [plTs_get ps (t :: m) h2, List.getElem_set]
      by_cases e : t = i
      · subst e
        simp
      · rw [if_neg e, plTs_get ps m h2]
        simp [Ne.symm e]
  show ({ plSt c ps m with tick := 0, count := (m.length : Int) + 1, tenants := (plTs ps m).set (t : Int).toNat (plT ps[t]) } : Sta) = _
  rw [Int.toNat_natCast, e2]
  unfold plSt
  simp
  rfl
theorem pl_acc {c : Cfg} (hv : CfgV c) {sg : Nat → Bool} {ps : List (Int × Int)} (hp : PlG c sg ps) {m : List Nat} (hml : m.length ≤ 100) {t : Nat} (ht : t < ps.length) (hm : t ∉ m) : accP c (plSt c ps m) (plE t ps[t]) = true := by
  have hl := hp.len
  have h1 := hv.ok.t
  have h2 := hv.ok.k
  have hh := hp.h t ht
  have hs := hp.s t ht
  have hne := hp.ne ht
  have hmh := hp.mh t ht
  have hms := hp.ms t ht
  have hap := hp.ap t ht
  have hov : overP c (plSt c ps (t :: m)) = false := over_no fun k hk => Int.le_trans ((bookP_le hv hl (t :: m)).2 k) (hp.cap k hk)
  have hval : validP c (plE t ps[t]) = true := by
    have e : ∀ nt nc nr nv : Int, (t : Int) < nt → ps[t].1 < nc → ps[t].2 < nc → fitsP (plE t ps[t]) nt nc nr nv = true := fun nt nc nr nv h1 h2 h3 => by
      show (!decide ((1 : Int) = 1 ∧ ps[t].2 = ps[t].1) && fitF ⟨(0, nt - 1), (0, nc - 1), (-1, nc - 1), zSp, zSp, zSp⟩ (plE t ps[t])) = true
      simp only [fitF, inSp, zSp, plE, Bool.and_eq_true, decide_eq_true_eq, Bool.not_eq_true', decide_eq_false_iff_not]
      exact ⟨fun h => hne h.2, ⟨⟨⟨⟨⟨⟨⟨decide_eq_true (by omega), decide_eq_true (by omega)⟩, decide_eq_true (by omega)⟩, decide_eq_true (by omega)⟩, decide_eq_true (by omega)⟩, decide_eq_true (by omega)⟩, decide_eq_true (by omega)⟩, decide_eq_true (by omega)⟩⟩
    unfold validP shapeP
    rw [e _ _ _ _ (by omega) (by omega) (by omega), e _ _ _ _ (by omega) (by omega) (by omega)]
    rfl
  have hpl : placeP c (plSt c ps m) (plE t ps[t]) = true := by
    have hm1 : modeP (plSt c ps m) ps[t].1 = 1 := by
      unfold modeP
      rw [plSt_cel hh, if_pos (by show 0 ≤ _ ∧ _ < ((List.replicate c.cells.length (⟨1, 0, 0, 0⟩ : CS)).length : Int); simp; omega)]
    have hm2 : ps[t].2 ≠ -1 → modeP (plSt c ps m) ps[t].2 = 1 := fun h => by
      unfold modeP
      rw [plSt_cel (by omega), if_pos (by show 0 ≤ _ ∧ _ < ((List.replicate c.cells.length (⟨1, 0, 0, 0⟩ : CS)).length : Int); simp; omega)]
    have hf : ∀ k, frozenP c (plSt c ps m) k = false := fun k => hasB_zero _
    have hpd : (tenP (plSt c ps m) (t : Int)).placed = false := by
      rw [plSt_ten ht, if_neg hm]
      rfl
    unfold placeP nearP
    show (!(tenP (plSt c ps m) (t : Int)).placed && decide (modeP (plSt c ps m) ps[t].1 = 1) && !(decide (ps[t].2 ≠ -1) && decide (modeP (plSt c ps m) ps[t].2 ≠ 1)) && !frozenP c (plSt c ps m) ps[t].1 && !(decide (ps[t].2 ≠ -1) && frozenP c (plSt c ps m) ps[t].2)
      && mayP c t ps[t].1 && !(decide (ps[t].2 ≠ -1) && !mayP c t ps[t].2) && !(decide (ps[t].2 ≠ -1) && !apartP c ps[t].1 ps[t].2)) = true
    rw [hpd, hm1, hf, hf, hmh]
    by_cases h : ps[t].2 = -1
    · rw [h]
      rfl
    · rw [hm2 h, hms h, hap h]
      simp
  unfold accP refP
  rw [plSt_step ht hm, hov, hval, kindP1 rfl, hpl]
  have e1 : (plSt c ps m).count = (m.length : Int) := rfl
  have e2 : (plSt c ps m).tick = 0 := rfl
  rw [e1, e2]
  have : (m.length : Int) < 4096 := by omega
  simp [this, plE]
def homeP (c : Cfg) (g : Int) (t : TS) : Prop := t.placed = true ∧ t.shed = false ∧ 0 ≤ g ∧ regOf c t.home = g
instance (c : Cfg) (g : Int) (t : TS) : Decidable (homeP c g t) := by unfold homeP; infer_instance
def exL (c : Cfg) (g : Int) (l : List Int) (d : Tn) (t : TS) : List Int := if homeP c g t ∧ apartP c t.home t.standby = true then addP l t.standby (d.load - d.shadow) else l
def exLN (c : Cfg) (s : Sta) (g : Int) (i : Nat) : List Int := ((List.zip c.tenants s.tenants).take i).foldl (fun l p => exL c g l p.1 p.2) (List.replicate c.cells.length 0)
theorem exLN_succ {c : Cfg} {s : Sta} {g : Int} {i : Nat} (h1 : i < c.tenants.length) (h2 : i < s.tenants.length) : exLN c s g (i + 1) = exL c g (exLN c s g i) c.tenants[i] s.tenants[i] := by
  unfold exLN
  rw [List.take_succ_eq_append_getElem (by simp; omega), List.foldl_append]
  simp
def rdyP (c : Cfg) (s : Sta) (g : Int) (t : TS) : Prop := 0 ≤ regOf c t.standby ∧ regOf c t.standby ≠ g ∧ t.standby < s.cells.length ∧ (celP s t.standby).mode = 1 ∧ (celP s t.standby).running = (celP s t.standby).wanted ∧ bitB s.evac (regOf c t.standby) = false
def HeadP (c : Cfg) (s : Sta) (g : Int) : Prop := (∀ k (h : k < c.cells.length), regOf c k ≠ g → (bookP c s).getD k 0 + (exLN c s g c.tenants.length).getD k 0 ≤ c.cells[k].cap) ∧ ∀ i, i < c.tenants.length → homeP c g (tenP s (i : Nat)) → rdyP c s g (tenP s (i : Nat))
theorem regOf_in {c : Cfg} (hv : CfgV c) {k : Int} (h : 0 ≤ k ∧ k < c.cells.length) : 0 ≤ regOf c k ∧ regOf c k < c.regions := by
  have hk : k.toNat < c.cells.length := by omega
  have hz := hv.ok.kz _ (List.getElem_mem hk)
  have e : c.cells.getD k.toNat ⟨0, 0⟩ = c.cells[k.toNat] := by simp [List.getD_eq_getElem?_getD, hk]
  have hz2 : c.cells[k.toNat].zone.toNat < c.zones.length := by omega
  have e2 : c.zones.getD c.cells[k.toNat].zone.toNat 0 = c.zones[c.cells[k.toNat].zone.toNat] := by simp [List.getD_eq_getElem?_getD, hz2]
  unfold regOf
  rw [if_pos h, e, e2]
  exact hv.zr _ (List.getElem_mem hz2)
theorem ex_eq {c : Cfg} (hv : CfgV c) {sg : Nat → Bool} {ps : List (Int × Int)} (hp : PlG c sg ps) {m : List Nat} (hm : ∀ i, i < ps.length → i ∈ m) {g : Int} (hg : 0 ≤ g) : ∀ i : Nat, i ≤ ps.length → exLN c (plSt c ps m) g i = exN c g ps i
  | 0, _ => rfl
  | i + 1, hi => by
    have hl := hp.len
    have ih := ex_eq hv hp hm hg i (by omega)
    have h1 : i < c.tenants.length := by omega
    have h2 : i < (plSt c ps m).tenants.length := by show i < (plTs ps m).length; rw [plTs_len]; omega
    have hi' : i < ps.length := by omega
    rw [exLN_succ h1 h2, exN_succ hi' h1, ih]
    have e : (plSt c ps m).tenants[i] = if i ∈ m then plT ps[i] else TS.fresh := plTs_get ps m hi'
    rw [e, if_pos (hm i hi')]
    have a1 := hp.h i hi'
    have a2 := hp.s i hi'
    have a3 := hp.ap i hi'
    have r1 := regOf_in hv a1
    generalize ps[i] = p at *
    generalize exN c g ps i = L
    generalize c.tenants[i] = d
    by_cases h3 : p.2 = -1
    · have e0 : apartP c p.1 p.2 = false := by
        unfold apartP
        have : regOf c p.2 = -1 := by rw [h3]; unfold regOf; rw [if_neg (by omega)]
        rw [this]
        simp
      have l1 : exL c g L d (plT p) = L := by
        unfold exL
        rw [if_neg]
        show ¬(_ ∧ apartP c p.1 p.2 = true)
        rw [e0]
        simp
      have l2 : exT c g L p d = L := by
        unfold exT
        rw [if_pos (.inr h3)]
      rw [l1, l2]
    · have h4 := a3 h3
      have h5 : regOf c p.1 ≠ regOf c p.2 := by
        unfold apartP at h4
        simp only [Bool.and_eq_true, decide_eq_true_eq] at h4
        exact h4.2
      have l2 : exT c g L p d = if regOf c p.1 = g ∧ regOf c p.2 ≠ g then addP L p.2 (d.load - d.shadow) else L := by
        unfold exT
        rw [if_neg (by omega)]
      rw [l2]
      unfold exL
      by_cases h6 : regOf c p.1 = g
      · rw [if_pos (show regOf c p.1 = g ∧ regOf c p.2 ≠ g from ⟨h6, by rw [← h6]; exact Ne.symm h5⟩), if_pos (show homeP c g (plT p) ∧ apartP c (plT p).home (plT p).standby = true from ⟨⟨rfl, rfl, hg, h6⟩, h4⟩)]
        rfl
      · rw [if_neg (show ¬(regOf c p.1 = g ∧ regOf c p.2 ≠ g) from fun h => h6 h.1), if_neg (show ¬(homeP c g (plT p) ∧ apartP c (plT p).home (plT p).standby = true) from fun h => h6 h.1.2.2.2)]
theorem pl_head {c : Cfg} (hv : CfgV c) {sg : Nat → Bool} {ps : List (Int × Int)} (hp : PlG c sg ps) {m : List Nat} (hm : ∀ i, i < ps.length → i ∈ m) {g : Int} (hg : 0 ≤ g) (hg2 : g < c.regions) : HeadP c (plSt c ps m) g ↔ ¬ ∃ i, ∃ h : i < ps.length, regOf c ps[i].1 = g ∧ sg i = true := by
  have hl := hp.len
  have hten : ∀ i (h : i < ps.length), tenP (plSt c ps m) (i : Nat) = plT ps[i] := fun i h => by rw [plSt_ten h, if_pos (hm i h)]
  constructor
  · rintro ⟨_, h2⟩ ⟨i, h, h3, h4⟩
    have h5 := h2 i (by omega)
    rw [hten i h] at h5
    have h6 := (h5 ⟨rfl, rfl, hg, h3⟩).1
    have h7 := (hp.sg i h).2 h4
    have : regOf c (plT ps[i]).standby = -1 := by
      show regOf c ps[i].2 = -1
      rw [h7]
      unfold regOf
      rw [if_neg (by omega)]
    omega
  · intro hno
    refine ⟨fun k hk hne => ?_, fun i hi hh => ?_⟩
    · rw [bookP_eq hl hm, ← hl, ex_eq hv hp hm hg _ (Nat.le_refl _)]
      exact hp.hr g hg hg2 k hk hne
    · have h : i < ps.length := by omega
      rw [hten i h] at hh ⊢
      have h1 : regOf c ps[i].1 = g := hh.2.2.2
      have h2 : ps[i].2 ≠ -1 := fun e => hno ⟨i, h, h1, (hp.sg i h).1 e⟩
      have h3 := hp.s i h
      have h4 := hp.ap i h h2
      have h5 : regOf c ps[i].1 ≠ regOf c ps[i].2 := by
        unfold apartP at h4
        simp only [Bool.and_eq_true, decide_eq_true_eq] at h4
        exact h4.2
      have h6 := regOf_in hv (k := ps[i].2) (by omega)
      have h7 := plSt_cel (c := c) (ps := ps) (m := m) (k := ps[i].2) (by omega)
      refine ⟨h6.1, fun e => h5 (h1.trans e.symm), ?_, ?_, ?_, bitB_zero _⟩
      · show ps[i].2 < ((List.replicate c.cells.length (⟨1, 0, 0, 0⟩ : CS)).length : Int)
        simp
        omega
      · show (celP (plSt c ps m) ps[i].2).mode = 1
        rw [h7]
      · show (celP (plSt c ps m) ps[i].2).running = (celP (plSt c ps m) ps[i].2).wanted
        rw [h7]
theorem left_perm {m lf : List Nat} {n k : Nat} (h : (m ++ lf).Perm (List.range n)) (hk : k < lf.length) : ((lf[k] :: m) ++ (lf.take k ++ lf.drop (k + 1))).Perm (List.range n) := by
  refine List.Perm.trans ?_ h
  have e : lf = lf.take k ++ (lf[k] :: lf.drop (k + 1)) := by
    rw [List.getElem_cons_drop, List.take_append_drop]
  have h1 : (m ++ lf).Perm (m ++ (lf[k] :: (lf.take k ++ lf.drop (k + 1)))) := by
    apply List.Perm.append_left
    conv => lhs; rw [e]
    exact List.perm_middle
  exact (h1.trans List.perm_middle).symm
theorem left_ok {m lf : List Nat} {n : Nat} (h : (m ++ lf).Perm (List.range n)) {k : Nat} (hk : k < lf.length) : lf[k] < n ∧ lf[k] ∉ m ∧ m.length + lf.length = n := by
  have h1 : lf[k] ∈ m ++ lf := List.mem_append_right _ (List.getElem_mem hk)
  have h2 := h.mem_iff.1 h1
  have h3 := h.nodup_iff.2 List.nodup_range
  have h4 := h.length_eq
  rw [List.length_append, List.length_range] at h4
  exact ⟨List.mem_range.1 h2, fun hm => (List.nodup_append.1 h3).2.2 _ hm _ (List.getElem_mem hk) rfl, h4⟩
theorem left_all {m : List Nat} {n : Nat} (h : (m ++ []).Perm (List.range n)) : ∀ i, i < n → i ∈ m := fun i hi => by
  have := h.mem_iff.2 (List.mem_range.2 hi)
  simpa using this
end Go.Proofs.YtfmnjbhncnldmaaGreat
