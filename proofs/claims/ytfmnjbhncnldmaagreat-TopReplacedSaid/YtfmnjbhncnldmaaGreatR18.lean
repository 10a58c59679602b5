import Derived.Test.YtfmnjbhncnldmaaGreatR10
import Derived.Test.YtfmnjbhncnldmaaGreatR15
set_option linter.unusedSimpArgs false
set_option linter.unusedVariables false
namespace Go.Proofs.YtfmnjbhncnldmaaGreat
open Go.RowKit
attribute [local irreducible] Res.blk Res.sl Res.all Res.ex Res.pure Res.star
theorem matchB_home {H : List Ch} (hH : IsH H) {n j : Nat} (hn : n ≤ j) (hj : j ≤ H.length) : matchB (H.take j) n (if n = 0 then 0 else epAt H (n - 1)) = true := by
  by_cases h0 : n = 0
  · subst h0; simp [matchB]
  · rw [if_neg h0]
    have hl : n - 1 < (H.take j).length := by rw [List.length_take]; omega
    have e := matchB_at (h := H.take j) (i := n - 1) hl ((hH.take j).seq hl) (epAt H (n - 1))
    rw [show ((n - 1 + 1 : Nat) : Int) = (n : Int) by omega] at e
    rw [e, epAt_eq (by omega)]
    simp
theorem take_pre {H : List Ch} (hH : IsH H) {ep : Int} (h1 : 1 ≤ ep) (h2 : ep ≤ 1048576) (he : ∀ x, x ∈ H → x.epoch ≤ ep) {f : Fo} {j : Nat} (hj : j ≤ H.length) (hc : f.c = cpOf (H.take j)) (hs : f.seen ≤ ep) {m : Shp} {n k : Nat} (hm : OfH H ep m n k) :
    (j < n → takeF f m = (⟨f.c, ep, f.agreed⟩, ⟨ep, j, false⟩, 0)) ∧
    (n ≤ j → (f.agreed < ep → n = j) → takeF f m = (⟨cpOf (H.take (max j (n + k))), ep, max f.agreed ep⟩, ⟨ep, (n : Int) + k, true⟩, 0)) := by
  have hv := hm.valid hH h1 h2 he
  have hg := (hH.take j).good
  have hl : f.c.h.length = j := by rw [hc, hg.2.1, List.length_take]; omega
  have hle := hm.le
  have e := hm.eq
  subst e
  constructor
  · intro hlt
    unfold takeF
    rw [if_pos hv]
    dsimp only
    rw [if_neg (by omega), if_pos (by rw [hl]; omega), hl]
  · intro hle2 hag
    have hmt : matchB f.c.h n (if n = 0 then 0 else epAt H (n - 1)) = true := by rw [hc, hg.2.1]; exact matchB_home hH hle2 hj
    have ha : agreeC f ⟨ep, n, if n = 0 then 0 else epAt H (n - 1), (H.drop n).take k⟩ = cpOf (H.take j) := by
      unfold agreeC
      dsimp only
      split
      · rename_i h0
        rw [hc, Int.toNat_natCast, cutC_all hg.1 (by rw [hg.2.1, List.length_take]; have := hag h0; omega)]
      · exact hc
    have ht := takeC_home hH k n j hle2 hj hle
    unfold takeF
    rw [if_pos hv]
    dsimp only
    rw [if_neg (by omega), if_neg (by rw [hl]; omega), if_pos hmt, ha, ht]
theorem shipS_of {H : List Ch} {ep : Int} {s : Sd} (h0 : 0 ≤ s.next) (h1 : s.next ≤ H.length) : OfH H ep (shipS ep s H) s.next.toNat (min 8 (H.length - s.next.toNat)) := by
  refine ⟨by omega, by omega, ?_⟩
  have e : min s.next (H.length : Int) = s.next := by omega
  unfold shipS
  rw [e]
  have e2 : ((s.next.toNat : Nat) : Int) = s.next := by omega
  have e3 : (H.drop s.next.toNat).take 8 = (H.drop s.next.toNat).take (min 8 (H.length - s.next.toNat)) := by
    by_cases h8 : 8 ≤ H.length - s.next.toNat
    · rw [Nat.min_eq_left h8]
    · rw [List.take_of_length_le (by rw [List.length_drop]; omega), List.take_of_length_le (by rw [List.length_drop]; omega)]
  rw [e2, e3]
  congr 1
  by_cases hz : s.next = 0
  · rw [if_pos hz, if_pos (by omega)]
  · rw [if_neg hz, if_neg (by omega)]
    congr 1
    omega
theorem OfH.grow {H : List Ch} {ep : Int} {m : Shp} {n k : Nat} (h : OfH H ep m n k) (y : Ch) : OfH (H ++ [y]) ep m n k := by
  have hle := h.le
  refine ⟨by rw [List.length_append]; omega, h.k8, ?_⟩
  rw [h.eq]
  congr 1
  · split
    · rfl
    · rw [epAt_eq (by omega), epAt_eq (by rw [List.length_append]; omega), List.getElem_append_left]
  · rw [List.drop_append_of_le_length (by omega), List.take_append_of_le_length (by rw [List.length_drop]; omega)]
structure FInv (H : List Ch) (ep : Int) (s : Sd) (f : Fo) (sh : List Shp) (he : List He) (j : Nat) : Prop where
  jle : j ≤ H.length
  c : f.c = cpOf (H.take j)
  seen : f.seen ≤ ep
  ag : f.agreed = ep ∨ (f.agreed = 0 ∧ (j : Int) ≤ s.next ∧ (∀ m, m ∈ sh → (j : Int) ≤ m.seq) ∧ ∀ a, a ∈ he → a.ok = false ∧ (j : Int) ≤ a.applied)
  a0 : 0 ≤ s.applied
  aj : s.applied ≤ j
  an : s.applied ≤ s.next
  nH : s.next ≤ H.length
  sh : ∀ m, m ∈ sh → ∃ n k, OfH H ep m n k
  he : ∀ a, a ∈ he → a.ep = ep ∧ 0 ≤ a.applied ∧ a.applied ≤ H.length ∧ (a.ok = true → a.applied ≤ j)
section
variable {H : List Ch} {ep : Int} {s : Sd} {f : Fo} {sh : List Shp} {he : List He} {j : Nat}
theorem FInv.grow (h : FInv H ep s f sh he j) (y : Ch) : FInv (H ++ [y]) ep s f sh he j := by
  have h1 := h.jle
  have h2 := h.nH
  refine ⟨by rw [List.length_append]; omega, ?_, h.seen, h.ag, h.a0, h.aj, h.an, by rw [List.length_append]; push_cast; omega, fun m hm => ?_, fun a ha => ?_⟩
  · rw [h.c, List.take_append_of_le_length h1]
  · obtain ⟨n, k, hk⟩ := h.sh m hm
    exact ⟨n, k, hk.grow y⟩
  · obtain ⟨h3, h4, h5, h6⟩ := h.he a ha
    exact ⟨h3, h4, by rw [List.length_append]; push_cast; omega, h6⟩
theorem FInv.ship (h : FInv H ep s f sh he j) : FInv H ep s f (sh ++ [shipS ep s H]) he j := by
  have h0 := h.a0
  have h1 := h.an
  have h2 := h.nH
  have hs : (shipS ep s H).seq = s.next := by unfold shipS; simp only; omega
  refine ⟨h.jle, h.c, h.seen, ?_, h.a0, h.aj, h.an, h.nH, fun m hm => ?_, h.he⟩
  · rcases h.ag with ha | ⟨ha, hb, hc, hd⟩
    · exact .inl ha
    · refine .inr ⟨ha, hb, fun m hm => ?_, hd⟩
      rcases List.mem_append.1 hm with hm | hm
      · exact hc m hm
      · simp only [List.mem_singleton] at hm
        rw [hm, hs]
        exact hb
  · rcases List.mem_append.1 hm with hm | hm
    · exact h.sh m hm
    · simp only [List.mem_singleton] at hm
      rw [hm]
      exact ⟨_, _, shipS_of (by omega) h2⟩
theorem FInv.take (h : FInv H ep s f sh he j) (hH : IsH H) (h1 : 1 ≤ ep) (h2 : ep ≤ 1048576) (hep : ∀ x, x ∈ H → x.epoch ≤ ep) {m : Shp} (hm : m ∈ sh) :
    ∃ j', j ≤ j' ∧ (takeF f m).2.2 = 0 ∧ FInv H ep s (takeF f m).1 sh (he ++ [(takeF f m).2.1]) j' ∧ ((takeF f m).2.1.ok = true → (takeF f m).2.1.applied ≤ j') := by
  obtain ⟨n, k, hof⟩ := h.sh m hm
  have hsq : m.seq = n := by rw [hof.eq]
  have hle := hof.le
  have hj := h.jle
  have hnj : f.agreed < ep → j ≤ n := by
    intro hlt
    rcases h.ag with ha | ⟨_, _, hc, _⟩
    · omega
    · have := hc m hm; omega
  have htp := take_pre hH h1 h2 hep h.jle h.c h.seen hof
  by_cases hlt : j < n
  · rw [htp.1 hlt]
    refine ⟨j, Nat.le_refl _, rfl, ⟨h.jle, h.c, Int.le_refl _, ?_, h.a0, h.aj, h.an, h.nH, h.sh, fun a ha => ?_⟩, fun h => by cases h⟩
    · rcases h.ag with ha | ⟨ha, hb, hc, hd⟩
      · exact .inl ha
      · refine .inr ⟨ha, hb, hc, fun a hx => ?_⟩
        rcases List.mem_append.1 hx with hx | hx
        · exact hd a hx
        · simp only [List.mem_singleton] at hx
          rw [hx]
          exact ⟨rfl, Int.le_refl _⟩
    · rcases List.mem_append.1 ha with ha | ha
      · exact h.he a ha
      · simp only [List.mem_singleton] at ha
        rw [ha]
        exact ⟨rfl, by simp only; omega, by simp only; omega, fun h => by cases h⟩
  · have hR := htp.2 (by omega) (fun hx => by have := hnj hx; omega)
    have hmx : max f.agreed ep = ep := by
      rcases h.ag with ha | ⟨ha, _⟩
      · rw [ha]; exact Int.max_eq_right (Int.le_refl _)
      · rw [ha]; exact Int.max_eq_right (by omega)
    rw [hR, hmx]
    have haj := h.aj
    refine ⟨max j (n + k), Nat.le_max_left _ _, rfl, ⟨Nat.max_le.2 ⟨hj, hle⟩, rfl, Int.le_refl _, .inl rfl, h.a0, ?_, h.an, h.nH, h.sh, fun a ha => ?_⟩, fun _ => ?_⟩
    · have := Nat.le_max_left j (n + k); omega
    · rcases List.mem_append.1 ha with ha | ha
      · obtain ⟨h3, h4, h5, h6⟩ := h.he a ha
        exact ⟨h3, h4, h5, fun hx => by have := h6 hx; have := Nat.le_max_left j (n + k); omega⟩
      · simp only [List.mem_singleton] at ha
        rw [ha]
        have := Nat.le_max_right j (n + k)
        exact ⟨rfl, by simp only; omega, by simp only; omega, fun _ => by simp only; omega⟩
    · have := Nat.le_max_right j (n + k)
      simp only
      omega
theorem FInv.hear (h : FInv H ep s f sh he j) {a : He} (ha : a ∈ he) : FInv H ep (hearS s a) f sh he j := by
  obtain ⟨h3, h4, h5, h6⟩ := h.he a ha
  have h0 := h.a0
  have h1 := h.aj
  have h2 := h.an
  have h7 := h.nH
  by_cases hok : a.ok = true
  · have h8 := h6 hok
    have hj := h.jle
    have hx : hearS s a = ⟨s.cell, max s.applied a.applied, max s.applied a.applied, s.req⟩ := by unfold hearS; rw [if_pos hok]
    rw [hx]
    refine ⟨h.jle, h.c, h.seen, ?_, by simp only; omega, by simp only; omega, Int.le_refl _, by simp only; omega, h.sh, h.he⟩
    rcases h.ag with hag | ⟨_, _, _, hd⟩
    · exact .inl hag
    · have := (hd a ha).1
      rw [hok] at this
      cases this
  · have hx : hearS s a = ⟨s.cell, s.applied, max (min s.next a.applied) s.applied, s.req⟩ := by unfold hearS; rw [if_neg hok]
    rw [hx]
    refine ⟨h.jle, h.c, h.seen, ?_, h0, h1, by simp only; omega, by simp only; omega, h.sh, h.he⟩
    rcases h.ag with hag | ⟨hag, hb, hc, hd⟩
    · exact .inl hag
    · have := (hd a ha).2
      exact .inr ⟨hag, by simp only; omega, hc, hd⟩
theorem FInv.req (h : FInv H ep s f sh he j) (b : Bool) : FInv H ep ⟨s.cell, s.applied, s.next, b⟩ f sh he j :=
  ⟨h.jle, h.c, h.seen, h.ag, h.a0, h.aj, h.an, h.nH, h.sh, h.he⟩
end
end Go.Proofs.YtfmnjbhncnldmaaGreat
namespace Go.Proofs.YtfmnjbhncnldmaaGreat
open Go.RowKit
attribute [local irreducible] Res.blk Res.sl Res.all Res.ex Res.pure Res.star
structure Pr where
  home : Cp
  lag : Int
  acked : Int
  two : Bool
  sd : Nat → Sd
  fo : Nat → Fo
  sh : Nat → List Shp
  he : Nat → List He
def Pr.sides (x : Pr) : List Sd := if x.two then [x.sd 0, x.sd 1] else [x.sd 0]
def Pr.ld (x : Pr) : Ld := ⟨1, x.lag, x.acked, x.sides⟩
def fo0 : Fo := ⟨cpOf [], 0, 0⟩
def setN {α : Type} (f : Nat → α) (i : Nat) (y : α) : Nat → α := fun k => if k = i then y else f k
theorem setN_at {α : Type} (f : Nat → α) (i : Nat) (y : α) : setN f i y i = y := by simp [setN]
theorem setN_ne {α : Type} (f : Nat → α) {i k : Nat} (y : α) (h : k ≠ i) : setN f i y k = f k := by simp [setN, h]
def Pr.on (x : Pr) (i : Nat) : Prop := i = 0 ∨ (i = 1 ∧ x.two = true)
structure PI (x : Pr) (B : Nat) : Prop where
  cg : CG x.home
  len : x.home.h.length ≤ B
  eps : ∀ y, y ∈ x.home.h → y.epoch ≤ 1
  lag : -1 ≤ x.lag ∧ x.lag ≤ 4
  a0 : 0 ≤ x.acked ∧ x.acked ≤ x.home.h.length
  c0 : (x.sd 0).cell = 1
  r0 : (x.sd 0).req = true
  c1 : (x.sd 1).cell = 2
  f : ∀ i, x.on i → ∃ j, FInv x.home.h 1 (x.sd i) (x.fo i) (x.sh i) (x.he i) j
  n1 : x.two = false → x.fo 1 = fo0 ∧ x.sh 1 = [] ∧ x.he 1 = []
  ak : x.lag = -1 ∨ x.acked ≤ (x.sd 0).applied + x.lag
  shB : ∀ i, (x.sh i).length ≤ B
  heB : ∀ i, (x.he i).length ≤ B
def Rdy (x : Pr) : Prop := x.two = true ∧ (x.sd 1).req = true ∧ (x.lag = -1 ∨ x.acked ≤ (x.sd 1).applied + x.lag)
section
variable {x : Pr} {B : Nat}
theorem PI.le (h : PI x B) {B' : Nat} (hB : B ≤ B') : PI x B' := ⟨h.cg, Nat.le_trans h.len hB, h.eps, h.lag, h.a0, h.c0, h.r0, h.c1, h.f, h.n1, h.ak, fun i => Nat.le_trans (h.shB i) hB, fun i => Nat.le_trans (h.heB i) hB⟩
theorem PI.write (h : PI x B) {c : Cp} (hc : CG c) (hh : c.h = x.home.h ∨ ∃ y : Ch, y.epoch ≤ 1 ∧ c.h = x.home.h ++ [y]) : PI { x with home := c } (B + 1) := by
  rcases hh with hh | ⟨y, hy, hh⟩
  · exact ⟨hc, by show c.h.length ≤ _; rw [hh]; have := h.len; omega, by show ∀ y, y ∈ c.h → _; rw [hh]; exact h.eps, h.lag, by show 0 ≤ x.acked ∧ x.acked ≤ c.h.length; rw [hh]; exact h.a0, h.c0, h.r0, h.c1, by show ∀ i, x.on i → ∃ j, FInv c.h _ _ _ _ _ j; rw [hh]; exact h.f, h.n1, h.ak, fun i => Nat.le_succ_of_le (h.shB i), fun i => Nat.le_succ_of_le (h.heB i)⟩
  · have hl : c.h.length = x.home.h.length + 1 := by rw [hh]; simp
    have h1 := h.len
    have h2 := h.a0
    refine ⟨hc, by show c.h.length ≤ _; omega, fun z hz => ?_, h.lag, by show 0 ≤ x.acked ∧ x.acked ≤ c.h.length; omega, h.c0, h.r0, h.c1, fun i hi => ?_, h.n1, h.ak, fun i => Nat.le_succ_of_le (h.shB i), fun i => Nat.le_succ_of_le (h.heB i)⟩
    · replace hz : z ∈ c.h := hz
      rw [hh, List.mem_append, List.mem_singleton] at hz
      rcases hz with hz | rfl
      · exact h.eps z hz
      · exact hy
    · obtain ⟨j, hj⟩ := h.f i hi
      refine ⟨j, ?_⟩
      show FInv c.h _ _ _ _ _ j
      rw [hh]
      exact hj.grow y
theorem PI.ship (h : PI x B) {i : Nat} (hi : x.on i) : PI { x with sh := setN x.sh i (x.sh i ++ [shipS 1 (x.sd i) x.home.h]) } (B + 1) := by
  refine ⟨h.cg, Nat.le_succ_of_le h.len, h.eps, h.lag, h.a0, h.c0, h.r0, h.c1, fun k hk => ?_, fun h2 => ?_, h.ak, fun k => ?_, fun k => Nat.le_succ_of_le (h.heB k)⟩
  · obtain ⟨j, hj⟩ := h.f k hk
    refine ⟨j, ?_⟩
    show FInv _ _ _ _ (setN x.sh i _ k) _ j
    by_cases hki : k = i
    · subst hki
      rw [setN_at]
      exact hj.ship
    · rw [setN_ne _ _ hki]
      exact hj
  · obtain ⟨h3, h4, h5⟩ := h.n1 h2
    refine ⟨h3, ?_, h5⟩
    show setN x.sh i _ 1 = []
    rw [setN_ne _ _ (by rcases hi with rfl | ⟨rfl, h6⟩ <;> first | decide | exact absurd (h6.symm.trans h2) (by decide))]
    exact h4
  · show (setN x.sh i _ k).length ≤ B + 1
    by_cases hki : k = i
    · subst hki
      rw [setN_at, List.length_append]
      have := h.shB k
      simp
      omega
    · rw [setN_ne _ _ hki]
      exact Nat.le_succ_of_le (h.shB k)
theorem PI.isH (h : PI x B) : IsH x.home.h := h.cg.isH
theorem PI.take (h : PI x B) {i : Nat} (hi : x.on i) {m : Shp} (hm : m ∈ x.sh i) :
    (takeF (x.fo i) m).2.2 = 0 ∧ PI { x with fo := setN x.fo i (takeF (x.fo i) m).1, he := setN x.he i (x.he i ++ [(takeF (x.fo i) m).2.1]) } (B + 1) := by
  obtain ⟨j0, hj0⟩ := h.f i hi
  obtain ⟨j', _, he0, hI, _⟩ := hj0.take h.isH (by omega) (by omega) h.eps hm
  refine ⟨he0, h.cg, Nat.le_succ_of_le h.len, h.eps, h.lag, h.a0, h.c0, h.r0, h.c1, fun k hk => ?_, fun h2 => ?_, h.ak, fun k => Nat.le_succ_of_le (h.shB k), fun k => ?_⟩
  · show ∃ j, FInv _ _ _ (setN x.fo i _ k) _ (setN x.he i _ k) j
    by_cases hki : k = i
    · subst hki
      rw [setN_at, setN_at]
      exact ⟨j', hI⟩
    · rw [setN_ne _ _ hki, setN_ne _ _ hki]
      exact h.f k hk
  · obtain ⟨h3, h4, h5⟩ := h.n1 h2
    have hne : (1 : Nat) ≠ i := by rcases hi with rfl | ⟨rfl, h6⟩ <;> first | decide | exact absurd (h6.symm.trans h2) (by decide)
    exact ⟨(setN_ne _ _ hne).trans h3, h4, (setN_ne _ _ hne).trans h5⟩
  · show (setN x.he i _ k).length ≤ B + 1
    by_cases hki : k = i
    · subst hki
      rw [setN_at, List.length_append]
      have := h.heB k
      simp
      omega
    · rw [setN_ne _ _ hki]
      exact Nat.le_succ_of_le (h.heB k)
theorem hearS_app (s : Sd) (a : He) : s.applied ≤ (hearS s a).applied ∧ (hearS s a).req = s.req ∧ (hearS s a).cell = s.cell := by
  unfold hearS
  split
  · exact ⟨by show s.applied ≤ max s.applied a.applied; omega, rfl, rfl⟩
  · exact ⟨Int.le_refl _, rfl, rfl⟩
theorem PI.hear (h : PI x B) {i : Nat} (hi : x.on i) {a : He} (ha : a ∈ x.he i) : PI { x with sd := setN x.sd i (hearS (x.sd i) a) } B ∧ (Rdy x → Rdy { x with sd := setN x.sd i (hearS (x.sd i) a) }) := by
  have key : ∀ k, (x.sd k).applied ≤ (setN x.sd i (hearS (x.sd i) a) k).applied ∧ (setN x.sd i (hearS (x.sd i) a) k).req = (x.sd k).req ∧ (setN x.sd i (hearS (x.sd i) a) k).cell = (x.sd k).cell := fun k => by
    by_cases hki : k = i
    · subst hki
      rw [setN_at]
      exact hearS_app _ _
    · rw [setN_ne _ _ hki]
      exact ⟨Int.le_refl _, rfl, rfl⟩
  refine ⟨⟨h.cg, h.len, h.eps, h.lag, h.a0, (key 0).2.2.trans h.c0, (key 0).2.1.trans h.r0, (key 1).2.2.trans h.c1, fun k hk => ?_, h.n1, ?_, h.shB, h.heB⟩, fun hr => ⟨hr.1, (key 1).2.1.trans hr.2.1, ?_⟩⟩
  · obtain ⟨j, hj⟩ := h.f k hk
    refine ⟨j, ?_⟩
    show FInv _ _ (setN x.sd i _ k) _ _ _ j
    by_cases hki : k = i
    · subst hki
      rw [setN_at]
      exact hj.hear ha
    · rw [setN_ne _ _ hki]
      exact hj
  · rcases h.ak with h1 | h1
    · exact .inl h1
    · have := (key 0).1
      exact .inr (by show x.acked ≤ (setN x.sd i _ 0).applied + x.lag; omega)
  · rcases hr.2.2 with h1 | h1
    · exact .inl h1
    · have := (key 1).1
      exact .inr (by show x.acked ≤ (setN x.sd i _ 1).applied + x.lag; omega)
theorem PI.at0 (h : PI x B) : sdAt x.ld.l 1 = some (x.sd 0) ∧ sidx x.ld.l 1 = 0 := by
  have := h.c0
  cases hx : x.two <;> simp [sdAt, sidx, Pr.ld, Pr.sides, hx, this]
theorem PI.at1 (h : PI x B) (hx : x.two = true) : sdAt x.ld.l 2 = some (x.sd 1) ∧ sidx x.ld.l 2 = 1 := by
  have h0 := h.c0
  have h1 := h.c1
  simp [sdAt, sidx, Pr.ld, Pr.sides, hx, h0, h1]
theorem PI.no1 (h : PI x B) (hx : x.two = false) : sdAt x.ld.l 2 = none := by
  have h0 := h.c0
  simp [sdAt, sidx, Pr.ld, Pr.sides, hx, h0]
theorem PI.ldok (h : PI x B) (hB : B ≤ 4096) : x.ld.ok := by
  have h0 := h.c0
  have h1 := h.c1
  have hl := h.len
  have ha := h.a0
  have hlag := h.lag
  have key : ∀ i, x.on i → (x.sd i).cell = 1 ∨ (x.sd i).cell = 2 → (x.sd i).ok := fun i hi hc => by
    obtain ⟨j, hj⟩ := h.f i hi
    have := hj.a0
    have := hj.an
    have := hj.nH
    unfold Sd.ok
    omega
  refine ⟨?_, fun s hs => ?_, by show -1 ≤ x.lag ∧ x.lag ≤ 1000; omega, by show 0 ≤ x.acked ∧ x.acked ≤ 4096; omega⟩
  · cases hx : x.two <;> simp [Pr.ld, Pr.sides, hx, h0, h1]
  · cases hx : x.two
    · simp only [Pr.ld, Pr.sides, hx, Bool.false_eq_true, if_false, List.mem_singleton] at hs
      subst hs
      exact key 0 (.inl rfl) (.inl h0)
    · simp only [Pr.ld, Pr.sides, hx, if_true, List.mem_cons, List.not_mem_nil, or_false] at hs
      rcases hs with rfl | rfl
      · exact key 0 (.inl rfl) (.inl h0)
      · exact key 1 (.inr ⟨rfl, hx⟩) (.inr h1)
theorem PI.ack (h : PI x B) (hB : B ≤ 4096) : ∃ a : Int, ackL x.ld x.home.h.length = (({ x with acked := a } : Pr).ld, a) ∧ x.acked ≤ a ∧ a ≤ x.home.h.length ∧ PI { x with acked := a } B ∧ (Rdy x → Rdy { x with acked := a }) := by
  have hl := h.len
  have ha := h.a0
  have hr0 := h.r0
  have hak := h.ak
  have hn : ¬ ((x.home.h.length : Int) < 0 ∨ 4096 < (x.home.h.length : Int)) := by omega
  have mk : ∀ a : Int, x.acked ≤ a → a ≤ x.home.h.length → (x.lag = -1 ∨ a ≤ (x.sd 0).applied + x.lag) → (Rdy x → x.lag = -1 ∨ a ≤ (x.sd 1).applied + x.lag) → PI { x with acked := a } B ∧ (Rdy x → Rdy { x with acked := a }) := fun a h1 h2 h3 h4 =>
    ⟨⟨h.cg, h.len, h.eps, h.lag, ⟨by show (0 : Int) ≤ a; omega, h2⟩, h.c0, h.r0, h.c1, h.f, h.n1, h3, h.shB, h.heB⟩, fun hr => ⟨hr.1, hr.2.1, h4 hr⟩⟩
  by_cases hlag : x.lag = -1
  · refine ⟨max x.acked x.home.h.length, ?_, by omega, by omega, mk _ (by omega) (by omega) (.inl hlag) fun _ => .inl hlag⟩
    unfold ackL
    rw [if_neg hn, if_pos (show x.ld.lag = -1 from hlag)]
    rfl
  · have h0 : x.acked ≤ (x.sd 0).applied + x.lag := hak.resolve_left hlag
    have hany : anyR x.ld.l = true := by
      cases hx : x.two <;> simp [anyR, Pr.ld, Pr.sides, hx, hr0]
    refine ⟨max x.acked (ackN x.lag x.ld.l x.home.h.length), ?_, by omega, ?_, mk _ (by omega) ?_ (.inr ?_) fun hr => .inr ?_⟩
    · unfold ackL
      rw [if_neg hn, if_neg (show ¬ x.ld.lag = -1 from hlag), if_pos hany]
      rfl
    · have := ackN_le x.lag x.ld.l (x.home.h.length : Int)
      omega
    · have := ackN_le x.lag x.ld.l (x.home.h.length : Int)
      omega
    · have : ackN x.lag x.ld.l x.home.h.length ≤ (x.sd 0).applied + x.lag := by
        cases hx : x.two
        · simp only [ackN, Pr.ld, Pr.sides, hx, Bool.false_eq_true, if_false, List.foldl_cons, List.foldl_nil, hr0, if_true]
          first | omega | exact Int.min_le_right _ _
        · simp only [ackN, Pr.ld, Pr.sides, hx, if_true, List.foldl_cons, List.foldl_nil, hr0]
          split <;> first | omega | exact Int.min_le_right _ _ | exact Int.le_trans (Int.min_le_left _ _) (Int.min_le_right _ _)
      omega
    · have h1 : x.acked ≤ (x.sd 1).applied + x.lag := hr.2.2.resolve_left hlag
      have : ackN x.lag x.ld.l x.home.h.length ≤ (x.sd 1).applied + x.lag := by
        simp only [ackN, Pr.ld, Pr.sides, hr.1, if_true, List.foldl_cons, List.foldl_nil, hr0, hr.2.1]
        first | omega | exact Int.min_le_right _ _
      omega
theorem PI.add (h : PI x B) (hx : x.two = false) (hB : B ≤ 4096) : addL x.ld 2 false x.home.h.length = (({ x with two := true, sd := setN x.sd 1 ⟨2, 0, x.home.h.length, false⟩ } : Pr).ld, 0) ∧ PI { x with two := true, sd := setN x.sd 1 ⟨2, 0, x.home.h.length, false⟩ } B := by
  have hl := h.len
  have h0 := h.c0
  have hn := h.no1 hx
  obtain ⟨n1, n2, n3⟩ := h.n1 hx
  constructor
  · unfold addL
    rw [if_neg (by omega), hn]
    have hsp : spos x.ld.l 2 = 1 := by simp [spos, Pr.ld, Pr.sides, hx, h0]
    rw [hsp]
    simp [Pr.ld, Pr.sides, hx, setN]
  · refine ⟨h.cg, h.len, h.eps, h.lag, h.a0, h0, h.r0, rfl, fun i hi => ?_, fun h2 => (by cases h2), h.ak, h.shB, h.heB⟩
    rcases hi with rfl | ⟨rfl, _⟩
    · exact h.f 0 (.inl rfl)
    · refine ⟨0, ?_⟩
      show FInv x.home.h 1 ⟨2, 0, x.home.h.length, false⟩ (x.fo 1) (x.sh 1) (x.he 1) 0
      rw [n1, n2, n3]
      exact ⟨Nat.zero_le _, by simp [fo0], by show (0 : Int) ≤ 1; omega, .inr ⟨rfl, by show (0 : Int) ≤ x.home.h.length; omega, by simp, by simp⟩, Int.le_refl _, Int.le_refl _, by show (0 : Int) ≤ x.home.h.length; omega, Int.le_refl _, by simp, by simp⟩
theorem PI.require (h : PI x B) (hx : x.two = true) : (requireL x.ld 2).1 = ({ x with sd := setN x.sd 1 ⟨(x.sd 1).cell, (x.sd 1).applied, (x.sd 1).next, true⟩ } : Pr).ld ∧ PI { x with sd := setN x.sd 1 ⟨(x.sd 1).cell, (x.sd 1).applied, (x.sd 1).next, true⟩ } B ∧
    (Rdy x → Rdy { x with sd := setN x.sd 1 ⟨(x.sd 1).cell, (x.sd 1).applied, (x.sd 1).next, true⟩ }) := by
  obtain ⟨h1, h2⟩ := h.at1 hx
  refine ⟨?_, ⟨h.cg, h.len, h.eps, h.lag, h.a0, h.c0, h.r0, h.c1, fun i hi => ?_, h.n1, h.ak, h.shB, h.heB⟩, fun hr => ⟨hr.1, rfl, hr.2.2⟩⟩
  · unfold requireL
    rw [h1]
    simp only [h2]
    simp [Pr.ld, Pr.sides, hx, setN]
  · obtain ⟨j, hj⟩ := h.f i hi
    refine ⟨j, ?_⟩
    show FInv _ _ (setN x.sd 1 _ i) _ _ _ j
    by_cases h3 : i = 1
    · subst h3
      rw [setN_at]
      exact hj.req true
    · rw [setN_ne _ _ h3]
      exact hj
theorem PI.ready (h : PI x B) : readyL x.ld 2 = true → Rdy x := by
  intro hr
  unfold readyL at hr
  cases hx : x.two
  · rw [h.no1 hx] at hr
    cases hr
  · rw [(h.at1 hx).1] at hr
    simp only [Bool.and_eq_true, Bool.or_eq_true, decide_eq_true_eq] at hr
    refine ⟨hx, hr.1, ?_⟩
    rcases hr.2 with h1 | h1
    · exact .inl h1
    · refine .inr ?_
      replace h1 : x.acked - x.lag ≤ (x.sd 1).applied := h1
      omega
theorem PI.kept0 (h : PI x B) : ∃ j, (x.fo 0).c = cpOf (x.home.h.take j) ∧ j ≤ x.home.h.length ∧ (x.lag = -1 ∨ x.acked ≤ j + x.lag) := by
  obtain ⟨j, hj⟩ := h.f 0 (.inl rfl)
  refine ⟨j, hj.c, hj.jle, ?_⟩
  rcases h.ak with h1 | h1
  · exact .inl h1
  · have := hj.aj
    exact .inr (by omega)
theorem PI.kept1 (h : PI x B) (hr : Rdy x) : ∃ j, (x.fo 1).c = cpOf (x.home.h.take j) ∧ j ≤ x.home.h.length ∧ (x.lag = -1 ∨ x.acked ≤ j + x.lag) := by
  obtain ⟨j, hj⟩ := h.f 1 (.inr ⟨rfl, hr.1⟩)
  refine ⟨j, hj.c, hj.jle, ?_⟩
  rcases hr.2.2 with h1 | h1
  · exact .inl h1
  · have := hj.aj
    exact .inr (by omega)
end
end Go.Proofs.YtfmnjbhncnldmaaGreat
