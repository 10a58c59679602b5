/-
  A home with two followers whose histories are beginnings of the home's, and the messages on their way. No program in sight.
-/
import Derived.Test.YtmjdkgpckcdndaaNFwF
import Derived.Test.YtmjdkgpckcdndaaH1
namespace Go.Proofs.Ytmjdkgpckcdndaa
open Go.RowKit
set_option linter.unusedSimpArgs false
set_option linter.unusedVariables false
attribute [local irreducible] Res.blk Res.sl Res.all Res.ex Res.pure Res.star

theorem OfH.grow {H : List Ch} {ep : Int} {m : Shp} {n k : Nat} (h : OfH H ep m n k) (y : Ch) : OfH (H ++ [y]) ep m n k := by
  have hle := h.le
  refine ⟨by rw [List.length_append]; omega, h.k8, ?_⟩
  rw [h.eq]
  congr 1
  · split
    · rfl
    · rw [epAt_eq (by omega), epAt_eq (by rw [List.length_append]; omega), List.getElem_append_left]
  · rw [List.drop_append_of_le_length (by omega), List.take_append_of_le_length (by rw [List.length_drop]; omega)]
/-- One follower, what the leader knows of it, and the messages and answers between them. -/
structure FInv (H : List Ch) (ep : Int) (s : Sd) (f : Fo) (sh : List Shp) (he : List He) (j : Nat) : Prop where
  jle : j ≤ H.length
  c : f.c = cpOf (H.take j)
  seen : f.seen ≤ ep
  ag : f.agreed = ep ∨ (f.agreed = 0 ∧ (j : Int) ≤ s.next ∧ (∀ m, m ∈ sh → (j : Int) ≤ m.seq) ∧ ∀ a, a ∈ he → a.ok = false ∧ (j : Int) ≤ a.applied)
  a0 : 0 ≤ s.applied
  aj : s.applied ≤ j
  an : s.applied ≤ s.next
  nH : s.next ≤ H.length
  sh : ∀ m, m ∈ sh → ∃ n k, OfH H ep m n k
  he : ∀ a, a ∈ he → a.ep = ep ∧ 0 ≤ a.applied ∧ a.applied ≤ H.length ∧ (a.ok = true → a.applied ≤ j)
section
variable {H : List Ch} {ep : Int} {s : Sd} {f : Fo} {sh : List Shp} {he : List He} {j : Nat}
theorem FInv.grow (h : FInv H ep s f sh he j) (y : Ch) : FInv (H ++ [y]) ep s f sh he j := by
  have h1 := h.jle
  have h2 := h.nH
  refine ⟨by rw [List.length_append]; omega, ?_, h.seen, h.ag, h.a0, h.aj, h.an, by rw [List.length_append]; push_cast; omega, fun m hm => ?_, fun a ha => ?_⟩
  · rw [h.c, List.take_append_of_le_length h1]
  · obtain ⟨n, k, hk⟩ := h.sh m hm
    exact ⟨n, k, hk.grow y⟩
  · obtain ⟨h3, h4, h5, h6⟩ := h.he a ha
    exact ⟨h3, h4, by rw [List.length_append]; push_cast; omega, h6⟩
theorem FInv.ship (h : FInv H ep s f sh he j) : FInv H ep s f (sh ++ [shipS ep s H]) he j := by
  have h0 := h.a0
  have h1 := h.an
  have h2 := h.nH
  have hs : (shipS ep s H).seq = s.next := by unfold shipS; simp only; omega
  refine ⟨h.jle, h.c, h.seen, ?_, h.a0, h.aj, h.an, h.nH, fun m hm => ?_, h.he⟩
  · rcases h.ag with ha | ⟨ha, hb, hc, hd⟩
    · exact .inl ha
    · refine .inr ⟨ha, hb, fun m hm => ?_, hd⟩
      rcases List.mem_append.1 hm with hm | hm
      · exact hc m hm
      · simp only [List.mem_singleton] at hm
        rw [hm, hs]
        exact hb
  · rcases List.mem_append.1 hm with hm | hm
    · exact h.sh m hm
    · simp only [List.mem_singleton] at hm
      rw [hm]
      exact ⟨_, _, shipS_of (by omega) h2⟩
theorem FInv.take (h : FInv H ep s f sh he j) (hH : IsH H) (h1 : 1 ≤ ep) (h2 : ep ≤ 1048576) (hep : ∀ x, x ∈ H → x.epoch ≤ ep) {m : Shp} (hm : m ∈ sh) :
    ∃ j', j ≤ j' ∧ (takeF f m).2.2 = 0 ∧ FInv H ep s (takeF f m).1 sh (he ++ [(takeF f m).2.1]) j' ∧ ((takeF f m).2.1.ok = true → (takeF f m).2.1.applied ≤ j') := by
  obtain ⟨n, k, hof⟩ := h.sh m hm
  have hsq : m.seq = n := by rw [hof.eq]
  have hle := hof.le
  have hj := h.jle
  have hnj : f.agreed < ep → j ≤ n := by
    intro hlt
    rcases h.ag with ha | ⟨_, _, hc, _⟩
    · omega
    · have := hc m hm; omega
  have htp := take_pre hH h1 h2 hep h.jle h.c h.seen hof
  by_cases hlt : j < n
  · rw [htp.1 hlt]
    refine ⟨j, Nat.le_refl _, rfl, ⟨h.jle, h.c, Int.le_refl _, ?_, h.a0, h.aj, h.an, h.nH, h.sh, fun a ha => ?_⟩, fun h => by cases h⟩
    · rcases h.ag with ha | ⟨ha, hb, hc, hd⟩
      · exact .inl ha
      · refine .inr ⟨ha, hb, hc, fun a hx => ?_⟩
        rcases List.mem_append.1 hx with hx | hx
        · exact hd a hx
        · simp only [List.mem_singleton] at hx
          rw [hx]
          exact ⟨rfl, Int.le_refl _⟩
    · rcases List.mem_append.1 ha with ha | ha
      · exact h.he a ha
      · simp only [List.mem_singleton] at ha
        rw [ha]
        exact ⟨rfl, by simp only; omega, by simp only; omega, fun h => by cases h⟩
  · have hR := htp.2 (by omega) (fun hx => by have := hnj hx; omega)
    have hmx : max f.agreed ep = ep := by
      rcases h.ag with ha | ⟨ha, _⟩
      · rw [ha]; exact Int.max_eq_right (Int.le_refl _)
      · rw [ha]; exact Int.max_eq_right (by omega)
    rw [hR, hmx]
    have haj := h.aj
    refine ⟨max j (n + k), Nat.le_max_left _ _, rfl, ⟨Nat.max_le.2 ⟨hj, hle⟩, rfl, Int.le_refl _, .inl rfl, h.a0, ?_, h.an, h.nH, h.sh, fun a ha => ?_⟩, fun _ => ?_⟩
    · have := Nat.le_max_left j (n + k); omega
    · rcases List.mem_append.1 ha with ha | ha
      · obtain ⟨h3, h4, h5, h6⟩ := h.he a ha
        exact ⟨h3, h4, h5, fun hx => by have := h6 hx; have := Nat.le_max_left j (n + k); omega⟩
      · simp only [List.mem_singleton] at ha
        rw [ha]
        have := Nat.le_max_right j (n + k)
        exact ⟨rfl, by simp only; omega, by simp only; omega, fun _ => by simp only; omega⟩
    · have := Nat.le_max_right j (n + k)
      simp only
      omega
theorem FInv.hear (h : FInv H ep s f sh he j) {a : He} (ha : a ∈ he) : FInv H ep (hearS s a) f sh he j := by
  obtain ⟨h3, h4, h5, h6⟩ := h.he a ha
  have h0 := h.a0
  have h1 := h.aj
  have h2 := h.an
  have h7 := h.nH
  by_cases hok : a.ok = true
  · have h8 := h6 hok
    have hj := h.jle
    have hx : hearS s a = ⟨s.cell, max s.applied a.applied, max s.applied a.applied, s.req⟩ := by unfold hearS; rw [if_pos hok]
    rw [hx]
    refine ⟨h.jle, h.c, h.seen, ?_, by simp only; omega, by simp only; omega, Int.le_refl _, by simp only; omega, h.sh, h.he⟩
    rcases h.ag with hag | ⟨_, _, _, hd⟩
    · exact .inl hag
    · have := (hd a ha).1
      rw [hok] at this
      cases this
  · have hx : hearS s a = ⟨s.cell, s.applied, max (min s.next a.applied) s.applied, s.req⟩ := by unfold hearS; rw [if_neg hok]
    rw [hx]
    refine ⟨h.jle, h.c, h.seen, ?_, h0, h1, by simp only; omega, by simp only; omega, h.sh, h.he⟩
    rcases h.ag with hag | ⟨hag, hb, hc, hd⟩
    · exact .inl hag
    · have := (hd a ha).2
      exact .inr ⟨hag, by simp only; omega, hc, hd⟩
theorem FInv.less (h : FInv H ep s f sh he j) {sh' : List Shp} {he' : List He} (h1 : ∀ m, m ∈ sh' → m ∈ sh) (h2 : ∀ a, a ∈ he' → a ∈ he) : FInv H ep s f sh' he' j := by
  refine ⟨h.jle, h.c, h.seen, ?_, h.a0, h.aj, h.an, h.nH, fun m hm => h.sh m (h1 m hm), fun a ha => h.he a (h2 a ha)⟩
  rcases h.ag with ha | ⟨ha, hb, hc, hd⟩
  · exact .inl ha
  · exact .inr ⟨ha, hb, fun m hm => hc m (h1 m hm), fun a hx => hd a (h2 a hx)⟩
/-- The change of a leader's knowledge that does not concern a follower's messages. -/
theorem FInv.req (h : FInv H ep s f sh he j) (b : Bool) : FInv H ep ⟨s.cell, s.applied, s.next, b⟩ f sh he j :=
  ⟨h.jle, h.c, h.seen, h.ag, h.a0, h.aj, h.an, h.nH, h.sh, h.he⟩
/-- A round without losses: a message, its answer. -/
theorem FInv.calm (h : FInv H ep s f sh he j) (hH : IsH H) (h1 : 1 ≤ ep) (h2 : ep ≤ 1048576) (hep : ∀ x, x ∈ H → x.epoch ≤ ep) :
    ∃ j', (takeF f (shipS ep s H)).2.2 = 0 ∧ (takeF f (shipS ep s H)).2.1.ep = ep ∧ 0 ≤ (takeF f (shipS ep s H)).2.1.applied ∧ (takeF f (shipS ep s H)).2.1.applied ≤ H.length ∧
      FInv H ep (hearS s (takeF f (shipS ep s H)).2.1) (takeF f (shipS ep s H)).1 sh he j' ∧
      (s.next ≤ j → (hearS s (takeF f (shipS ep s H)).2.1).applied = (hearS s (takeF f (shipS ep s H)).2.1).next ∧ min (H.length : Int) (s.next + 8) ≤ (hearS s (takeF f (shipS ep s H)).2.1).next) ∧
      (hearS s (takeF f (shipS ep s H)).2.1).next ≤ j' := by
  have hmem : shipS ep s H ∈ sh ++ [shipS ep s H] := by simp
  obtain ⟨j', hjj, he0, hI, hok⟩ := h.ship.take hH h1 h2 hep hmem
  have hmem2 : (takeF f (shipS ep s H)).2.1 ∈ he ++ [(takeF f (shipS ep s H)).2.1] := by simp
  have hI2 := hI.hear hmem2
  obtain ⟨x1, x2, x3, x4⟩ := hI.he _ hmem2
  have hI3 := hI2.less (sh' := sh) (he' := he) (fun m hm => by simp [hm]) (fun a ha => by simp [ha])
  have a0 := h.a0
  have an := h.an
  have aj := h.aj
  have nH := h.nH
  have hof := shipS_of (ep := ep) (H := H) (s := s) (by omega) nH
  have htp := take_pre hH h1 h2 hep h.jle h.c h.seen hof
  refine ⟨j', he0, x1, x2, x3, hI3, fun hnx => ?_, ?_⟩
  · have hR := htp.2 (by omega) (fun hlt => by
      rcases h.ag with ha | ⟨_, hb, _, _⟩
      · omega
      · omega)
    rw [hR]
    unfold hearS
    simp only [if_true]
    refine ⟨by first | rfl | trivial, ?_⟩
    have hmax : ((s.next.toNat : Int) + ((min 8 (H.length - s.next.toNat) : Nat) : Int)) ≤ max s.applied ((s.next.toNat : Int) + ((min 8 (H.length - s.next.toNat) : Nat) : Int)) := Int.le_max_right _ _
    have hmin : min (H.length : Int) (s.next + 8) ≤ (s.next.toNat : Int) + ((min 8 (H.length - s.next.toNat) : Nat) : Int) := by omega
    omega
  · by_cases hlt : j < s.next.toNat
    · rw [htp.1 hlt]
      unfold hearS
      simp only [Bool.false_eq_true, if_false]
      have e1 : min s.next (j : Int) = j := by omega
      rw [e1]
      have e2 : max (j : Int) s.applied = j := by omega
      rw [e2]
      omega
    · have hR := htp.2 (by omega) (fun hlt => by
        rcases h.ag with ha | ⟨_, hb, _, _⟩
        · omega
        · omega)
      have hap := hok (by rw [hR])
      rw [hR] at hap ⊢
      unfold hearS
      simp only [if_true]
      simp only at hap
      have : max s.applied ((s.next.toNat : Int) + ((min 8 (H.length - s.next.toNat) : Nat) : Int)) ≤ j' := Int.max_le.2 ⟨by omega, hap⟩
      exact this
end
/-- The home, its leader and both followers. -/
structure Net where
  home : Cp
  ep : Int
  lag : Int
  acked : Int
  sd : Nat → Sd
  fo : Nat → Fo
  sh : Nat → List Shp
  he : Nat → List He
def Net.ld (x : Net) : Ld := ⟨x.ep, x.lag, x.acked, [x.sd 0, x.sd 1]⟩
structure NInv (x : Net) (B : Nat) : Prop where
  good : Good x.home
  hB : x.home.h.length ≤ 60 + B
  ep : 1 ≤ x.ep ∧ x.ep ≤ 1000
  eps : ∀ y, y ∈ x.home.h → y.epoch ≤ x.ep
  lag : -1 ≤ x.lag ∧ x.lag ≤ 1000
  acked : 0 ≤ x.acked ∧ x.acked ≤ 4096
  cell : ∀ i, i < 2 → (x.sd i).cell = 2 + i
  each : ∀ i, i < 2 → ∃ j, FInv x.home.h x.ep (x.sd i) (x.fo i) (x.sh i) (x.he i) j
  shB : ∀ i, i < 2 → (x.sh i).length ≤ B
  heB : ∀ i, i < 2 → (x.he i).length ≤ B
theorem NInv.ld {x : Net} {B : Nat} (h : NInv x B) : x.ld.ok := by
  have c0 := h.cell 0 (by omega)
  have c1 := h.cell 1 (by omega)
  have hl := h.good.isH.len
  refine ⟨?_, fun s hs => ?_, h.lag, h.acked⟩
  · simp [Net.ld, c0, c1]
  · simp only [Net.ld, List.mem_cons, List.not_mem_nil, or_false] at hs
    have key : ∀ i, i < 2 → (x.sd i).ok := fun i hi => by
      obtain ⟨j, hj⟩ := h.each i hi
      have := hj.a0
      have := hj.an
      have := hj.nH
      have := h.cell i hi
      unfold Sd.ok
      omega
    rcases hs with rfl | rfl
    · exact key 0 (by omega)
    · exact key 1 (by omega)
theorem ld_at {x : Net} (c0 : (x.sd 0).cell = 2) (c1 : (x.sd 1).cell = 3) : sdAt x.ld.l 2 = some (x.sd 0) ∧ sdAt x.ld.l 3 = some (x.sd 1) ∧ sidx x.ld.l 2 = 0 ∧ sidx x.ld.l 3 = 1 := by
  simp [sdAt, sidx, Net.ld, c0, c1]
end Go.Proofs.Ytmjdkgpckcdndaa
