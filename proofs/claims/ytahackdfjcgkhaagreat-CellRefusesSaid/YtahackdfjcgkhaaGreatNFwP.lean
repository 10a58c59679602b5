/-
  Messages of a home, and what a follower makes of them. No program in sight.
-/
import Derived.Test.YtahackdfjcgkhaaGreatK1
namespace Go.Proofs.YtahackdfjcgkhaaGreat
open Go.RowKit
set_option linter.unusedSimpArgs false
set_option linter.unusedVariables false
attribute [local irreducible] Res.blk Res.sl Res.all Res.ex Res.pure Res.star

/-- A message; an answer; a follower. -/
structure Shp where
  ep : Int
  seq : Int
  before : Int
  ch : List Ch
structure He where
  ep : Int
  applied : Int
  ok : Bool
structure Fo where
  c : Cp
  seen : Int
  agreed : Int
def chsOk : List Ch → Int → Int → Int → Bool
  | [], _, _, _ => true
  | x :: l, s, b, e => if validB x = true ∧ x.seq = s ∧ b ≤ x.epoch ∧ x.epoch ≤ e then chsOk l (s + 1) x.epoch e else false
theorem chsOk_drop {l : List Ch} {s b e : Int} {k : Nat} (hk : k < l.length) : chsOk (l.drop k) s b e = if validB l[k] = true ∧ l[k].seq = s ∧ b ≤ l[k].epoch ∧ l[k].epoch ≤ e then chsOk (l.drop (k + 1)) (s + 1) l[k].epoch e else false := by
  rw [List.drop_eq_getElem_cons hk]
  rfl
def headOk (m : Shp) : Prop := 1 ≤ m.ep ∧ m.ep ≤ 1048576 ∧ 0 ≤ m.seq ∧ m.seq ≤ 4096 ∧ 0 ≤ m.before ∧ m.before ≤ m.ep ∧ (m.seq = 0 ↔ m.before = 0) ∧ m.ch.length ≤ 8
instance (m : Shp) : Decidable (headOk m) := by unfold headOk; infer_instance
def shipB (m : Shp) : Bool := decide (headOk m) && chsOk m.ch (m.seq + 1) m.before m.ep
def cutC (c : Cp) (n : Nat) : Cp := cpOf (c.h.take n)
def epAt (h : List Ch) (i : Nat) : Int := match h[i]? with | some x => x.epoch | none => 0
theorem epAt_eq {h : List Ch} {i : Nat} (hi : i < h.length) : epAt h i = h[i].epoch := by
  unfold epAt
  rw [List.getElem?_eq_getElem hi]
/-- What the changes of a message make of a copy, and how many it has then as the home has them. -/
def takeC : Cp → List Ch → Int → Cp × Int
  | c, [], a => (c, a)
  | c, x :: l, a =>
    if (c.h.length : Int) < x.seq ∨ epAt c.h (x.seq - 1).toNat ≠ x.epoch then
      if (cApp (cutC c (x.seq - 1).toNat) x).2 = 0 then takeC (cApp (cutC c (x.seq - 1).toNat) x).1 l x.seq
      else (cutC c (x.seq - 1).toNat, a)
    else takeC c l x.seq
/-- The first change with an epoch. -/
def eidx : List Ch → Int → Nat
  | [], _ => 0
  | x :: l, e => if x.epoch = e then 0 else eidx l e + 1
def agreeC (f : Fo) (m : Shp) : Cp := if f.agreed < m.ep then cutC f.c m.seq.toNat else f.c
def takeF (f : Fo) (m : Shp) : Fo × He × Int :=
  if shipB m then
    if m.ep < f.seen then (f, ⟨0, 0, false⟩, 20)
    else if (f.c.h.length : Int) < m.seq then (⟨f.c, m.ep, f.agreed⟩, ⟨m.ep, f.c.h.length, false⟩, 0)
    else if matchB f.c.h m.seq m.before then
      (⟨(takeC (agreeC f m) m.ch m.seq).1, m.ep, max f.agreed m.ep⟩, ⟨m.ep, (takeC (agreeC f m) m.ch m.seq).2, true⟩, 0)
    else (⟨f.c, m.ep, f.agreed⟩, ⟨m.ep, eidx f.c.h (epAt f.c.h (m.seq - 1).toNat), false⟩, 0)
  else (f, ⟨0, 0, false⟩, 1)

theorem Good.isH {c : Cp} (h : Good c) : IsH c.h := ⟨c, h, rfl⟩
theorem cutC_good {c : Cp} (h : Good c) (n : Nat) : Good (cutC c n) ∧ (cutC c n).h = c.h.take n :=
  ⟨(h.isH.take n).good.1, (h.isH.take n).good.2.1⟩
theorem cutC_all {c : Cp} (h : Good c) {n : Nat} (hn : c.h.length ≤ n) : cutC c n = c := by
  unfold cutC
  rw [List.take_of_length_le hn, h.cpOf]
theorem takeC_good : ∀ (l : List Ch) {c : Cp} (a : Int), Good c → Good (takeC c l a).1 ∧ (takeC c l a).1.h.length ≤ c.h.length + l.length
  | [], c, a, h => ⟨h, by simp [takeC]⟩
  | x :: l, c, a, h => by
    have h1 := cutC_good h (x.seq - 1).toNat
    have h2 : (cutC c (x.seq - 1).toNat).h.length ≤ c.h.length := by rw [h1.2, List.length_take]; omega
    unfold takeC
    split
    · split
      · have h3 := h1.1.step x
        have h4 := takeC_good l x.seq h3.1
        simp only [List.length_cons]
        exact ⟨h4.1, by omega⟩
      · exact ⟨h1.1, by simp only [List.length_cons]; omega⟩
    · have h4 := takeC_good l x.seq h
      simp only [List.length_cons]
      exact ⟨h4.1, by omega⟩
theorem agreeC_good {f : Fo} (h : Good f.c) (m : Shp) : Good (agreeC f m) ∧ (agreeC f m).h.length ≤ f.c.h.length := by
  unfold agreeC
  split
  · have h1 := cutC_good h m.seq.toNat
    exact ⟨h1.1, by rw [h1.2, List.length_take]; omega⟩
  · exact ⟨h, Nat.le_refl _⟩
theorem takeF_good {f : Fo} (h : Good f.c) (m : Shp) : Good (takeF f m).1.c ∧ (takeF f m).1.c.h.length ≤ f.c.h.length + m.ch.length := by
  unfold takeF
  split
  · split
    · exact ⟨h, by simp⟩
    · split
      · exact ⟨h, by simp⟩
      · split
        · have h1 := agreeC_good h m
          have h2 := takeC_good m.ch m.seq h1.1
          exact ⟨h2.1, by simp only; omega⟩
        · exact ⟨h, by simp⟩
  · exact ⟨h, by simp⟩
/-- The next change of a history. -/
theorem IsH.next {h : List Ch} (hh : IsH h) {j : Nat} (hj : j < h.length) : cApp (cpOf (h.take j)) h[j] = (cpOf (h.take (j + 1)), 0) := by
  have h1 := (hh.take j).good
  have h2 := (hh.take (j + 1)).good
  have e : h.take (j + 1) = h.take j ++ [h[j]] := by rw [List.take_succ_eq_append_getElem hj]
  have h3 := h2.2.2
  rw [e, foldC_snoc (by rw [h1.2.2]), h1.2.2] at h3
  simp only [foldC] at h3
  split at h3
  · rename_i h0
    have h4 : (cApp (cpOf (h.take j)) h[j]).1 = cpOf (h.take j ++ [h[j]]) := by injection h3
    rw [e, ← h4, ← h0]
  · rename_i h0
    have h4 : (cApp (cpOf (h.take j)) h[j]).2 = 0 := by injection h3
    exact absurd h4 h0
theorem IsH.len {h : List Ch} (hh : IsH h) : h.length ≤ 4096 := by
  by_cases h0 : h.length = 0
  · omega
  · have h1 := hh.seq (i := h.length - 1) (by omega)
    obtain ⟨c, hc, rfl⟩ := hh
    have h2 := hc.valid (c.h[c.h.length - 1]'(by omega)) (by simp)
    simp only [validB, inB, Bool.and_eq_true, decide_eq_true_eq] at h2
    omega
/-- What the changes of the home make of a follower's copy that is a beginning of it. -/
theorem takeC_home {H : List Ch} (hH : IsH H) : ∀ (k n j : Nat), n ≤ j → j ≤ H.length → n + k ≤ H.length → takeC (cpOf (H.take j)) ((H.drop n).take k) n = (cpOf (H.take (max j (n + k))), (n : Int) + k)
  | 0, n, j, h1, h2, h3 => by simp [takeC, Nat.max_eq_left h1]
  | k + 1, n, j, h1, h2, h3 => by
    have hn : n < H.length := by omega
    have hs : H[n].seq - 1 = n := by rw [hH.seq hn]; omega
    have hs' : H[n].seq = ((n + 1 : Nat) : Int) := by rw [hH.seq hn]; omega
    have hg := (hH.take j).good
    have hl : (cpOf (H.take j)).h.length = j := by rw [hg.2.1, List.length_take]; omega
    rw [List.drop_eq_getElem_cons hn, List.take_succ_cons]
    unfold takeC
    rw [hs, Int.toNat_natCast]
    by_cases hj : n < j
    · have e1 : epAt (cpOf (H.take j)).h n = H[n].epoch := by rw [hg.2.1, epAt_eq (by rw [List.length_take]; omega)]; simp
      rw [if_neg (by rw [hl, e1, hs']; omega), hs', takeC_home hH k (n + 1) j (by omega) h2 (by omega)]
      rw [show n + 1 + k = n + (k + 1) by omega]
      congr 1
      push_cast
      omega
    · have hjn : j = n := by omega
      subst hjn
      have e2 : cutC (cpOf (H.take j)) j = cpOf (H.take j) := cutC_all hg.1 (by omega)
      rw [if_pos (.inl (by rw [hl, hs']; omega)), e2, hH.next hn, if_pos rfl, hs', takeC_home hH k (j + 1) (j + 1) (Nat.le_refl _) (by omega) (by omega)]
      rw [Nat.max_eq_right (by omega), Nat.max_eq_right (by omega), show j + 1 + k = j + (k + 1) by omega]
      congr 1
      push_cast
      omega
/-- A message of a home with the history H, under the epoch ep. -/
structure OfH (H : List Ch) (ep : Int) (m : Shp) (n k : Nat) : Prop where
  le : n + k ≤ H.length
  k8 : k ≤ 8
  eq : m = ⟨ep, n, if n = 0 then 0 else epAt H (n - 1), (H.drop n).take k⟩
theorem IsH.ascends {h : List Ch} (hh : IsH h) {i j : Nat} (hij : i ≤ j) (hj : j < h.length) : (h[i]'(by omega)).epoch ≤ h[j].epoch := by
  induction j with
  | zero => have : i = 0 := by omega
            subst this; exact Int.le_refl _
  | succ j ih =>
    by_cases he : i = j + 1
    · subst he; exact Int.le_refl _
    · have h1 := ih (by omega) (by omega)
      have h2 := hh.lawful (j + 1)
      rw [badAt_eq hj] at h2
      simp only [Bool.or_eq_false_iff, Bool.and_eq_false_iff, decide_eq_false_iff_not, Nat.succ_pos, not_true, false_or] at h2
      have e : (((j + 1 : Nat) : Int) - 1).toNat = j := by omega
      have h3 := h2.2.2
      simp only [e] at h3
      omega
theorem IsH.valid {h : List Ch} (hh : IsH h) {x : Ch} (hx : x ∈ h) : validB x = true := by
  obtain ⟨c, hc, rfl⟩ := hh
  exact hc.valid x hx
theorem chsOk_home {H : List Ch} (hH : IsH H) {ep : Int} (he : ∀ x, x ∈ H → x.epoch ≤ ep) : ∀ (k n : Nat) (b : Int), n + k ≤ H.length → (∀ hn : n < H.length, b ≤ H[n].epoch) → chsOk ((H.drop n).take k) ((n : Int) + 1) b ep = true
  | 0, n, b, _, _ => by simp [chsOk]
  | k + 1, n, b, h1, h2 => by
    have hn : n < H.length := by omega
    rw [List.drop_eq_getElem_cons hn, List.take_succ_cons]
    unfold chsOk
    rw [if_pos ⟨hH.valid (by simp), hH.seq hn, h2 hn, he _ (by simp)⟩]
    have := chsOk_home hH he k (n + 1) H[n].epoch (by omega) (fun hn' => hH.ascends (by omega) hn')
    rw [← this]
    congr 1
theorem OfH.valid {H : List Ch} {ep : Int} {m : Shp} {n k : Nat} (hH : IsH H) (h : OfH H ep m n k) (h1 : 1 ≤ ep) (h2 : ep ≤ 1048576) (he : ∀ x, x ∈ H → x.epoch ≤ ep) : shipB m = true := by
  have hl := hH.len
  have hle := h.le
  have h8 := h.k8
  have hb : ∀ n0 : n ≠ 0, epAt H (n - 1) = (H[n - 1]'(by omega)).epoch := fun n0 => epAt_eq (by omega)
  have hb1 : ∀ n0 : n ≠ 0, 1 ≤ epAt H (n - 1) ∧ epAt H (n - 1) ≤ ep := fun n0 => by
    rw [hb n0]
    exact ⟨(hH.epochs _ (by simp)).1, he _ (by simp)⟩
  have e := h.eq
  subst e
  unfold shipB
  rw [Bool.and_eq_true, decide_eq_true_eq]
  refine ⟨⟨h1, h2, by simp only; omega, by simp only; omega, ?_, ?_, ?_, ?_⟩, ?_⟩
  · simp only; split
    · exact Int.le_refl _
    · rename_i n0; have := hb1 n0; omega
  · simp only; split
    · omega
    · rename_i n0; exact (hb1 n0).2
  · simp only; split
    · rename_i n0; simp [n0]
    · rename_i n0; have := hb1 n0; constructor <;> intro hx <;> omega
  · simp only [List.length_take, List.length_drop]; omega
  · simp only
    refine chsOk_home hH he k n _ hle fun hn => ?_
    split
    · have := (hH.epochs H[n] (by simp)).1; omega
    · rename_i n0; rw [hb n0]; exact hH.ascends (by omega) hn
end Go.Proofs.YtahackdfjcgkhaaGreat
