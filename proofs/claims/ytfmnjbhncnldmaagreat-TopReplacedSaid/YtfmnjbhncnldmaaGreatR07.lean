import Derived.BigGuardPart
import Derived.Deep.QuietTactic
import Derived.BigQuiet
import Derived.Deep.RegionHeld3
import Derived.Deep.DeepCutAuto
import Derived.Deep.Light
import Derived.Handy
import Derived.Deep.DeepFit
import Derived.Test.YtfmnjbhncnldmaaGreatRows
import Derived.Test.YtfmnjbhncnldmaaGreatR00
import Derived.Test.YtfmnjbhncnldmaaGreatR02
import Derived.Test.YtfmnjbhncnldmaaGreatR04
import Derived.Test.YtfmnjbhncnldmaaGreatR06
set_option linter.unusedSimpArgs false
set_option linter.unusedVariables false
namespace Go.Proofs.YtfmnjbhncnldmaaGreat
open Go.RowKit
attribute [local irreducible] Res.blk Res.sl Res.all Res.ex Res.pure Res.star
def qidx : List It → Int → Nat
  | [], _ => 0
  | x :: l, n => if x.number = n then 0 else qidx l n + 1
def qat (l : List It) (n : Int) : Int := if qidx l n < l.length then qidx l n else -1
def without (r : List Le) (n : Int) : List Le := r.filter fun x => x.item != n
def qApp (q : Qu) (x : Ch) : Qu × Int :=
  if validB x then
    if x.kind = 3 then if x.seq ≤ q.most then (q, 36) else if 16 ≤ q.l.length then (q, 33) else (⟨q.l ++ [⟨x.seq, x.value⟩], q.r, x.seq⟩, 0)
    else if x.kind = 4 then if qat q.l x.item < 0 then (q, 34) else (⟨q.l.take (qat q.l x.item).toNat ++ q.l.drop ((qat q.l x.item).toNat + 1), without q.r x.item, q.most⟩, 0)
    else (q, 0)
  else (q, 1)
end Go.Proofs.YtfmnjbhncnldmaaGreat
namespace Go.Proofs.YtfmnjbhncnldmaaGreat
open Go.RowKit
structure Tab where
  n : Nat → Int
  r : Nat → Rep
def Rep.zero : Rep := ⟨0, 0, 0, ⟨#[]⟩⟩
def Tab.zero : Tab := ⟨fun _ => 0, fun _ => .zero⟩
def Tab.pcells (t : Tab) : Array Value := ((List.range 8).flatMap fun i => Value.int .i64 (t.n i) :: (t.r i).cells).toArray
def Tab.ok (t : Tab) : Prop := ∀ i, 0 ≤ t.n i ∧ t.n i ≤ 1048576
def findB (t : Tab) (cl nu : Int) : Rep × Int :=
  if cl < 1 ∨ 8 < cl ∨ nu < 1 ∨ 1048576 < nu then (.zero, 1)
  else if nu = t.n (cl - 1).toNat then (t.r (cl - 1).toNat, 0)
  else if nu = t.n (cl - 1).toNat + 1 then (.zero, 34)
  else (.zero, 32)
def Rep.val (x : Rep) : Value := .agg x.cells.toArray
def upd {α : Type} (f : Nat → α) (k : Nat) (v : α) : Nat → α := fun i => if i = k then v else f i
def repOf (x : Ch) : Rep := ⟨0, x.seq, if x.kind == 3 then x.seq else x.item, ⟨#[]⟩⟩
def tApp (t : Tab) (x : Ch) : Tab × Int :=
  if validB x then
    if x.number = t.n (x.client - 1).toNat + 1 then (⟨upd t.n (x.client - 1).toNat x.number, upd t.r (x.client - 1).toNat (repOf x)⟩, 0) else (t, 32)
  else (t, 1)
theorem Ch.cells_at {w : World} {b : Nat} {T : TypeId} {ep sq kd cl nu it : Int} {key val : ByteArray} (hb : Blk w b T #[.int .i64 ep, .int .i64 sq, .int .i64 kd, .int .i64 cl, .int .i64 nu, .int .i64 it, .string key, .string val]) :
    w.cell? ⟨b, 0, none⟩ = some (.int .i64 ep) ∧ w.cell? ⟨b, 1, none⟩ = some (.int .i64 sq) ∧ w.cell? ⟨b, 2, none⟩ = some (.int .i64 kd) ∧ w.cell? ⟨b, 3, none⟩ = some (.int .i64 cl) ∧
    w.cell? ⟨b, 4, none⟩ = some (.int .i64 nu) ∧ w.cell? ⟨b, 5, none⟩ = some (.int .i64 it) ∧ w.cell? ⟨b, 6, none⟩ = some (.string key) ∧ w.cell? ⟨b, 7, none⟩ = some (.string val) :=
  ⟨hb.cell 0, hb.cell 1, hb.cell 2, hb.cell 3, hb.cell 4, hb.cell 5, hb.cell 6, hb.cell 7⟩
theorem valid_bounds {x : Ch} (h : validB x = true) : 1 ≤ x.epoch ∧ x.epoch ≤ 1048576 ∧ 1 ≤ x.seq ∧ x.seq ≤ 4096 ∧ 1 ≤ x.client ∧ x.client ≤ 8 ∧ 1 ≤ x.number ∧ x.number ≤ 1048576 := by
  simp [validB, inB] at h
  omega
end Go.Proofs.YtfmnjbhncnldmaaGreat
namespace Go.Proofs.YtfmnjbhncnldmaaGreat
open Go.RowKit
attribute [local irreducible] Res.blk Res.sl Res.all Res.ex Res.pure Res.star
structure Cp where
  h : List Ch
  s : List Ce
  q : Qu
  t : Tab
def Cp.zero : Cp := ⟨[], [], ⟨[], [], 0⟩, .zero⟩
def epochOf (h : List Ch) : Int := match h.getLast? with | some x => x.epoch | none => 0
theorem epochOf_eq {h : List Ch} (h0 : 0 < h.length) : epochOf h = (h[h.length - 1]'(by omega)).epoch := by
  unfold epochOf
  rw [List.getLast?_eq_getElem?, List.getElem?_eq_getElem (by omega)]
theorem Sep.none {r w : World} {F : List Res} (h : Sep r [] F w) : Sep r [] (.pure True :: F) w := Sep.pure_open.2 ⟨trivial, h⟩
theorem Sep.swap {r w : World} {A B : Res} {F : List Res} (h : Sep r [] (A :: B :: F) w) : Sep r [] (B :: A :: F) w := h.sub (.cons (.next .here) .rest)
def cApp (c : Cp) (x : Ch) : Cp × Int :=
  if validB x then
    if x.seq = (c.h.length : Int) + 1 ∧ epochOf c.h ≤ x.epoch then
      if (tApp c.t x).2 ≠ 0 then (c, (tApp c.t x).2)
      else if (sApp c.s x).2 ≠ 0 then (c, (sApp c.s x).2)
      else if (qApp c.q x).2 ≠ 0 then (c, (qApp c.q x).2)
      else (⟨c.h ++ [x], (sApp c.s x).1, (qApp c.q x).1, (tApp c.t x).1⟩, 0)
    else (c, 36)
  else (c, 1)
end Go.Proofs.YtfmnjbhncnldmaaGreat
namespace Go.Proofs.YtfmnjbhncnldmaaGreat
open Go.RowKit
def modN (v n : Int) : Int := if v.tmod n < 0 then v.tmod n + n else v.tmod n
def nxt (l : List Int) (i : Nat) (n : Int) : Int := if i < l.length then modN (l.getD i 0) n else 0
end Go.Proofs.YtfmnjbhncnldmaaGreat
namespace Go.Proofs.YtfmnjbhncnldmaaGreat
open Go.RowKit
attribute [local irreducible] Res.blk Res.sl Res.all Res.ex Res.pure Res.star
theorem cApp_ok {c : Cp} {x : Ch} (h : (cApp c x).2 = 0) : validB x = true ∧ x.seq = (c.h.length : Int) + 1 ∧ epochOf c.h ≤ x.epoch ∧ (tApp c.t x).2 = 0 ∧ (sApp c.s x).2 = 0 ∧ (qApp c.q x).2 = 0 ∧
    (cApp c x).1 = ⟨c.h ++ [x], (sApp c.s x).1, (qApp c.q x).1, (tApp c.t x).1⟩ := by
  unfold cApp at h ⊢
  split at h
  case isFalse => simp at h
  case isTrue h1 =>
    split at h
    case isFalse => simp at h
    case isTrue h2 =>
      split at h
      case isTrue h3 => exact absurd h h3
      case isFalse h3 =>
        split at h
        case isTrue h4 => exact absurd h h4
        case isFalse h4 =>
          split at h
          case isTrue h5 => exact absurd h h5
          case isFalse h5 =>
            rw [if_pos h1, if_pos h2, if_neg h3, if_neg h4, if_neg h5]
            exact ⟨h1, h2.1, h2.2, Decidable.not_not.1 h3, Decidable.not_not.1 h4, Decidable.not_not.1 h5, rfl⟩
theorem cApp_bad {c : Cp} {x : Ch} (h : (cApp c x).2 ≠ 0) : (cApp c x).1 = c := by
  unfold cApp at h ⊢
  split
  case isFalse => rfl
  case isTrue h1 =>
    split
    case isFalse => rfl
    case isTrue h2 =>
      split
      case isTrue h3 => rfl
      case isFalse h3 =>
        split
        case isTrue h4 => rfl
        case isFalse h4 =>
          split
          case isTrue h5 => rfl
          case isFalse h5 =>
            rw [if_pos h1, if_pos h2, if_neg h3, if_neg h4, if_neg h5] at h
            exact absurd rfl h
inductive Good : Cp → Prop
  | zero : Good .zero
  | app {c : Cp} {x : Ch} : Good c → (cApp c x).2 = 0 → Good (cApp c x).1
theorem Good.step {c : Cp} (h : Good c) (x : Ch) : Good (cApp c x).1 ∧ (cApp c x).1.h.length ≤ c.h.length + 1 := by
  by_cases hx : (cApp c x).2 = 0
  · refine ⟨.app h hx, ?_⟩
    rw [(cApp_ok hx).2.2.2.2.2.2]
    simp
  · rw [cApp_bad hx]
    exact ⟨h, by omega⟩
theorem Tab.zero_ok : Tab.zero.ok := fun i => by simp [Tab.zero]
theorem tApp_ok {t : Tab} {x : Ch} (h : t.ok) : (tApp t x).1.ok := by
  unfold tApp
  split
  case isFalse => exact h
  case isTrue hv =>
    split
    case isFalse => exact h
    case isTrue hn =>
      intro i
      have hb := valid_bounds hv
      have hi := h i
      simp only [upd]
      split <;> omega
theorem sApp_len {l : List Ce} {x : Ch} (h : l.length ≤ 32) : (sApp l x).1.length ≤ 32 := by
  unfold sApp
  split
  case isFalse => exact h
  case isTrue =>
    split
    case isTrue =>
      split
      case isTrue => simpa using h
      case isFalse =>
        split
        case isTrue => exact h
        case isFalse => simp only [List.length_append, List.length_take, List.length_drop, List.length_cons, List.length_nil]; omega
    case isFalse =>
      split
      case isFalse => exact h
      case isTrue =>
        split
        case isFalse => exact h
        case isTrue => simp only [List.length_append, List.length_take, List.length_drop]; omega
theorem qApp_len {q : Qu} {x : Ch} (h : q.l.length ≤ 16) (hr : q.r = []) : (qApp q x).1.l.length ≤ 16 ∧ (qApp q x).1.r = [] := by
  unfold qApp
  split
  case isFalse => exact ⟨h, hr⟩
  case isTrue =>
    split
    case isTrue =>
      split
      case isTrue => exact ⟨h, hr⟩
      case isFalse =>
        split
        case isTrue => exact ⟨h, hr⟩
        case isFalse => exact ⟨by simp only [List.length_append, List.length_cons, List.length_nil]; omega, hr⟩
    case isFalse =>
      split
      case isFalse => exact ⟨h, hr⟩
      case isTrue =>
        split
        case isTrue => exact ⟨h, hr⟩
        case isFalse => exact ⟨by simp only [List.length_append, List.length_take, List.length_drop]; omega, by rw [hr]; rfl⟩
theorem Good.ok {c : Cp} (h : Good c) : c.t.ok ∧ c.s.length ≤ 32 ∧ c.q.l.length ≤ 16 ∧ c.q.r = [] := by
  induction h with
  | zero => exact ⟨Tab.zero_ok, by simp [Cp.zero], by simp [Cp.zero], rfl⟩
  | app hc hx ih =>
    rw [(cApp_ok hx).2.2.2.2.2.2]
    exact ⟨tApp_ok ih.1, sApp_len ih.2.1, qApp_len ih.2.2.1 ih.2.2.2⟩
theorem badAt_congr {h h' : List Ch} {i : Nat} (he : ∀ j, j ≤ i → h[j]? = h'[j]?) : badAt h i = badAt h' i := by
  unfold badAt
  rw [he i (Nat.le_refl _)]
  cases i with
  | zero => rfl
  | succ j => simp only; rw [he j (by omega)]
theorem badAt_out {h : List Ch} {i : Nat} (hi : h.length ≤ i) : badAt h i = false := by
  unfold badAt
  rw [List.getElem?_eq_none hi]
theorem Good.lawful {c : Cp} (h : Good c) : ∀ i, badAt c.h i = false := by
  induction h with
  | zero => intro i; exact badAt_out (by simp [Cp.zero])
  | @app c x hc hx ih =>
    obtain ⟨hv, hs, he, _, _, _, e⟩ := cApp_ok hx
    rw [e]
    simp only
    intro i
    rcases Nat.lt_trichotomy i c.h.length with hi | rfl | hi
    · rw [badAt_congr (h' := c.h) fun j hj => by rw [List.getElem?_append_left (by omega)]]
      exact ih i
    · have hq : c.h.length < (c.h ++ [x]).length := by simp
      rw [badAt_eq hq]
      have e1 : (c.h ++ [x])[c.h.length] = x := by simp
      rw [e1]
      by_cases h0 : 0 < c.h.length
      · have e2 : (c.h ++ [x])[((c.h.length : Int) - 1).toNat]'(by simp; omega) = c.h[c.h.length - 1] := by
          rw [List.getElem_append_left (by omega)]
          congr 1
          omega
        rw [e2, ← epochOf_eq h0]
        have h3 : ¬ x.epoch < epochOf c.h := by omega
        simp [hv, hs, h3]
      · simp [hv, hs, h0]
    · exact badAt_out (by simp; omega)
theorem Good.valid {c : Cp} (h : Good c) : ∀ x, x ∈ c.h → validB x = true := by
  induction h with
  | zero => intro x hx; simp [Cp.zero] at hx
  | @app c y hc hx ih =>
    obtain ⟨hv, _, _, _, _, _, e⟩ := cApp_ok hx
    rw [e]
    intro x hx'
    simp only [List.mem_append, List.mem_singleton] at hx'
    rcases hx' with h1 | rfl
    · exact ih x h1
    · exact hv
structure FdC where
  c : Cp
  n : Nat
  e : Int
def foldC : Cp → List Ch → Nat → FdC
  | c, [], i => ⟨c, i, 0⟩
  | c, x :: h, i => if (cApp c x).2 = 0 then foldC (cApp c x).1 h (i + 1) else ⟨c, i, (cApp c x).2⟩
theorem foldC_snoc {h' : List Ch} : ∀ {h : List Ch} {c : Cp} {i : Nat}, (foldC c h i).e = 0 → foldC c (h ++ h') i = foldC (foldC c h i).c h' (foldC c h i).n
  | [], c, i, _ => rfl
  | y :: h, c, i, he => by
    simp only [foldC, List.cons_append] at he ⊢
    by_cases h0 : (cApp c y).2 = 0
    · simp only [if_pos h0] at he ⊢
      exact foldC_snoc he
    · rw [if_neg h0] at he
      exact absurd he h0
theorem Good.foldC {c : Cp} (h : Good c) : foldC .zero c.h 0 = ⟨c, c.h.length, 0⟩ := by
  induction h with
  | zero => rfl
  | @app c x hc hx ih =>
    obtain ⟨_, _, _, _, _, _, e⟩ := cApp_ok hx
    have e1 : (cApp c x).1.h = c.h ++ [x] := by rw [e]
    rw [e1, foldC_snoc (by rw [ih]), ih]
    simp [Go.Proofs.YtfmnjbhncnldmaaGreat.foldC, hx]
theorem Good.cut {c : Cp} (h : Good c) (k : Nat) : ∃ c', Good c' ∧ c'.h = c.h.take k := by
  induction h with
  | zero => exact ⟨.zero, .zero, by simp [Cp.zero]⟩
  | @app c x hc hx ih =>
    obtain ⟨_, _, _, _, _, _, e⟩ := cApp_ok hx
    have e1 : (cApp c x).1.h = c.h ++ [x] := by rw [e]
    by_cases hk : k ≤ c.h.length
    · obtain ⟨c', h1, h2⟩ := ih
      exact ⟨c', h1, by rw [e1, List.take_append_of_le_length hk]; exact h2⟩
    · refine ⟨(cApp c x).1, .app hc hx, ?_⟩
      rw [List.take_of_length_le (by rw [e1]; simp; omega)]
def IsH (h : List Ch) : Prop := ∃ c, Good c ∧ c.h = h
theorem IsH.take {h : List Ch} (hh : IsH h) (k : Nat) : IsH (h.take k) := by
  obtain ⟨c, hc, rfl⟩ := hh
  exact hc.cut k
def cpOf (h : List Ch) : Cp := (foldC .zero h 0).c
theorem Good.cpOf {c : Cp} (h : Good c) : cpOf c.h = c := by unfold Go.Proofs.YtfmnjbhncnldmaaGreat.cpOf; rw [h.foldC]
theorem IsH.good {h : List Ch} (hh : IsH h) : Good (cpOf h) ∧ (cpOf h).h = h ∧ foldC .zero h 0 = ⟨cpOf h, h.length, 0⟩ := by
  obtain ⟨c, hc, rfl⟩ := hh
  rw [hc.cpOf]
  exact ⟨hc, rfl, hc.foldC⟩
theorem epochOf_snoc (h : List Ch) (x : Ch) : epochOf (h ++ [x]) = x.epoch := by simp [epochOf]
theorem valid_epoch {x : Ch} (h : validB x = true) : 1 ≤ x.epoch := by
  simp only [validB, inB, Bool.and_eq_true, decide_eq_true_eq] at h
  exact h.1.1
theorem Good.epochs {c : Cp} (h : Good c) : ∀ x, x ∈ c.h → 1 ≤ x.epoch ∧ x.epoch ≤ epochOf c.h := by
  induction h with
  | zero => intro x hx; simp [Cp.zero] at hx
  | @app c y hc hx ih =>
    obtain ⟨hv, _, he, _, _, _, e⟩ := cApp_ok hx
    have e1 : (cApp c y).1.h = c.h ++ [y] := by rw [e]
    rw [e1, epochOf_snoc]
    intro x hx'
    simp only [List.mem_append, List.mem_singleton] at hx'
    rcases hx' with h1 | rfl
    · have := ih x h1; omega
    · exact ⟨valid_epoch hv, by omega⟩
theorem IsH.epochs {h : List Ch} (hh : IsH h) : ∀ x, x ∈ h → 1 ≤ x.epoch ∧ x.epoch ≤ epochOf h := by
  obtain ⟨c, hc, rfl⟩ := hh
  exact hc.epochs
theorem IsH.lawful {h : List Ch} (hh : IsH h) : ∀ i, badAt h i = false := by
  obtain ⟨c, hc, rfl⟩ := hh
  exact hc.lawful
theorem IsH.seq {h : List Ch} (hh : IsH h) {i : Nat} (hi : i < h.length) : h[i].seq = (i : Int) + 1 := by
  have := hh.lawful i
  rw [badAt_eq hi] at this
  simp only [Bool.or_eq_false_iff, Bool.not_eq_false', decide_eq_true_eq] at this
  exact this.2.1
theorem matchB_at {h : List Ch} {i : Nat} (hi : i < h.length) (hs : h[i].seq = (i : Int) + 1) (e : Int) : matchB h ((i + 1 : Nat) : Int) e = decide (h[i].epoch = e) := by
  unfold matchB
  rw [if_neg (by omega), if_pos (by omega)]
  have : (((i + 1 : Nat) : Int) - 1).toNat = i := by omega
  rw [this, List.getElem?_eq_getElem hi]
  simp [hs]
end Go.Proofs.YtfmnjbhncnldmaaGreat
