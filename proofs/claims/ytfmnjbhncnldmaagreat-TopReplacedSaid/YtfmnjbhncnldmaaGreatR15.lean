import Derived.Test.YtfmnjbhncnldmaaGreatR02
import Derived.Test.YtfmnjbhncnldmaaGreatR12
set_option linter.unusedSimpArgs false
set_option linter.unusedVariables false
namespace Go.Proofs.YtfmnjbhncnldmaaGreat
open Go.RowKit
attribute [local irreducible] Res.blk Res.sl Res.all Res.ex Res.pure Res.star
structure Sd where
  cell : Int
  applied : Int
  next : Int
  req : Bool
structure Ld where
  ep : Int
  lag : Int
  acked : Int
  l : List Sd
def sidx : List Sd → Int → Nat
  | [], _ => 0
  | x :: l, c => if x.cell = c then 0 else sidx l c + 1
def spos : List Sd → Int → Nat
  | [], _ => 0
  | x :: l, c => if x.cell < c then spos l c + 1 else 0
def sdAt (l : List Sd) (c : Int) : Option Sd := l[sidx l c]?
def Sd.ok (x : Sd) : Prop := 0 ≤ x.cell ∧ x.cell < 16 ∧ 0 ≤ x.applied ∧ x.applied ≤ x.next ∧ x.next ≤ 4096
structure Ld.ok (L : Ld) : Prop where
  sorted : L.l.Pairwise fun a b => a.cell < b.cell
  each : ∀ x, x ∈ L.l → x.ok
  lag : -1 ≤ L.lag ∧ L.lag ≤ 1000
  acked : 0 ≤ L.acked ∧ L.acked ≤ 4096
theorem sorted_len : ∀ {l : List Sd} {b : Int}, l.Pairwise (fun a b => a.cell < b.cell) → (∀ x, x ∈ l → b ≤ x.cell ∧ x.cell < 16) → b ≤ 16 → (l.length : Int) ≤ 16 - b
  | [], b, _, _, h => by simp; omega
  | x :: l, b, hp, h, hb => by
    rw [List.pairwise_cons] at hp
    have h1 := h x (by simp)
    have := sorted_len (l := l) (b := x.cell + 1) hp.2 (fun y hy => by have := hp.1 y hy; have := h y (by simp [hy]); omega) (by omega)
    simp only [List.length_cons]
    omega
theorem Ld.ok.len {L : Ld} (h : L.ok) : L.l.length ≤ 16 := by
  have := sorted_len (b := 0) h.sorted (fun x hx => by have := h.each x hx; unfold Sd.ok at this; omega) (by omega)
  omega
theorem sidx_le : ∀ (l : List Sd) (c : Int), sidx l c ≤ l.length
  | [], _ => Nat.le_refl _
  | x :: l, c => by
    unfold sidx
    have := sidx_le l c
    split <;> simp <;> omega
theorem sdAt_some : ∀ {l : List Sd} {c : Int} {x : Sd}, sdAt l c = some x → ∃ hi : sidx l c < l.length, l[sidx l c] = x ∧ x.cell = c
  | [], _, _, h => by simp [sdAt] at h
  | y :: l, c, x, h => by
    unfold sdAt sidx at h
    by_cases hc : y.cell = c
    · rw [if_pos hc] at h
      simp only [List.getElem?_cons_zero, Option.some.injEq] at h
      have e : sidx (y :: l) c = 0 := by simp [sidx, hc]
      refine ⟨by rw [e]; simp, ?_, by rw [← h]; exact hc⟩
      simp only [e, List.getElem_cons_zero]
      exact h
    · rw [if_neg hc] at h
      rw [List.getElem?_cons_succ] at h
      obtain ⟨hi, h1, h2⟩ := sdAt_some (l := l) (c := c) (x := x) h
      have e : sidx (y :: l) c = sidx l c + 1 := by simp [sidx, hc]
      refine ⟨by rw [e]; simpa using hi, ?_, h2⟩
      simp only [e, List.getElem_cons_succ]
      exact h1
theorem sdAt_none : ∀ {l : List Sd} {c : Int}, sdAt l c = none → ∀ x, x ∈ l → x.cell ≠ c
  | [], _, _, x, hx => by simp at hx
  | y :: l, c, h, x, hx => by
    unfold sdAt sidx at h
    by_cases hc : y.cell = c
    · rw [if_pos hc] at h; simp at h
    · rw [if_neg hc, List.getElem?_cons_succ] at h
      rcases List.mem_cons.1 hx with rfl | hx
      · exact hc
      · exact sdAt_none (l := l) h x hx
theorem sdAt_mem {l : List Sd} {c : Int} {x : Sd} (h : sdAt l c = some x) : x ∈ l := by
  obtain ⟨hi, h1, _⟩ := sdAt_some h
  rw [← h1]
  simp
def addL (L : Ld) (c : Int) (req : Bool) (n : Int) : Ld × Int :=
  if c < 0 ∨ 16 ≤ c ∨ n < 0 ∨ 4096 < n then (L, 1)
  else match sdAt L.l c with
    | some _ => (L, 4)
    | none => (⟨L.ep, L.lag, L.acked, L.l.take (spos L.l c) ++ ⟨c, 0, n, req⟩ :: L.l.drop (spos L.l c)⟩, 0)
def requireL (L : Ld) (c : Int) : Ld × Int :=
  match sdAt L.l c with
  | none => (L, 5)
  | some x => (⟨L.ep, L.lag, L.acked, L.l.set (sidx L.l c) ⟨x.cell, x.applied, x.next, true⟩⟩, 0)
def hearS (x : Sd) (m : He) : Sd :=
  if m.ok then ⟨x.cell, max x.applied m.applied, max x.applied m.applied, x.req⟩ else ⟨x.cell, x.applied, max (min x.next m.applied) x.applied, x.req⟩
def hearL (L : Ld) (c : Int) (m : He) : Ld × Bool :=
  match sdAt L.l c with
  | none => (L, false)
  | some x => if m.ep ≠ L.ep ∨ m.applied < 0 ∨ 4096 < m.applied then (L, false) else (⟨L.ep, L.lag, L.acked, L.l.set (sidx L.l c) (hearS x m)⟩, true)
def shipS (ep : Int) (x : Sd) (h : List Ch) : Shp :=
  ⟨ep, min x.next h.length, if min x.next h.length = 0 then 0 else epAt h (min x.next h.length - 1).toNat, (h.drop (min x.next h.length).toNat).take 8⟩
def shipL (L : Ld) (c : Int) (h : List Ch) : Shp × Bool :=
  match sdAt L.l c with
  | none => (⟨0, 0, 0, []⟩, false)
  | some x => (shipS L.ep x h, true)
def ackN (lag : Int) (l : List Sd) (n : Int) : Int := l.foldl (fun n x => if x.req then min n (x.applied + lag) else n) n
def anyR (l : List Sd) : Bool := l.any (·.req)
def ackL (L : Ld) (n : Int) : Ld × Int :=
  if n < 0 ∨ 4096 < n then (L, L.acked)
  else if L.lag = -1 then (⟨L.ep, L.lag, max L.acked n, L.l⟩, max L.acked n)
  else if anyR L.l then (⟨L.ep, L.lag, max L.acked (ackN L.lag L.l n), L.l⟩, max L.acked (ackN L.lag L.l n))
  else (L, L.acked)
def readyL (L : Ld) (c : Int) : Bool := match sdAt L.l c with | none => false | some x => x.req && (decide (L.lag = -1) || decide (L.acked - L.lag ≤ x.applied))
def Sd.vV (x : Sd) : Value := .agg #[.bool x.req, .int .i64 x.applied, .int .i64 x.next]
def Sd.kvV (x : Sd) : Value × Value := (.int .i64 x.cell, x.vV)
theorem look_sd {l : List Sd} (c : Int) : LookM (l.map Sd.kvV) (.int .i64 c) ((sdAt l c).map Sd.vV) := by
  cases h : sdAt l c with
  | some x =>
    refine .inl ⟨x.vV, rfl, List.mem_map.2 ⟨x, sdAt_mem h, ?_⟩⟩
    obtain ⟨_, _, h2⟩ := sdAt_some h
    rw [← h2]
    rfl
  | none =>
    refine .inr ⟨rfl, fun p hp => ?_⟩
    obtain ⟨x, hx, rfl⟩ := List.mem_map.1 hp
    intro he
    injection he with _ he
    exact sdAt_none h x hx he
theorem perm_at {α : Type} {l : List α} {i : Nat} (hi : i < l.length) : l.Perm (l[i] :: (l.take i ++ l.drop (i + 1))) := by
  have e : l = l.take i ++ l[i] :: l.drop (i + 1) := by
    rw [← List.drop_eq_getElem_cons hi, List.take_append_drop]
  conv => lhs; rw [e]
  exact List.perm_middle
theorem set_perm {α : Type} {l : List α} {i : Nat} (hi : i < l.length) (y : α) : (l.set i y).Perm (y :: (l.take i ++ l.drop (i + 1))) := by
  rw [List.set_eq_take_append_cons_drop, if_pos hi]
  exact List.perm_middle
theorem put_sd {l : List Sd} {c : Int} {x : Sd} (h : sdAt l c = some x) (y : Sd) (hy : y.cell = c) : PutM (l.map Sd.kvV) (.int .i64 c) y.vV ((l.set (sidx l c) y).map Sd.kvV) := by
  obtain ⟨hi, h1, h2⟩ := sdAt_some h
  refine .inl ⟨x.vV, (l.take (sidx l c) ++ l.drop (sidx l c + 1)).map Sd.kvV, ?_, ?_⟩
  · have := (perm_at hi).map Sd.kvV
    rw [h1] at this
    rw [List.map_cons] at this
    rw [show ((.int .i64 c, x.vV) : Value × Value) = x.kvV by rw [← h2]; rfl]
    exact this
  · have := (set_perm hi y).map Sd.kvV
    rw [List.map_cons] at this
    rw [show ((.int .i64 c, y.vV) : Value × Value) = y.kvV by rw [← hy]; rfl]
    exact this
theorem put_sd_new {l : List Sd} {c : Int} (h : sdAt l c = none) (y : Sd) (hy : y.cell = c) (i : Nat) : PutM (l.map Sd.kvV) (.int .i64 c) y.vV ((l.take i ++ y :: l.drop i).map Sd.kvV) := by
  refine .inr ⟨fun p hp => ?_, ?_⟩
  · obtain ⟨x, hx, rfl⟩ := List.mem_map.1 hp
    intro he
    injection he with _ he
    exact sdAt_none h x hx he
  · rw [show ((.int .i64 c, y.vV) : Value × Value) = y.kvV by rw [← hy]; rfl, ← List.map_cons]
    refine List.Perm.map _ ?_
    have := List.perm_middle (a := y) (l₁ := l.take i) (l₂ := l.drop i)
    rwa [List.take_append_drop] at this
theorem ackN_perm {lag : Int} {l l' : List Sd} (h : l.Perm l') : ∀ n, ackN lag l n = ackN lag l' n := by
  induction h with
  | nil => intro n; rfl
  | cons x _ ih => intro n; exact ih _
  | swap x y l =>
    intro n
    unfold ackN
    simp only [List.foldl_cons]
    congr 1
    split <;> split <;> first | rfl | (rw [Int.min_assoc, Int.min_assoc, Int.min_comm (y.applied + lag)])
  | trans _ _ ih1 ih2 => intro n; rw [ih1, ih2]
theorem anyR_perm {l l' : List Sd} (h : l.Perm l') : anyR l = anyR l' := by
  unfold anyR
  rw [Bool.eq_iff_iff, List.any_eq_true, List.any_eq_true]
  constructor
  · rintro ⟨x, hx, hr⟩; exact ⟨x, h.mem_iff.1 hx, hr⟩
  · rintro ⟨x, hx, hr⟩; exact ⟨x, h.mem_iff.2 hx, hr⟩
theorem ackN_le (lag : Int) : ∀ (l : List Sd) (n : Int), ackN lag l n ≤ n
  | [], n => Int.le_refl _
  | x :: l, n => by
    have h1 := ackN_le lag l (if x.req then min n (x.applied + lag) else n)
    have h2 : ackN lag (x :: l) n = ackN lag l (if x.req then min n (x.applied + lag) else n) := rfl
    have h3 : (if x.req then min n (x.applied + lag) else n) ≤ n := by split <;> omega
    omega
end Go.Proofs.YtfmnjbhncnldmaaGreat
