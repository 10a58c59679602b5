/-
  The walks of the program's table of sessions: New, Find, Last.
-/
import Derived.Test.YtppbjlakbmgfdaaTabApp
import Derived.Test.YtppbjlakbmgfdaaBig
namespace Go.Proofs.Ytppbjlakbmgfdaa
open Go.RowKit
set_option linter.unusedSimpArgs false
set_option linter.unusedVariables false

theorem Tab.pcell_n (t : Tab) (k : Nat) (hk : k < 8) : t.pcells[k * 5]? = some (.int .i64 (t.n k)) := by
  match k, hk with
  | 0, _ => rfl
  | 1, _ => rfl
  | 2, _ => rfl
  | 3, _ => rfl
  | 4, _ => rfl
  | 5, _ => rfl
  | 6, _ => rfl
  | 7, _ => rfl
theorem Tab.pcell_r (t : Tab) (k j : Nat) (hk : k < 8) (hj : j < 4) : t.pcells[k * 5 + 1 + j]? = (t.r k).cells[j]? := by
  match k, hk, j, hj with
  | 0, _, 0, _ | 0, _, 1, _ | 0, _, 2, _ | 0, _, 3, _ => rfl
  | 1, _, 0, _ | 1, _, 1, _ | 1, _, 2, _ | 1, _, 3, _ => rfl
  | 2, _, 0, _ | 2, _, 1, _ | 2, _, 2, _ | 2, _, 3, _ => rfl
  | 3, _, 0, _ | 3, _, 1, _ | 3, _, 2, _ | 3, _, 3, _ => rfl
  | 4, _, 0, _ | 4, _, 1, _ | 4, _, 2, _ | 4, _, 3, _ => rfl
  | 5, _, 0, _ | 5, _, 1, _ | 5, _, 2, _ | 5, _, 3, _ => rfl
  | 6, _, 0, _ | 6, _, 1, _ | 6, _, 2, _ | 6, _, 3, _ => rfl
  | 7, _, 0, _ | 7, _, 1, _ | 7, _, 2, _ | 7, _, 3, _ => rfl
theorem Tab.pcells_at {w : World} {g k : Nat} {T : TypeId} {t : Tab} {e q i : Int} {v : ByteArray} (hb : Blk w g T t.pcells) (hk : k < 8) (hr : t.r k = ⟨e, q, i, v⟩) :
    w.cell? ⟨g, k * 5, none⟩ = some (.int .i64 (t.n k)) ∧ w.cell? ⟨g, k * 5 + 1, none⟩ = some (.int .i64 e) ∧ w.cell? ⟨g, k * 5 + 2, none⟩ = some (.int .i64 q) ∧
    w.cell? ⟨g, k * 5 + 3, none⟩ = some (.int .i64 i) ∧ w.cell? ⟨g, k * 5 + 4, none⟩ = some (.string v) := by
  have h := fun j hj => (hb.cell (k * 5 + 1 + j)).trans (t.pcell_r k j hk hj)
  rw [hr] at h
  exact ⟨hb.cellv (t.pcell_n k hk), h 0 (by omega), h 1 (by omega), h 2 (by omega), h 3 (by omega)⟩

set_option maxHeartbeats 1000000 in
theorem pnew_any (w : World) :
    Calls Try.prog 17 #[] w fun e w' => e = .returned (.pointer (some ⟨w.heap.size, 0, none⟩)) ∧ Blk w' w.heap.size 100 Tab.zero.pcells ∧ Chg [] w w' := by
  go_enter Try.func17, Try.ntmps17
  go_wp2
  go_ret
  exact ⟨rfl, Blk.new _ _ _, (Chg.refl _ _).alloc _⟩

set_option maxHeartbeats 1000000 in
theorem pfind_any (g : Nat) (t : Tab) (cl nu : Int) (w : World) (hb : Blk w g 100 t.pcells) (hok : t.ok) :
    Calls Try.prog 18 #[.pointer (some ⟨g, 0, none⟩), .int .i64 cl, .int .i64 nu] w fun e w' => e = .returned (.tuple #[(findB t cl nu).1.val, .int .i64 (findB t cl nu).2]) ∧ Chg [] w w' := by
  by_cases hcl : cl < 1 ∨ 8 < cl ∨ nu < 1 ∨ 1048576 < nu
  · have hf : findB t cl nu = (.zero, 1) := by unfold findB; rw [if_pos hcl]
    rw [hf]
    clear hf hb
    go_enter Try.func18, Try.ntmps18
    go_wp2
    all_goals (go_returns; exact ⟨rfl, (Chg.refl _ _).alloc _⟩)
  · have hk : ∃ k : Nat, cl = (k : Int) + 1 ∧ k < 8 := ⟨(cl - 1).toNat, by omega, by omega⟩
    obtain ⟨k, rfl, hk⟩ := hk
    have b1 : 1 ≤ nu := by omega
    have b2 : nu ≤ 1048576 := by omega
    have hn := hok k
    obtain ⟨⟨re, rq, ri, rv⟩, hR⟩ : ∃ R, t.r k = R := ⟨_, rfl⟩
    obtain ⟨cN, cR0, cR1, cR2, cR3⟩ := Tab.pcells_at hb hk hR
    have hg : g < w.heap.size := hb.lt
    have hg' : g ≠ w.heap.size := by omega
    have hf : findB t ((k : Int) + 1) nu = if nu = t.n k then (⟨re, rq, ri, rv⟩, 0) else if nu = t.n k + 1 then (.zero, 34) else (.zero, 32) := by
      unfold findB
      rw [if_neg hcl, show ((k : Int) + 1 - 1).toNat = k by omega, hR]
    rw [hf]
    clear hf hb hok hR hcl
    have hk1 : (k : Int) + 1 ≤ 8 := by omega
    have d1 : decide ((8 : Int) < (k : Int) + 1) = false := by simp; omega
    have d2 : decide ((k : Int) + 1 < 1) = false := by simp; omega
    have d3 : decide (nu < 1) = false := by simp; omega
    have d4 : decide (1048576 < nu) = false := by simp; omega
    by_cases h0 : nu = t.n k
    · rw [if_pos h0]
      have h0' : (nu == t.n k) = true := by simp; omega
      have h1' : (nu == t.n k + 1) = false := by simp; omega
      clear h0
      go_enter Try.func18, Try.ntmps18
      go_wp2
      go_returns
      exact ⟨rfl, ((Chg.refl _ _).alloc _).alloc _⟩
    · rw [if_neg h0]
      have h0' : (nu == t.n k) = false := by simpa using h0
      clear h0
      by_cases h1 : nu = t.n k + 1
      · rw [if_pos h1]
        have h1' : (nu == t.n k + 1) = true := by simpa using h1
        clear h1
        go_enter Try.func18, Try.ntmps18
        go_wp2
        go_returns
        exact ⟨rfl, ((Chg.refl _ _).alloc _).alloc _⟩
      · rw [if_neg h1]
        have h1' : (nu == t.n k + 1) = false := by simpa using h1
        clear h1
        go_enter Try.func18, Try.ntmps18
        go_wp2
        go_returns
        exact ⟨rfl, ((Chg.refl _ _).alloc _).alloc _⟩


set_option maxHeartbeats 1000000 in
theorem plast_any (g : Nat) (t : Tab) (cl : Int) (w : World) (hb : Blk w g 100 t.pcells) :
    Calls Try.prog 22 #[.pointer (some ⟨g, 0, none⟩), .int .i64 cl] w fun e w' => e = .returned (.int .i64 (lastB t cl)) ∧ w = w' := by
  by_cases hcl : cl < 1 ∨ 8 < cl
  · have hf : lastB t cl = 0 := by unfold lastB; rw [if_pos hcl]
    rw [hf]
    clear hf hb
    go_enter Try.func22, Try.ntmps22
    go_wp2
    all_goals (go_ret; exact ⟨rfl, rfl⟩)
  · have hk : ∃ k : Nat, cl = (k : Int) + 1 ∧ k < 8 := ⟨(cl - 1).toNat, by omega, by omega⟩
    obtain ⟨k, rfl, hk⟩ := hk
    have cN := hb.cellv (t.pcell_n k hk)
    have hf : lastB t ((k : Int) + 1) = t.n k := by
      unfold lastB
      rw [if_neg hcl, show ((k : Int) + 1 - 1).toNat = k by omega]
    rw [hf]
    clear hf hb hcl
    have d1 : decide ((8 : Int) < (k : Int) + 1) = false := by simp; omega
    have d2 : decide ((k : Int) + 1 < 1) = false := by simp; omega
    go_enter Try.func22, Try.ntmps22
    go_wp2
    go_ret
    exact ⟨rfl, rfl⟩


end Go.Proofs.Ytppbjlakbmgfdaa
