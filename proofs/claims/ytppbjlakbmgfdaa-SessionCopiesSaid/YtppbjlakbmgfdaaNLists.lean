/-
  Lists of lists of changes; a counter for each client; changes of different clients.
-/
import Derived.Test.YtppbjlakbmgfdaaNApplies
import Derived.Test.YtppbjlakbmgfdaaZk
namespace Go.Proofs.Ytppbjlakbmgfdaa
open Go.RowKit
set_option linter.unusedSimpArgs false
set_option linter.unusedVariables false
attribute [local irreducible] Res.blk Res.sl Res.all Res.ex Res.pure Res.star

/-- A list of changes where it lies. -/
structure LS where
  A : Option Addr
  c : Nat
  l : List Ch
def LS.cells (x : LS) : List Value := [.slice x.A x.l.length x.c]
theorem LS.row_ok {l : List LS} : ∀ row, row ∈ l.map LS.cells → row.length = 1 ∧ ∀ u, u ∈ row → u.oneCell' = true := by
  intro row hr
  obtain ⟨x, _, rfl⟩ := List.mem_map.1 hr
  exact ⟨rfl, by simp [LS.cells, Value.oneCell']⟩

/-! A counter for each client. -/
def cntC (t : Tab) : List Value := .int .i64 0 :: (List.range 8).map fun i => .int .i64 (t.n i)
theorem cnt_at (t : Tab) {c : Int} (h1 : 1 ≤ c) (h2 : c ≤ 8) (j : Nat) (u : Value) (h : [Value.int .i64 (t.n (c - 1).toNat)][j]? = some u) : (cntC t)[0 + c.toNat * 1 + j]? = some u := by
  obtain ⟨k, rfl⟩ : ∃ k : Nat, c = (k : Int) + 1 := ⟨(c - 1).toNat, by omega⟩
  have e1 : ((k : Int) + 1).toNat = k + 1 := by omega
  have e2 : ((k : Int) + 1 - 1).toNat = k := by omega
  rw [e1]
  rw [e2] at h
  have hk : k < 8 := by omega
  cases j with
  | zero => simp at h; subst h; simp [cntC, hk]
  | succ j => simp at h
theorem cnt_set (t : Tab) (rr : Nat → Rep) {c v : Int} (h1 : 1 ≤ c) (h2 : c ≤ 8) : Z.stv (HasTT.tt (P := Try.prog)) 3 (cntC t) (0 + c.toNat * 1) (.int .i64 v) = some (cntC ⟨upd t.n (c - 1).toNat v, rr⟩) := by
  obtain ⟨k, rfl⟩ : ∃ k : Nat, c = (k : Int) + 1 := ⟨(c - 1).toNat, by omega⟩
  have e1 : ((k : Int) + 1).toNat = k + 1 := by omega
  have e2 : ((k : Int) + 1 - 1).toNat = k := by omega
  rw [e1, e2]
  have hk : k < 8 := by omega
  match k, hk with
  | 0, _ => rfl
  | 1, _ => rfl
  | 2, _ => rfl
  | 3, _ => rfl
  | 4, _ => rfl
  | 5, _ => rfl
  | 6, _ => rfl
  | 7, _ => rfl

/-! Changes of different clients. -/
theorem tApp_apart {t : Tab} {x y : Ch} (hc : x.client ≠ y.client) :
    (tApp (tApp t x).1 y).2 = (tApp t y).2 ∧ (tApp (tApp t y).1 x).2 = (tApp t x).2 ∧ ptEqB (tApp (tApp t x).1 y).1 (tApp (tApp t y).1 x).1 = true := by
  by_cases hx : validB x = true
  · by_cases hy : validB y = true
    · have bx := valid_bounds hx
      have bY := valid_bounds hy
      have hk : ¬ (x.client - 1).toNat = (y.client - 1).toNat := by omega
      have hk' : ¬ (y.client - 1).toNat = (x.client - 1).toNat := by omega
      by_cases nx : x.number = t.n (x.client - 1).toNat + 1
      · by_cases ny : y.number = t.n (y.client - 1).toNat + 1
        · have e1 : tApp t x = (⟨upd t.n (x.client - 1).toNat x.number, upd t.r (x.client - 1).toNat (repOf x)⟩, 0) := by unfold tApp; rw [if_pos hx, if_pos nx]
          have e2 : tApp t y = (⟨upd t.n (y.client - 1).toNat y.number, upd t.r (y.client - 1).toNat (repOf y)⟩, 0) := by unfold tApp; rw [if_pos hy, if_pos ny]
          have e3 : tApp (tApp t x).1 y = (⟨upd (upd t.n (x.client - 1).toNat x.number) (y.client - 1).toNat y.number, upd (upd t.r (x.client - 1).toNat (repOf x)) (y.client - 1).toNat (repOf y)⟩, 0) := by
            rw [e1]; unfold tApp; rw [if_pos hy, if_pos]; simp only [upd]; rw [if_neg hk']; exact ny
          have e4 : tApp (tApp t y).1 x = (⟨upd (upd t.n (y.client - 1).toNat y.number) (x.client - 1).toNat x.number, upd (upd t.r (y.client - 1).toNat (repOf y)) (x.client - 1).toNat (repOf x)⟩, 0) := by
            rw [e2]; unfold tApp; rw [if_pos hx, if_pos]; simp only [upd]; rw [if_neg hk]; exact nx
          rw [e3, e4, e1, e2]
          refine ⟨rfl, rfl, ptEqB_of fun i _ => ?_⟩
          generalize (x.client - 1).toNat = kx at *
          generalize (y.client - 1).toNat = ky at *
          simp only [upd]
          by_cases h1 : i = kx
          · subst h1; simp [hk]
          · simp [h1]
        · have e1 : ∀ f, tApp ⟨upd t.n (x.client - 1).toNat x.number, f⟩ y = (⟨upd t.n (x.client - 1).toNat x.number, f⟩, 32) := fun f => by
            unfold tApp; rw [if_pos hy, if_neg]; simp only [upd]; rw [if_neg hk']; exact ny
          have e2 : tApp t y = (t, 32) := by unfold tApp; rw [if_pos hy, if_neg ny]
          have e3 : tApp t x = (⟨upd t.n (x.client - 1).toNat x.number, upd t.r (x.client - 1).toNat (repOf x)⟩, 0) := by unfold tApp; rw [if_pos hx, if_pos nx]
          rw [e2, e3]
          simp only [e1, e3]
          exact ⟨trivial, trivial, ptEqB_self _⟩
      · have e2 : tApp t x = (t, 32) := by unfold tApp; rw [if_pos hx, if_neg nx]
        by_cases ny : y.number = t.n (y.client - 1).toNat + 1
        · have e1 : ∀ f, tApp ⟨upd t.n (y.client - 1).toNat y.number, f⟩ x = (⟨upd t.n (y.client - 1).toNat y.number, f⟩, 32) := fun f => by
            unfold tApp; rw [if_pos hx, if_neg]; simp only [upd]; rw [if_neg hk]; exact nx
          have e3 : tApp t y = (⟨upd t.n (y.client - 1).toNat y.number, upd t.r (y.client - 1).toNat (repOf y)⟩, 0) := by unfold tApp; rw [if_pos hy, if_pos ny]
          rw [e2, e3]
          simp only [e1, e3]
          exact ⟨trivial, trivial, ptEqB_self _⟩
        · have e3 : tApp t y = (t, 32) := by unfold tApp; rw [if_pos hy, if_neg ny]
          rw [e2, e3]
          simp only [e2, e3]
          exact ⟨trivial, trivial, ptEqB_self _⟩
    · have e : ∀ t, tApp t y = (t, 1) := fun t => by unfold tApp; rw [if_neg hy]
      simp only [e]
      exact ⟨trivial, trivial, ptEqB_self _⟩
  · have e : ∀ t, tApp t x = (t, 1) := fun t => by unfold tApp; rw [if_neg hx]
    simp only [e]
    exact ⟨trivial, trivial, ptEqB_self _⟩
end Go.Proofs.Ytppbjlakbmgfdaa
