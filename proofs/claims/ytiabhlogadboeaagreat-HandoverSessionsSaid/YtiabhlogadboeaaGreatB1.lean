/-
  The walks of the two tables of sessions: the reference's and the program's.
  The walk of the reference's Apply of a table of sessions.
-/
import Derived.Test.YtiabhlogadboeaaGreatV1
import Derived.BigGuardPart
import Derived.Deep.QuietTactic
import Derived.BigQuiet
import Derived.Deep.RegionHeld3
import Derived.Deep.DeepCutAuto
import Derived.Deep.Light
import Derived.Handy
import Derived.Deep.DeepFit
namespace Go.Proofs.YtiabhlogadboeaaGreat
open Go.RowKit
set_option linter.unusedSimpArgs false
set_option linter.unusedVariables false

/-- A table of sessions: the last number and the last reply of client i + 1. -/
structure Tab where
  n : Nat → Int
  r : Nat → Rep
def Rep.zero : Rep := ⟨0, 0, 0, ⟨#[]⟩⟩
def Tab.zero : Tab := ⟨fun _ => 0, fun _ => .zero⟩
/-- The cells of the reference's table. -/
def Tab.cells (t : Tab) : Array Value := ((List.range 8).map (fun i => Value.int .i64 (t.n i)) ++ (List.range 8).flatMap fun i => (t.r i).cells).toArray
/-- The cells of the program's table. -/
def Tab.pcells (t : Tab) : Array Value := ((List.range 8).flatMap fun i => Value.int .i64 (t.n i) :: (t.r i).cells).toArray
/-- The numbers stand within their bounds. -/
def Tab.ok (t : Tab) : Prop := ∀ i, 0 ≤ t.n i ∧ t.n i ≤ 1048576

theorem Tab.cell_n (t : Tab) (k : Nat) (hk : k < 8) : t.cells[k]? = some (.int .i64 (t.n k)) := by
  match k, hk with
  | 0, _ => rfl
  | 1, _ => rfl
  | 2, _ => rfl
  | 3, _ => rfl
  | 4, _ => rfl
  | 5, _ => rfl
  | 6, _ => rfl
  | 7, _ => rfl
theorem Tab.cell_r (t : Tab) (k j : Nat) (hk : k < 8) (hj : j < 4) : t.cells[8 + k * 4 + j]? = (t.r k).cells[j]? := by
  match k, hk, j, hj with
  | 0, _, 0, _ | 0, _, 1, _ | 0, _, 2, _ | 0, _, 3, _ => rfl
  | 1, _, 0, _ | 1, _, 1, _ | 1, _, 2, _ | 1, _, 3, _ => rfl
  | 2, _, 0, _ | 2, _, 1, _ | 2, _, 2, _ | 2, _, 3, _ => rfl
  | 3, _, 0, _ | 3, _, 1, _ | 3, _, 2, _ | 3, _, 3, _ => rfl
  | 4, _, 0, _ | 4, _, 1, _ | 4, _, 2, _ | 4, _, 3, _ => rfl
  | 5, _, 0, _ | 5, _, 1, _ | 5, _, 2, _ | 5, _, 3, _ => rfl
  | 6, _, 0, _ | 6, _, 1, _ | 6, _, 2, _ | 6, _, 3, _ => rfl
  | 7, _, 0, _ | 7, _, 1, _ | 7, _, 2, _ | 7, _, 3, _ => rfl

/-- What Find answers. -/
def findB (t : Tab) (cl nu : Int) : Rep × Int :=
  if cl < 1 ∨ 8 < cl ∨ nu < 1 ∨ 1048576 < nu then (.zero, 1)
  else if nu = t.n (cl - 1).toNat then (t.r (cl - 1).toNat, 0)
  else if nu = t.n (cl - 1).toNat + 1 then (.zero, 34)
  else (.zero, 32)
def Rep.val (x : Rep) : Value := .agg x.cells.toArray

theorem Tab.cells_at {w : World} {g k : Nat} {T : TypeId} {t : Tab} {e q i : Int} {v : ByteArray} (hb : Blk w g T t.cells) (hk : k < 8) (hr : t.r k = ⟨e, q, i, v⟩) :
    w.cell? ⟨g, k, none⟩ = some (.int .i64 (t.n k)) ∧ w.cell? ⟨g, 8 + k * 4, none⟩ = some (.int .i64 e) ∧ w.cell? ⟨g, 8 + k * 4 + 1, none⟩ = some (.int .i64 q) ∧
    w.cell? ⟨g, 8 + k * 4 + 2, none⟩ = some (.int .i64 i) ∧ w.cell? ⟨g, 8 + k * 4 + 3, none⟩ = some (.string v) := by
  have h := fun j hj => (hb.cell (8 + k * 4 + j)).trans (t.cell_r k j hk hj)
  rw [hr] at h
  exact ⟨hb.cellv (t.cell_n k hk), h 0 (by omega), h 1 (by omega), h 2 (by omega), h 3 (by omega)⟩

def lastB (t : Tab) (cl : Int) : Int := if cl < 1 ∨ 8 < cl then 0 else t.n (cl - 1).toNat

set_option maxHeartbeats 4000000 in
theorem last_any (g : Nat) (t : Tab) (cl : Int) (w : World) (hb : Blk w g 136 t.cells) :
    Calls Tryz.prog 134 #[.pointer (some ⟨g, 0, none⟩), .int .i64 cl] w fun e w' => e = .returned (.int .i64 (lastB t cl)) ∧ w = w' := by
  by_cases hcl : cl < 1 ∨ 8 < cl
  · have hf : lastB t cl = 0 := by unfold lastB; rw [if_pos hcl]
    rw [hf]
    clear hf hb
    go_enter Tryz.func134, Tryz.ntmps134
    go_wp2
    all_goals (go_ret; exact ⟨rfl, rfl⟩)
  · have hk : ∃ k : Nat, cl = (k : Int) + 1 ∧ k < 8 := ⟨(cl - 1).toNat, by omega, by omega⟩
    obtain ⟨k, rfl, hk⟩ := hk
    have cN := hb.cellv (t.cell_n k hk)
    have hf : lastB t ((k : Int) + 1) = t.n k := by
      unfold lastB
      rw [if_neg hcl, show ((k : Int) + 1 - 1).toNat = k by omega]
    rw [hf]
    clear hf hb hcl
    have d1 : decide ((8 : Int) < (k : Int) + 1) = false := by simp; omega
    have d2 : decide ((k : Int) + 1 < 1) = false := by simp; omega
    go_enter Tryz.func134, Tryz.ntmps134
    go_wp2
    go_ret
    exact ⟨rfl, rfl⟩

def upd {α : Type} (f : Nat → α) (k : Nat) (v : α) : Nat → α := fun i => if i = k then v else f i
/-- The reply that a change leaves. -/
def repOf (x : Ch) : Rep := ⟨0, x.seq, if x.kind == 3 then x.seq else x.item, ⟨#[]⟩⟩
/-- What Apply makes of a table, and what it answers. -/
def tApp (t : Tab) (x : Ch) : Tab × Int :=
  if validB x then
    if x.number = t.n (x.client - 1).toNat + 1 then (⟨upd t.n (x.client - 1).toNat x.number, upd t.r (x.client - 1).toNat (repOf x)⟩, 0) else (t, 32)
  else (t, 1)

theorem Tab.set_n (t : Tab) (k : Nat) (hk : k < 8) (v : Int) : t.cells.setIfInBounds k (.int .i64 v) = Tab.cells ⟨upd t.n k v, t.r⟩ := by
  match k, hk with
  | 0, _ => rfl
  | 1, _ => rfl
  | 2, _ => rfl
  | 3, _ => rfl
  | 4, _ => rfl
  | 5, _ => rfl
  | 6, _ => rfl
  | 7, _ => rfl
def Tab.put (cs : Array Value) (k : Nat) (a b c d : Value) : Array Value := (((cs.setIfInBounds (8 + k * 4) a).setIfInBounds (8 + k * 4 + 1) b).setIfInBounds (8 + k * 4 + 2) c).setIfInBounds (8 + k * 4 + 3) d
theorem Tab.set_r (t : Tab) (k : Nat) (hk : k < 8) (r : Rep) : Tab.put t.cells k (.int .i64 r.err) (.int .i64 r.seq) (.int .i64 r.item) (.string r.value) = Tab.cells ⟨t.n, upd t.r k r⟩ := by
  match k, hk with
  | 0, _ => rfl
  | 1, _ => rfl
  | 2, _ => rfl
  | 3, _ => rfl
  | 4, _ => rfl
  | 5, _ => rfl
  | 6, _ => rfl
  | 7, _ => rfl

theorem Tab.set_item (n : Nat → Int) (r : Nat → Rep) (k : Nat) (hk : k < 8) {e q i j : Int} {v : ByteArray} : (Tab.cells ⟨n, upd r k ⟨e, q, i, v⟩⟩).setIfInBounds (8 + k * 4 + 2) (.int .i64 j) = Tab.cells ⟨n, upd r k ⟨e, q, j, v⟩⟩ := by
  match k, hk with
  | 0, _ => rfl
  | 1, _ => rfl
  | 2, _ => rfl
  | 3, _ => rfl
  | 4, _ => rfl
  | 5, _ => rfl
  | 6, _ => rfl
  | 7, _ => rfl
theorem Tab.set_all {w : World} {g k : Nat} {T : TypeId} {t : Tab} (hb : Blk w g T t.cells) (hk : k < 8) (nu : Int) (r : Rep) :
    Blk (((((w.setCell ⟨g, k, none⟩ (.int .i64 nu)).setCell ⟨g, 8 + k * 4, none⟩ (.int .i64 r.err)).setCell ⟨g, 8 + k * 4 + 1, none⟩ (.int .i64 r.seq)).setCell ⟨g, 8 + k * 4 + 2, none⟩ (.int .i64 r.item)).setCell ⟨g, 8 + k * 4 + 3, none⟩ (.string r.value)) g T
      (Tab.cells ⟨upd t.n k nu, upd t.r k r⟩) := by
  have h := ((((hb.set k (.int .i64 nu)).set (8 + k * 4) (.int .i64 r.err)).set (8 + k * 4 + 1) (.int .i64 r.seq)).set (8 + k * 4 + 2) (.int .i64 r.item)).set (8 + k * 4 + 3) (.string r.value)
  have e := Tab.set_r ⟨upd t.n k nu, t.r⟩ k hk r
  unfold Tab.put at e
  rw [Tab.set_n t k hk, e] at h
  exact h

/-- The cells of a change that lies in a block of its own. -/
theorem Ch.cells_at {w : World} {b : Nat} {T : TypeId} {ep sq kd cl nu it : Int} {key val : ByteArray} (hb : Blk w b T #[.int .i64 ep, .int .i64 sq, .int .i64 kd, .int .i64 cl, .int .i64 nu, .int .i64 it, .string key, .string val]) :
    w.cell? ⟨b, 0, none⟩ = some (.int .i64 ep) ∧ w.cell? ⟨b, 1, none⟩ = some (.int .i64 sq) ∧ w.cell? ⟨b, 2, none⟩ = some (.int .i64 kd) ∧ w.cell? ⟨b, 3, none⟩ = some (.int .i64 cl) ∧
    w.cell? ⟨b, 4, none⟩ = some (.int .i64 nu) ∧ w.cell? ⟨b, 5, none⟩ = some (.int .i64 it) ∧ w.cell? ⟨b, 6, none⟩ = some (.string key) ∧ w.cell? ⟨b, 7, none⟩ = some (.string val) :=
  ⟨hb.cell 0, hb.cell 1, hb.cell 2, hb.cell 3, hb.cell 4, hb.cell 5, hb.cell 6, hb.cell 7⟩

theorem valid_bounds {x : Ch} (h : validB x = true) : 1 ≤ x.epoch ∧ x.epoch ≤ 1048576 ∧ 1 ≤ x.seq ∧ x.seq ≤ 4096 ∧ 1 ≤ x.client ∧ x.client ≤ 8 ∧ 1 ≤ x.number ∧ x.number ≤ 1048576 := by
  simp [validB, inB] at h
  omega

end Go.Proofs.YtiabhlogadboeaaGreat

namespace Go.Proofs.YtiabhlogadboeaaGreat
open Go.RowKit
set_option linter.unusedSimpArgs false
set_option linter.unusedVariables false

set_option maxHeartbeats 2000000 in
theorem tapply_any (g : Nat) (t : Tab) (x : Ch) (w : World) (hb : Blk w g 136 t.cells) (hok : t.ok) :
    Calls Tryz.prog 84 #[.pointer (some ⟨g, 0, none⟩), x.val] w fun e w' => e = .returned (.int .i64 (tApp t x).2) ∧ Blk w' g 136 (tApp t x).1.cells ∧ Chg [g] w w' := by
  by_cases hv : validB x = true
  · have hbd := valid_bounds hv
    by_cases hn : x.number = t.n (x.client - 1).toNat + 1
    · have hf : tApp t x = (⟨upd t.n (x.client - 1).toNat x.number, upd t.r (x.client - 1).toNat (repOf x)⟩, 0) := by unfold tApp; rw [if_pos hv, if_pos hn]
      rw [hf]
      clear hf
      have hV := fun W => valid_any x W
      rw [hv] at hV
      have HV := Lib.hid hV
      clear hV hv
      obtain ⟨ep, sq, kd, cl, nu, it, key, val⟩ := x
      dsimp only at hbd hn ⊢
      obtain ⟨_, _, hs1, hs2, hc1, hc2, hn1, hn2⟩ := hbd
      obtain ⟨k, rfl, hk⟩ : ∃ k : Nat, cl = (k : Int) + 1 ∧ k < 8 := ⟨(cl - 1).toNat, by omega, by omega⟩
      rw [show ((k : Int) + 1 - 1).toNat = k by omega] at hn ⊢
      have hn' : (nu != t.n k + 1) = false := by simp; omega
      have ht := hok k
      have hg : g < w.heap.size := hb.lt
      have HN := Lib.hid hn
      clear hn
      simp only [Ch.val, Ch.cells] at HV ⊢
      go_enter Tryz.func84, Tryz.ntmps84
      go_wp2_with fail
      refine (HV.out _).mono ?_
      rintro e w2 ⟨rfl, hC⟩
      have hb2 := (hb.alloc _).ext hC
      have hx2 := (Blk.new _ _ _).ext hC
      have hC2 : Chg [] w w2 := ((Chg.refl _ _).alloc _).trans hC
      obtain ⟨x0, x1, x2, x3, x4, x5, x6, x7⟩ := Ch.cells_at hx2
      obtain ⟨⟨re, rq, ri, rv⟩, hR⟩ : ∃ R, t.r k = R := ⟨_, rfl⟩
      obtain ⟨cN, cR0, cR1, cR2, cR3⟩ := Tab.cells_at hb2 hk hR
      have f0 := hb2.frozen k
      have f1 := hb2.frozen (8 + k * 4)
      have f2 := hb2.frozen (8 + k * 4 + 1)
      have f3 := hb2.frozen (8 + k * 4 + 2)
      have f4 := hb2.frozen (8 + k * 4 + 3)
      have HB2 := Lib.hid hb2
      have HC2 := Lib.hid hC2
      have HR := Lib.hid hR
      clear hb2 hx2 hC hC2 hR hb hok HV
      generalize w.heap.size = b at *
      have hgb : g ≠ b := by omega
      have hgb' : b ≠ g := by omega
      have hki : (0 : Int) ≤ (k : Int) := by omega
      have hki' : (k : Int) < 8 := by omega
      go_wp2
      go_quiet (fail)
      go_wp2
      go_region
      go_wp2
      go_region
      by_cases h3 : (kd == 3) = true
      · go_wp2
        go_region
        go_wp2
        go_ret
        have hB := Tab.set_all (HB2.out.drewN (nq + 1)) hk nu ⟨0, sq, it, ⟨#[]⟩⟩
        have hB' := hB.set (8 + k * 4 + 2) (.int .i64 sq)
        rw [Tab.set_item _ _ k hk] at hB'
        have hrep : repOf ⟨ep, sq, kd, (k : Int) + 1, nu, it, key, val⟩ = ⟨0, sq, sq, ⟨#[]⟩⟩ := by simp [repOf, h3]
        rw [hrep]
        dsimp only at hB'
        refine ⟨rfl, ?_, ?_⟩
        · (repeat (with_reducible refine Blk.drew ?_)); exact hB'
        repeat (first | (with_reducible refine Chg.setCell ?_ (.inl (by simp)) _) | (with_reducible refine Chg.drew ?_) | (with_reducible refine Chg.drewN ?_ _))
        exact HC2.out.ext
      · have h3 : (kd == 3) = false := by simpa using h3
        go_wp2
        go_ret
        have hB := Tab.set_all (HB2.out.drewN (nq + 1)) hk nu ⟨0, sq, it, ⟨#[]⟩⟩
        have hrep : repOf ⟨ep, sq, kd, (k : Int) + 1, nu, it, key, val⟩ = ⟨0, sq, it, ⟨#[]⟩⟩ := by simp [repOf, h3]
        rw [hrep]
        dsimp only at hB
        refine ⟨rfl, ?_, ?_⟩
        · (repeat (with_reducible refine Blk.drew ?_)); exact hB
        repeat (first | (with_reducible refine Chg.setCell ?_ (.inl (by simp)) _) | (with_reducible refine Chg.drew ?_) | (with_reducible refine Chg.drewN ?_ _))
        exact HC2.out.ext
    · have hf : tApp t x = (t, 32) := by unfold tApp; rw [if_pos hv, if_neg hn]
      rw [hf]
      clear hf
      have hV := fun W => valid_any x W
      rw [hv] at hV
      have HV := Lib.hid hV
      clear hV hv
      obtain ⟨ep, sq, kd, cl, nu, it, key, val⟩ := x
      dsimp only at hbd hn ⊢
      obtain ⟨_, _, hs1, hs2, hc1, hc2, hn1, hn2⟩ := hbd
      obtain ⟨k, rfl, hk⟩ : ∃ k : Nat, cl = (k : Int) + 1 ∧ k < 8 := ⟨(cl - 1).toNat, by omega, by omega⟩
      rw [show ((k : Int) + 1 - 1).toNat = k by omega] at hn
      have hn' : (nu != t.n k + 1) = true := by simp; omega
      have ht := hok k
      have hg : g < w.heap.size := hb.lt
      clear hn
      simp only [Ch.val, Ch.cells] at HV ⊢
      go_enter Tryz.func84, Tryz.ntmps84
      go_wp2_with fail
      refine (HV.out _).mono ?_
      rintro e w2 ⟨rfl, hC⟩
      have hb2 := (hb.alloc _).ext hC
      have hx2 := (Blk.new _ _ _).ext hC
      have hC2 : Chg [] w w2 := ((Chg.refl _ _).alloc _).trans hC
      obtain ⟨x0, x1, x2, x3, x4, x5, x6, x7⟩ := Ch.cells_at hx2
      have cN := hb2.cellv (t.cell_n k hk)
      have HB2 := Lib.hid hb2
      have HC2 := Lib.hid hC2
      clear hb2 hx2 hC hC2 hb hok HV
      generalize w.heap.size = b at *
      have hki : (0 : Int) ≤ (k : Int) := by omega
      have hki' : (k : Int) < 8 := by omega
      go_wp2
      go_quiet (fail)
      go_wp2
      go_ret
      exact ⟨rfl, HB2.out.drewN _, HC2.out.ext.drewN _⟩
  · have hv : validB x = false := by simpa using hv
    have hf : tApp t x = (t, 1) := by unfold tApp; rw [hv]; rfl
    rw [hf]
    clear hf
    have hV := fun W => valid_any x W
    rw [hv] at hV
    have HV := Lib.hid hV
    clear hV hv
    obtain ⟨ep, sq, kd, cl, nu, it, key, val⟩ := x
    simp only [Ch.val, Ch.cells] at HV ⊢
    go_enter Tryz.func84, Tryz.ntmps84
    go_wp2_with fail
    refine (HV.out _).mono ?_
    rintro e w2 ⟨rfl, hC⟩
    have hb2 := (hb.alloc _).ext hC
    have hC2 : Chg [] w w2 := ((Chg.refl _ _).alloc _).trans hC
    clear hC hb hok HV
    have HB2 := Lib.hid hb2
    have HC2 := Lib.hid hC2
    clear hb2 hC2
    go_wp2
    go_ret
    exact ⟨rfl, HB2.out, HC2.out.ext⟩

end Go.Proofs.YtiabhlogadboeaaGreat
