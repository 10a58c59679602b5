import Derived.Deep.DeepFit
import Derived.Test.YtfmnjbhncnldmaaGreatP00
import Derived.Test.YtfmnjbhncnldmaaGreatP31
set_option linter.unusedSimpArgs false
set_option linter.unusedVariables false
namespace Go.Proofs.YtfmnjbhncnldmaaGreat
open Go.RowKit
theorem Tab.pcell_n (t : Tab) (k : Nat) (hk : k < 8) : t.pcells[k * 5]? = some (.int .i64 (t.n k)) := by
  match k, hk with
  | 0, _ => rfl
  | 1, _ => rfl
  | 2, _ => rfl
  | 3, _ => rfl
  | 4, _ => rfl
  | 5, _ => rfl
  | 6, _ => rfl
  | 7, _ => rfl
theorem Tab.pcell_r (t : Tab) (k j : Nat) (hk : k < 8) (hj : j < 4) : t.pcells[k * 5 + 1 + j]? = (t.r k).cells[j]? := by
  match k, hk, j, hj with
  | 0, _, 0, _ | 0, _, 1, _ | 0, _, 2, _ | 0, _, 3, _ => rfl
  | 1, _, 0, _ | 1, _, 1, _ | 1, _, 2, _ | 1, _, 3, _ => rfl
  | 2, _, 0, _ | 2, _, 1, _ | 2, _, 2, _ | 2, _, 3, _ => rfl
  | 3, _, 0, _ | 3, _, 1, _ | 3, _, 2, _ | 3, _, 3, _ => rfl
  | 4, _, 0, _ | 4, _, 1, _ | 4, _, 2, _ | 4, _, 3, _ => rfl
  | 5, _, 0, _ | 5, _, 1, _ | 5, _, 2, _ | 5, _, 3, _ => rfl
  | 6, _, 0, _ | 6, _, 1, _ | 6, _, 2, _ | 6, _, 3, _ => rfl
  | 7, _, 0, _ | 7, _, 1, _ | 7, _, 2, _ | 7, _, 3, _ => rfl
theorem Tab.pcells_at {w : World} {g k : Nat} {T : TypeId} {t : Tab} {e q i : Int} {v : ByteArray} (hb : Blk w g T t.pcells) (hk : k < 8) (hr : t.r k = ⟨e, q, i, v⟩) :
    w.cell? ⟨g, k * 5, none⟩ = some (.int .i64 (t.n k)) ∧ w.cell? ⟨g, k * 5 + 1, none⟩ = some (.int .i64 e) ∧ w.cell? ⟨g, k * 5 + 2, none⟩ = some (.int .i64 q) ∧
    w.cell? ⟨g, k * 5 + 3, none⟩ = some (.int .i64 i) ∧ w.cell? ⟨g, k * 5 + 4, none⟩ = some (.string v) := by
  have h := fun j hj => (hb.cell (k * 5 + 1 + j)).trans (t.pcell_r k j hk hj)
  rw [hr] at h
  exact ⟨hb.cellv (t.pcell_n k hk), h 0 (by omega), h 1 (by omega), h 2 (by omega), h 3 (by omega)⟩
set_option maxHeartbeats 1000000 in
theorem pnew_any (w : World) :
    Calls Tryz.prog 188 #[] w fun e w' => e = .returned (.pointer (some ⟨w.heap.size, 0, none⟩)) ∧ Blk w' w.heap.size 374 Tab.zero.pcells ∧ Chg [] w w' := by
  go_enter Tryz.func188, Tryz.ntmps188
  go_wp2
  go_ret
  exact ⟨rfl, Blk.new _ _ _, (Chg.refl _ _).alloc _⟩
set_option maxHeartbeats 1000000 in
theorem pfind_any (g : Nat) (t : Tab) (cl nu : Int) (w : World) (hb : Blk w g 374 t.pcells) (hok : t.ok) :
    Calls Tryz.prog 197 #[.pointer (some ⟨g, 0, none⟩), .int .i64 cl, .int .i64 nu] w fun e w' => e = .returned (.tuple #[(findB t cl nu).1.val, .int .i64 (findB t cl nu).2]) ∧ Chg [] w w' := by
  by_cases hcl : cl < 1 ∨ 8 < cl ∨ nu < 1 ∨ 1048576 < nu
  · have hf : findB t cl nu = (.zero, 1) := by unfold findB; rw [if_pos hcl]
    rw [hf]
    clear hf hb
    go_enter Tryz.func197, Tryz.ntmps197
    go_wp2
    all_goals (go_returns; exact ⟨rfl, (Chg.refl _ _).alloc _⟩)
  · have hk : ∃ k : Nat, cl = (k : Int) + 1 ∧ k < 8 := ⟨(cl - 1).toNat, by omega, by omega⟩
    obtain ⟨k, rfl, hk⟩ := hk
    have b1 : 1 ≤ nu := by omega
    have b2 : nu ≤ 1048576 := by omega
    have hn := hok k
    obtain ⟨⟨re, rq, ri, rv⟩, hR⟩ : ∃ R, t.r k = R := ⟨_, rfl⟩
    obtain ⟨cN, cR0, cR1, cR2, cR3⟩ := Tab.pcells_at hb hk hR
    have hg : g < w.heap.size := hb.lt
    have hg' : g ≠ w.heap.size := by omega
    have hf : findB t ((k : Int) + 1) nu = if nu = t.n k then (⟨re, rq, ri, rv⟩, 0) else if nu = t.n k + 1 then (.zero, 34) else (.zero, 32) := by
      unfold findB
      rw [if_neg hcl, show ((k : Int) + 1 - 1).toNat = k by omega, hR]
    rw [hf]
    clear hf hb hok hR hcl
    have hk1 : (k : Int) + 1 ≤ 8 := by omega
    have d1 : decide ((8 : Int) < (k : Int) + 1) = false := by simp; omega
    have d2 : decide ((k : Int) + 1 < 1) = false := by simp; omega
    have d3 : decide (nu < 1) = false := by simp; omega
    have d4 : decide (1048576 < nu) = false := by simp; omega
    by_cases h0 : nu = t.n k
    · rw [if_pos h0]
      have h0' : (nu == t.n k) = true := by simp; omega
      have h1' : (nu == t.n k + 1) = false := by simp; omega
      clear h0
      go_enter Tryz.func197, Tryz.ntmps197
      go_wp2
      go_returns
      exact ⟨rfl, ((Chg.refl _ _).alloc _).alloc _⟩
    · rw [if_neg h0]
      have h0' : (nu == t.n k) = false := by simpa using h0
      clear h0
      by_cases h1 : nu = t.n k + 1
      · rw [if_pos h1]
        have h1' : (nu == t.n k + 1) = true := by simpa using h1
        clear h1
        go_enter Tryz.func197, Tryz.ntmps197
        go_wp2
        go_returns
        exact ⟨rfl, ((Chg.refl _ _).alloc _).alloc _⟩
      · rw [if_neg h1]
        have h1' : (nu == t.n k + 1) = false := by simpa using h1
        clear h1
        go_enter Tryz.func197, Tryz.ntmps197
        go_wp2
        go_returns
        exact ⟨rfl, ((Chg.refl _ _).alloc _).alloc _⟩
theorem Tab.pset_n (t : Tab) (k : Nat) (hk : k < 8) (v : Int) : t.pcells.setIfInBounds (k * 5) (.int .i64 v) = Tab.pcells ⟨upd t.n k v, t.r⟩ := by
  match k, hk with
  | 0, _ => rfl
  | 1, _ => rfl
  | 2, _ => rfl
  | 3, _ => rfl
  | 4, _ => rfl
  | 5, _ => rfl
  | 6, _ => rfl
  | 7, _ => rfl
def Tab.pput (cs : Array Value) (k : Nat) (a b c d : Value) : Array Value := (((cs.setIfInBounds (k * 5 + 1) a).setIfInBounds (k * 5 + 2) b).setIfInBounds (k * 5 + 3) c).setIfInBounds (k * 5 + 4) d
theorem Tab.pset_r (t : Tab) (k : Nat) (hk : k < 8) (r : Rep) : Tab.pput t.pcells k (.int .i64 r.err) (.int .i64 r.seq) (.int .i64 r.item) (.string r.value) = Tab.pcells ⟨t.n, upd t.r k r⟩ := by
  match k, hk with
  | 0, _ => rfl
  | 1, _ => rfl
  | 2, _ => rfl
  | 3, _ => rfl
  | 4, _ => rfl
  | 5, _ => rfl
  | 6, _ => rfl
  | 7, _ => rfl
theorem Tab.pset_item (n : Nat → Int) (r : Nat → Rep) (k : Nat) (hk : k < 8) {e q i j : Int} {v : ByteArray} : (Tab.pcells ⟨n, upd r k ⟨e, q, i, v⟩⟩).setIfInBounds (k * 5 + 3) (.int .i64 j) = Tab.pcells ⟨n, upd r k ⟨e, q, j, v⟩⟩ := by
  match k, hk with
  | 0, _ => rfl
  | 1, _ => rfl
  | 2, _ => rfl
  | 3, _ => rfl
  | 4, _ => rfl
  | 5, _ => rfl
  | 6, _ => rfl
  | 7, _ => rfl
theorem Tab.pset_all {w : World} {g k : Nat} {T : TypeId} {t : Tab} (hb : Blk w g T t.pcells) (hk : k < 8) (nu : Int) (r : Rep) :
    Blk (((((w.setCell ⟨g, k * 5, none⟩ (.int .i64 nu)).setCell ⟨g, k * 5 + 1, none⟩ (.int .i64 r.err)).setCell ⟨g, k * 5 + 2, none⟩ (.int .i64 r.seq)).setCell ⟨g, k * 5 + 3, none⟩ (.int .i64 r.item)).setCell ⟨g, k * 5 + 4, none⟩ (.string r.value)) g T
      (Tab.pcells ⟨upd t.n k nu, upd t.r k r⟩) := by
  have h := ((((hb.set (k * 5) (.int .i64 nu)).set (k * 5 + 1) (.int .i64 r.err)).set (k * 5 + 2) (.int .i64 r.seq)).set (k * 5 + 3) (.int .i64 r.item)).set (k * 5 + 4) (.string r.value)
  have e := Tab.pset_r ⟨upd t.n k nu, t.r⟩ k hk r
  unfold Tab.pput at e
  rw [Tab.pset_n t k hk, e] at h
  exact h
theorem valid_item {x : Ch} (h : validB x = true) (h3 : x.kind ≠ 3) (h4 : x.kind ≠ 4) : x.item = 0 := by
  simp only [validB, Bool.and_eq_true] at h
  have hr := h.2.2.2.2
  unfold restB at hr
  repeat' split at hr
  all_goals simp_all
set_option maxHeartbeats 1000000 in
theorem papply_any (g : Nat) (t : Tab) (x : Ch) (w : World) (hb : Blk w g 374 t.pcells) (hok : t.ok) :
    Calls Tryz.prog 279 #[.pointer (some ⟨g, 0, none⟩), x.val] w fun e w' => e = .returned (.int .i64 (tApp t x).2) ∧ Blk w' g 374 (tApp t x).1.pcells ∧ Chg [g] w w' := by
  by_cases hv : validB x = true
  · have hbd := valid_bounds hv
    by_cases hn : x.number = t.n (x.client - 1).toNat + 1
    · have hf : tApp t x = (⟨upd t.n (x.client - 1).toNat x.number, upd t.r (x.client - 1).toNat (repOf x)⟩, 0) := by unfold tApp; rw [if_pos hv, if_pos hn]
      rw [hf]
      clear hf
      have HIT := Lib.hid (valid_item hv)
      have hV := fun W => svalid_any x W
      rw [hv] at hV
      have HV := Lib.hid hV
      clear hV hv
      obtain ⟨ep, sq, kd, cl, nu, it, key, val⟩ := x
      dsimp only at hbd hn ⊢
      obtain ⟨_, _, hs1, hs2, hc1, hc2, hn1, hn2⟩ := hbd
      obtain ⟨k, rfl, hk⟩ : ∃ k : Nat, cl = (k : Int) + 1 ∧ k < 8 := ⟨(cl - 1).toNat, by omega, by omega⟩
      rw [show ((k : Int) + 1 - 1).toNat = k by omega] at hn ⊢
      have hn' : (nu != t.n k + 1) = false := by simp; omega
      have ht := hok k
      have hg : g < w.heap.size := hb.lt
      have HN := Lib.hid hn
      clear hn
      simp only [Ch.val, Ch.cells] at HV ⊢
      go_enter Tryz.func279, Tryz.ntmps279
      go_wp2_with fail
      refine (HV.out _).mono ?_
      rintro e w2 ⟨rfl, hC⟩
      have hb2 := (hb.alloc _).ext hC
      have hx2 := (Blk.new _ _ _).ext hC
      have hC2 : Chg [] w w2 := ((Chg.refl _ _).alloc _).trans hC
      obtain ⟨x0, x1, x2, x3, x4, x5, x6, x7⟩ := Ch.cells_at hx2
      obtain ⟨⟨re, rq, ri, rv⟩, hR⟩ : ∃ R, t.r k = R := ⟨_, rfl⟩
      obtain ⟨cN, cR0, cR1, cR2, cR3⟩ := Tab.pcells_at hb2 hk hR
      have f0 := hb2.frozen (k * 5)
      have f1 := hb2.frozen (k * 5 + 1)
      have f2 := hb2.frozen (k * 5 + 2)
      have f3 := hb2.frozen (k * 5 + 3)
      have f4 := hb2.frozen (k * 5 + 4)
      have HB2 := Lib.hid hb2
      have HC2 := Lib.hid hC2
      have HR := Lib.hid hR
      clear hb2 hx2 hC hC2 hR hb hok HV
      generalize w.heap.size = b at *
      have hgb : g ≠ b := by omega
      have hgb' : b ≠ g := by omega
      have hki : (0 : Int) ≤ (k : Int) := by omega
      have hki' : (k : Int) < 8 := by omega
      go_wp2
      go_quiet (fail)
      generalize nq = n1 at *
      go_wp2
      go_quiet (fail)
      by_cases h3 : (kd == 3) = true
      · have hrep : repOf ⟨ep, sq, kd, (k : Int) + 1, nu, it, key, val⟩ = ⟨0, sq, sq, ⟨#[]⟩⟩ := by simp [repOf, h3]
        have HRP := Lib.hid hrep
        clear hrep
        go_wp2
        go_ret
        have hB := Tab.pset_all (HB2.out.drewN (n1 + nq)) hk nu ⟨0, sq, 0, ⟨#[]⟩⟩
        have hB' := hB.set (k * 5 + 3) (.int .i64 sq)
        rw [Tab.pset_item _ _ k hk] at hB'
        rw [HRP.out]
        dsimp only at hB'
        refine ⟨rfl, ?_, ?_⟩
        · (repeat (with_reducible refine Blk.drew ?_)); exact hB'
        repeat (first | (with_reducible refine Chg.setCell ?_ (.inl (by simp)) _) | (with_reducible refine Chg.drew ?_) | (with_reducible refine Chg.drewN ?_ _))
        exact HC2.out.ext
      · have h3 : (kd == 3) = false := by simpa using h3
        by_cases h4 : (kd == 4) = true
        · have hrep : repOf ⟨ep, sq, kd, (k : Int) + 1, nu, it, key, val⟩ = ⟨0, sq, it, ⟨#[]⟩⟩ := by simp [repOf, h3]
          have HRP := Lib.hid hrep
          clear hrep
          go_wp2
          go_ret
          have hB := Tab.pset_all (HB2.out.drewN (n1 + nq)) hk nu ⟨0, sq, 0, ⟨#[]⟩⟩
          have hB' := hB.set (k * 5 + 3) (.int .i64 it)
          rw [Tab.pset_item _ _ k hk] at hB'
          rw [HRP.out]
          dsimp only at hB'
          refine ⟨rfl, ?_, ?_⟩
          · (repeat (with_reducible refine Blk.drew ?_)); exact hB'
          repeat (first | (with_reducible refine Chg.setCell ?_ (.inl (by simp)) _) | (with_reducible refine Chg.drew ?_) | (with_reducible refine Chg.drewN ?_ _))
          exact HC2.out.ext
        · have h4 : (kd == 4) = false := by simpa using h4
          have hrep : repOf ⟨ep, sq, kd, (k : Int) + 1, nu, it, key, val⟩ = ⟨0, sq, 0, ⟨#[]⟩⟩ := by
            have hit : it = 0 := HIT.out (by simpa using h3) (by simpa using h4)
            simp [repOf, h3, hit]
          have HRP := Lib.hid hrep
          clear hrep
          go_wp2
          go_ret
          have hB := Tab.pset_all (HB2.out.drewN (n1 + nq)) hk nu ⟨0, sq, 0, ⟨#[]⟩⟩
          rw [HRP.out]
          dsimp only at hB
          refine ⟨rfl, ?_, ?_⟩
          · (repeat (with_reducible refine Blk.drew ?_)); exact hB
          repeat (first | (with_reducible refine Chg.setCell ?_ (.inl (by simp)) _) | (with_reducible refine Chg.drew ?_) | (with_reducible refine Chg.drewN ?_ _))
          exact HC2.out.ext
    · have hf : tApp t x = (t, 32) := by unfold tApp; rw [if_pos hv, if_neg hn]
      rw [hf]
      clear hf
      have hV := fun W => svalid_any x W
      rw [hv] at hV
      have HV := Lib.hid hV
      clear hV hv
      obtain ⟨ep, sq, kd, cl, nu, it, key, val⟩ := x
      dsimp only at hbd hn ⊢
      obtain ⟨_, _, hs1, hs2, hc1, hc2, hn1, hn2⟩ := hbd
      obtain ⟨k, rfl, hk⟩ : ∃ k : Nat, cl = (k : Int) + 1 ∧ k < 8 := ⟨(cl - 1).toNat, by omega, by omega⟩
      rw [show ((k : Int) + 1 - 1).toNat = k by omega] at hn
      have hn' : (nu != t.n k + 1) = true := by simp; omega
      have ht := hok k
      have hg : g < w.heap.size := hb.lt
      clear hn
      simp only [Ch.val, Ch.cells] at HV ⊢
      go_enter Tryz.func279, Tryz.ntmps279
      go_wp2_with fail
      refine (HV.out _).mono ?_
      rintro e w2 ⟨rfl, hC⟩
      have hb2 := (hb.alloc _).ext hC
      have hx2 := (Blk.new _ _ _).ext hC
      have hC2 : Chg [] w w2 := ((Chg.refl _ _).alloc _).trans hC
      obtain ⟨x0, x1, x2, x3, x4, x5, x6, x7⟩ := Ch.cells_at hx2
      have cN := hb2.cellv (t.pcell_n k hk)
      have HB2 := Lib.hid hb2
      have HC2 := Lib.hid hC2
      clear hb2 hx2 hC hC2 hb hok HV
      generalize w.heap.size = b at *
      have hki : (0 : Int) ≤ (k : Int) := by omega
      have hki' : (k : Int) < 8 := by omega
      go_wp2
      go_quiet (fail)
      generalize nq = n1 at *
      go_wp2
      go_quiet (fail)
      go_wp2
      go_ret
      exact ⟨rfl, (HB2.out.drewN _).drewN _, (HC2.out.ext.drewN _).drewN _⟩
  · have hv : validB x = false := by simpa using hv
    have hf : tApp t x = (t, 1) := by unfold tApp; rw [hv]; rfl
    rw [hf]
    clear hf
    have hV := fun W => svalid_any x W
    rw [hv] at hV
    have HV := Lib.hid hV
    clear hV hv
    obtain ⟨ep, sq, kd, cl, nu, it, key, val⟩ := x
    simp only [Ch.val, Ch.cells] at HV ⊢
    go_enter Tryz.func279, Tryz.ntmps279
    go_wp2_with fail
    refine (HV.out _).mono ?_
    rintro e w2 ⟨rfl, hC⟩
    have hb2 := (hb.alloc _).ext hC
    have hC2 : Chg [] w w2 := ((Chg.refl _ _).alloc _).trans hC
    clear hC hb hok HV
    have HB2 := Lib.hid hb2
    have HC2 := Lib.hid hC2
    clear hb2 hC2
    go_wp2
    go_ret
    exact ⟨rfl, HB2.out, HC2.out.ext⟩
end Go.Proofs.YtfmnjbhncnldmaaGreat
namespace Go.Proofs.YtfmnjbhncnldmaaGreat
open Go.RowKit
attribute [local irreducible] Res.blk Res.sl Res.all Res.ex Res.pure Res.star
def PT (g : Nat) (t : Tab) : Res := .blk g 374 t.pcells.toList
section
variable {r w : World} {F : List Res} {g : Nat} {t : Tab}
theorem pnew_z (hS : Sep r [] F w) : Calls Tryz.prog 188 #[] w fun e w' => ∃ g, e = .returned (.pointer (some ⟨g, 0, none⟩)) ∧ Sep r [] (PT g .zero :: F) w' := by
  refine (pnew_any w).mono ?_
  rintro e w' ⟨he, hb, hc⟩
  refine ⟨_, he, hS.add (f2 := [w.heap.size]) hc ?_ (by simp) (fun b hb' => by simp at hb'; subst hb'; exact ⟨hb.lt, Nat.le_refl _⟩)⟩
  unfold PT Res.blk
  exact ⟨rfl, hb⟩
theorem pfind_z (cl nu : Int) (R : Rep × Int) (hR : findB t cl nu = R) (hS : Sep r [] (PT g t :: F) w) (hok : t.ok) :
    Calls Tryz.prog 197 #[.pointer (some ⟨g, 0, none⟩), .int .i64 cl, .int .i64 nu] w fun e w' => e = .returned (.tuple #[R.1.val, .int .i64 R.2]) ∧ Sep r [] (PT g t :: F) w' := by
  subst hR
  exact (pfind_any g t cl nu w (Sep.blk hS .here) hok).mono fun _ _ ⟨h1, h2⟩ => ⟨h1, hS.ext h2⟩
theorem papply_z (x : Ch) (R : Tab × Int) (hR : tApp t x = R) (hS : Sep r [] (PT g t :: F) w) (hok : t.ok) :
    Calls Tryz.prog 279 #[.pointer (some ⟨g, 0, none⟩), x.val] w fun e w' => e = .returned (.int .i64 R.2) ∧ Sep r [] (PT g R.1 :: F) w' := by
  subst hR
  exact (papply_any g t x w (Sep.blk hS .here) hok).mono fun _ _ ⟨h1, h2, h3⟩ => ⟨h1, Sep.put hS .here h3 h2⟩
end
theorem pcopy_z (t : Tab) (g : Nat) (r : World) (F : List Res) (w : World) (hS : Sep r [] (PT g t :: F) w) :
    Calls Tryz.prog 284 #[.pointer (some ⟨g, 0, none⟩)] w fun e w' => ∃ g', e = .returned (.pointer (some ⟨g', 0, none⟩)) ∧ Sep r [] (PT g' t :: PT g t :: F) w' := by
  refine Z.enter Tryz.func284 Tryz.ntmps284 rfl rfl ?_
  repeat' (first|refine K ?_|(refine Sh.sa hS ?_;clear hS;intro w hS)|(refine K3 ?_;clear hS;intro g w hS hge)|(refine KB ?_ ?_<;>intro hb<;>(try simp only [JJ] at hb)<;>(try exact JX))|fail)
  refine Dnt Tryz.results284 ?_
  exact ⟨_, rfl, hS⟩
end Go.Proofs.YtfmnjbhncnldmaaGreat
