/-
  The walk of the reference's Apply of a table of sessions.
-/
import Derived.Test.YtabpapdickolgaaTable
import Derived.Deep.DeepFit
namespace Go.Proofs.Ytabpapdickolgaa
open Go.RowKit
set_option linter.unusedSimpArgs false
set_option linter.unusedVariables false

set_option maxHeartbeats 2000000 in
theorem tapply_any (g : Nat) (t : Tab) (x : Ch) (w : World) (hb : Blk w g 112 t.cells) (hok : t.ok) :
    Calls Try.prog 68 #[.pointer (some ⟨g, 0, none⟩), x.val] w fun e w' => e = .returned (.int .i64 (tApp t x).2) ∧ Blk w' g 112 (tApp t x).1.cells ∧ Chg [g] w w' := by
  by_cases hv : validB x = true
  · have hbd := valid_bounds hv
    by_cases hn : x.number = t.n (x.client - 1).toNat + 1
    · have hf : tApp t x = (⟨upd t.n (x.client - 1).toNat x.number, upd t.r (x.client - 1).toNat (repOf x)⟩, 0) := by unfold tApp; rw [if_pos hv, if_pos hn]
      rw [hf]
      clear hf
      have hV := fun W => valid_any x W
      rw [hv] at hV
      have HV := Lib.hid hV
      clear hV hv
      obtain ⟨ep, sq, kd, cl, nu, it, key, val⟩ := x
      dsimp only at hbd hn ⊢
      obtain ⟨_, _, hs1, hs2, hc1, hc2, hn1, hn2⟩ := hbd
      obtain ⟨k, rfl, hk⟩ : ∃ k : Nat, cl = (k : Int) + 1 ∧ k < 8 := ⟨(cl - 1).toNat, by omega, by omega⟩
      rw [show ((k : Int) + 1 - 1).toNat = k by omega] at hn ⊢
      have hn' : (nu != t.n k + 1) = false := by simp; omega
      have ht := hok k
      have hg : g < w.heap.size := hb.lt
      have HN := Lib.hid hn
      clear hn
      simp only [Ch.val, Ch.cells] at HV ⊢
      go_enter Try.func68, Try.ntmps68
      go_wp2_with fail
      refine (HV.out _).mono ?_
      rintro e w2 ⟨rfl, hC⟩
      have hb2 := (hb.alloc _).ext hC
      have hx2 := (Blk.new _ _ _).ext hC
      have hC2 : Chg [] w w2 := ((Chg.refl _ _).alloc _).trans hC
      obtain ⟨x0, x1, x2, x3, x4, x5, x6, x7⟩ := Ch.cells_at hx2
      obtain ⟨⟨re, rq, ri, rv⟩, hR⟩ : ∃ R, t.r k = R := ⟨_, rfl⟩
      obtain ⟨cN, cR0, cR1, cR2, cR3⟩ := Tab.cells_at hb2 hk hR
      have f0 := hb2.frozen k
      have f1 := hb2.frozen (8 + k * 4)
      have f2 := hb2.frozen (8 + k * 4 + 1)
      have f3 := hb2.frozen (8 + k * 4 + 2)
      have f4 := hb2.frozen (8 + k * 4 + 3)
      have HB2 := Lib.hid hb2
      have HC2 := Lib.hid hC2
      have HR := Lib.hid hR
      clear hb2 hx2 hC hC2 hR hb hok HV
      generalize w.heap.size = b at *
      have hgb : g ≠ b := by omega
      have hgb' : b ≠ g := by omega
      have hki : (0 : Int) ≤ (k : Int) := by omega
      have hki' : (k : Int) < 8 := by omega
      go_wp2
      go_quiet (fail)
      go_wp2
      go_region
      go_wp2
      go_region
      by_cases h3 : (kd == 3) = true
      · go_wp2
        go_region
        go_wp2
        go_ret
        have hB := Tab.set_all (HB2.out.drewN (nq + 1)) hk nu ⟨0, sq, it, ⟨#[]⟩⟩
        have hB' := hB.set (8 + k * 4 + 2) (.int .i64 sq)
        rw [Tab.set_item _ _ k hk] at hB'
        have hrep : repOf ⟨ep, sq, kd, (k : Int) + 1, nu, it, key, val⟩ = ⟨0, sq, sq, ⟨#[]⟩⟩ := by simp [repOf, h3]
        rw [hrep]
        dsimp only at hB'
        refine ⟨rfl, ?_, ?_⟩
        · (repeat (with_reducible refine Blk.drew ?_)); exact hB'
        repeat (first | (with_reducible refine Chg.setCell ?_ (.inl (by simp)) _) | (with_reducible refine Chg.drew ?_) | (with_reducible refine Chg.drewN ?_ _))
        exact HC2.out.ext
      · have h3 : (kd == 3) = false := by simpa using h3
        go_wp2
        go_ret
        have hB := Tab.set_all (HB2.out.drewN (nq + 1)) hk nu ⟨0, sq, it, ⟨#[]⟩⟩
        have hrep : repOf ⟨ep, sq, kd, (k : Int) + 1, nu, it, key, val⟩ = ⟨0, sq, it, ⟨#[]⟩⟩ := by simp [repOf, h3]
        rw [hrep]
        dsimp only at hB
        refine ⟨rfl, ?_, ?_⟩
        · (repeat (with_reducible refine Blk.drew ?_)); exact hB
        repeat (first | (with_reducible refine Chg.setCell ?_ (.inl (by simp)) _) | (with_reducible refine Chg.drew ?_) | (with_reducible refine Chg.drewN ?_ _))
        exact HC2.out.ext
    · have hf : tApp t x = (t, 32) := by unfold tApp; rw [if_pos hv, if_neg hn]
      rw [hf]
      clear hf
      have hV := fun W => valid_any x W
      rw [hv] at hV
      have HV := Lib.hid hV
      clear hV hv
      obtain ⟨ep, sq, kd, cl, nu, it, key, val⟩ := x
      dsimp only at hbd hn ⊢
      obtain ⟨_, _, hs1, hs2, hc1, hc2, hn1, hn2⟩ := hbd
      obtain ⟨k, rfl, hk⟩ : ∃ k : Nat, cl = (k : Int) + 1 ∧ k < 8 := ⟨(cl - 1).toNat, by omega, by omega⟩
      rw [show ((k : Int) + 1 - 1).toNat = k by omega] at hn
      have hn' : (nu != t.n k + 1) = true := by simp; omega
      have ht := hok k
      have hg : g < w.heap.size := hb.lt
      clear hn
      simp only [Ch.val, Ch.cells] at HV ⊢
      go_enter Try.func68, Try.ntmps68
      go_wp2_with fail
      refine (HV.out _).mono ?_
      rintro e w2 ⟨rfl, hC⟩
      have hb2 := (hb.alloc _).ext hC
      have hx2 := (Blk.new _ _ _).ext hC
      have hC2 : Chg [] w w2 := ((Chg.refl _ _).alloc _).trans hC
      obtain ⟨x0, x1, x2, x3, x4, x5, x6, x7⟩ := Ch.cells_at hx2
      have cN := hb2.cellv (t.cell_n k hk)
      have HB2 := Lib.hid hb2
      have HC2 := Lib.hid hC2
      clear hb2 hx2 hC hC2 hb hok HV
      generalize w.heap.size = b at *
      have hki : (0 : Int) ≤ (k : Int) := by omega
      have hki' : (k : Int) < 8 := by omega
      go_wp2
      go_quiet (fail)
      go_wp2
      go_ret
      exact ⟨rfl, HB2.out.drewN _, HC2.out.ext.drewN _⟩
  · have hv : validB x = false := by simpa using hv
    have hf : tApp t x = (t, 1) := by unfold tApp; rw [hv]; rfl
    rw [hf]
    clear hf
    have hV := fun W => valid_any x W
    rw [hv] at hV
    have HV := Lib.hid hV
    clear hV hv
    obtain ⟨ep, sq, kd, cl, nu, it, key, val⟩ := x
    simp only [Ch.val, Ch.cells] at HV ⊢
    go_enter Try.func68, Try.ntmps68
    go_wp2_with fail
    refine (HV.out _).mono ?_
    rintro e w2 ⟨rfl, hC⟩
    have hb2 := (hb.alloc _).ext hC
    have hC2 : Chg [] w w2 := ((Chg.refl _ _).alloc _).trans hC
    clear hC hb hok HV
    have HB2 := Lib.hid hb2
    have HC2 := Lib.hid hC2
    clear hb2 hC2
    go_wp2
    go_ret
    exact ⟨rfl, HB2.out, HC2.out.ext⟩

end Go.Proofs.Ytabpapdickolgaa
