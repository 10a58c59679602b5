/-
  Truncate, as a function; gates that nothing was given to, or one window.
-/
import Derived.Test.YtiabhlogadboeaaGreatPB
import Derived.Test.YtiabhlogadboeaaGreatNCrP
namespace Go.Proofs.YtiabhlogadboeaaGreat
open Go.RowKit
set_option linter.unusedSimpArgs false
set_option linter.unusedVariables false
attribute [local irreducible] Res.blk Res.sl Res.all Res.ex Res.pure Res.star

theorem Sep.gate1 {r w : World} {F : List Res} {gg : Nat} {cell : Int} (hS : Sep r [] (.blk gg 47 [.int .i64 cell, .int .i64 0, .slice .none 0 0] :: F) w) : Sep r [] (GR gg ⟨cell, 0, []⟩ :: F) w :=
  Sep.GR_open.2 ⟨.none, 0, (Z.nilsl hS 74 5 .none).sub (by repeat (first | exact Sub.rest | exact Sub.nil | exact .skip .rest | exact .skip (.skip .rest) | exact .skip (.skip (.skip .rest)) | apply Sub.keep | refine Sub.cons (by repeat (first | exact At.here | apply At.next)) ?_ | apply Sub.skip))⟩
theorem gave {z : Int} {x : Wi} (h : okW x) (hc : x.cell = z) : giveP ⟨z, 0, []⟩ x = (⟨z, 0, [x]⟩, 0) ∧ giveR ⟨z, 0, []⟩ x = (⟨z, 0, [x]⟩, 0) := by
  unfold giveP giveR
  have : ¬ x.epoch ≤ 0 := by unfold okW at h; omega
  rw [if_pos h, if_pos hc, if_neg this]
  rw [if_pos h, if_pos hc, if_neg this]
  exact ⟨rfl, rfl⟩
theorem Rel.gave {z : Int} {x : Wi} (h : okW x) (hc : x.cell = z) : Rel ⟨z, 0, [x]⟩ ⟨z, 0, [x]⟩ := by
  have h1 := ((Rel.new z).give x).1
  obtain ⟨e1, e2⟩ := Go.Proofs.YtiabhlogadboeaaGreat.gave h hc
  rw [e1, e2] at h1
  exact h1
/-! Truncate, as a function. -/
def truncC (c : Cp) (n : Int) : Cp × Int := if 0 ≤ n ∧ n ≤ c.h.length then (cutC c n.toNat, 0) else (c, 1)
theorem pctrunc_f (g : Nat) (cell ten : Int) (vg : Value) (c : Cp) (n : Int) (r : World) (F : List Res) (w : World) (hS : Sep r [] (PC g cell ten vg c :: F) w) (hg : IsH c.h) :
    Calls Tryz.prog 42 #[.pointer (some ⟨g, 0, .none⟩), .int .i64 n] w fun e w' => e = .returned (.int .i64 (truncC c n).2) ∧ Sep r [] (PC g cell ten vg (truncC c n).1 :: F) w' :=
  (pctrunc_z g cell ten vg c n r F w hS hg).mono fun e w' h => by
    unfold truncC
    rcases h with ⟨h, h1, h2⟩ | ⟨h, h1, h2⟩
    · rw [if_neg h]; exact ⟨h1, h2⟩
    · rw [if_pos h]; exact ⟨h1, h2⟩
theorem rctrunc_f (g : Nat) (cell ten : Int) (vg : Value) (c : Cp) (n : Int) (r : World) (F : List Res) (w : World) (hS : Sep r [] (CR g cell ten vg c :: F) w) (hg : IsH c.h) (hl : c.h.length ≤ 1000) :
    Calls Tryz.prog 46 #[.pointer (some ⟨g, 0, .none⟩), .int .i64 n] w fun e w' => e = .returned (.int .i64 (truncC c n).2) ∧ Sep r [] (CR g cell ten vg (truncC c n).1 :: F) w' :=
  (rctrunc_z g cell ten vg c n r F w hS hg hl).mono fun e w' h => by
    unfold truncC
    rcases h with ⟨h, h1, h2⟩ | ⟨h, h1, h2⟩
    · rw [if_neg h]; exact ⟨h1, h2⟩
    · rw [if_pos h]; exact ⟨h1, h2⟩
theorem CRel.trunc {c c' : Cp} (h : CRel c c') (hc : CG c) (n : Int) : (truncC c' n).2 = (truncC c n).2 ∧ CRel (truncC c n).1 (truncC c' n).1 ∧ CG (truncC c n).1 ∧ (truncC c n).1.h.length ≤ c.h.length := by
  unfold truncC
  rw [h.h]
  split
  · refine ⟨rfl, h.cut hc n.toNat, hc.cut n.toNat, ?_⟩
    have := (hc.isH.take n.toNat).good.2.1
    show (cpOf (c.h.take n.toNat)).h.length ≤ _
    rw [this, List.length_take]
    omega
  · exact ⟨rfl, h, hc, Nat.le_refl _⟩

end Go.Proofs.YtiabhlogadboeaaGreat
