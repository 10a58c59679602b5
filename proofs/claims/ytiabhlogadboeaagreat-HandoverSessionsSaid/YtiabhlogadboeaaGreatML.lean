/-
  The mill's small functions: Light and Mod.
  The mill's small functions on changes: Short and Few.
-/
import Derived.Test.YtiabhlogadboeaaGreatE2
import Derived.Test.YtiabhlogadboeaaGreatT1
namespace Go.Proofs.YtiabhlogadboeaaGreat
open Go.RowKit
set_option linter.unusedSimpArgs false
set_option linter.unusedVariables false
attribute [local irreducible] Res.blk Res.sl Res.all Res.ex Res.pure Res.star

theorem lightS_z (A : Option Addr) (n c : Nat) (r : World) (F : List Res) (w : World) (hS : Sep r [] F w) : Calls Tryz.prog 8 #[.slice A n c] w fun e w' => e = .returned (.bool (decide ((n : Int) ≤ 150))) ∧ Sep r [] F w' := by
  refine Z.enter Tryz.func8 Tryz.ntmps8 rfl rfl ?_
  repeat' (first|refine K ?_|(refine Sh.sa hS ?_;clear hS;intro w hS)|(refine K3 ?_;clear hS;intro g w hS hge)|((first|refine GS ?_ ?_|refine VB ?_ ?_)<;>intro hb<;>(try simp only [J1,J2,J3,J4,J5,J6] at hb)<;>(try (exfalso;first|omega|exact hb trivial))))
  refine Dnt Tryz.results8 ?_
  exact ⟨rfl, hS⟩
theorem modS_z (v n : Int) (r : World) (F : List Res) (w : World) (hS : Sep r [] F w) (hn : 1 ≤ n) (hm : n ≤ 4611686018427387904) :
    Calls Tryz.prog 9 #[.int .i64 v, .int .i64 n] w fun e w' => e = .returned (.int .i64 (modN v n)) ∧ Sep r [] F w' := by
  have h1 := Int.lt_tmod_of_pos v (show 0 < n by omega)
  have h2 := Int.tmod_lt_of_pos v (show 0 < n by omega)
  refine Z.enter Tryz.func9 Tryz.ntmps9 rfl rfl ?_
  repeat' (first|refine K ?_|(refine Sh.sa hS ?_;clear hS;intro w hS)|(refine K3 ?_;clear hS;intro g w hS hge)|((first|refine GS ?_ ?_|refine VB ?_ ?_)<;>intro hb<;>(try simp only [J1,J2,J3,J4,J5,J6] at hb)<;>(try (exfalso;first|omega|exact hb trivial))))
  refine Z.rem rfl (by omega) ?_
  repeat' (first|refine K ?_|(refine Sh.sa hS ?_;clear hS;intro w hS)|(refine K3 ?_;clear hS;intro g w hS hge)|((first|refine GS ?_ ?_|refine VB ?_ ?_)<;>intro hb<;>(try simp only [J1,J2,J3,J4,J5,J6] at hb)<;>(try (exfalso;first|omega|exact hb trivial))))
  · refine Dnt Tryz.results9 ?_
    refine ⟨?_, hS⟩
    unfold modN
    rw [if_pos hb]
    rfl
  · refine Dnt Tryz.results9 ?_
    refine ⟨?_, hS⟩
    unfold modN
    rw [if_neg (by omega)]
    rfl
end Go.Proofs.YtiabhlogadboeaaGreat

namespace Go.Proofs.YtiabhlogadboeaaGreat
open Go.RowKit
set_option linter.unusedSimpArgs false
set_option linter.unusedVariables false
attribute [local irreducible] Res.blk Res.sl Res.all Res.ex Res.pure Res.star

end Go.Proofs.YtiabhlogadboeaaGreat
