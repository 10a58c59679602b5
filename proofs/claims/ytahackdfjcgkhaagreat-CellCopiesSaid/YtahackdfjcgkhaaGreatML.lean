/-
  The mill's small functions: Light and Mod.
  The mill's small functions on changes: Short and Few.
-/
import Derived.Test.YtahackdfjcgkhaaGreatE2
import Derived.Test.YtahackdfjcgkhaaGreatT1
namespace Go.Proofs.YtahackdfjcgkhaaGreat
open Go.RowKit
set_option linter.unusedSimpArgs false
set_option linter.unusedVariables false
attribute [local irreducible] Res.blk Res.sl Res.all Res.ex Res.pure Res.star

theorem lightS_z (A : Option Addr) (n c : Nat) (r : World) (F : List Res) (w : World) (hS : Sep r [] F w) : Calls Tryz.prog 15 #[.slice A n c] w fun e w' => e = .returned (.bool (decide ((n : Int) ≤ 150))) ∧ Sep r [] F w' := by
  refine Z.enter Tryz.func15 Tryz.ntmps15 rfl rfl ?_
  repeat' (first|refine K ?_|(refine Sh.sa hS ?_;clear hS;intro w hS)|(refine K3 ?_;clear hS;intro g w hS hge)|((first|refine GS ?_ ?_|refine VB ?_ ?_)<;>intro hb<;>(try simp only [J1,J2,J3,J4,J5,J6] at hb)<;>(try (exfalso;first|omega|exact hb trivial))))
  refine Dnt Tryz.results15 ?_
  exact ⟨rfl, hS⟩
theorem modS_z (v n : Int) (r : World) (F : List Res) (w : World) (hS : Sep r [] F w) (hn : 1 ≤ n) (hm : n ≤ 4611686018427387904) :
    Calls Tryz.prog 22 #[.int .i64 v, .int .i64 n] w fun e w' => e = .returned (.int .i64 (modN v n)) ∧ Sep r [] F w' := by
  have h1 := Int.lt_tmod_of_pos v (show 0 < n by omega)
  have h2 := Int.tmod_lt_of_pos v (show 0 < n by omega)
  refine Z.enter Tryz.func22 Tryz.ntmps22 rfl rfl ?_
  repeat' (first|refine K ?_|(refine Sh.sa hS ?_;clear hS;intro w hS)|(refine K3 ?_;clear hS;intro g w hS hge)|((first|refine GS ?_ ?_|refine VB ?_ ?_)<;>intro hb<;>(try simp only [J1,J2,J3,J4,J5,J6] at hb)<;>(try (exfalso;first|omega|exact hb trivial))))
  refine Z.rem rfl (by omega) ?_
  repeat' (first|refine K ?_|(refine Sh.sa hS ?_;clear hS;intro w hS)|(refine K3 ?_;clear hS;intro g w hS hge)|((first|refine GS ?_ ?_|refine VB ?_ ?_)<;>intro hb<;>(try simp only [J1,J2,J3,J4,J5,J6] at hb)<;>(try (exfalso;first|omega|exact hb trivial))))
  · refine Dnt Tryz.results22 ?_
    refine ⟨?_, hS⟩
    unfold modN
    rw [if_pos hb]
    rfl
  · refine Dnt Tryz.results22 ?_
    refine ⟨?_, hS⟩
    unfold modN
    rw [if_neg (by omega)]
    rfl
end Go.Proofs.YtahackdfjcgkhaaGreat

namespace Go.Proofs.YtahackdfjcgkhaaGreat
open Go.RowKit
set_option linter.unusedSimpArgs false
set_option linter.unusedVariables false
attribute [local irreducible] Res.blk Res.sl Res.all Res.ex Res.pure Res.star

theorem shortS_z (x : Ch) (r : World) (F : List Res) (w : World) (hS : Sep r [] F w) : Calls Tryz.prog 72 #[x.val] w fun e w' => ∃ b, e = .returned (.bool b) ∧ Sep r [] F w' := by
  refine Z.enter Tryz.func72 Tryz.ntmps72 rfl rfl ?_
  repeat' (first|refine K ?_|(refine Sh.sa hS ?_;clear hS;intro w hS)|(refine K3 ?_;clear hS;intro g w hS hge)|((first|refine GS ?_ ?_|refine VB ?_ ?_)<;>intro hb<;>(try simp only [J1,J2,J3,J4,J5,J6] at hb)<;>(try (exfalso;first|omega|exact hb trivial))))
  all_goals
    refine Dnt Tryz.results72 ?_
    exact ⟨_, rfl, hS.sb⟩
set_option maxHeartbeats 1000000 in
theorem fewS_z (h : List Ch) (v : Value) (k : Int) (r : World) (F : List Res) (w : World) (hS : Sep r [] F w) (hrd : Reads r F 8 v (h.map Ch.cells)) (hk : k ≤ 100000) :
    Calls Tryz.prog 30 #[v, .int .i64 k] w fun e w' => ∃ b, e = .returned (.bool b) ∧ (b = true → (h.length : Int) ≤ k) ∧ Sep r [] F w' := by
  obtain ⟨A, c, rfl, hc⟩ := (hrd [] w hS).mform
  refine Z.enter Tryz.func30 Tryz.ntmps30 rfl rfl ?_
  repeat' (first|refine K ?_|(refine Sh.sa hS ?_;clear hS;intro w hS)|(refine K3 ?_;clear hS;intro g w hS hge)|((first|refine GS ?_ ?_|refine VB ?_ ?_)<;>intro hb<;>(try simp only [J1,J2,J3,J4,J5,J6] at hb)<;>(try (exfalso;first|omega|exact hb trivial))))
  refine Z.lpS [4, 5, 6, 7, 8, 9, 10, 11, 12, 13, 14, 15, 16, 17, 18, 19, 20, 21, 22, 23] (fun m w s => ∃ q : Nat, s = [(5, .int .i64 q)] ∧ q ≤ h.length ∧ m = h.length - q ∧ Sep r [] F w) _ [(5, .int .i64 (0 : Nat))] (by repeat (first | exact trivial | refine ⟨rfl, ?_⟩)) ⟨0, rfl, by omega, rfl, hS⟩ ?_
  clear hS
  rintro m f0 w _ ⟨q, rfl, hq, rfl, hS⟩
  by_cases hlt : q < h.length
  · obtain ⟨gb, o, rfl, _, hra⟩ := (hrd [] w hS).mat (by omega) hlt
    repeat' (first|refine K ?_|(refine Sh.sa hS ?_;clear hS;intro w hS)|(refine K3 ?_;clear hS;intro g w hS hge)|((first|refine GS ?_ ?_|refine VB ?_ ?_)<;>intro hb<;>(try simp only [J1,J2,J3,J4,J5,J6] at hb)<;>(try (exfalso;first|omega|exact hb trivial))))
    · refine Z.eff (Z.cl (shortS_z h[q] _ _ _ hS) rfl ?_) rfl
      clear hS
      rintro e w ⟨b, rfl, hS⟩
      refine ⟨_, rfl, ?_⟩
      repeat' (first|refine K ?_|(refine Sh.sa hS ?_;clear hS;intro w hS)|(refine K3 ?_;clear hS;intro g w hS hge)|((first|refine GS ?_ ?_|refine VB ?_ ?_)<;>intro hb<;>(try simp only [J1,J2,J3,J4,J5,J6] at hb)<;>(try (exfalso;first|omega|exact hb trivial))))
      · refine Dnt Tryz.results30 ?_
        exact ⟨_, rfl, by simp, hS⟩
      · refine Sh.again (h.length - (q + 1)) [(5, .int .i64 (q + 1 : Nat))] ?_
        exact ⟨q + 1, rfl, by omega, rfl, hS⟩
    · refine Dnt Tryz.results30 ?_
      exact ⟨_, rfl, by simp, hS⟩
  · repeat' (first|refine K ?_|(refine Sh.sa hS ?_;clear hS;intro w hS)|(refine K3 ?_;clear hS;intro g w hS hge)|((first|refine GS ?_ ?_|refine VB ?_ ?_)<;>intro hb<;>(try simp only [J1,J2,J3,J4,J5,J6] at hb)<;>(try (exfalso;first|omega|exact hb trivial))))
    refine Dnt Tryz.results30 ?_
    exact ⟨_, rfl, by simp, hS⟩
end Go.Proofs.YtahackdfjcgkhaaGreat
