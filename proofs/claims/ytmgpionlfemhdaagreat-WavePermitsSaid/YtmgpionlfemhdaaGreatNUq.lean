/-
  What the log's entries make of a state: schemas.
-/
import Derived.Test.YtmgpionlfemhdaaGreatNUo
namespace Go.Proofs.YtmgpionlfemhdaaGreat
open Go.RowKit
set_option linter.unusedSimpArgs false
set_option linter.unusedVariables false
attribute [local irreducible] Res.blk Res.sl Res.all Res.ex Res.pure Res.star


set_option maxHeartbeats 4000000 in
theorem expand_z (c : Cfg) (s : Sta) (tA : Option Addr) (tc gk kc : Nat) (r : World) (F : List Res) (w : World) (hS : Sep r [] (.sl 56 12 (.slice tA c.tenants.length tc) (s.tenants.map TS.cells) :: .sl 97 4 (.slice (some ⟨gk, 0, none⟩) c.cells.length kc) (s.cells.map CS.cells) :: F) w) (hs : s.ok c) (ho : c.ok) (a : CAd) (hr : CfR r F c a) :
    Calls Tryz.prog 86 #[c.val a, s.vc c (⟨tA, tc, some ⟨gk, 0, none⟩, kc⟩ : SAd)] w fun ee w' => (∃ er : Int, er ≠ 0 ∧ ee = .returned (noV er) ∧ Sep r [] F w') ∨ ∃ (s' : Sta) (b' : SAd), ee = .returned (yesC s' c b') ∧ s'.ok c ∧ Sep r [] (.sl 56 12 (.slice b'.tA c.tenants.length b'.tc) (s'.tenants.map TS.cells) :: .sl 97 4 (.slice b'.kA c.cells.length b'.kc) (s'.cells.map CS.cells) :: F) w' := by
  have hcl := ho.k
  refine Z.enter Tryz.func86 Tryz.ntmps86 rfl rfl ?_
  repeat' (first|refine K ?_|(refine Sh.sa hS ?_;clear hS;intro w hS)|(refine K3 ?_;clear hS;intro g w hS hge)|((first|refine GS ?_ ?_|refine VB ?_ ?_)<;>intro hb<;>(try simp only [J1,J2,J3,J4,J5,J6] at hb)<;>(try (exfalso;first|omega|exact hb trivial)))|(refine Z.eff (Z.cl (no_z _ _ _ _ hS) rfl ?_) rfl;clear hS;rintro e w ⟨rfl, hS⟩;refine ⟨_, rfl, ?_⟩))
  · first | refine Z.done hS Tryz.results86 (Z.RV.cell rfl (by repeat (first | exact At.here | apply At.next)) rfl (Z.RV.tmp rfl Z.RV.nil)) ?_ | refine Z.doneN hS Tryz.results86 (Z.RV.cell rfl (by repeat (first | exact At.here | apply At.next)) rfl (Z.RV.tmp rfl Z.RV.nil)) ?_
    refine .inl ⟨_, ?_, rfl, hS.sb⟩
    decide
  · first | refine Z.done hS Tryz.results86 (Z.RV.cell rfl (by repeat (first | exact At.here | apply At.next)) rfl (Z.RV.tmp rfl Z.RV.nil)) ?_ | refine Z.doneN hS Tryz.results86 (Z.RV.cell rfl (by repeat (first | exact At.here | apply At.next)) rfl (Z.RV.tmp rfl Z.RV.nil)) ?_
    refine .inl ⟨_, ?_, rfl, hS.sb⟩
    decide
  rename_i gc _ _ gs _ _ _
  rename Nat => gr
  refine Z.lpS [5, 6, 7, 24, 25, 26, 27, 28, 29, 30, 31, 32, 33, 34, 35, 36, 37, 38, 39, 40, 41, 42, 43, 44, 45, 46, 47, 48, 49, 50, 51, 52, 53, 54, 55, 56, 57, 58, 59, 60] (fun mm w z => ∃ (i : Nat), z = [(6, .int .i64 i)] ∧ i ≤ c.cells.length ∧ mm = c.cells.length - i ∧ Sep r [] (.blk gr 34 (Sta.zero.cl SAd.zero) :: .blk gs 34 (s.cc c (⟨tA, tc, some ⟨gk, 0, none⟩, kc⟩ : SAd)) :: .blk gc 30 (c.cl a) :: .sl 56 12 (.slice tA c.tenants.length tc) (s.tenants.map TS.cells) :: .sl 97 4 (.slice (some ⟨gk, 0, none⟩) c.cells.length kc) (s.cells.map CS.cells) :: F) w) _ [(6, .int .i64 (0 : Nat))] (by repeat (first | exact trivial | refine ⟨rfl, ?_⟩)) ⟨0, rfl, by omega, rfl, hS.sb⟩ ?_
  clear hS
  rintro mm f0 w _ ⟨i, rfl, hi, rfl, hS⟩
  by_cases hlt : i < c.cells.length
  · have hlt2 : i < s.cells.length := by rw [hs.kl]; exact hlt
    have hrk := row_at (fc := CS.cells) hS (e := 97) (sz := 4) (g := gk) (by repeat (first | exact At.here | apply At.next)) (by omega) hlt2 rfl
    have hyo := hs.k _ (List.getElem_mem hlt2)
    generalize s.cells[i] = y at *
    have hv1 := hyo.r
    have hv2 := hyo.w
    have hi1 : y.running.toNat < c.versions.length := by omega
    have hi2 : y.wanted.toNat < c.versions.length := by omega
    obtain ⟨gv, ov, hA, _⟩ := reads_v hr [_, _, _, _, _] hS hi1
    repeat' (first|refine K ?_|(refine Sh.sa hS ?_;clear hS;intro w hS)|(refine K3 ?_;clear hS;intro g w hS hge)|((first|refine GS ?_ ?_|refine VB ?_ ?_)<;>intro hb<;>(try simp only [J1,J2,J3,J4,J5,J6] at hb)<;>(try (exfalso;first|omega|exact hb trivial))))
    rename Nat => g7
    have hva1 : ∀ W, Sep r [] (.blk g7 97 y.cells :: .blk gr 34 (Sta.zero.cl SAd.zero) :: .blk gs 34 (s.cc c (⟨tA, tc, some ⟨gk, 0, none⟩, kc⟩ : SAd)) :: .blk gc 30 (c.cl a) :: .sl 56 12 (.slice tA c.tenants.length tc) (s.tenants.map TS.cells) :: .sl 97 4 (.slice (some ⟨gk, 0, none⟩) c.cells.length kc) (s.cells.map CS.cells) :: F) W → W.rangeAt gv (ov + y.running.toNat * 2) (c.versions[y.running.toNat]).cells := fun W hW => at_v hr [_, _, _, _, _, _] hW hA hi1
    have hva2 : ∀ W, Sep r [] (.blk g7 97 y.cells :: .blk gr 34 (Sta.zero.cl SAd.zero) :: .blk gs 34 (s.cc c (⟨tA, tc, some ⟨gk, 0, none⟩, kc⟩ : SAd)) :: .blk gc 30 (c.cl a) :: .sl 56 12 (.slice tA c.tenants.length tc) (s.tenants.map TS.cells) :: .sl 97 4 (.slice (some ⟨gk, 0, none⟩) c.cells.length kc) (s.cells.map CS.cells) :: F) W → W.rangeAt gv (ov + y.wanted.toNat * 2) (c.versions[y.wanted.toNat]).cells := fun W hW => at_v hr [_, _, _, _, _, _] hW hA hi2
    generalize c.versions[y.running.toNat] = v1 at *
    generalize c.versions[y.wanted.toNat] = v2 at *
    refine Z.cut [36, 37, 38, 39, 40, 41, 42, 43, 44, 45, 46, 47, 48, 49, 50, 51, 52, 53, 54, 55, 56, 57] (fun w z => ∃ b : Bool, z = [(57, .bool b)] ∧ Sep r [] (.blk gr 34 (Sta.zero.cl SAd.zero) :: .blk gs 34 (s.cc c (⟨tA, tc, some ⟨gk, 0, none⟩, kc⟩ : SAd)) :: .blk gc 30 (c.cl a) :: .sl 56 12 (.slice tA c.tenants.length tc) (s.tenants.map TS.cells) :: .sl 97 4 (.slice (some ⟨gk, 0, none⟩) c.cells.length kc) (s.cells.map CS.cells) :: F) w) ?_ ?_
    · obtain ⟨zA, zc, kA, kc', tA', tc', vA, vc, rA, rc, oA, oc⟩ := a
      simp only at hA
      subst hA
      refine D.startS hS 22 22 (by kernel_rfl) rfl ?_
      replace hS := hS.drew
      refine Sh.dp 0 1 ?_
      refine Sh.dp 2 5 ?_
      refine Sh.dp 7 133 ?_
      refine Sh.dl 1 135 ?_
      refine Sh.dl 3 143 ?_
      first | refine D.ixn 4 159 rfl D.wantedN (by kernel_rfl) rfl rfl rfl (by omega) ?_ | refine D.ix 4 159 rfl D.wantedN (by kernel_rfl) rfl rfl rfl (by omega) ?_ | refine D.ia 4 159 rfl D.wantedN (by kernel_rfl) rfl rfl rfl (by omega) ?_
      refine Sh.dp 5 191 ?_
      refine D.ldE (q := 1) 6 255 rfl D.wantedN (by kernel_rfl) rfl hva1 rfl ?_
      refine Sh.dl 8 511 ?_
      refine Sh.dp 9 1023 ?_
      refine Sh.dp 10 2047 ?_
      refine D.slot 46 rfl (fun hb => ?_) (fun hb => ?_)
      · (try simp only [decide_eq_true_eq, decide_eq_false_iff_not, Bool.not_eq_true', Bool.not_eq_false', Int.not_lt, Int.not_le] at hb)
        refine D.skF 11 4095 rfl (by kernel_rfl) rfl rfl ?_
        refine D.skF 12 8191 rfl (by kernel_rfl) rfl rfl ?_
        refine D.skF 13 16383 rfl (by kernel_rfl) rfl rfl ?_
        refine D.skF 14 32767 rfl (by kernel_rfl) rfl rfl ?_
        refine D.skF 15 65535 rfl (by kernel_rfl) rfl rfl ?_
        refine D.skF 16 131071 rfl (by kernel_rfl) rfl rfl ?_
        refine D.skF 17 262143 rfl (by kernel_rfl) rfl rfl ?_
        refine D.skF 18 524287 rfl (by kernel_rfl) rfl rfl ?_
        refine D.skF 19 1048575 rfl (by kernel_rfl) rfl rfl ?_
        refine D.skF 20 2097151 rfl (by kernel_rfl) rfl rfl ?_
        refine Sh.dp 21 4194303 ?_
        refine D.done (by kernel_rfl) ?_
        refine Sh.cut [(57, _)] ?_
        exact ⟨_, rfl, hS.sb⟩
      · (try simp only [decide_eq_true_eq, decide_eq_false_iff_not, Bool.not_eq_true', Bool.not_eq_false', Int.not_lt, Int.not_le] at hb)
        refine Sh.dp 11 4095 ?_
        refine Sh.dp 13 12287 ?_
        refine Sh.dp 18 274431 ?_
        refine Sh.dl 12 278527 ?_
        refine Sh.dl 14 294911 ?_
        first | refine D.ixn 15 327679 rfl (D.wantedT rfl rfl) (by kernel_rfl) rfl rfl rfl (by omega) ?_ | refine D.ix 15 327679 rfl (D.wantedT rfl rfl) (by kernel_rfl) rfl rfl rfl (by omega) ?_ | refine D.ia 15 327679 rfl (D.wantedT rfl rfl) (by kernel_rfl) rfl rfl rfl (by omega) ?_
        refine Sh.dp 16 393215 ?_
        refine D.ldE (q := 1) 17 524287 rfl (D.wantedT rfl rfl) (by kernel_rfl) rfl hva2 rfl ?_
        refine Sh.dl 19 1048575 ?_
        refine Sh.dp 20 2097151 ?_
        refine Sh.dp 21 4194303 ?_
        refine D.done (by kernel_rfl) ?_
        refine Sh.cut [(57, _)] ?_
        exact ⟨_, rfl, hS.sb⟩
    clear hS hva1 hva2
    rintro f0 w _ ⟨b, rfl, hS⟩
    cases b
    case true =>
      repeat' (first|refine K ?_|(refine Sh.sa hS ?_;clear hS;intro w hS)|(refine K3 ?_;clear hS;intro g w hS hge)|((first|refine GS ?_ ?_|refine VB ?_ ?_)<;>intro hb<;>(try simp only [J1,J2,J3,J4,J5,J6] at hb)<;>(try (exfalso;first|omega|exact hb trivial)))|(refine Z.eff (Z.cl (no_z _ _ _ _ hS) rfl ?_) rfl;clear hS;rintro e w ⟨rfl, hS⟩;refine ⟨_, rfl, ?_⟩))
      first | refine Z.done hS Tryz.results86 (Z.RV.cell rfl (by repeat (first | exact At.here | apply At.next)) rfl (Z.RV.tmp rfl Z.RV.nil)) ?_ | refine Z.doneN hS Tryz.results86 (Z.RV.cell rfl (by repeat (first | exact At.here | apply At.next)) rfl (Z.RV.tmp rfl Z.RV.nil)) ?_
      refine .inl ⟨_, ?_, rfl, hS.sb⟩
      decide
    repeat' (first|refine K ?_|(refine Sh.sa hS ?_;clear hS;intro w hS)|(refine K3 ?_;clear hS;intro g w hS hge)|((first|refine GS ?_ ?_|refine VB ?_ ?_)<;>intro hb<;>(try simp only [J1,J2,J3,J4,J5,J6] at hb)<;>(try (exfalso;first|omega|exact hb trivial))))
    refine Sh.again (c.cells.length - (i + 1)) [(6, .int .i64 (i + 1 : Nat))] ?_
    exact ⟨i + 1, rfl, by omega, rfl, hS.sb⟩
  repeat' (first|refine Kw ?_|(refine Sh.sa hS ?_;clear hS;intro w hS)|(refine K3 ?_;clear hS;intro g w hS hge)|((first|refine GS ?_ ?_|refine VB ?_ ?_)<;>intro hb<;>(try simp only [J1,J2,J3,J4,J5,J6] at hb)<;>(try (exfalso;first|omega|exact hb trivial))))
  first | refine Z.done hS Tryz.results86 (Z.RV.cell rfl (by repeat (first | exact At.here | apply At.next)) rfl (Z.RV.tmp rfl Z.RV.nil)) ?_ | refine Z.doneN hS Tryz.results86 (Z.RV.cell rfl (by repeat (first | exact At.here | apply At.next)) rfl (Z.RV.tmp rfl Z.RV.nil)) ?_
  exact .inr ⟨{ s with high := IntKind.i64.wrap (s.high + 1) }, (⟨tA, tc, some ⟨gk, 0, none⟩, kc⟩ : SAd), rfl, ⟨hs.tl, hs.kl, hs.t, hs.k⟩, hS.sb⟩
end Go.Proofs.YtmgpionlfemhdaaGreat
