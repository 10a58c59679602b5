/-
  What the log's entries make of a state: versions of cells.
-/
import Derived.Test.YtmgpionlfemhdaaGreatNUo
namespace Go.Proofs.YtmgpionlfemhdaaGreat
open Go.RowKit
set_option linter.unusedSimpArgs false
set_option linter.unusedVariables false
attribute [local irreducible] Res.blk Res.sl Res.all Res.ex Res.pure Res.star


set_option maxHeartbeats 4000000 in
theorem runs_z (c : Cfg) (s : Sta) (tA : Option Addr) (tc gk kc : Nat) (k m : Nat) (kd tk tn ot ep fr un : Int) (r : World) (F : List Res) (w : World) (hS : Sep r [] (.sl 56 12 (.slice tA c.tenants.length tc) (s.tenants.map TS.cells) :: .sl 97 4 (.slice (some ⟨gk, 0, none⟩) c.cells.length kc) (s.cells.map CS.cells) :: F) w) (hs : s.ok c) (ho : c.ok) (hk : k < c.cells.length) (hm : m < c.versions.length) :
    Calls Tryz.prog 83 #[s.vc c (⟨tA, tc, some ⟨gk, 0, none⟩, kc⟩ : SAd), ((⟨kd, tk, tn, (k : Nat), ot, ep, fr, un, (m : Nat)⟩ : En)).val] w fun ee w' => (∃ er : Int, er ≠ 0 ∧ ee = .returned (noV er) ∧ Sep r [] F w') ∨ ∃ (s' : Sta) (b' : SAd), ee = .returned (yesC s' c b') ∧ s'.ok c ∧ Sep r [] (.sl 56 12 (.slice b'.tA c.tenants.length b'.tc) (s'.tenants.map TS.cells) :: .sl 97 4 (.slice b'.kA c.cells.length b'.kc) (s'.cells.map CS.cells) :: F) w' := by
  have hk2 : k < s.cells.length := by rw [hs.kl]; exact hk
  obtain ⟨y, hy⟩ : ∃ y, s.cells[k]'hk2 = y := ⟨_, rfl⟩
  have hyo : KOk c.versions.length y := by rw [← hy]; exact hs.k _ (List.getElem_mem hk2)
  have htl := ho.t
  refine Z.enter Tryz.func83 Tryz.ntmps83 rfl rfl ?_
  repeat' (first|refine K ?_|(refine Sh.sa hS ?_;clear hS;intro w hS)|(refine K3 ?_;clear hS;intro g w hS hge)|((first|refine GS ?_ ?_|refine VB ?_ ?_)<;>intro hb<;>(try simp only [J1,J2,J3,J4,J5,J6] at hb)<;>(try (exfalso;first|omega|exact hb trivial))))
  rename_i gs _ _ ge _ _
  refine Z.cut [14, 15, 16, 17, 18, 19, 20, 21, 22, 23, 24, 25, 26, 27, 28, 29, 30, 31, 32] (fun w z => ∃ b : Bool, z = [(14, .bool b)] ∧ Sep r [] (.blk g 34 (Sta.zero.cl SAd.zero) :: .blk ge 100 ((⟨kd, tk, tn, (k : Nat), ot, ep, fr, un, (m : Nat)⟩ : En)).cells :: .blk gs 34 (s.cc c (⟨tA, tc, some ⟨gk, 0, none⟩, kc⟩ : SAd)) :: .sl 56 12 (.slice tA c.tenants.length tc) (s.tenants.map TS.cells) :: .sl 97 4 (.slice (some ⟨gk, 0, none⟩) c.cells.length kc) (s.cells.map CS.cells) :: F) w) ?_ ?_
  · refine D.startS hS 19 19 (by kernel_rfl) rfl ?_
    replace hS := hS.drew
    refine Sh.dp 0 1 ?_
    refine Sh.dp 2 5 ?_
    refine Sh.dp 3 13 ?_
    refine Sh.dp 4 29 ?_
    refine Sh.dl 1 31 ?_
    refine D.ldE (q := 2) 5 63 rfl D.wantedN (by kernel_rfl) rfl (fun W hW => row_at (fc := CS.cells) (e := 97) (sz := 4) (g := gk) hW (by repeat (first | exact At.here | apply At.next)) (by omega) hk2 hy) rfl ?_
    first | refine D.pr 6 127 rfl D.wantedN (by kernel_rfl) rfl ?_ | refine D.pl 6 127 rfl D.wantedN (by kernel_rfl) (R.nea rfl rfl rfl rfl) ?_
    refine Sh.dp 7 255 ?_
    refine D.slot 22 rfl (fun hb => ?_) (fun hb => ?_)
    · (try simp only [decide_eq_true_eq, decide_eq_false_iff_not, Bool.not_eq_true', Bool.not_eq_false', Int.not_lt, Int.not_le] at hb)
      refine D.skF 8 511 rfl (by kernel_rfl) rfl rfl ?_
      refine D.skF 9 1023 rfl (by kernel_rfl) rfl rfl ?_
      refine D.skF 10 2047 rfl (by kernel_rfl) rfl rfl ?_
      refine D.skF 11 4095 rfl (by kernel_rfl) rfl rfl ?_
      refine D.skF 12 8191 rfl (by kernel_rfl) rfl rfl ?_
      refine D.skF 13 16383 rfl (by kernel_rfl) rfl rfl ?_
      refine D.skF 14 32767 rfl (by kernel_rfl) rfl rfl ?_
      refine D.skF 15 65535 rfl (by kernel_rfl) rfl rfl ?_
      refine D.skF 16 131071 rfl (by kernel_rfl) rfl rfl ?_
      refine Sh.dp 17 262143 ?_
      refine Sh.dp 18 524287 ?_
      refine D.done (by kernel_rfl) ?_
      refine Sh.cut [(14, _)] ?_
      exact ⟨_, rfl, hS.sb⟩
    · (try simp only [decide_eq_true_eq, decide_eq_false_iff_not, Bool.not_eq_true', Bool.not_eq_false', Int.not_lt, Int.not_le] at hb)
      refine Sh.dp 8 511 ?_
      refine Sh.dp 9 1023 ?_
      refine Sh.dp 10 2047 ?_
      refine Sh.dp 12 6143 ?_
      refine Sh.dp 13 14335 ?_
      refine Sh.dp 14 30719 ?_
      refine D.ldE (q := 1) 11 32767 rfl (D.wantedT rfl rfl) (by kernel_rfl) rfl (fun W hW => row_at (fc := CS.cells) (e := 97) (sz := 4) (g := gk) hW (by repeat (first | exact At.here | apply At.next)) (by omega) hk2 hy) rfl ?_
      refine D.ldE (q := 2) 15 65535 rfl (D.wantedT rfl rfl) (by kernel_rfl) rfl (fun W hW => row_at (fc := CS.cells) (e := 97) (sz := 4) (g := gk) hW (by repeat (first | exact At.here | apply At.next)) (by omega) hk2 hy) rfl ?_
      first | refine D.pr 16 131071 rfl (D.wantedT rfl rfl) (by kernel_rfl) rfl ?_ | refine D.pl 16 131071 rfl (D.wantedT rfl rfl) (by kernel_rfl) (R.eqa rfl rfl rfl rfl) ?_
      refine Sh.dp 17 262143 ?_
      refine Sh.dp 18 524287 ?_
      refine D.done (by kernel_rfl) ?_
      refine Sh.cut [(14, _)] ?_
      exact ⟨_, rfl, hS.sb⟩
  clear hS
  rintro f0 w _ ⟨b, rfl, hS⟩
  cases b
  case true =>
    repeat' (first|refine K ?_|(refine Sh.sa hS ?_;clear hS;intro w hS)|(refine K3 ?_;clear hS;intro g w hS hge)|((first|refine GS ?_ ?_|refine VB ?_ ?_)<;>intro hb<;>(try simp only [J1,J2,J3,J4,J5,J6] at hb)<;>(try (exfalso;first|omega|exact hb trivial)))|(refine Z.eff (Z.cl (no_z _ _ _ _ hS) rfl ?_) rfl;clear hS;rintro e w ⟨rfl, hS⟩;refine ⟨_, rfl, ?_⟩))
    first | refine Z.done hS Tryz.results83 (Z.RV.cell rfl (by repeat (first | exact At.here | apply At.next)) rfl (Z.RV.tmp rfl Z.RV.nil)) ?_ | refine Z.doneN hS Tryz.results83 (Z.RV.cell rfl (by repeat (first | exact At.here | apply At.next)) rfl (Z.RV.tmp rfl Z.RV.nil)) ?_
    refine .inl ⟨_, ?_, rfl, hS.sb⟩
    decide
  refine Z.brF rfl ?_
  refine Z.seq ?_
  refine Z.cut [36, 37, 38, 39, 40, 41, 42, 43, 44, 45, 46] (fun w z => ∃ b : Bool, z = [(36, .bool b)] ∧ Sep r [] (.blk g 34 (Sta.zero.cl SAd.zero) :: .blk ge 100 ((⟨kd, tk, tn, (k : Nat), ot, ep, fr, un, (m : Nat)⟩ : En)).cells :: .blk gs 34 (s.cc c (⟨tA, tc, some ⟨gk, 0, none⟩, kc⟩ : SAd)) :: .sl 56 12 (.slice tA c.tenants.length tc) (s.tenants.map TS.cells) :: .sl 97 4 (.slice (some ⟨gk, 0, none⟩) c.cells.length kc) (s.cells.map CS.cells) :: F) w) ?_ ?_
  · repeat' (first|refine K ?_|(refine Sh.sa hS ?_;clear hS;intro w hS)|(refine K3 ?_;clear hS;intro g w hS hge)|((first|refine GS ?_ ?_|refine VB ?_ ?_)<;>intro hb<;>(try simp only [J1,J2,J3,J4,J5,J6] at hb)<;>(try (exfalso;first|omega|exact hb trivial))))
    refine Z.eff (Z.cl (proven_c c s (⟨tA, tc, some ⟨gk, 0, none⟩, kc⟩ : SAd) _ _ _ _ hS hs) rfl ?_) rfl
    clear hS
    rintro e w ⟨b, rfl, hS⟩
    refine ⟨_, rfl, ?_⟩
    repeat' (first|refine K ?_|(refine Sh.sa hS ?_;clear hS;intro w hS)|(refine K3 ?_;clear hS;intro g w hS hge)|((first|refine GS ?_ ?_|refine VB ?_ ?_)<;>intro hb<;>(try simp only [J1,J2,J3,J4,J5,J6] at hb)<;>(try (exfalso;first|omega|exact hb trivial))))
    all_goals
      refine Sh.cut [(36, _)] ?_
      exact ⟨_, rfl, hS.sb⟩
  clear hS
  rintro f0 w _ ⟨b, rfl, hS⟩
  cases b
  case true =>
    repeat' (first|refine K ?_|(refine Sh.sa hS ?_;clear hS;intro w hS)|(refine K3 ?_;clear hS;intro g w hS hge)|((first|refine GS ?_ ?_|refine VB ?_ ?_)<;>intro hb<;>(try simp only [J1,J2,J3,J4,J5,J6] at hb)<;>(try (exfalso;first|omega|exact hb trivial)))|(refine Z.eff (Z.cl (no_z _ _ _ _ hS) rfl ?_) rfl;clear hS;rintro e w ⟨rfl, hS⟩;refine ⟨_, rfl, ?_⟩))
    first | refine Z.done hS Tryz.results83 (Z.RV.cell rfl (by repeat (first | exact At.here | apply At.next)) rfl (Z.RV.tmp rfl Z.RV.nil)) ?_ | refine Z.doneN hS Tryz.results83 (Z.RV.cell rfl (by repeat (first | exact At.here | apply At.next)) rfl (Z.RV.tmp rfl Z.RV.nil)) ?_
    refine .inl ⟨_, ?_, rfl, hS.sb⟩
    decide
  repeat' (first|refine K ?_|(refine Sh.sa hS ?_;clear hS;intro w hS)|(refine K3 ?_;clear hS;intro g w hS hge)|((first|refine GS ?_ ?_|refine VB ?_ ?_)<;>intro hb<;>(try simp only [J1,J2,J3,J4,J5,J6] at hb)<;>(try (exfalso;first|omega|exact hb trivial))))
  refine Z.lpS [5, 7, 8, 50, 51, 52, 53, 54, 55, 56, 57, 58, 59, 60, 61, 62, 63, 64, 65, 66, 67, 68, 69, 70, 71, 72, 73, 74, 75, 76, 77] (fun mm w z => ∃ (i : Nat), z = [(7, .int .i64 i)] ∧ i ≤ c.tenants.length ∧ mm = c.tenants.length - i ∧ Sep r [] (.blk g 34 (Sta.zero.cl SAd.zero) :: .blk ge 100 ((⟨kd, tk, tn, (k : Nat), ot, ep, fr, un, (m : Nat)⟩ : En)).cells :: .blk gs 34 (s.cc c (⟨tA, tc, some ⟨gk, 0, none⟩, kc⟩ : SAd)) :: .sl 56 12 (.slice tA c.tenants.length tc) (s.tenants.map TS.cells) :: .sl 97 4 (.slice (some ⟨gk, 0, none⟩) c.cells.length kc) (s.cells.map CS.cells) :: F) w) _ [(7, .int .i64 (0 : Nat))] (by repeat (first | exact trivial | refine ⟨rfl, ?_⟩)) ⟨0, rfl, by omega, rfl, hS.sb⟩ ?_
  clear hS
  rintro mm f0 w _ ⟨i, rfl, hi, rfl, hS⟩
  by_cases hlt : i < c.tenants.length
  · have hlt2 : i < s.tenants.length := by rw [hs.tl]; exact hlt
    obtain ⟨gb, hA⟩ := Z.Sep_slform hS (e := 56) (sz := 12) (c := tc) (A := tA) (rows := s.tenants.map TS.cells) (n0 := c.tenants.length) (by repeat (first | exact At.here | apply At.next)) (by rw [List.length_map]; omega)
    subst hA
    have hrt := row_at (fc := TS.cells) hS (e := 56) (sz := 12) (g := gb) (by repeat (first | exact At.here | apply At.next)) (by omega) hlt2 rfl
    generalize s.tenants[i] = x at *
    repeat' (first|refine K ?_|(refine Sh.sa hS ?_;clear hS;intro w hS)|(refine K3 ?_;clear hS;intro g w hS hge)|((first|refine GS ?_ ?_|refine VB ?_ ?_)<;>intro hb<;>(try simp only [J1,J2,J3,J4,J5,J6] at hb)<;>(try (exfalso;first|omega|exact hb trivial)))|(refine Z.eff (Z.cl (no_z _ _ _ _ hS) rfl ?_) rfl;clear hS;rintro e w ⟨rfl, hS⟩;refine ⟨_, rfl, ?_⟩))
    · first | refine Z.done hS Tryz.results83 (Z.RV.cell rfl (by repeat (first | exact At.here | apply At.next)) rfl (Z.RV.tmp rfl Z.RV.nil)) ?_ | refine Z.doneN hS Tryz.results83 (Z.RV.cell rfl (by repeat (first | exact At.here | apply At.next)) rfl (Z.RV.tmp rfl Z.RV.nil)) ?_
      refine .inl ⟨_, ?_, rfl, hS.sb⟩
      decide
    all_goals
      refine Sh.again (c.tenants.length - (i + 1)) [(7, .int .i64 (i + 1 : Nat))] ?_
      exact ⟨i + 1, rfl, by omega, rfl, hS.sb⟩
  repeat' (first|refine K ?_|(refine Sh.sa hS ?_;clear hS;intro w hS)|(refine K3 ?_;clear hS;intro g w hS hge)|((first|refine GS ?_ ?_|refine VB ?_ ?_)<;>intro hb<;>(try simp only [J1,J2,J3,J4,J5,J6] at hb)<;>(try (exfalso;first|omega|exact hb trivial))))
  refine D.startS (Lr := [.blk ge 100 ((⟨kd, tk, tn, (k : Nat), ot, ep, fr, un, (m : Nat)⟩ : En)).cells]) (hS.sb) 11 12 (by kernel_rfl) rfl ?_
  replace hS := hS.drew
  refine Sh.dp 0 1 ?_
  refine Sh.dp 1 3 ?_
  refine Sh.dp 2 7 ?_
  refine Sh.dp 4 23 ?_
  refine Sh.dl 3 31 ?_
  refine Sh.dp 6 95 ?_
  refine Sh.dp 7 223 ?_
  refine Sh.dl 5 255 ?_
  refine D.eff 8 511 rfl D.wantedN (by kernel_rfl) (by kernel_rfl) (fun _ _ h => h) ?_
  rw [set_self hk2 hy] at hS
  refine Z.stK (y0 := y) (j := 1) ({ y with running := (m : Int) } : CS) hS rfl (by repeat (first | exact At.here | apply At.next)) hk2 rfl rfl rfl (by omega) rfl ?_
  clear hS; intro w hS
  refine ⟨HM.s (hS.sb), ?_⟩
  refine Sh.dp 9 1023 ?_
  refine Sh.dp 10 2047 ?_
  refine D.eff 11 4095 rfl D.wantedN (by kernel_rfl) (by kernel_rfl) (fun _ _ h => h) ?_
  refine Z.stK (y0 := { y with running := (m : Int) }) (j := 3) ({ y with running := (m : Int), since := tk } : CS) hS rfl (by repeat (first | exact At.here | apply At.next)) hk2 rfl rfl rfl (by omega) rfl ?_
  clear hS; intro w hS
  refine ⟨HM.last (by kernel_rfl), ?_⟩
  refine D.done (by kernel_rfl) ?_
  repeat' (first|refine K ?_|(refine Sh.sa hS ?_;clear hS;intro w hS)|(refine K3 ?_;clear hS;intro g w hS hge)|((first|refine GS ?_ ?_|refine VB ?_ ?_)<;>intro hb<;>(try simp only [J1,J2,J3,J4,J5,J6] at hb)<;>(try (exfalso;first|omega|exact hb trivial))))
  first | refine Z.done hS Tryz.results83 (Z.RV.cell rfl (by repeat (first | exact At.here | apply At.next)) rfl (Z.RV.tmp rfl Z.RV.nil)) ?_ | refine Z.doneN hS Tryz.results83 (Z.RV.cell rfl (by repeat (first | exact At.here | apply At.next)) rfl (Z.RV.tmp rfl Z.RV.nil)) ?_
  exact .inr ⟨{ s with cells := s.cells.set k { y with running := (m : Int), since := tk } }, (⟨tA, tc, some ⟨gk, 0, none⟩, kc⟩ : SAd), rfl, hs.setK (x := { y with running := (m : Int), since := tk }) ⟨⟨by show (0 : Int) ≤ m; omega, by show (m : Int) < _; omega⟩, hyo.w⟩ k, hS.sb⟩
set_option maxHeartbeats 4000000 in
theorem prove_z (c : Cfg) (s : Sta) (tA : Option Addr) (tc gk kc : Nat) (m : Nat) (kd tk tn ce ot ep fr un : Int) (r : World) (F : List Res) (w : World) (hS : Sep r [] (.sl 56 12 (.slice tA c.tenants.length tc) (s.tenants.map TS.cells) :: .sl 97 4 (.slice (some ⟨gk, 0, none⟩) c.cells.length kc) (s.cells.map CS.cells) :: F) w) (hs : s.ok c) (ho : c.ok) (a : CAd) :
    Calls Tryz.prog 84 #[c.val a, s.vc c (⟨tA, tc, some ⟨gk, 0, none⟩, kc⟩ : SAd), ((⟨kd, tk, tn, ce, ot, ep, fr, un, (m : Nat)⟩ : En)).val] w fun ee w' => (∃ er : Int, er ≠ 0 ∧ ee = .returned (noV er) ∧ Sep r [] F w') ∨ ∃ (s' : Sta) (b' : SAd), ee = .returned (yesC s' c b') ∧ s'.ok c ∧ Sep r [] (.sl 56 12 (.slice b'.tA c.tenants.length b'.tc) (s'.tenants.map TS.cells) :: .sl 97 4 (.slice b'.kA c.cells.length b'.kc) (s'.cells.map CS.cells) :: F) w' := by
  have hcl := ho.k
  have hu : 0 ≤ IntKind.u64.wrap (m : Int) := by
    simp [IntKind.wrap, IntKind.signed, IntKind.bits]
    omega
  refine Z.enter Tryz.func84 Tryz.ntmps84 rfl rfl ?_
  repeat' (first|refine K ?_|(refine Sh.sa hS ?_;clear hS;intro w hS)|(refine K3 ?_;clear hS;intro g w hS hge)|((first|refine GS ?_ ?_|refine VB ?_ ?_)<;>intro hb<;>(try simp only [J1,J2,J3,J4,J5,J6] at hb)<;>(try (exfalso;first|omega|exact hb trivial))))
  rename_i gc _ _ gs _ _ ge _ _
  rename Nat => gr
  refine Z.eff (Z.cl (proven_c c s (⟨tA, tc, some ⟨gk, 0, none⟩, kc⟩ : SAd) _ _ _ _ hS hs) rfl ?_) rfl
  clear hS
  rintro e w ⟨b, rfl, hS⟩
  refine ⟨_, rfl, ?_⟩
  cases b
  case true =>
    repeat' (first|refine K ?_|(refine Sh.sa hS ?_;clear hS;intro w hS)|(refine K3 ?_;clear hS;intro g w hS hge)|((first|refine GS ?_ ?_|refine VB ?_ ?_)<;>intro hb<;>(try simp only [J1,J2,J3,J4,J5,J6] at hb)<;>(try (exfalso;first|omega|exact hb trivial)))|(refine Z.eff (Z.cl (no_z _ _ _ _ hS) rfl ?_) rfl;clear hS;rintro e w ⟨rfl, hS⟩;refine ⟨_, rfl, ?_⟩))
    first | refine Z.done hS Tryz.results84 (Z.RV.cell rfl (by repeat (first | exact At.here | apply At.next)) rfl (Z.RV.tmp rfl Z.RV.nil)) ?_ | refine Z.doneN hS Tryz.results84 (Z.RV.cell rfl (by repeat (first | exact At.here | apply At.next)) rfl (Z.RV.tmp rfl Z.RV.nil)) ?_
    refine .inl ⟨_, ?_, rfl, hS.sb⟩
    decide
  repeat' (first|refine K ?_|(refine Sh.sa hS ?_;clear hS;intro w hS)|(refine K3 ?_;clear hS;intro g w hS hge)|((first|refine GS ?_ ?_|refine VB ?_ ?_)<;>intro hb<;>(try simp only [J1,J2,J3,J4,J5,J6] at hb)<;>(try (exfalso;first|omega|exact hb trivial))))
  refine Z.lpS [7, 8, 9, 17, 18, 19, 20, 21, 22, 23, 24, 25, 26, 27, 28, 29, 30, 31, 32, 33, 34, 35, 36, 37, 38, 39, 40, 41, 42, 43, 44, 45, 46, 47, 48, 49, 50, 51, 52, 53, 54, 55, 56, 57, 58, 59, 60, 61, 62, 63, 64] (fun mm w z => ∃ (i : Nat), z = [(8, .int .i64 i)] ∧ i ≤ c.cells.length ∧ mm = c.cells.length - i ∧ Sep r [] (.blk gr 34 (Sta.zero.cl SAd.zero) :: .blk ge 100 ((⟨kd, tk, tn, ce, ot, ep, fr, un, (m : Nat)⟩ : En)).cells :: .blk gs 34 (s.cc c (⟨tA, tc, some ⟨gk, 0, none⟩, kc⟩ : SAd)) :: .blk gc 30 (c.cl a) :: .sl 56 12 (.slice tA c.tenants.length tc) (s.tenants.map TS.cells) :: .sl 97 4 (.slice (some ⟨gk, 0, none⟩) c.cells.length kc) (s.cells.map CS.cells) :: F) w) _ [(8, .int .i64 (0 : Nat))] (by repeat (first | exact trivial | refine ⟨rfl, ?_⟩)) ⟨0, rfl, by omega, rfl, hS.sb⟩ ?_
  clear hS
  rintro mm f0 w _ ⟨i, rfl, hi, rfl, hS⟩
  by_cases hlt : i < c.cells.length
  · have hlt2 : i < s.cells.length := by rw [hs.kl]; exact hlt
    have hrk := row_at (fc := CS.cells) hS (e := 97) (sz := 4) (g := gk) (by repeat (first | exact At.here | apply At.next)) (by omega) hlt2 rfl
    generalize s.cells[i] = y at *
    repeat' (first|refine Kw ?_|(refine Sh.sa hS ?_;clear hS;intro w hS)|(refine K3 ?_;clear hS;intro g w hS hge)|((first|refine GS ?_ ?_|refine VB ?_ ?_)<;>intro hb<;>(try simp only [J1,J2,J3,J4,J5,J6] at hb)<;>(try (exfalso;first|omega|exact hb trivial))))
    · first | refine Z.done hS Tryz.results84 (Z.RV.cell rfl (by repeat (first | exact At.here | apply At.next)) rfl (Z.RV.tmp rfl Z.RV.nil)) ?_ | refine Z.doneN hS Tryz.results84 (Z.RV.cell rfl (by repeat (first | exact At.here | apply At.next)) rfl (Z.RV.tmp rfl Z.RV.nil)) ?_
      exact .inr ⟨{ s with proven := bitZ .i64 (· ||| ·) s.proven (IntKind.i64.wrap (1 * 2 ^ min (IntKind.u64.wrap (m : Int)).toNat IntKind.i64.bits)) }, (⟨tA, tc, some ⟨gk, 0, none⟩, kc⟩ : SAd), rfl, ⟨hs.tl, hs.kl, hs.t, hs.k⟩, hS.sb⟩
    all_goals
      refine Sh.again (c.cells.length - (i + 1)) [(8, .int .i64 (i + 1 : Nat))] ?_
      exact ⟨i + 1, rfl, by omega, rfl, hS.sb⟩
  repeat' (first|refine K ?_|(refine Sh.sa hS ?_;clear hS;intro w hS)|(refine K3 ?_;clear hS;intro g w hS hge)|((first|refine GS ?_ ?_|refine VB ?_ ?_)<;>intro hb<;>(try simp only [J1,J2,J3,J4,J5,J6] at hb)<;>(try (exfalso;first|omega|exact hb trivial)))|(refine Z.eff (Z.cl (no_z _ _ _ _ hS) rfl ?_) rfl;clear hS;rintro e w ⟨rfl, hS⟩;refine ⟨_, rfl, ?_⟩))
  first | refine Z.done hS Tryz.results84 (Z.RV.cell rfl (by repeat (first | exact At.here | apply At.next)) rfl (Z.RV.tmp rfl Z.RV.nil)) ?_ | refine Z.doneN hS Tryz.results84 (Z.RV.cell rfl (by repeat (first | exact At.here | apply At.next)) rfl (Z.RV.tmp rfl Z.RV.nil)) ?_
  refine .inl ⟨_, ?_, rfl, hS.sb⟩
  decide
end Go.Proofs.YtmgpionlfemhdaaGreat
