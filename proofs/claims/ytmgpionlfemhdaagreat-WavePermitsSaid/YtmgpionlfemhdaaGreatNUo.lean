/-
  What the log's entries make of a state: versions of cells.
-/
import Derived.Test.YtmgpionlfemhdaaGreatNUn
namespace Go.Proofs.YtmgpionlfemhdaaGreat
open Go.RowKit
set_option linter.unusedSimpArgs false
set_option linter.unusedVariables false
attribute [local irreducible] Res.blk Res.sl Res.all Res.ex Res.pure Res.star


theorem reads_v {r w : World} {F : List Res} {c : Cfg} {a : CAd} (hr : CfR r F c a) (L : List Res) (hS : Sep r [] (L ++ F) w) {k : Nat} (h : k < c.versions.length) : ∃ gb o, a.vA = some ⟨gb, o, none⟩ ∧ w.rangeAt gb (o + k * 2) (c.versions[k]).cells := by
  obtain ⟨gb, o, hA, _, hra⟩ := (hr.v L w hS).mat (by omega) (q := k) (by simpa using h)
  exact ⟨gb, o, hA, by simpa using hra⟩
theorem at_v {r w : World} {F : List Res} {c : Cfg} {a : CAd} (hr : CfR r F c a) (L : List Res) (hS : Sep r [] (L ++ F) w) {k gb o : Nat} (hA : a.vA = some ⟨gb, o, none⟩) (h : k < c.versions.length) : w.rangeAt gb (o + k * 2) (c.versions[k]).cells := by
  obtain ⟨gb', o', hA', hra⟩ := reads_v hr L hS h
  rw [hA] at hA'
  simp only [Option.some.injEq, Addr.mk.injEq] at hA'
  obtain ⟨rfl, rfl, _⟩ := hA'
  exact hra
set_option maxHeartbeats 4000000 in
theorem want_z (c : Cfg) (s : Sta) (tA : Option Addr) (tc gk kc : Nat) (k m : Nat) (kd tk tn ot ep fr un : Int) (r : World) (F : List Res) (w : World) (hS : Sep r [] (.sl 56 12 (.slice tA c.tenants.length tc) (s.tenants.map TS.cells) :: .sl 97 4 (.slice (some ⟨gk, 0, none⟩) c.cells.length kc) (s.cells.map CS.cells) :: F) w) (hs : s.ok c) (ho : c.ok) (a : CAd) (hr : CfR r F c a) (hk : k < c.cells.length) (hm : m < c.versions.length) :
    Calls Tryz.prog 82 #[c.val a, s.vc c (⟨tA, tc, some ⟨gk, 0, none⟩, kc⟩ : SAd), ((⟨kd, tk, tn, (k : Nat), ot, ep, fr, un, (m : Nat)⟩ : En)).val] w fun ee w' => (∃ er : Int, er ≠ 0 ∧ ee = .returned (noV er) ∧ Sep r [] F w') ∨ ∃ (s' : Sta) (b' : SAd), ee = .returned (yesC s' c b') ∧ s'.ok c ∧ Sep r [] (.sl 56 12 (.slice b'.tA c.tenants.length b'.tc) (s'.tenants.map TS.cells) :: .sl 97 4 (.slice b'.kA c.cells.length b'.kc) (s'.cells.map CS.cells) :: F) w' := by
  have hk2 : k < s.cells.length := by rw [hs.kl]; exact hk
  obtain ⟨y, hy⟩ : ∃ y, s.cells[k]'hk2 = y := ⟨_, rfl⟩
  have hyo : KOk c.versions.length y := by rw [← hy]; exact hs.k _ (List.getElem_mem hk2)
  have hcl := ho.k
  obtain ⟨gv, ov, hA, _⟩ := reads_v hr [_, _] hS hm
  obtain ⟨v, hv⟩ : ∃ v, c.versions[m]'hm = v := ⟨_, rfl⟩
  refine Z.enter Tryz.func82 Tryz.ntmps82 rfl rfl ?_
  repeat' (first|refine K ?_|(refine Sh.sa hS ?_;clear hS;intro w hS)|(refine K3 ?_;clear hS;intro g w hS hge)|((first|refine GS ?_ ?_|refine VB ?_ ?_)<;>intro hb<;>(try simp only [J1,J2,J3,J4,J5,J6] at hb)<;>(try (exfalso;first|omega|exact hb trivial))))
  rename_i gc _ _ gs _ _ ge _ _
  rename Nat => gr
  have hrv := at_v hr [_, _, _, _, _, _] hS hA hm
  rw [hv] at hrv
  obtain ⟨zA, zc, kA, kc', tA', tc', vA, vc, rA, rc, oA, oc⟩ := a
  simp only at hA
  subst hA
  repeat' (first|refine K ?_|(refine Sh.sa hS ?_;clear hS;intro w hS)|(refine K3 ?_;clear hS;intro g w hS hge)|((first|refine GS ?_ ?_|refine VB ?_ ?_)<;>intro hb<;>(try simp only [J1,J2,J3,J4,J5,J6] at hb)<;>(try (exfalso;first|omega|exact hb trivial))))
  rename Nat => g9
  generalize (⟨zA, zc, kA, kc', tA', tc', some ⟨gv, ov, none⟩, vc, rA, rc, oA, oc⟩ : CAd) = a at *
  refine Z.lpS [10, 11, 23, 24, 25, 26, 27, 28, 29, 30, 31, 32, 33, 34, 35, 36, 37, 38, 39, 40] (fun mm w z => ∃ (i n : Nat), z = [(10, .int .i64 n), (11, .int .i64 i)] ∧ n ≤ i ∧ i ≤ c.cells.length ∧ mm = c.cells.length - i ∧ Sep r [] (.blk g9 95 v.cells :: .blk gr 34 (Sta.zero.cl SAd.zero) :: .blk ge 100 ((⟨kd, tk, tn, (k : Nat), ot, ep, fr, un, (m : Nat)⟩ : En)).cells :: .blk gs 34 (s.cc c (⟨tA, tc, some ⟨gk, 0, none⟩, kc⟩ : SAd)) :: .blk gc 30 (c.cl a) :: .sl 56 12 (.slice tA c.tenants.length tc) (s.tenants.map TS.cells) :: .sl 97 4 (.slice (some ⟨gk, 0, none⟩) c.cells.length kc) (s.cells.map CS.cells) :: F) w) _ [(10, .int .i64 (0 : Nat)), (11, .int .i64 (0 : Nat))] (by repeat (first | exact trivial | refine ⟨rfl, ?_⟩)) ⟨0, 0, rfl, by omega, by omega, rfl, hS.sb⟩ ?_
  clear hS
  rintro mm f0 w _ ⟨i, n, rfl, hni, hi, rfl, hS⟩
  by_cases hlt : i < c.cells.length
  · repeat' (first|refine K ?_|(refine Sh.sa hS ?_;clear hS;intro w hS)|(refine K3 ?_;clear hS;intro g w hS hge)|((first|refine GS ?_ ?_|refine VB ?_ ?_)<;>intro hb<;>(try simp only [J1,J2,J3,J4,J5,J6] at hb)<;>(try (exfalso;first|omega|exact hb trivial))))
    · refine Z.eff (Z.cl (open_c c s (⟨tA, tc, some ⟨gk, 0, none⟩, kc⟩ : SAd) i _ _ _ hS hs ⟨Reads.of_at (e := 56) (v := .slice tA c.tenants.length tc) (by repeat (first | exact At.here | apply At.next)), Reads.of_at (e := 97) (v := .slice (some ⟨gk, 0, none⟩) c.cells.length kc) (by repeat (first | exact At.here | apply At.next))⟩ hlt) rfl ?_) rfl
      clear hS
      rintro e w ⟨b, rfl, hS⟩
      refine ⟨_, rfl, ?_⟩
      repeat' (first|refine K ?_|(refine Sh.sa hS ?_;clear hS;intro w hS)|(refine K3 ?_;clear hS;intro g w hS hge)|((first|refine GS ?_ ?_|refine VB ?_ ?_)<;>intro hb<;>(try simp only [J1,J2,J3,J4,J5,J6] at hb)<;>(try (exfalso;first|omega|exact hb trivial))))
      · refine Sh.again (c.cells.length - (i + 1)) [(10, .int .i64 (n + 1 : Nat)), (11, .int .i64 (i + 1 : Nat))] ?_
        exact ⟨i + 1, n + 1, rfl, by omega, by omega, rfl, hS.sb⟩
      · refine Sh.again (c.cells.length - (i + 1)) [(10, .int .i64 (n : Nat)), (11, .int .i64 (i + 1 : Nat))] ?_
        exact ⟨i + 1, n, rfl, by omega, by omega, rfl, hS.sb⟩
    · refine Sh.again (c.cells.length - (i + 1)) [(10, .int .i64 (n : Nat)), (11, .int .i64 (i + 1 : Nat))] ?_
      exact ⟨i + 1, n, rfl, by omega, by omega, rfl, hS.sb⟩
  repeat' (first|refine K ?_|(refine Sh.sa hS ?_;clear hS;intro w hS)|(refine K3 ?_;clear hS;intro g w hS hge)|((first|refine GS ?_ ?_|refine VB ?_ ?_)<;>intro hb<;>(try simp only [J1,J2,J3,J4,J5,J6] at hb)<;>(try (exfalso;first|omega|exact hb trivial))))
  refine Z.cut [41, 42, 43, 44, 45, 46, 47, 48] (fun w z => ∃ b : Bool, z = [(41, .bool b)] ∧ Sep r [] (.blk g9 95 v.cells :: .blk gr 34 (Sta.zero.cl SAd.zero) :: .blk ge 100 ((⟨kd, tk, tn, (k : Nat), ot, ep, fr, un, (m : Nat)⟩ : En)).cells :: .blk gs 34 (s.cc c (⟨tA, tc, some ⟨gk, 0, none⟩, kc⟩ : SAd)) :: .blk gc 30 (c.cl a) :: .sl 56 12 (.slice tA c.tenants.length tc) (s.tenants.map TS.cells) :: .sl 97 4 (.slice (some ⟨gk, 0, none⟩) c.cells.length kc) (s.cells.map CS.cells) :: F) w) ?_ ?_
  · refine D.startS hS 8 8 (by kernel_rfl) rfl ?_
    replace hS := hS.drew
    refine Sh.dp 0 1 ?_
    refine Sh.dp 1 3 ?_
    refine Sh.dp 2 7 ?_
    refine Sh.dp 4 23 ?_
    refine D.ldE (q := 2) 3 31 rfl D.wantedN (by kernel_rfl) rfl (fun W hW => row_at (fc := CS.cells) (e := 97) (sz := 4) (g := gk) hW (by repeat (first | exact At.here | apply At.next)) (by omega) hk2 hy) rfl ?_
    refine Sh.dl 5 63 ?_
    first | refine D.pr 6 127 rfl D.wantedN (by kernel_rfl) rfl ?_ | refine D.pl 6 127 rfl D.wantedN (by kernel_rfl) (R.eqa rfl rfl rfl rfl) ?_
    refine Sh.dp 7 255 ?_
    refine D.done (by kernel_rfl) ?_
    refine Sh.cut [(41, _)] ?_
    exact ⟨_, rfl, hS.sb⟩
  clear hS
  rintro f0 w _ ⟨b, rfl, hS⟩
  cases b
  case true =>
    repeat' (first|refine K ?_|(refine Sh.sa hS ?_;clear hS;intro w hS)|(refine K3 ?_;clear hS;intro g w hS hge)|((first|refine GS ?_ ?_|refine VB ?_ ?_)<;>intro hb<;>(try simp only [J1,J2,J3,J4,J5,J6] at hb)<;>(try (exfalso;first|omega|exact hb trivial)))|(refine Z.eff (Z.cl (no_z _ _ _ _ hS) rfl ?_) rfl;clear hS;rintro e w ⟨rfl, hS⟩;refine ⟨_, rfl, ?_⟩))
    first | refine Z.done hS Tryz.results82 (Z.RV.cell rfl (by repeat (first | exact At.here | apply At.next)) rfl (Z.RV.tmp rfl Z.RV.nil)) ?_ | refine Z.doneN hS Tryz.results82 (Z.RV.cell rfl (by repeat (first | exact At.here | apply At.next)) rfl (Z.RV.tmp rfl Z.RV.nil)) ?_
    refine .inl ⟨_, ?_, rfl, hS.sb⟩
    decide
  repeat' (first|refine K ?_|(refine Sh.sa hS ?_;clear hS;intro w hS)|(refine K3 ?_;clear hS;intro g w hS hge)|((first|refine GS ?_ ?_|refine VB ?_ ?_)<;>intro hb<;>(try simp only [J1,J2,J3,J4,J5,J6] at hb)<;>(try (exfalso;first|omega|exact hb trivial)))|(refine Z.eff (Z.cl (no_z _ _ _ _ hS) rfl ?_) rfl;clear hS;rintro e w ⟨rfl, hS⟩;refine ⟨_, rfl, ?_⟩))
  · first | refine Z.done hS Tryz.results82 (Z.RV.cell rfl (by repeat (first | exact At.here | apply At.next)) rfl (Z.RV.tmp rfl Z.RV.nil)) ?_ | refine Z.doneN hS Tryz.results82 (Z.RV.cell rfl (by repeat (first | exact At.here | apply At.next)) rfl (Z.RV.tmp rfl Z.RV.nil)) ?_
    refine .inl ⟨_, ?_, rfl, hS.sb⟩
    decide
  · first | refine Z.done hS Tryz.results82 (Z.RV.cell rfl (by repeat (first | exact At.here | apply At.next)) rfl (Z.RV.tmp rfl Z.RV.nil)) ?_ | refine Z.doneN hS Tryz.results82 (Z.RV.cell rfl (by repeat (first | exact At.here | apply At.next)) rfl (Z.RV.tmp rfl Z.RV.nil)) ?_
    refine .inl ⟨_, ?_, rfl, hS.sb⟩
    decide
  refine Z.cut [68, 69, 70, 71, 72, 73, 74, 75, 76, 77, 78, 79, 80, 81, 82, 83, 84, 85, 86, 87] (fun w z => ∃ b : Bool, z = [(68, .bool b)] ∧ Sep r [] (.blk g9 95 v.cells :: .blk gr 34 (Sta.zero.cl SAd.zero) :: .blk ge 100 ((⟨kd, tk, tn, (k : Nat), ot, ep, fr, un, (m : Nat)⟩ : En)).cells :: .blk gs 34 (s.cc c (⟨tA, tc, some ⟨gk, 0, none⟩, kc⟩ : SAd)) :: .blk gc 30 (c.cl a) :: .sl 56 12 (.slice tA c.tenants.length tc) (s.tenants.map TS.cells) :: .sl 97 4 (.slice (some ⟨gk, 0, none⟩) c.cells.length kc) (s.cells.map CS.cells) :: F) w) ?_ ?_
  · refine D.startS hS 20 20 (by kernel_rfl) rfl ?_
    replace hS := hS.drew
    refine Sh.dp 0 1 ?_
    refine Sh.dp 2 5 ?_
    refine Sh.dp 3 13 ?_
    refine Sh.dp 4 29 ?_
    refine Sh.dl 1 31 ?_
    refine D.ldE (q := 1) 5 63 rfl D.wantedN (by kernel_rfl) rfl (fun W hW => row_at (fc := CS.cells) (e := 97) (sz := 4) (g := gk) hW (by repeat (first | exact At.here | apply At.next)) (by omega) hk2 hy) rfl ?_
    first | refine D.pr 6 127 rfl D.wantedN (by kernel_rfl) rfl ?_ | refine D.pl 6 127 rfl D.wantedN (by kernel_rfl) (R.nea rfl rfl rfl rfl) ?_
    refine Sh.dp 7 255 ?_
    refine D.slot 76 rfl (fun hb => ?_) (fun hb => ?_)
    · (try simp only [decide_eq_true_eq, decide_eq_false_iff_not, Bool.not_eq_true', Bool.not_eq_false', Int.not_lt, Int.not_le] at hb)
      refine Sh.dp 9 767 ?_
      refine Sh.dl 8 1023 ?_
      refine Sh.dl 10 2047 ?_
      refine D.eff 11 4095 rfl (D.wantedT rfl rfl) (by kernel_rfl) (by kernel_rfl) (fun _ _ h => h) ?_
      refine WE.guard ?_
      refine Z.cl (proven_c c s (⟨tA, tc, some ⟨gk, 0, none⟩, kc⟩ : SAd) _ _ _ _ hS hs) rfl ?_
      clear hS
      rintro e w ⟨b, rfl, hS⟩
      refine ⟨_, rfl, ?_⟩
      refine ⟨HM.s (hS.sb), ?_⟩
      refine Sh.dp 12 8191 ?_
      refine Sh.dp 13 16383 ?_
      refine Sh.dp 14 32767 ?_
      refine D.slot 83 rfl (fun hb => ?_) (fun hb => ?_)
      · (try simp only [decide_eq_true_eq, decide_eq_false_iff_not, Bool.not_eq_true', Bool.not_eq_false', Int.not_lt, Int.not_le] at hb)
        refine Sh.dp 15 65535 ?_
        refine Sh.dl 16 131071 ?_
        first | refine D.pr 17 262143 rfl (D.wantedT rfl rfl) (by kernel_rfl) rfl ?_ | refine D.pl 17 262143 rfl (D.wantedT rfl rfl) (by kernel_rfl) (R.nea rfl rfl rfl rfl) ?_
        refine Sh.dp 18 524287 ?_
        refine Sh.dp 19 1048575 ?_
        refine D.done (by kernel_rfl) ?_
        refine Sh.cut [(68, _)] ?_
        exact ⟨_, rfl, hS.sb⟩
      · (try simp only [decide_eq_true_eq, decide_eq_false_iff_not, Bool.not_eq_true', Bool.not_eq_false', Int.not_lt, Int.not_le] at hb)
        refine D.skF 15 65535 rfl (by kernel_rfl) rfl rfl ?_
        refine D.skF 16 131071 rfl (by kernel_rfl) rfl rfl ?_
        refine D.skF 17 262143 rfl (by kernel_rfl) rfl rfl ?_
        refine Sh.dp 18 524287 ?_
        refine Sh.dp 19 1048575 ?_
        refine D.done (by kernel_rfl) ?_
        refine Sh.cut [(68, _)] ?_
        exact ⟨_, rfl, hS.sb⟩
    · (try simp only [decide_eq_true_eq, decide_eq_false_iff_not, Bool.not_eq_true', Bool.not_eq_false', Int.not_lt, Int.not_le] at hb)
      refine D.skF 8 511 rfl (by kernel_rfl) rfl rfl ?_
      refine D.skF 9 1023 rfl (by kernel_rfl) rfl rfl ?_
      refine D.skF 10 2047 rfl (by kernel_rfl) rfl rfl ?_
      refine D.skF 11 4095 rfl (by kernel_rfl) rfl rfl ?_
      refine D.skF 12 8191 rfl (by kernel_rfl) rfl rfl ?_
      refine Sh.dp 13 16383 ?_
      refine Sh.dp 14 32767 ?_
      refine D.skF 15 65535 rfl (by kernel_rfl) rfl rfl ?_
      refine D.skF 16 131071 rfl (by kernel_rfl) rfl rfl ?_
      refine D.skF 17 262143 rfl (by kernel_rfl) rfl rfl ?_
      refine Sh.dp 18 524287 ?_
      refine Sh.dp 19 1048575 ?_
      refine D.done (by kernel_rfl) ?_
      refine Sh.cut [(68, _)] ?_
      exact ⟨_, rfl, hS.sb⟩
  clear hS
  rintro f0 w _ ⟨b, rfl, hS⟩
  cases b
  case true =>
    repeat' (first|refine K ?_|(refine Sh.sa hS ?_;clear hS;intro w hS)|(refine K3 ?_;clear hS;intro g w hS hge)|((first|refine GS ?_ ?_|refine VB ?_ ?_)<;>intro hb<;>(try simp only [J1,J2,J3,J4,J5,J6] at hb)<;>(try (exfalso;first|omega|exact hb trivial)))|(refine Z.eff (Z.cl (no_z _ _ _ _ hS) rfl ?_) rfl;clear hS;rintro e w ⟨rfl, hS⟩;refine ⟨_, rfl, ?_⟩))
    first | refine Z.done hS Tryz.results82 (Z.RV.cell rfl (by repeat (first | exact At.here | apply At.next)) rfl (Z.RV.tmp rfl Z.RV.nil)) ?_ | refine Z.doneN hS Tryz.results82 (Z.RV.cell rfl (by repeat (first | exact At.here | apply At.next)) rfl (Z.RV.tmp rfl Z.RV.nil)) ?_
    refine .inl ⟨_, ?_, rfl, hS.sb⟩
    decide
  repeat' (first|refine K ?_|(refine Sh.sa hS ?_;clear hS;intro w hS)|(refine K3 ?_;clear hS;intro g w hS hge)|((first|refine GS ?_ ?_|refine VB ?_ ?_)<;>intro hb<;>(try simp only [J1,J2,J3,J4,J5,J6] at hb)<;>(try (exfalso;first|omega|exact hb trivial))))
  refine Z.cut [91, 92, 93, 94, 95, 96, 97, 98, 99, 100, 101, 102, 103, 104, 105, 106, 107, 108, 109, 110, 111] (fun w z => ∃ b : Bool, z = [(91, .bool b)] ∧ Sep r [] (.blk g9 95 v.cells :: .blk gr 34 (Sta.zero.cl SAd.zero) :: .blk ge 100 ((⟨kd, tk, tn, (k : Nat), ot, ep, fr, un, (m : Nat)⟩ : En)).cells :: .blk gs 34 (s.cc c (⟨tA, tc, some ⟨gk, 0, none⟩, kc⟩ : SAd)) :: .blk gc 30 (c.cl a) :: .sl 56 12 (.slice tA c.tenants.length tc) (s.tenants.map TS.cells) :: .sl 97 4 (.slice (some ⟨gk, 0, none⟩) c.cells.length kc) (s.cells.map CS.cells) :: F) w) ?_ ?_
  · refine D.startS hS 21 21 (by kernel_rfl) rfl ?_
    replace hS := hS.drew
    refine Sh.dp 0 1 ?_
    refine Sh.dp 2 5 ?_
    refine Sh.dp 3 13 ?_
    refine Sh.dp 4 29 ?_
    refine Sh.dl 1 31 ?_
    refine D.ldE (q := 1) 5 63 rfl D.wantedN (by kernel_rfl) rfl (fun W hW => row_at (fc := CS.cells) (e := 97) (sz := 4) (g := gk) hW (by repeat (first | exact At.here | apply At.next)) (by omega) hk2 hy) rfl ?_
    first | refine D.pr 6 127 rfl D.wantedN (by kernel_rfl) rfl ?_ | refine D.pl 6 127 rfl D.wantedN (by kernel_rfl) (R.nea rfl rfl rfl rfl) ?_
    refine Sh.dp 7 255 ?_
    refine D.slot 99 rfl (fun hb => ?_) (fun hb => ?_)
    · (try simp only [decide_eq_true_eq, decide_eq_false_iff_not, Bool.not_eq_true', Bool.not_eq_false', Int.not_lt, Int.not_le] at hb)
      refine Sh.dp 9 767 ?_
      refine Sh.dl 8 1023 ?_
      refine Sh.dl 10 2047 ?_
      refine D.eff 11 4095 rfl (D.wantedT rfl rfl) (by kernel_rfl) (by kernel_rfl) (fun _ _ h => h) ?_
      refine WE.guard ?_
      refine Z.cl (proven_c c s (⟨tA, tc, some ⟨gk, 0, none⟩, kc⟩ : SAd) _ _ _ _ hS hs) rfl ?_
      clear hS
      rintro e w ⟨b, rfl, hS⟩
      refine ⟨_, rfl, ?_⟩
      refine ⟨HM.s (hS.sb), ?_⟩
      refine Sh.dp 12 8191 ?_
      refine Sh.dp 13 16383 ?_
      refine Sh.dp 14 32767 ?_
      refine D.slot 106 rfl (fun hb => ?_) (fun hb => ?_)
      · (try simp only [decide_eq_true_eq, decide_eq_false_iff_not, Bool.not_eq_true', Bool.not_eq_false', Int.not_lt, Int.not_le] at hb)
        refine Sh.dp 15 65535 ?_
        refine Sh.dp 16 131071 ?_
        refine Sh.dl 17 262143 ?_
        refine Sh.dp 18 524287 ?_
        refine Sh.dp 19 1048575 ?_
        refine Sh.dp 20 2097151 ?_
        refine D.done (by kernel_rfl) ?_
        refine Sh.cut [(91, _)] ?_
        exact ⟨_, rfl, hS.sb⟩
      · (try simp only [decide_eq_true_eq, decide_eq_false_iff_not, Bool.not_eq_true', Bool.not_eq_false', Int.not_lt, Int.not_le] at hb)
        refine D.skF 15 65535 rfl (by kernel_rfl) rfl rfl ?_
        refine D.skF 16 131071 rfl (by kernel_rfl) rfl rfl ?_
        refine D.skF 17 262143 rfl (by kernel_rfl) rfl rfl ?_
        refine D.skF 18 524287 rfl (by kernel_rfl) rfl rfl ?_
        refine Sh.dp 19 1048575 ?_
        refine Sh.dp 20 2097151 ?_
        refine D.done (by kernel_rfl) ?_
        refine Sh.cut [(91, _)] ?_
        exact ⟨_, rfl, hS.sb⟩
    · (try simp only [decide_eq_true_eq, decide_eq_false_iff_not, Bool.not_eq_true', Bool.not_eq_false', Int.not_lt, Int.not_le] at hb)
      refine D.skF 8 511 rfl (by kernel_rfl) rfl rfl ?_
      refine D.skF 9 1023 rfl (by kernel_rfl) rfl rfl ?_
      refine D.skF 10 2047 rfl (by kernel_rfl) rfl rfl ?_
      refine D.skF 11 4095 rfl (by kernel_rfl) rfl rfl ?_
      refine D.skF 12 8191 rfl (by kernel_rfl) rfl rfl ?_
      refine Sh.dp 13 16383 ?_
      refine Sh.dp 14 32767 ?_
      refine D.skF 15 65535 rfl (by kernel_rfl) rfl rfl ?_
      refine D.skF 16 131071 rfl (by kernel_rfl) rfl rfl ?_
      refine D.skF 17 262143 rfl (by kernel_rfl) rfl rfl ?_
      refine D.skF 18 524287 rfl (by kernel_rfl) rfl rfl ?_
      refine Sh.dp 19 1048575 ?_
      refine Sh.dp 20 2097151 ?_
      refine D.done (by kernel_rfl) ?_
      refine Sh.cut [(91, _)] ?_
      exact ⟨_, rfl, hS.sb⟩
  clear hS
  rintro f0 w _ ⟨b, rfl, hS⟩
  cases b
  case true =>
    repeat' (first|refine K ?_|(refine Sh.sa hS ?_;clear hS;intro w hS)|(refine K3 ?_;clear hS;intro g w hS hge)|((first|refine GS ?_ ?_|refine VB ?_ ?_)<;>intro hb<;>(try simp only [J1,J2,J3,J4,J5,J6] at hb)<;>(try (exfalso;first|omega|exact hb trivial)))|(refine Z.eff (Z.cl (no_z _ _ _ _ hS) rfl ?_) rfl;clear hS;rintro e w ⟨rfl, hS⟩;refine ⟨_, rfl, ?_⟩))
    first | refine Z.done hS Tryz.results82 (Z.RV.cell rfl (by repeat (first | exact At.here | apply At.next)) rfl (Z.RV.tmp rfl Z.RV.nil)) ?_ | refine Z.doneN hS Tryz.results82 (Z.RV.cell rfl (by repeat (first | exact At.here | apply At.next)) rfl (Z.RV.tmp rfl Z.RV.nil)) ?_
    refine .inl ⟨_, ?_, rfl, hS.sb⟩
    decide
  repeat' (first|refine K ?_|(refine Sh.sa hS ?_;clear hS;intro w hS)|(refine K3 ?_;clear hS;intro g w hS hge)|((first|refine GS ?_ ?_|refine VB ?_ ?_)<;>intro hb<;>(try simp only [J1,J2,J3,J4,J5,J6] at hb)<;>(try (exfalso;first|omega|exact hb trivial))))
  rw [set_self hk2 hy] at hS
  refine Z.eff (Z.stK (y0 := y) (j := 2) ({ y with wanted := (m : Int) } : CS) hS rfl (by repeat (first | exact At.here | apply At.next)) hk2 rfl rfl rfl (by omega) rfl ?_) rfl
  clear hS; intro w hS
  repeat' (first|refine K ?_|(refine Sh.sa hS ?_;clear hS;intro w hS)|(refine K3 ?_;clear hS;intro g w hS hge)|((first|refine GS ?_ ?_|refine VB ?_ ?_)<;>intro hb<;>(try simp only [J1,J2,J3,J4,J5,J6] at hb)<;>(try (exfalso;first|omega|exact hb trivial))))
  first | refine Z.done hS Tryz.results82 (Z.RV.cell rfl (by repeat (first | exact At.here | apply At.next)) rfl (Z.RV.tmp rfl Z.RV.nil)) ?_ | refine Z.doneN hS Tryz.results82 (Z.RV.cell rfl (by repeat (first | exact At.here | apply At.next)) rfl (Z.RV.tmp rfl Z.RV.nil)) ?_
  exact .inr ⟨{ s with cells := s.cells.set k { y with wanted := (m : Int) } }, (⟨tA, tc, some ⟨gk, 0, none⟩, kc⟩ : SAd), rfl, hs.setK (x := { y with wanted := (m : Int) }) ⟨hyo.r, by show (0 : Int) ≤ m; omega, by show (m : Int) < _; omega⟩ k, hS.sb⟩
end Go.Proofs.YtmgpionlfemhdaaGreat
