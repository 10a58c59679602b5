/-
  What the log's entries make of a state: grants.
-/
import Derived.Test.YtmgpionlfemhdaaGreatNUm
namespace Go.Proofs.YtmgpionlfemhdaaGreat
open Go.RowKit
set_option linter.unusedSimpArgs false
set_option linter.unusedVariables false
attribute [local irreducible] Res.blk Res.sl Res.all Res.ex Res.pure Res.star


set_option maxHeartbeats 8000000 in
theorem grant_z (c : Cfg) (s : Sta) (gt tc gk kc q : Nat) (k : Nat) (kd tk ot ep fr un nn : Int) (r : World) (F : List Res) (w : World) (hS : Sep r [] (.sl 56 12 (.slice (some ⟨gt, 0, none⟩) c.tenants.length tc) (s.tenants.map TS.cells) :: .sl 97 4 (.slice (some ⟨gk, 0, none⟩) c.cells.length kc) (s.cells.map CS.cells) :: F) w) (hs : s.ok c) (hq : q < c.tenants.length) (a : CAd) (hr : CfR r F c a) (ho : c.ok) (hk : k < c.cells.length) :
    Calls Tryz.prog 75 #[c.val a, s.vc c (⟨some ⟨gt, 0, none⟩, tc, some ⟨gk, 0, none⟩, kc⟩ : SAd), ((⟨kd, tk, (q : Nat), (k : Nat), ot, ep, fr, un, nn⟩ : En)).val] w fun ee w' => (∃ er : Int, er ≠ 0 ∧ ee = .returned (noV er) ∧ Sep r [] F w') ∨ ∃ (s' : Sta) (b' : SAd), ee = .returned (yesC s' c b') ∧ s'.ok c ∧ Sep r [] (.sl 56 12 (.slice b'.tA c.tenants.length b'.tc) (s'.tenants.map TS.cells) :: .sl 97 4 (.slice b'.kA c.cells.length b'.kc) (s'.cells.map CS.cells) :: F) w' := by
  have hq2 : q < s.tenants.length := by rw [hs.tl]; exact hq
  obtain ⟨x, hx⟩ : ∃ x, s.tenants[q]'hq2 = x := ⟨_, rfl⟩
  have hxo : TOk c.cells.length x := by rw [← hx]; exact hs.t _ (List.getElem_mem hq2)
  have hk2 : k < s.cells.length := by rw [hs.kl]; exact hk
  obtain ⟨y, hy⟩ : ∃ y, s.cells[k]'hk2 = y := ⟨_, rfl⟩
  refine Z.enter Tryz.func75 Tryz.ntmps75 rfl rfl ?_
  repeat' (first|refine K ?_|(refine Sh.sa hS ?_;clear hS;intro w hS)|(refine K3 ?_;clear hS;intro g w hS hge)|((first|refine GS ?_ ?_|refine VB ?_ ?_)<;>intro hb<;>(try simp only [J1,J2,J3,J4,J5,J6] at hb)<;>(try (exfalso;first|omega|exact hb trivial))))
  rename_i gc _ _ gs _ _ ge _ _
  refine Z.cut [15, 16, 17, 18, 19, 20, 21, 22, 23, 24, 25, 26, 27, 28, 29, 30, 31, 32, 33, 34, 35] (fun w z => ∃ b : Bool, z = [(15, .bool b)] ∧ (b = false → x.placed = true) ∧ Sep r [] (.blk g 34 (Sta.zero.cl SAd.zero) :: .blk ge 100 ((⟨kd, tk, (q : Nat), (k : Nat), ot, ep, fr, un, nn⟩ : En)).cells :: .blk gs 34 (s.cc c (⟨some ⟨gt, 0, none⟩, tc, some ⟨gk, 0, none⟩, kc⟩ : SAd)) :: .blk gc 30 (c.cl a) :: .sl 56 12 (.slice (some ⟨gt, 0, none⟩) c.tenants.length tc) (s.tenants.map TS.cells) :: .sl 97 4 (.slice (some ⟨gk, 0, none⟩) c.cells.length kc) (s.cells.map CS.cells) :: F) w) ?_ ?_
  · refine D.startS hS 21 21 (by kernel_rfl) rfl ?_
    replace hS := hS.drew
    refine Sh.dp 0 1 ?_
    refine Sh.dp 1 3 ?_
    refine Sh.dp 2 7 ?_
    refine D.ldE (q := 0) 3 15 rfl D.wantedN (by kernel_rfl) rfl (fun W hW => row_at (fc := TS.cells) (e := 56) (sz := 12) (g := gt) hW (by repeat (first | exact At.here | apply At.next)) (by omega) hq2 hx) rfl ?_
    refine Sh.dp 4 31 ?_
    refine Sh.dp 5 63 ?_
    refine D.slot 21 rfl (fun hb => ?_) (fun hb => ?_)
    · (try simp only [decide_eq_true_eq, decide_eq_false_iff_not, Bool.not_eq_true', Bool.not_eq_false', Int.not_lt, Int.not_le] at hb)
      refine D.skF 6 127 rfl (by kernel_rfl) rfl rfl ?_
      refine D.skF 7 255 rfl (by kernel_rfl) rfl rfl ?_
      refine D.skF 8 511 rfl (by kernel_rfl) rfl rfl ?_
      refine D.skF 9 1023 rfl (by kernel_rfl) rfl rfl ?_
      refine D.skF 10 2047 rfl (by kernel_rfl) rfl rfl ?_
      refine D.skU 11 4095 rfl (by kernel_rfl) rfl rfl ?_
      refine D.skU 12 8191 rfl (by kernel_rfl) rfl rfl ?_
      refine D.skU 13 16383 rfl (by kernel_rfl) rfl rfl ?_
      refine D.skU 14 32767 rfl (by kernel_rfl) rfl rfl ?_
      refine D.skU 15 65535 rfl (by kernel_rfl) rfl rfl ?_
      refine D.skU 16 131071 rfl (by kernel_rfl) rfl rfl ?_
      refine D.skU 17 262143 rfl (by kernel_rfl) rfl rfl ?_
      refine D.skF 18 524287 rfl (by kernel_rfl) rfl rfl ?_
      refine Sh.dp 19 1048575 ?_
      refine Sh.dp 20 2097151 ?_
      refine D.done (by kernel_rfl) ?_
      refine Sh.cut [(15, _)] ?_
      refine ⟨_, rfl, (fun h => ?_), hS.sb⟩
      first | assumption | (exfalso; simp at h; done)
    · (try simp only [decide_eq_true_eq, decide_eq_false_iff_not, Bool.not_eq_true', Bool.not_eq_false', Int.not_lt, Int.not_le] at hb)
      refine Sh.dp 6 127 ?_
      refine Sh.dp 7 255 ?_
      refine Sh.dp 8 511 ?_
      refine D.ldE (q := 1) 9 1023 rfl (D.wantedT rfl rfl) (by kernel_rfl) rfl (fun W hW => row_at (fc := TS.cells) (e := 56) (sz := 12) (g := gt) hW (by repeat (first | exact At.here | apply At.next)) (by omega) hq2 hx) rfl ?_
      refine Sh.dp 10 2047 ?_
      refine D.slot 26 rfl (fun hb => ?_) (fun hb => ?_)
      · (try simp only [decide_eq_true_eq, decide_eq_false_iff_not, Bool.not_eq_true', Bool.not_eq_false', Int.not_lt, Int.not_le] at hb)
        refine Sh.dp 11 4095 ?_
        refine Sh.dp 13 12287 ?_
        refine Sh.dp 14 28671 ?_
        refine Sh.dp 15 61439 ?_
        refine Sh.dl 12 65535 ?_
        refine D.ldE (q := 3) 16 131071 rfl (D.wantedT rfl rfl) (by kernel_rfl) rfl (fun W hW => row_at (fc := TS.cells) (e := 56) (sz := 12) (g := gt) hW (by repeat (first | exact At.here | apply At.next)) (by omega) hq2 hx) rfl ?_
        first | refine D.pr 17 262143 rfl (D.wantedT rfl rfl) (by kernel_rfl) rfl ?_ | refine D.pl 17 262143 rfl (D.wantedT rfl rfl) (by kernel_rfl) (R.nea rfl rfl rfl rfl) ?_
        refine Sh.dp 18 524287 ?_
        refine Sh.dp 19 1048575 ?_
        refine Sh.dp 20 2097151 ?_
        refine D.done (by kernel_rfl) ?_
        refine Sh.cut [(15, _)] ?_
        refine ⟨_, rfl, (fun h => ?_), hS.sb⟩
        first | assumption | (exfalso; simp at h; done)
      · (try simp only [decide_eq_true_eq, decide_eq_false_iff_not, Bool.not_eq_true', Bool.not_eq_false', Int.not_lt, Int.not_le] at hb)
        refine D.skF 11 4095 rfl (by kernel_rfl) rfl rfl ?_
        refine D.skF 12 8191 rfl (by kernel_rfl) rfl rfl ?_
        refine D.skF 13 16383 rfl (by kernel_rfl) rfl rfl ?_
        refine D.skF 14 32767 rfl (by kernel_rfl) rfl rfl ?_
        refine D.skF 15 65535 rfl (by kernel_rfl) rfl rfl ?_
        refine D.skF 16 131071 rfl (by kernel_rfl) rfl rfl ?_
        refine D.skF 17 262143 rfl (by kernel_rfl) rfl rfl ?_
        refine Sh.dp 18 524287 ?_
        refine Sh.dp 19 1048575 ?_
        refine Sh.dp 20 2097151 ?_
        refine D.done (by kernel_rfl) ?_
        refine Sh.cut [(15, _)] ?_
        refine ⟨_, rfl, (fun h => ?_), hS.sb⟩
        first | assumption | (exfalso; simp at h; done)
  clear hS
  rintro f0 w _ ⟨b, rfl, hp, hS⟩
  cases b
  case true =>
    repeat' (first|refine K ?_|(refine Sh.sa hS ?_;clear hS;intro w hS)|(refine K3 ?_;clear hS;intro g w hS hge)|((first|refine GS ?_ ?_|refine VB ?_ ?_)<;>intro hb<;>(try simp only [J1,J2,J3,J4,J5,J6] at hb)<;>(try (exfalso;first|omega|exact hb trivial)))|(refine Z.eff (Z.cl (no_z _ _ _ _ hS) rfl ?_) rfl;clear hS;rintro e w ⟨rfl, hS⟩;refine ⟨_, rfl, ?_⟩))
    first | refine Z.done hS Tryz.results75 (Z.RV.cell rfl (by repeat (first | exact At.here | apply At.next)) rfl (Z.RV.tmp rfl Z.RV.nil)) ?_ | refine Z.doneN hS Tryz.results75 (Z.RV.cell rfl (by repeat (first | exact At.here | apply At.next)) rfl (Z.RV.tmp rfl Z.RV.nil)) ?_
    refine .inl ⟨_, ?_, rfl, hS.sb⟩
    decide
  replace hp := hp rfl
  repeat' (first|refine K ?_|(refine Sh.sa hS ?_;clear hS;intro w hS)|(refine K3 ?_;clear hS;intro g w hS hge)|((first|refine GS ?_ ?_|refine VB ?_ ?_)<;>intro hb<;>(try simp only [J1,J2,J3,J4,J5,J6] at hb)<;>(try (exfalso;first|omega|exact hb trivial))))
  refine Z.cut [39, 40, 41, 42, 43, 44, 45, 46, 47, 48, 49, 50, 51, 52, 53, 54, 55, 56, 57, 58, 59, 60, 61, 62, 63, 64] (fun w z => ∃ b : Bool, z = [(39, .bool b)] ∧ (b = false → (k : Int) = x.home ∨ (k : Int) = x.standby ∨ (k : Int) = x.target) ∧ Sep r [] (.blk g 34 (Sta.zero.cl SAd.zero) :: .blk ge 100 ((⟨kd, tk, (q : Nat), (k : Nat), ot, ep, fr, un, nn⟩ : En)).cells :: .blk gs 34 (s.cc c (⟨some ⟨gt, 0, none⟩, tc, some ⟨gk, 0, none⟩, kc⟩ : SAd)) :: .blk gc 30 (c.cl a) :: .sl 56 12 (.slice (some ⟨gt, 0, none⟩) c.tenants.length tc) (s.tenants.map TS.cells) :: .sl 97 4 (.slice (some ⟨gk, 0, none⟩) c.cells.length kc) (s.cells.map CS.cells) :: F) w) ?_ ?_
  · refine D.startS hS 26 26 (by kernel_rfl) rfl ?_
    replace hS := hS.drew
    refine Sh.dp 0 1 ?_
    refine Sh.dp 2 5 ?_
    refine Sh.dp 3 13 ?_
    refine Sh.dp 4 29 ?_
    refine Sh.dl 1 31 ?_
    refine D.ldE (q := 2) 5 63 rfl D.wantedN (by kernel_rfl) rfl (fun W hW => row_at (fc := TS.cells) (e := 56) (sz := 12) (g := gt) hW (by repeat (first | exact At.here | apply At.next)) (by omega) hq2 hx) rfl ?_
    first | refine D.pr 6 127 rfl D.wantedN (by kernel_rfl) rfl ?_ | refine D.pl 6 127 rfl D.wantedN (by kernel_rfl) (R.nea rfl rfl rfl rfl) ?_
    refine Sh.dp 7 255 ?_
    refine D.slot 47 rfl (fun hb => ?_) (fun hb => ?_)
    · (try simp only [decide_eq_true_eq, decide_eq_false_iff_not, Bool.not_eq_true', Bool.not_eq_false', Int.not_lt, Int.not_le] at hb)
      refine Sh.dp 8 511 ?_
      refine Sh.dp 10 1535 ?_
      refine Sh.dp 11 3583 ?_
      refine Sh.dp 12 7679 ?_
      refine Sh.dl 9 8191 ?_
      refine D.ldE (q := 3) 13 16383 rfl (D.wantedT rfl rfl) (by kernel_rfl) rfl (fun W hW => row_at (fc := TS.cells) (e := 56) (sz := 12) (g := gt) hW (by repeat (first | exact At.here | apply At.next)) (by omega) hq2 hx) rfl ?_
      first | refine D.pr 14 32767 rfl (D.wantedT rfl rfl) (by kernel_rfl) rfl ?_ | refine D.pl 14 32767 rfl (D.wantedT rfl rfl) (by kernel_rfl) (R.nea rfl rfl rfl rfl) ?_
      refine Sh.dp 15 65535 ?_
      refine Sh.dp 16 131071 ?_
      refine D.slot 56 rfl (fun hb => ?_) (fun hb => ?_)
      · (try simp only [decide_eq_true_eq, decide_eq_false_iff_not, Bool.not_eq_true', Bool.not_eq_false', Int.not_lt, Int.not_le] at hb)
        refine Sh.dp 17 262143 ?_
        refine Sh.dp 19 786431 ?_
        refine Sh.dp 20 1835007 ?_
        refine Sh.dp 21 3932159 ?_
        refine Sh.dl 18 4194303 ?_
        refine D.ldE (q := 5) 22 8388607 rfl (D.wantedT rfl rfl) (by kernel_rfl) rfl (fun W hW => row_at (fc := TS.cells) (e := 56) (sz := 12) (g := gt) hW (by repeat (first | exact At.here | apply At.next)) (by omega) hq2 hx) rfl ?_
        first | refine D.pr 23 16777215 rfl (D.wantedT rfl rfl) (by kernel_rfl) rfl ?_ | refine D.pl 23 16777215 rfl (D.wantedT rfl rfl) (by kernel_rfl) (R.nea rfl rfl rfl rfl) ?_
        refine Sh.dp 24 33554431 ?_
        refine Sh.dp 25 67108863 ?_
        refine D.done (by kernel_rfl) ?_
        refine Sh.cut [(39, _)] ?_
        exact ⟨_, rfl, (fun h => (by (try simp at h); omega)), hS.sb⟩
      · (try simp only [decide_eq_true_eq, decide_eq_false_iff_not, Bool.not_eq_true', Bool.not_eq_false', Int.not_lt, Int.not_le] at hb)
        refine D.skF 17 262143 rfl (by kernel_rfl) rfl rfl ?_
        refine D.skF 18 524287 rfl (by kernel_rfl) rfl rfl ?_
        refine D.skF 19 1048575 rfl (by kernel_rfl) rfl rfl ?_
        refine D.skF 20 2097151 rfl (by kernel_rfl) rfl rfl ?_
        refine D.skF 21 4194303 rfl (by kernel_rfl) rfl rfl ?_
        refine D.skF 22 8388607 rfl (by kernel_rfl) rfl rfl ?_
        refine D.skF 23 16777215 rfl (by kernel_rfl) rfl rfl ?_
        refine Sh.dp 24 33554431 ?_
        refine Sh.dp 25 67108863 ?_
        refine D.done (by kernel_rfl) ?_
        refine Sh.cut [(39, _)] ?_
        exact ⟨_, rfl, (fun h => (by (try simp at h); omega)), hS.sb⟩
    · (try simp only [decide_eq_true_eq, decide_eq_false_iff_not, Bool.not_eq_true', Bool.not_eq_false', Int.not_lt, Int.not_le] at hb)
      refine D.skF 8 511 rfl (by kernel_rfl) rfl rfl ?_
      refine D.skF 9 1023 rfl (by kernel_rfl) rfl rfl ?_
      refine D.skF 10 2047 rfl (by kernel_rfl) rfl rfl ?_
      refine D.skF 11 4095 rfl (by kernel_rfl) rfl rfl ?_
      refine D.skF 12 8191 rfl (by kernel_rfl) rfl rfl ?_
      refine D.skF 13 16383 rfl (by kernel_rfl) rfl rfl ?_
      refine D.skF 14 32767 rfl (by kernel_rfl) rfl rfl ?_
      refine Sh.dp 15 65535 ?_
      refine Sh.dp 16 131071 ?_
      refine D.skF 17 262143 rfl (by kernel_rfl) rfl rfl ?_
      refine D.skF 18 524287 rfl (by kernel_rfl) rfl rfl ?_
      refine D.skF 19 1048575 rfl (by kernel_rfl) rfl rfl ?_
      refine D.skF 20 2097151 rfl (by kernel_rfl) rfl rfl ?_
      refine D.skF 21 4194303 rfl (by kernel_rfl) rfl rfl ?_
      refine D.skF 22 8388607 rfl (by kernel_rfl) rfl rfl ?_
      refine D.skF 23 16777215 rfl (by kernel_rfl) rfl rfl ?_
      refine Sh.dp 24 33554431 ?_
      refine Sh.dp 25 67108863 ?_
      refine D.done (by kernel_rfl) ?_
      refine Sh.cut [(39, _)] ?_
      exact ⟨_, rfl, (fun h => (by (try simp at h); omega)), hS.sb⟩
  clear hS
  rintro f0 w _ ⟨b, rfl, hor, hS⟩
  cases b
  case true =>
    repeat' (first|refine K ?_|(refine Sh.sa hS ?_;clear hS;intro w hS)|(refine K3 ?_;clear hS;intro g w hS hge)|((first|refine GS ?_ ?_|refine VB ?_ ?_)<;>intro hb<;>(try simp only [J1,J2,J3,J4,J5,J6] at hb)<;>(try (exfalso;first|omega|exact hb trivial)))|(refine Z.eff (Z.cl (no_z _ _ _ _ hS) rfl ?_) rfl;clear hS;rintro e w ⟨rfl, hS⟩;refine ⟨_, rfl, ?_⟩))
    first | refine Z.done hS Tryz.results75 (Z.RV.cell rfl (by repeat (first | exact At.here | apply At.next)) rfl (Z.RV.tmp rfl Z.RV.nil)) ?_ | refine Z.doneN hS Tryz.results75 (Z.RV.cell rfl (by repeat (first | exact At.here | apply At.next)) rfl (Z.RV.tmp rfl Z.RV.nil)) ?_
    refine .inl ⟨_, ?_, rfl, hS.sb⟩
    decide
  replace hor := hor rfl
  repeat' (first|refine K ?_|(refine Sh.sa hS ?_;clear hS;intro w hS)|(refine K3 ?_;clear hS;intro g w hS hge)|((first|refine GS ?_ ?_|refine VB ?_ ?_)<;>intro hb<;>(try simp only [J1,J2,J3,J4,J5,J6] at hb)<;>(try (exfalso;first|omega|exact hb trivial))))
  replace hS := hS.sub (L' := .sl 56 12 (.slice (some ⟨gt, 0, none⟩) c.tenants.length tc) (s.tenants.map TS.cells) :: .sl 97 4 (.slice (some ⟨gk, 0, none⟩) c.cells.length kc) (s.cells.map CS.cells) :: .blk g 34 (Sta.zero.cl SAd.zero) :: .blk ge 100 ((⟨kd, tk, (q : Nat), (k : Nat), ot, ep, fr, un, nn⟩ : En)).cells :: .blk gs 34 (s.cc c (⟨some ⟨gt, 0, none⟩, tc, some ⟨gk, 0, none⟩, kc⟩ : SAd)) :: .blk gc 30 (c.cl a) :: F) (by repeat (first | exact Sub.rest | exact Sub.nil | exact .skip .rest | exact .skip (.skip .rest) | exact .skip (.skip (.skip .rest)) | apply Sub.keep | refine Sub.cons (by repeat (first | exact At.here | apply At.next)) ?_ | apply Sub.skip))
  refine Z.eff (Z.cl (granted_z c s gt tc gk kc q k _ _ _ _ _ _ _ _ _ _ hS hs hq a hk) rfl ?_) rfl
  clear hS
  rintro e w ⟨er, rfl, hS⟩
  refine ⟨_, rfl, ?_⟩
  replace hS : Sep r [] (.blk g 34 (Sta.zero.cl SAd.zero) :: .blk ge 100 ((⟨kd, tk, (q : Nat), (k : Nat), ot, ep, fr, un, nn⟩ : En)).cells :: .blk gs 34 (s.cc c (⟨some ⟨gt, 0, none⟩, tc, some ⟨gk, 0, none⟩, kc⟩ : SAd)) :: .blk gc 30 (c.cl a) :: .sl 56 12 (.slice (some ⟨gt, 0, none⟩) c.tenants.length tc) (s.tenants.map TS.cells) :: .sl 97 4 (.slice (some ⟨gk, 0, none⟩) c.cells.length kc) (s.cells.map CS.cells) :: F) _ := hS.sb
  repeat' (first|refine K ?_|(refine Sh.sa hS ?_;clear hS;intro w hS)|(refine K3 ?_;clear hS;intro g w hS hge)|((first|refine GS ?_ ?_|refine VB ?_ ?_)<;>intro hb<;>(try simp only [J1,J2,J3,J4,J5,J6] at hb)<;>(try (exfalso;first|omega|exact hb trivial)))|(refine Z.eff (Z.cl (no_z _ _ _ _ hS) rfl ?_) rfl;clear hS;rintro e w ⟨rfl, hS⟩;refine ⟨_, rfl, ?_⟩))
  · first | refine Z.done hS Tryz.results75 (Z.RV.cell rfl (by repeat (first | exact At.here | apply At.next)) rfl (Z.RV.tmp rfl Z.RV.nil)) ?_ | refine Z.doneN hS Tryz.results75 (Z.RV.cell rfl (by repeat (first | exact At.here | apply At.next)) rfl (Z.RV.tmp rfl Z.RV.nil)) ?_
    exact .inl ⟨er, hb, rfl, hS.sb⟩
  rw [set_self hq2 hx] at hS
  refine Z.eff (Z.stTw (y0 := x) ({ x with w := (⟨(k : Int), ep, nn, fr, un⟩ : Wi) } : TS) hS rfl (by repeat (first | exact At.here | apply At.next)) hq2 rfl rfl rfl rfl rfl ?_) rfl
  clear hS; intro w hS
  repeat' (first|refine K ?_|(refine Sh.sa hS ?_;clear hS;intro w hS)|(refine K3 ?_;clear hS;intro g w hS hge)|((first|refine GS ?_ ?_|refine VB ?_ ?_)<;>intro hb<;>(try simp only [J1,J2,J3,J4,J5,J6] at hb)<;>(try (exfalso;first|omega|exact hb trivial))))
  refine Z.eff (Z.stT (y0 := { x with w := (⟨(k : Int), ep, nn, fr, un⟩ : Wi) }) (j := 6) ({ x with epoch := ep, w := (⟨(k : Int), ep, nn, fr, un⟩ : Wi) } : TS) hS rfl (by repeat (first | exact At.here | apply At.next)) hq2 rfl rfl rfl (by omega) rfl ?_) rfl
  clear hS; intro w hS
  have hxw := hxo.window (⟨(k : Int), ep, nn, fr, un⟩ : Wi) ep
  repeat' (first|refine K ?_|(refine Sh.sa hS ?_;clear hS;intro w hS)|(refine K3 ?_;clear hS;intro g w hS hge)|((first|refine GS ?_ ?_|refine VB ?_ ?_)<;>intro hb<;>(try simp only [J1,J2,J3,J4,J5,J6] at hb)<;>(try (exfalso;first|omega|exact hb trivial))))
  have hrt := row_at (fc := TS.cells) hS (e := 56) (sz := 12) (g := gt) (l := s.tenants.set q { x with epoch := ep, w := (⟨(k : Int), ep, nn, fr, un⟩ : Wi) }) (by repeat (first | exact At.here | apply At.next)) (by omega) (by simpa using hq2) (List.getElem_set_self _)
  repeat' (first|refine K ?_|(refine Sh.sa hS ?_;clear hS;intro w hS)|(refine K3 ?_;clear hS;intro g w hS hge)|((first|refine GS ?_ ?_|refine VB ?_ ?_)<;>intro hb<;>(try simp only [J1,J2,J3,J4,J5,J6] at hb)<;>(try (exfalso;first|omega|exact hb trivial))))
  · have hs' : ({ s with tenants := s.tenants.set q { x with epoch := ep, w := (⟨(k : Int), ep, nn, fr, un⟩ : Wi) } } : Sta).ok c := hs.setT hxw q
    repeat' (first|refine K ?_|(refine Sh.sa hS ?_;clear hS;intro w hS)|(refine K3 ?_;clear hS;intro g w hS hge)|((first|refine GS ?_ ?_|refine VB ?_ ?_)<;>intro hb<;>(try simp only [J1,J2,J3,J4,J5,J6] at hb)<;>(try (exfalso;first|omega|exact hb trivial))))
    refine Z.eff (Z.cl (fit_c c a (({ s with tenants := s.tenants.set q { x with epoch := ep, w := (⟨(k : Int), ep, nn, fr, un⟩ : Wi) } } : Sta)) (⟨some ⟨gt, 0, none⟩, tc, some ⟨gk, 0, none⟩, kc⟩ : SAd) _ _ _ hS (hr.app [_, _, _, _, _, _]) ho hs' ⟨Reads.of_at (e := 56) (v := .slice (some ⟨gt, 0, none⟩) c.tenants.length tc) (by repeat (first | exact At.here | apply At.next)), Reads.of_at (e := 97) (v := .slice (some ⟨gk, 0, none⟩) c.cells.length kc) (by repeat (first | exact At.here | apply At.next))⟩) rfl ?_) rfl
    clear hS
    rintro e w ⟨v, rfl, hv, hS⟩
    refine ⟨_, rfl, ?_⟩
    rcases hv with rfl | rfl
    · repeat' (first|refine K ?_|(refine Sh.sa hS ?_;clear hS;intro w hS)|(refine K3 ?_;clear hS;intro g w hS hge)|((first|refine GS ?_ ?_|refine VB ?_ ?_)<;>intro hb<;>(try simp only [J1,J2,J3,J4,J5,J6] at hb)<;>(try (exfalso;first|omega|exact hb trivial))))
      first | refine Z.done hS Tryz.results75 (Z.RV.cell rfl (by repeat (first | exact At.here | apply At.next)) rfl (Z.RV.tmp rfl Z.RV.nil)) ?_ | refine Z.doneN hS Tryz.results75 (Z.RV.cell rfl (by repeat (first | exact At.here | apply At.next)) rfl (Z.RV.tmp rfl Z.RV.nil)) ?_
      exact .inl ⟨10, by decide, rfl, hS.sb⟩
    · repeat' (first|refine K ?_|(refine Sh.sa hS ?_;clear hS;intro w hS)|(refine K3 ?_;clear hS;intro g w hS hge)|((first|refine GS ?_ ?_|refine VB ?_ ?_)<;>intro hb<;>(try simp only [J1,J2,J3,J4,J5,J6] at hb)<;>(try (exfalso;first|omega|exact hb trivial))))
      first | refine Z.done hS Tryz.results75 (Z.RV.cell rfl (by repeat (first | exact At.here | apply At.next)) rfl (Z.RV.tmp rfl Z.RV.nil)) ?_ | refine Z.doneN hS Tryz.results75 (Z.RV.cell rfl (by repeat (first | exact At.here | apply At.next)) rfl (Z.RV.tmp rfl Z.RV.nil)) ?_
      exact .inr ⟨({ s with tenants := s.tenants.set q { x with epoch := ep, w := (⟨(k : Int), ep, nn, fr, un⟩ : Wi) } } : Sta), (⟨some ⟨gt, 0, none⟩, tc, some ⟨gk, 0, none⟩, kc⟩ : SAd), rfl, hs', hS.sb⟩
  · refine Z.eff (Z.stT (y0 := { x with epoch := ep, w := (⟨(k : Int), ep, nn, fr, un⟩ : Wi) }) (j := 2) ({ x with epoch := ep, w := (⟨(k : Int), ep, nn, fr, un⟩ : Wi), home := (k : Int) } : TS) hS rfl (by repeat (first | exact At.here | apply At.next)) hq2 rfl rfl rfl (by omega) rfl ?_) rfl
    clear hS; intro w hS
    repeat' (first|refine K ?_|(refine Sh.sa hS ?_;clear hS;intro w hS)|(refine K3 ?_;clear hS;intro g w hS hge)|((first|refine GS ?_ ?_|refine VB ?_ ?_)<;>intro hb<;>(try simp only [J1,J2,J3,J4,J5,J6] at hb)<;>(try (exfalso;first|omega|exact hb trivial))))
    refine Z.eff (Z.stT (y0 := { x with epoch := ep, w := (⟨(k : Int), ep, nn, fr, un⟩ : Wi), home := (k : Int) }) (j := 3) ({ x with epoch := ep, w := (⟨(k : Int), ep, nn, fr, un⟩ : Wi), home := (k : Int), standby := -1 } : TS) hS rfl (by repeat (first | exact At.here | apply At.next)) hq2 rfl rfl rfl (by omega) rfl ?_) rfl
    clear hS; intro w hS
    repeat' (first|refine K ?_|(refine Sh.sa hS ?_;clear hS;intro w hS)|(refine K3 ?_;clear hS;intro g w hS hge)|((first|refine GS ?_ ?_|refine VB ?_ ?_)<;>intro hb<;>(try simp only [J1,J2,J3,J4,J5,J6] at hb)<;>(try (exfalso;first|omega|exact hb trivial))))
    refine Z.eff (Z.stT (y0 := { x with epoch := ep, w := (⟨(k : Int), ep, nn, fr, un⟩ : Wi), home := (k : Int), standby := -1 }) (j := 4) ({ x with epoch := ep, w := (⟨(k : Int), ep, nn, fr, un⟩ : Wi), home := (k : Int), standby := -1, next := -1 } : TS) hS rfl (by repeat (first | exact At.here | apply At.next)) hq2 rfl rfl rfl (by omega) rfl ?_) rfl
    clear hS; intro w hS
    repeat' (first|refine K ?_|(refine Sh.sa hS ?_;clear hS;intro w hS)|(refine K3 ?_;clear hS;intro g w hS hge)|((first|refine GS ?_ ?_|refine VB ?_ ?_)<;>intro hb<;>(try simp only [J1,J2,J3,J4,J5,J6] at hb)<;>(try (exfalso;first|omega|exact hb trivial))))
    refine Z.eff (Z.stT (y0 := { x with epoch := ep, w := (⟨(k : Int), ep, nn, fr, un⟩ : Wi), home := (k : Int), standby := -1, next := -1 }) (j := 5) ({ x with epoch := ep, w := (⟨(k : Int), ep, nn, fr, un⟩ : Wi), home := (k : Int), standby := -1, next := -1, target := -1 } : TS) hS rfl (by repeat (first | exact At.here | apply At.next)) hq2 rfl rfl rfl (by omega) rfl ?_) rfl
    clear hS; intro w hS
    repeat' (first|refine K ?_|(refine Sh.sa hS ?_;clear hS;intro w hS)|(refine K3 ?_;clear hS;intro g w hS hge)|((first|refine GS ?_ ?_|refine VB ?_ ?_)<;>intro hb<;>(try simp only [J1,J2,J3,J4,J5,J6] at hb)<;>(try (exfalso;first|omega|exact hb trivial))))
    refine Z.eff (Z.stT (y0 := { x with epoch := ep, w := (⟨(k : Int), ep, nn, fr, un⟩ : Wi), home := (k : Int), standby := -1, next := -1, target := -1 }) (j := 1) ({ x with epoch := ep, w := (⟨(k : Int), ep, nn, fr, un⟩ : Wi), home := (k : Int), standby := -1, next := -1, target := -1, shed := false } : TS) hS rfl (by repeat (first | exact At.here | apply At.next)) hq2 rfl rfl rfl (by omega) rfl ?_) rfl
    clear hS; intro w hS
    have hs' : ({ s with tenants := s.tenants.set q { x with epoch := ep, w := (⟨(k : Int), ep, nn, fr, un⟩ : Wi), home := (k : Int), standby := -1, next := -1, target := -1, shed := false } } : Sta).ok c := hs.setT (hxw.over hp (k := (k : Int)) ⟨by omega, by omega⟩) q
    repeat' (first|refine K ?_|(refine Sh.sa hS ?_;clear hS;intro w hS)|(refine K3 ?_;clear hS;intro g w hS hge)|((first|refine GS ?_ ?_|refine VB ?_ ?_)<;>intro hb<;>(try simp only [J1,J2,J3,J4,J5,J6] at hb)<;>(try (exfalso;first|omega|exact hb trivial))))
    refine Z.eff (Z.cl (fit_c c a (({ s with tenants := s.tenants.set q { x with epoch := ep, w := (⟨(k : Int), ep, nn, fr, un⟩ : Wi), home := (k : Int), standby := -1, next := -1, target := -1, shed := false } } : Sta)) (⟨some ⟨gt, 0, none⟩, tc, some ⟨gk, 0, none⟩, kc⟩ : SAd) _ _ _ hS (hr.app [_, _, _, _, _, _]) ho hs' ⟨Reads.of_at (e := 56) (v := .slice (some ⟨gt, 0, none⟩) c.tenants.length tc) (by repeat (first | exact At.here | apply At.next)), Reads.of_at (e := 97) (v := .slice (some ⟨gk, 0, none⟩) c.cells.length kc) (by repeat (first | exact At.here | apply At.next))⟩) rfl ?_) rfl
    clear hS
    rintro e w ⟨v, rfl, hv, hS⟩
    refine ⟨_, rfl, ?_⟩
    rcases hv with rfl | rfl
    · repeat' (first|refine K ?_|(refine Sh.sa hS ?_;clear hS;intro w hS)|(refine K3 ?_;clear hS;intro g w hS hge)|((first|refine GS ?_ ?_|refine VB ?_ ?_)<;>intro hb<;>(try simp only [J1,J2,J3,J4,J5,J6] at hb)<;>(try (exfalso;first|omega|exact hb trivial))))
      first | refine Z.done hS Tryz.results75 (Z.RV.cell rfl (by repeat (first | exact At.here | apply At.next)) rfl (Z.RV.tmp rfl Z.RV.nil)) ?_ | refine Z.doneN hS Tryz.results75 (Z.RV.cell rfl (by repeat (first | exact At.here | apply At.next)) rfl (Z.RV.tmp rfl Z.RV.nil)) ?_
      exact .inl ⟨10, by decide, rfl, hS.sb⟩
    · repeat' (first|refine K ?_|(refine Sh.sa hS ?_;clear hS;intro w hS)|(refine K3 ?_;clear hS;intro g w hS hge)|((first|refine GS ?_ ?_|refine VB ?_ ?_)<;>intro hb<;>(try simp only [J1,J2,J3,J4,J5,J6] at hb)<;>(try (exfalso;first|omega|exact hb trivial))))
      first | refine Z.done hS Tryz.results75 (Z.RV.cell rfl (by repeat (first | exact At.here | apply At.next)) rfl (Z.RV.tmp rfl Z.RV.nil)) ?_ | refine Z.doneN hS Tryz.results75 (Z.RV.cell rfl (by repeat (first | exact At.here | apply At.next)) rfl (Z.RV.tmp rfl Z.RV.nil)) ?_
      exact .inr ⟨({ s with tenants := s.tenants.set q { x with epoch := ep, w := (⟨(k : Int), ep, nn, fr, un⟩ : Wi), home := (k : Int), standby := -1, next := -1, target := -1, shed := false } } : Sta), (⟨some ⟨gt, 0, none⟩, tc, some ⟨gk, 0, none⟩, kc⟩ : SAd), rfl, hs', hS.sb⟩
  · have hkt : (k : Int) = x.target := by omega
    refine Z.eff (Z.stT (y0 := { x with epoch := ep, w := (⟨(k : Int), ep, nn, fr, un⟩ : Wi) }) (j := 2) ({ x with epoch := ep, w := (⟨(k : Int), ep, nn, fr, un⟩ : Wi), home := (k : Int) } : TS) hS rfl (by repeat (first | exact At.here | apply At.next)) hq2 rfl rfl rfl (by omega) rfl ?_) rfl
    clear hS; intro w hS
    repeat' (first|refine K ?_|(refine Sh.sa hS ?_;clear hS;intro w hS)|(refine K3 ?_;clear hS;intro g w hS hge)|((first|refine GS ?_ ?_|refine VB ?_ ?_)<;>intro hb<;>(try simp only [J1,J2,J3,J4,J5,J6] at hb)<;>(try (exfalso;first|omega|exact hb trivial))))
    refine Z.eff (Z.stT (y0 := { x with epoch := ep, w := (⟨(k : Int), ep, nn, fr, un⟩ : Wi), home := (k : Int) }) (j := 5) ({ x with epoch := ep, w := (⟨(k : Int), ep, nn, fr, un⟩ : Wi), home := (k : Int), target := -1 } : TS) hS rfl (by repeat (first | exact At.here | apply At.next)) hq2 rfl rfl rfl (by omega) rfl ?_) rfl
    clear hS; intro w hS
    have hs' : ({ s with tenants := s.tenants.set q { x with epoch := ep, w := (⟨(k : Int), ep, nn, fr, un⟩ : Wi), home := (k : Int), target := -1 } } : Sta).ok c := hs.setT (by have h := hxw.moved hp (show 0 ≤ x.target by omega); simp only [← hkt] at h; exact h) q
    repeat' (first|refine K ?_|(refine Sh.sa hS ?_;clear hS;intro w hS)|(refine K3 ?_;clear hS;intro g w hS hge)|((first|refine GS ?_ ?_|refine VB ?_ ?_)<;>intro hb<;>(try simp only [J1,J2,J3,J4,J5,J6] at hb)<;>(try (exfalso;first|omega|exact hb trivial))))
    refine Z.eff (Z.cl (fit_c c a (({ s with tenants := s.tenants.set q { x with epoch := ep, w := (⟨(k : Int), ep, nn, fr, un⟩ : Wi), home := (k : Int), target := -1 } } : Sta)) (⟨some ⟨gt, 0, none⟩, tc, some ⟨gk, 0, none⟩, kc⟩ : SAd) _ _ _ hS (hr.app [_, _, _, _, _, _]) ho hs' ⟨Reads.of_at (e := 56) (v := .slice (some ⟨gt, 0, none⟩) c.tenants.length tc) (by repeat (first | exact At.here | apply At.next)), Reads.of_at (e := 97) (v := .slice (some ⟨gk, 0, none⟩) c.cells.length kc) (by repeat (first | exact At.here | apply At.next))⟩) rfl ?_) rfl
    clear hS
    rintro e w ⟨v, rfl, hv, hS⟩
    refine ⟨_, rfl, ?_⟩
    rcases hv with rfl | rfl
    · repeat' (first|refine K ?_|(refine Sh.sa hS ?_;clear hS;intro w hS)|(refine K3 ?_;clear hS;intro g w hS hge)|((first|refine GS ?_ ?_|refine VB ?_ ?_)<;>intro hb<;>(try simp only [J1,J2,J3,J4,J5,J6] at hb)<;>(try (exfalso;first|omega|exact hb trivial))))
      first | refine Z.done hS Tryz.results75 (Z.RV.cell rfl (by repeat (first | exact At.here | apply At.next)) rfl (Z.RV.tmp rfl Z.RV.nil)) ?_ | refine Z.doneN hS Tryz.results75 (Z.RV.cell rfl (by repeat (first | exact At.here | apply At.next)) rfl (Z.RV.tmp rfl Z.RV.nil)) ?_
      exact .inl ⟨10, by decide, rfl, hS.sb⟩
    · repeat' (first|refine K ?_|(refine Sh.sa hS ?_;clear hS;intro w hS)|(refine K3 ?_;clear hS;intro g w hS hge)|((first|refine GS ?_ ?_|refine VB ?_ ?_)<;>intro hb<;>(try simp only [J1,J2,J3,J4,J5,J6] at hb)<;>(try (exfalso;first|omega|exact hb trivial))))
      first | refine Z.done hS Tryz.results75 (Z.RV.cell rfl (by repeat (first | exact At.here | apply At.next)) rfl (Z.RV.tmp rfl Z.RV.nil)) ?_ | refine Z.doneN hS Tryz.results75 (Z.RV.cell rfl (by repeat (first | exact At.here | apply At.next)) rfl (Z.RV.tmp rfl Z.RV.nil)) ?_
      exact .inr ⟨({ s with tenants := s.tenants.set q { x with epoch := ep, w := (⟨(k : Int), ep, nn, fr, un⟩ : Wi), home := (k : Int), target := -1 } } : Sta), (⟨some ⟨gt, 0, none⟩, tc, some ⟨gk, 0, none⟩, kc⟩ : SAd), rfl, hs', hS.sb⟩
end Go.Proofs.YtmgpionlfemhdaaGreat
