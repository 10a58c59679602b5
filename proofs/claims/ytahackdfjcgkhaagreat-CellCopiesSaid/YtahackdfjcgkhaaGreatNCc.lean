/-
  CellCopies: for every input the call returns true, and the arguments read afterwards as they read before.
-/
import Derived.Test.YtahackdfjcgkhaaGreatYd
import Derived.Test.YtahackdfjcgkhaaGreatNSx
import Derived.Test.YtahackdfjcgkhaaGreatNNx
import Derived.Test.YtahackdfjcgkhaaGreatH1
import Derived.Test.YtahackdfjcgkhaaGreatNAc
import Derived.Test.YtahackdfjcgkhaaGreatE3
namespace Go.Proofs.YtahackdfjcgkhaaGreat
open Go.RowKit Go.ChangeShapes Go.WideShapes Go.ChangeAt
set_option linter.unusedSimpArgs false
set_option linter.unusedVariables false

set_option maxHeartbeats 2000000 in
theorem rcsame_z (g g' : Nat) (cell ten cell' ten' : Int) (vg vg' : Value) (c c' : Cp) (r : World) (F : List Res) (w : World) (hS : Sep r [] (CR g cell ten vg c :: CR g' cell' ten' vg' c' :: F) w) (hl : c.h.length ≤ 5000) (hl' : c'.h.length ≤ 5000) :
    Calls Tryz.prog 54 #[.pointer (some ⟨g, 0, .none⟩), .pointer (some ⟨g', 0, .none⟩)] w fun e w' => e = .returned (.bool (decide (ten = ten' ∧ c.h = c'.h))) ∧ Sep r [] (CR g cell ten vg c :: CR g' cell' ten' vg' c' :: F) w' := by
  obtain ⟨vh, gs, gq, gt, vs, vl, vr, hS⟩ := Sep.CR_open.1 hS
  obtain ⟨Ah, ch, rfl, _⟩ := (hS.slrows (e := 49) (v := vh) (by repeat (first | exact At.here | apply At.next))).mform
  obtain ⟨vh', gs', gq', gt', vs', vl', vr', hS⟩ := Sep.CR_open.1 (hS.focus (R := CR g' cell' ten' vg' c') (by repeat (first | exact At.here | apply At.next)))
  obtain ⟨Ah', ch', rfl, _⟩ := (hS.slrows (e := 49) (v := vh') (by repeat (first | exact At.here | apply At.next))).mform
  refine Z.enter Tryz.func54 Tryz.ntmps54 rfl rfl ?_
  repeat' (first|refine Kd ?_|(refine Sh.sa hS ?_;clear hS;intro w hS)|(refine K3 ?_;clear hS;intro g w hS hge)|((first|refine GS ?_ ?_|refine VB ?_ ?_)<;>intro hb<;>(try simp only [J1,J2,J3,J4,J5,J6] at hb)<;>(try (exfalso;first|omega|exact hb trivial))))
  refine D.startS (Lr := [.blk g 69 _, .blk g' 69 _]) (hS.sb) 21 21 (by kernel_rfl) rfl ?_
  replace hS := hS.drew
  refine Sh.dp 0 1 ?_
  refine Sh.dp 1 3 ?_
  refine Sh.dp 2 7 ?_
  refine Sh.dp 4 23 ?_
  refine Sh.dp 5 55 ?_
  refine Sh.dp 6 119 ?_
  refine Sh.dl 3 127 ?_
  refine Sh.dl 7 255 ?_
  first | refine D.pr 8 511 rfl D.wantedN (by kernel_rfl) rfl ?_ | refine D.pl 8 511 rfl D.wantedN (by kernel_rfl) (R.eqa rfl rfl rfl rfl) ?_
  refine Sh.dp 9 1023 ?_
  refine D.slot 14 rfl (fun hb => ?_) (fun hb => ?_)
  · (try simp only [decide_eq_true_eq, decide_eq_false_iff_not, Bool.not_eq_true', Bool.not_eq_false', Int.not_lt, Int.not_le] at hb)
    refine Sh.dp 10 2047 ?_
    refine Sh.dp 11 4095 ?_
    refine Sh.dp 12 8191 ?_
    refine Sh.dp 14 24575 ?_
    refine Sh.dp 15 57343 ?_
    refine Sh.dp 16 122879 ?_
    refine Sh.dl 13 131071 ?_
    refine Sh.dl 17 262143 ?_
    refine D.eff 18 524287 rfl (D.wantedT rfl rfl) (by kernel_rfl) (by kernel_rfl) (fun _ _ h => h) ?_
    refine WE.guard ?_
    refine Z.cl (chsame_z c.h c'.h _ _ _ _ _ hS (Reads.of_at (e := 49) (v := .slice Ah c.h.length ch) (by repeat (first | exact At.here | apply At.next))) (Reads.of_at (e := 49) (v := .slice Ah' c'.h.length ch') (by repeat (first | exact At.here | apply At.next))) (by omega) (by omega)) rfl ?_
    clear hS
    rintro e w ⟨rfl, hS⟩
    refine ⟨_, rfl, ?_⟩
    refine ⟨HM.s (hS.sb), ?_⟩
    refine Sh.dp 19 1048575 ?_
    refine Sh.dp 20 2097151 ?_
    refine D.done (by kernel_rfl) ?_
    repeat' (first|refine Kd ?_|(refine Sh.sa hS ?_;clear hS;intro w hS)|(refine K3 ?_;clear hS;intro g w hS hge)|((first|refine GS ?_ ?_|refine VB ?_ ?_)<;>intro hb<;>(try simp only [J1,J2,J3,J4,J5,J6] at hb)<;>(try (exfalso;first|omega|exact hb trivial))))
    refine Dnt Tryz.results54 ?_
    refine ⟨by simp [hb, Z.packR], ?_⟩
    replace hS := Sep.CR_open.2 ⟨.slice Ah c.h.length ch, gs, gq, gt, vs, vl, vr, hS.sub (L' := .blk g 69 [.int .i64 cell, .int .i64 ten, .slice Ah c.h.length ch, .pointer (some ⟨gs, 0, none⟩), .pointer (some ⟨gq, 0, none⟩), .pointer (some ⟨gt, 0, none⟩), vg] :: .sl 49 8 (.slice Ah c.h.length ch) (c.h.map Ch.cells) :: .blk gs 100 [vs] :: .sl 102 3 vs (c.s.map Ce.cells) :: .blk gq 105 [vl, vr, .int .i64 c.q.most] :: .sl 79 2 vl (c.q.l.map It.cells) :: .sl 133 4 vr (c.q.r.map Le.cells) :: .blk gt 109 c.t.cells.toList :: .blk g' 69 [.int .i64 cell', .int .i64 ten', .slice Ah' c'.h.length ch', .pointer (some ⟨gs', 0, none⟩), .pointer (some ⟨gq', 0, none⟩), .pointer (some ⟨gt', 0, none⟩), vg'] :: .sl 49 8 (.slice Ah' c'.h.length ch') (c'.h.map Ch.cells) :: .blk gs' 100 [vs'] :: .sl 102 3 vs' (c'.s.map Ce.cells) :: .blk gq' 105 [vl', vr', .int .i64 c'.q.most] :: .sl 79 2 vl' (c'.q.l.map It.cells) :: .sl 133 4 vr' (c'.q.r.map Le.cells) :: .blk gt' 109 c'.t.cells.toList :: F) (by repeat (first | exact Sub.rest | exact Sub.nil | exact .skip .rest | exact .skip (.skip .rest) | exact .skip (.skip (.skip .rest)) | apply Sub.keep | refine Sub.cons (by repeat (first | exact At.here | apply At.next)) ?_ | apply Sub.skip))⟩
    exact (Sep.CR_open.2 ⟨.slice Ah' c'.h.length ch', gs', gq', gt', vs', vl', vr', hS.sub (L' := .blk g' 69 [.int .i64 cell', .int .i64 ten', .slice Ah' c'.h.length ch', .pointer (some ⟨gs', 0, none⟩), .pointer (some ⟨gq', 0, none⟩), .pointer (some ⟨gt', 0, none⟩), vg'] :: .sl 49 8 (.slice Ah' c'.h.length ch') (c'.h.map Ch.cells) :: .blk gs' 100 [vs'] :: .sl 102 3 vs' (c'.s.map Ce.cells) :: .blk gq' 105 [vl', vr', .int .i64 c'.q.most] :: .sl 79 2 vl' (c'.q.l.map It.cells) :: .sl 133 4 vr' (c'.q.r.map Le.cells) :: .blk gt' 109 c'.t.cells.toList :: CR g cell ten vg c :: F) (by repeat (first | exact Sub.rest | exact Sub.nil | exact .skip .rest | exact .skip (.skip .rest) | exact .skip (.skip (.skip .rest)) | apply Sub.keep | refine Sub.cons (by repeat (first | exact At.here | apply At.next)) ?_ | apply Sub.skip))⟩).swap
  · (try simp only [decide_eq_true_eq, decide_eq_false_iff_not, Bool.not_eq_true', Bool.not_eq_false', Int.not_lt, Int.not_le] at hb)
    refine D.skF 10 2047 rfl (by kernel_rfl) rfl rfl ?_
    refine D.skF 11 4095 rfl (by kernel_rfl) rfl rfl ?_
    refine D.skF 12 8191 rfl (by kernel_rfl) rfl rfl ?_
    refine D.skF 13 16383 rfl (by kernel_rfl) rfl rfl ?_
    refine D.skF 14 32767 rfl (by kernel_rfl) rfl rfl ?_
    refine D.skF 15 65535 rfl (by kernel_rfl) rfl rfl ?_
    refine D.skF 16 131071 rfl (by kernel_rfl) rfl rfl ?_
    refine D.skF 17 262143 rfl (by kernel_rfl) rfl rfl ?_
    refine D.skF 18 524287 rfl (by kernel_rfl) rfl rfl ?_
    refine Sh.dp 19 1048575 ?_
    refine Sh.dp 20 2097151 ?_
    refine D.done (by kernel_rfl) ?_
    repeat' (first|refine Kd ?_|(refine Sh.sa hS ?_;clear hS;intro w hS)|(refine K3 ?_;clear hS;intro g w hS hge)|((first|refine GS ?_ ?_|refine VB ?_ ?_)<;>intro hb<;>(try simp only [J1,J2,J3,J4,J5,J6] at hb)<;>(try (exfalso;first|omega|exact hb trivial))))
    refine Dnt Tryz.results54 ?_
    refine ⟨by simp [hb, Z.packR], ?_⟩
    replace hS := Sep.CR_open.2 ⟨.slice Ah c.h.length ch, gs, gq, gt, vs, vl, vr, hS.sub (L' := .blk g 69 [.int .i64 cell, .int .i64 ten, .slice Ah c.h.length ch, .pointer (some ⟨gs, 0, none⟩), .pointer (some ⟨gq, 0, none⟩), .pointer (some ⟨gt, 0, none⟩), vg] :: .sl 49 8 (.slice Ah c.h.length ch) (c.h.map Ch.cells) :: .blk gs 100 [vs] :: .sl 102 3 vs (c.s.map Ce.cells) :: .blk gq 105 [vl, vr, .int .i64 c.q.most] :: .sl 79 2 vl (c.q.l.map It.cells) :: .sl 133 4 vr (c.q.r.map Le.cells) :: .blk gt 109 c.t.cells.toList :: .blk g' 69 [.int .i64 cell', .int .i64 ten', .slice Ah' c'.h.length ch', .pointer (some ⟨gs', 0, none⟩), .pointer (some ⟨gq', 0, none⟩), .pointer (some ⟨gt', 0, none⟩), vg'] :: .sl 49 8 (.slice Ah' c'.h.length ch') (c'.h.map Ch.cells) :: .blk gs' 100 [vs'] :: .sl 102 3 vs' (c'.s.map Ce.cells) :: .blk gq' 105 [vl', vr', .int .i64 c'.q.most] :: .sl 79 2 vl' (c'.q.l.map It.cells) :: .sl 133 4 vr' (c'.q.r.map Le.cells) :: .blk gt' 109 c'.t.cells.toList :: F) (by repeat (first | exact Sub.rest | exact Sub.nil | exact .skip .rest | exact .skip (.skip .rest) | exact .skip (.skip (.skip .rest)) | apply Sub.keep | refine Sub.cons (by repeat (first | exact At.here | apply At.next)) ?_ | apply Sub.skip))⟩
    exact (Sep.CR_open.2 ⟨.slice Ah' c'.h.length ch', gs', gq', gt', vs', vl', vr', hS.sub (L' := .blk g' 69 [.int .i64 cell', .int .i64 ten', .slice Ah' c'.h.length ch', .pointer (some ⟨gs', 0, none⟩), .pointer (some ⟨gq', 0, none⟩), .pointer (some ⟨gt', 0, none⟩), vg'] :: .sl 49 8 (.slice Ah' c'.h.length ch') (c'.h.map Ch.cells) :: .blk gs' 100 [vs'] :: .sl 102 3 vs' (c'.s.map Ce.cells) :: .blk gq' 105 [vl', vr', .int .i64 c'.q.most] :: .sl 79 2 vl' (c'.q.l.map It.cells) :: .sl 133 4 vr' (c'.q.r.map Le.cells) :: .blk gt' 109 c'.t.cells.toList :: CR g cell ten vg c :: F) (by repeat (first | exact Sub.rest | exact Sub.nil | exact .skip .rest | exact .skip (.skip .rest) | exact .skip (.skip (.skip .rest)) | apply Sub.keep | refine Sub.cons (by repeat (first | exact At.here | apply At.next)) ?_ | apply Sub.skip))⟩).swap

theorem a8_ok {l : List A8} : ∀ row, row ∈ l.map A8.cells → row.length = 23 ∧ ∀ u, u ∈ row → u.oneCell' = true := by
  intro row hr
  obtain ⟨x, _, rfl⟩ := List.mem_map.1 hr
  exact ⟨rfl, by simp [A8.cells, Value.oneCell']⟩
set_option maxHeartbeats 8000000 in
theorem copies28_z (l : List Int) (A : Option Addr) (cap : Nat) (l2 : List Int) (A2 : Option Addr) (cap2 : Nat) (a : A8) (r : World) (hr0 : Rd r 1 A l.length (l.map (Value.int .i64))) (hr1 : Rd r 1 A2 l2.length (l2.map (Value.int .i64))) :
    Calls Tryz.prog 12 #[.slice A l.length cap, .slice A2 l2.length cap2, a.val] r fun e w' => e = .returned (.bool true) ∧ Chg [] r w' := by
  have hS := Sep.root r
  refine Z.enter Tryz.func12 Tryz.ntmps12 rfl rfl ?_
  repeat' (first|refine Kd ?_|(refine Sh.sa hS ?_;clear hS;intro w hS)|(refine K3 ?_;clear hS;intro g w hS hge)|((first|refine GS ?_ ?_|refine VB ?_ ?_)<;>intro hb<;>(try simp only [J1,J2,J3,J4,J5,J6] at hb)<;>(try (exfalso;first|omega|exact hb trivial))))
  rename Nat => g5
  refine Z.eff (Z.cl (awake28_z _ _ _ hS) rfl ?_) rfl
  clear hS
  rintro e w ⟨rfl, hS⟩
  refine ⟨_, rfl, ?_⟩
  repeat' (first|refine Kd ?_|(refine Sh.sa hS ?_;clear hS;intro w hS)|(refine K3 ?_;clear hS;intro g w hS hge)|((first|refine GS ?_ ?_|refine VB ?_ ?_)<;>intro hb<;>(try simp only [J1,J2,J3,J4,J5,J6] at hb)<;>(try (exfalso;first|omega|exact hb trivial))))
  refine Z.eff (Z.cl (lightS_z A l.length cap _ _ _ hS) rfl ?_) rfl
  clear hS
  rintro e w ⟨rfl, hS⟩
  refine ⟨_, rfl, ?_⟩
  repeat' (first|refine Kd ?_|(refine Sh.sa hS ?_;clear hS;intro w hS)|(refine K3 ?_;clear hS;intro g w hS hge)|((first|refine GS ?_ ?_|refine VB ?_ ?_)<;>intro hb<;>(try simp only [J1,J2,J3,J4,J5,J6] at hb)<;>(try (exfalso;first|omega|exact hb trivial))))
  · refine Dnt Tryz.results12 ?_
    exact ⟨rfl, hS.chg⟩
  rename _ ≤ (150 : Int) => hlt
  refine Z.eff (Z.cl (lightS_z A2 l2.length cap2 _ _ _ hS) rfl ?_) rfl
  clear hS
  rintro e w ⟨rfl, hS⟩
  refine ⟨_, rfl, ?_⟩
  repeat' (first|refine Kd ?_|(refine Sh.sa hS ?_;clear hS;intro w hS)|(refine K3 ?_;clear hS;intro g w hS hge)|((first|refine GS ?_ ?_|refine VB ?_ ?_)<;>intro hb<;>(try simp only [J1,J2,J3,J4,J5,J6] at hb)<;>(try (exfalso;first|omega|exact hb trivial))))
  · refine Dnt Tryz.results12 ?_
    exact ⟨rfl, hS.chg⟩
  rename _ ≤ (150 : Int) => hlt2
  rename Nat => gl
  replace hS := mk_sl (sz := 23) (n := 1) (rows := [a].map A8.cells) hS rfl (by omega) (by decide) a8_ok rfl
  refine Z.eff (Z.cl (light28_z [a] _ _ _ _ hS (Reads.of_at (e := 89) .here)) rfl ?_) rfl
  clear hS
  rintro e w ⟨b, rfl, hb40, hS⟩
  refine ⟨_, rfl, ?_⟩
  cases b
  · repeat' (first|refine Kd ?_|(refine Sh.sa hS ?_;clear hS;intro w hS)|(refine K3 ?_;clear hS;intro g w hS hge)|((first|refine GS ?_ ?_|refine VB ?_ ?_)<;>intro hb<;>(try simp only [J1,J2,J3,J4,J5,J6] at hb)<;>(try (exfalso;first|omega|exact hb trivial))))
    refine Dnt Tryz.results12 ?_
    exact ⟨rfl, hS.chg⟩
  clear hb40
  replace hS := hS.sub (L' := .blk g5 89 a.cells :: []) (by repeat (first | exact Sub.rest | exact Sub.nil | exact .skip .rest | exact .skip (.skip .rest) | exact .skip (.skip (.skip .rest)) | apply Sub.keep | refine Sub.cons (by repeat (first | exact At.here | apply At.next)) ?_ | apply Sub.skip))
  repeat' (first|refine Kd ?_|(refine Sh.sa hS ?_;clear hS;intro w hS)|(refine K3 ?_;clear hS;intro g w hS hge)|((first|refine GS ?_ ?_|refine VB ?_ ?_)<;>intro hb<;>(try simp only [J1,J2,J3,J4,J5,J6] at hb)<;>(try (exfalso;first|omega|exact hb trivial))))
  refine Z.eff (Z.cl (history_z l A cap _ _ _ hS hr0 (by omega)) rfl ?_) rfl
  clear hS
  rintro e w ⟨vh, rfl, hS⟩
  refine ⟨_, rfl, ?_⟩
  have hH := hist_isH l
  have hHl := hist_len l
  generalize hh : (hist l).h = h at *
  obtain ⟨Ah, ch, rfl, _⟩ := (hS.slrows .here).mform
  repeat' (first|refine Kd ?_|(refine Sh.sa hS ?_;clear hS;intro w hS)|(refine K3 ?_;clear hS;intro g w hS hge)|((first|refine GS ?_ ?_|refine VB ?_ ?_)<;>intro hb<;>(try simp only [J1,J2,J3,J4,J5,J6] at hb)<;>(try (exfalso;first|omega|exact hb trivial))))
  refine Z.eff (Z.cl (pcfold_ok 1 0 h _ _ _ _ hS (Reads.of_at (e := 49) .here) (by omega) hH) rfl ?_) rfl
  clear hS
  rintro e w ⟨gc, ggc, rfl, hS⟩
  refine ⟨_, rfl, ?_⟩
  repeat' (first|refine Kd ?_|(refine Sh.sa hS ?_;clear hS;intro w hS)|(refine K3 ?_;clear hS;intro g w hS hge)|((first|refine GS ?_ ?_|refine VB ?_ ?_)<;>intro hb<;>(try simp only [J1,J2,J3,J4,J5,J6] at hb)<;>(try (exfalso;first|omega|exact hb trivial))))
  refine Z.eff (Z.cl (history_z l2 A2 cap2 _ _ _ hS hr1 (by omega)) rfl ?_) rfl
  clear hS
  rintro e w ⟨vh, rfl, hS⟩
  refine ⟨_, rfl, ?_⟩
  have hH2 := hist_isH l2
  have hHl2 := hist_len l2
  generalize hh2 : (hist l2).h = h2 at *
  obtain ⟨Ah, ch, rfl, _⟩ := (hS.slrows .here).mform
  repeat' (first|refine Kd ?_|(refine Sh.sa hS ?_;clear hS;intro w hS)|(refine K3 ?_;clear hS;intro g w hS hge)|((first|refine GS ?_ ?_|refine VB ?_ ?_)<;>intro hb<;>(try simp only [J1,J2,J3,J4,J5,J6] at hb)<;>(try (exfalso;first|omega|exact hb trivial))))
  refine Z.eff (Z.cl (pcfold_ok 2 0 h2 _ _ _ _ hS (Reads.of_at (e := 49) .here) (by omega) hH2) rfl ?_) rfl
  clear hS
  rintro e w ⟨gd, ggd, rfl, hS⟩
  refine ⟨_, rfl, ?_⟩
  repeat' (first|refine Kd ?_|(refine Sh.sa hS ?_;clear hS;intro w hS)|(refine K3 ?_;clear hS;intro g w hS hge)|((first|refine GS ?_ ?_|refine VB ?_ ?_)<;>intro hb<;>(try simp only [J1,J2,J3,J4,J5,J6] at hb)<;>(try (exfalso;first|omega|exact hb trivial))))
  refine Z.eff (Z.cl (history_z l A cap _ _ _ hS hr0 (by omega)) rfl ?_) rfl
  clear hS
  rintro e w ⟨vh, rfl, hS⟩
  refine ⟨_, rfl, ?_⟩
  rw [hh] at hS
  obtain ⟨Ah, ch, rfl, _⟩ := (hS.slrows .here).mform
  repeat' (first|refine Kd ?_|(refine Sh.sa hS ?_;clear hS;intro w hS)|(refine K3 ?_;clear hS;intro g w hS hge)|((first|refine GS ?_ ?_|refine VB ?_ ?_)<;>intro hb<;>(try simp only [J1,J2,J3,J4,J5,J6] at hb)<;>(try (exfalso;first|omega|exact hb trivial))))
  refine Z.eff (Z.cl (rcfold_ok 1 0 h _ _ _ _ hS (Reads.of_at (e := 49) .here) (by omega) hH) rfl ?_) rfl
  clear hS
  rintro e w ⟨gw, ggw, rfl, hS⟩
  refine ⟨_, rfl, ?_⟩
  repeat' (first|refine Kd ?_|(refine Sh.sa hS ?_;clear hS;intro w hS)|(refine K3 ?_;clear hS;intro g w hS hge)|((first|refine GS ?_ ?_|refine VB ?_ ?_)<;>intro hb<;>(try simp only [J1,J2,J3,J4,J5,J6] at hb)<;>(try (exfalso;first|omega|exact hb trivial))))
  refine Z.eff (Z.cl (history_z l2 A2 cap2 _ _ _ hS hr1 (by omega)) rfl ?_) rfl
  clear hS
  rintro e w ⟨vh, rfl, hS⟩
  refine ⟨_, rfl, ?_⟩
  rw [hh2] at hS
  obtain ⟨Ah, ch, rfl, _⟩ := (hS.slrows .here).mform
  repeat' (first|refine Kd ?_|(refine Sh.sa hS ?_;clear hS;intro w hS)|(refine K3 ?_;clear hS;intro g w hS hge)|((first|refine GS ?_ ?_|refine VB ?_ ?_)<;>intro hb<;>(try simp only [J1,J2,J3,J4,J5,J6] at hb)<;>(try (exfalso;first|omega|exact hb trivial))))
  refine Z.eff (Z.cl (rcfold_ok 2 0 h2 _ _ _ _ hS (Reads.of_at (e := 49) .here) (by omega) hH2) rfl ?_) rfl
  clear hS
  rintro e w ⟨gv, ggv, rfl, hS⟩
  refine ⟨_, rfl, ?_⟩
  replace hS := Sep.gate0 (hS.focus (R := .blk ggc _ _) (by repeat (first | exact At.here | apply At.next)))
  replace hS := Sep.gate1 (hS.focus (R := .blk ggw _ _) (by repeat (first | exact At.here | apply At.next)))
  replace hS := hS.sub (L' := PC gc 1 0 (.pointer (some ⟨ggc, 0, .none⟩)) (cpOf h) :: PC gd 2 0 (.pointer (some ⟨ggd, 0, .none⟩)) (cpOf h2) :: GP ggc ⟨1, 0, []⟩ :: GR ggw ⟨1, 0, []⟩ :: CR gw 1 0 (.pointer (some ⟨ggw, 0, .none⟩)) (cpOf h) :: CR gv 2 0 (.pointer (some ⟨ggv, 0, .none⟩)) (cpOf h2) :: .blk g5 89 a.cells :: []) (by repeat (first | exact Sub.rest | exact Sub.nil | exact .skip .rest | exact .skip (.skip .rest) | exact .skip (.skip (.skip .rest)) | apply Sub.keep | refine Sub.cons (by repeat (first | exact At.here | apply At.next)) ?_ | apply Sub.skip))
  have hgg := hH.good
  have hgg2 := hH2.good
  have hcg := hgg.1.cg hgg.1.qok
  have hok := hcg.ok
  have hlc : (cpOf h).h.length ≤ 60 := by rw [hgg.2.1]; omega
  have hlc2 : (cpOf h2).h.length ≤ 60 := by rw [hgg2.2.1]; omega
  repeat' (first|refine Kd ?_|(refine Sh.sa hS ?_;clear hS;intro w hS)|(refine K3 ?_;clear hS;intro g w hS hge)|((first|refine GS ?_ ?_|refine VB ?_ ?_)<;>intro hb<;>(try simp only [J1,J2,J3,J4,J5,J6] at hb)<;>(try (exfalso;first|omega|exact hb trivial))))
  refine Z.eff (Z.cl (pcsame_z gc gd 1 0 2 0 _ _ (cpOf h) (cpOf h2) _ _ _ hS (by omega) (by omega)) rfl ?_) rfl
  clear hS
  rintro e w ⟨rfl, hS⟩
  refine ⟨_, rfl, ?_⟩
  repeat' (first|refine Kd ?_|(refine Sh.sa hS ?_;clear hS;intro w hS)|(refine K3 ?_;clear hS;intro g w hS hge)|((first|refine GS ?_ ?_|refine VB ?_ ?_)<;>intro hb<;>(try simp only [J1,J2,J3,J4,J5,J6] at hb)<;>(try (exfalso;first|omega|exact hb trivial))))
  replace hS := (hS.focus (R := CR gv _ _ _ _) (by repeat (first | exact At.here | apply At.next))).focus (R := CR gw _ _ _ _) (by repeat (first | exact At.here | apply At.next))
  refine Z.eff (Z.cl (rcsame_z gw gv 1 0 2 0 _ _ (cpOf h) (cpOf h2) _ _ _ hS (by omega) (by omega)) rfl ?_) rfl
  clear hS
  rintro e w ⟨rfl, hS⟩
  refine ⟨_, rfl, ?_⟩
  generalize decide ((0 : Int) = 0 ∧ (cpOf h).h = (cpOf h2).h) = bq
  repeat' (first|refine Kd ?_|(refine Sh.sa hS ?_;clear hS;intro w hS)|(refine K3 ?_;clear hS;intro g w hS hge)|((first|refine GS ?_ ?_|refine VB ?_ ?_)<;>intro hb<;>(try simp only [J1,J2,J3,J4,J5,J6] at hb)<;>(try (exfalso;first|omega|exact hb trivial))))
  · exfalso
    simp at hb
  replace hS := (hS.focus (R := GP ggc _) (by repeat (first | exact At.here | apply At.next))).focus (R := PC gc _ _ _ _) (by repeat (first | exact At.here | apply At.next))
  refine Z.eff (Z.cl (pccopy_z gc ggc 1 0 (cpOf h) ⟨1, 0, []⟩ _ _ _ hS (by omega) (by omega) (by omega) (by simp)) rfl ?_) rfl
  clear hS
  rintro e w ⟨gx, ggx, rfl, hS⟩
  refine ⟨_, rfl, ?_⟩
  repeat' (first|refine Kd ?_|(refine Sh.sa hS ?_;clear hS;intro w hS)|(refine K3 ?_;clear hS;intro g w hS hge)|((first|refine GS ?_ ?_|refine VB ?_ ?_)<;>intro hb<;>(try simp only [J1,J2,J3,J4,J5,J6] at hb)<;>(try (exfalso;first|omega|exact hb trivial))))
  replace hS := (hS.focus (R := GR ggw _) (by repeat (first | exact At.here | apply At.next))).focus (R := CR gw _ _ _ _) (by repeat (first | exact At.here | apply At.next))
  refine Z.eff (Z.cl (rccopy_z gw ggw 1 0 (cpOf h) ⟨1, 0, []⟩ _ _ _ hS (by omega) (by omega) (by omega) (by omega) (by simp)) rfl ?_) rfl
  clear hS
  rintro e w ⟨gy, ggy, rfl, hS⟩
  refine ⟨_, rfl, ?_⟩
  repeat' (first|refine Kd ?_|(refine Sh.sa hS ?_;clear hS;intro w hS)|(refine K3 ?_;clear hS;intro g w hS hge)|((first|refine GS ?_ ?_|refine VB ?_ ?_)<;>intro hb<;>(try simp only [J1,J2,J3,J4,J5,J6] at hb)<;>(try (exfalso;first|omega|exact hb trivial))))
  replace hS := hS.fo (R := PC gx _ _ _ _)
  refine Z.eff (Z.cl (pcgate_z gx ggx 1 0 _ _ _ _ hS) rfl ?_) rfl
  clear hS
  rintro e w ⟨rfl, hS⟩
  refine ⟨_, rfl, ?_⟩
  repeat' (first|refine Kd ?_|(refine Sh.sa hS ?_;clear hS;intro w hS)|(refine K3 ?_;clear hS;intro g w hS hge)|((first|refine GS ?_ ?_|refine VB ?_ ?_)<;>intro hb<;>(try simp only [J1,J2,J3,J4,J5,J6] at hb)<;>(try (exfalso;first|omega|exact hb trivial))))
  replace hS := hS.fo (R := PC gc _ _ _ _)
  refine Z.eff (Z.cl (pcgate_z gc ggc 1 0 _ _ _ _ hS) rfl ?_) rfl
  clear hS
  rintro e w ⟨rfl, hS⟩
  refine ⟨_, rfl, ?_⟩
  obtain ⟨B1, k1, hS1⟩ := Sep.GP_open.1 (hS.focus (R := GP ggx _) (by repeat (first | exact At.here | apply At.next)))
  obtain ⟨B2, k2, hS2⟩ := Sep.GP_open.1 (hS1.focus (R := GP ggc _) (by repeat (first | exact At.here | apply At.next)))
  have hne : ggc ≠ ggx := hS2.apart (b := ggx) (T' := 123) (by repeat (first | exact At.here | apply At.next))
  refine Z.gT rfl rfl ?_
  refine Z.eff (Z.pne hS2 rfl rfl Tryz.underlying42 (by kernel_rfl) (T := 123) (T' := 123) (by repeat (first | exact At.here | apply At.next)) (by repeat (first | exact At.here | apply At.next)) hne.symm ?_) rfl
  clear hS1 hS2
  repeat' (first|refine Kd ?_|(refine Sh.sa hS ?_;clear hS;intro w hS)|(refine K3 ?_;clear hS;intro g w hS hge)|((first|refine GS ?_ ?_|refine VB ?_ ?_)<;>intro hb<;>(try simp only [J1,J2,J3,J4,J5,J6] at hb)<;>(try (exfalso;first|omega|exact hb trivial))))
  replace hS := (hS.focus (R := PC gc _ _ _ _) (by repeat (first | exact At.here | apply At.next))).focus (R := PC gx _ _ _ _) (by repeat (first | exact At.here | apply At.next))
  refine Z.eff (Z.cl (pcsame_z gx gc 1 0 1 0 _ _ (cpOf h) (cpOf h) _ _ _ hS (by omega) (by omega)) rfl ?_) rfl
  clear hS
  rintro e w ⟨rfl, hS⟩
  refine ⟨_, rfl, ?_⟩
  rw [show decide ((0 : Int) = 0 ∧ (cpOf h).h = (cpOf h).h) = true from by simp]
  repeat' (first|refine Kd ?_|(refine Sh.sa hS ?_;clear hS;intro w hS)|(refine K3 ?_;clear hS;intro g w hS hge)|((first|refine GS ?_ ?_|refine VB ?_ ?_)<;>intro hb<;>(try simp only [J1,J2,J3,J4,J5,J6] at hb)<;>(try (exfalso;first|omega|exact hb trivial))))
  replace hS := hS.sub (L' := PC gx 1 0 (.pointer (some ⟨ggx, 0, .none⟩)) (cpOf h) :: GP ggx ⟨1, 0, []⟩ :: CR gy 1 0 (.pointer (some ⟨ggy, 0, .none⟩)) (cpOf h) :: GR ggy ⟨1, 0, []⟩ :: PC gc 1 0 (.pointer (some ⟨ggc, 0, .none⟩)) (cpOf h) :: GP ggc ⟨1, 0, []⟩ :: CR gw 1 0 (.pointer (some ⟨ggw, 0, .none⟩)) (cpOf h) :: GR ggw ⟨1, 0, []⟩ :: []) (by repeat (first | exact Sub.rest | exact Sub.nil | exact .skip .rest | exact .skip (.skip .rest) | exact .skip (.skip (.skip .rest)) | apply Sub.keep | refine Sub.cons (by repeat (first | exact At.here | apply At.next)) ?_ | apply Sub.skip))
  refine Z.eff (Z.cl (do28_z gx ggx gy ggy 1 0 (cpOf h) (cpOf h) ⟨1, 0, []⟩ ⟨1, 0, []⟩ a _ _ _ hS ⟨hcg, CRel.refl hcg, Rel.new 1⟩ (by omega) (by simp) (by simp)) rfl ?_) rfl
  clear hS
  rintro e w ⟨gx2, ggx2, gy2, ggy2, c2, c2', P2, R2, rfl, hT2, hm1, hm2, hm3, hS⟩
  refine ⟨_, rfl, ?_⟩
  have hc2h := hT2.c.h
  repeat' (first|refine Kd ?_|(refine Sh.sa hS ?_;clear hS;intro w hS)|(refine K3 ?_;clear hS;intro g w hS hge)|((first|refine GS ?_ ?_|refine VB ?_ ?_)<;>intro hb<;>(try simp only [J1,J2,J3,J4,J5,J6] at hb)<;>(try (exfalso;first|omega|exact hb trivial))))
  refine Z.eff (Z.cl (same28_z gx2 ggx2 gy2 ggy2 1 0 1 0 c2 c2' P2 R2 _ _ _ hS hT2.g hT2.c hT2.w.closed.symm (by omega)) rfl ?_) rfl
  clear hS
  rintro e w ⟨rfl, hS⟩
  refine ⟨_, rfl, ?_⟩
  repeat' (first|refine Kd ?_|(refine Sh.sa hS ?_;clear hS;intro w hS)|(refine K3 ?_;clear hS;intro g w hS hge)|((first|refine GS ?_ ?_|refine VB ?_ ?_)<;>intro hb<;>(try simp only [J1,J2,J3,J4,J5,J6] at hb)<;>(try (exfalso;first|omega|exact hb trivial))))
  replace hS := (((hS.focus (R := GR ggw _) (by repeat (first | exact At.here | apply At.next))).focus (R := CR gw _ _ _ _) (by repeat (first | exact At.here | apply At.next))).focus (R := GP ggc _) (by repeat (first | exact At.here | apply At.next))).focus (R := PC gc _ _ _ _) (by repeat (first | exact At.here | apply At.next))
  refine Z.eff (Z.cl (same28_z gc ggc gw ggw 1 0 1 0 (cpOf h) (cpOf h) ⟨1, 0, []⟩ ⟨1, 0, []⟩ _ _ _ hS hcg (CRel.refl hcg) rfl (by omega)) rfl ?_) rfl
  clear hS
  rintro e w ⟨rfl, hS⟩
  refine ⟨_, rfl, ?_⟩
  repeat' (first|refine Kd ?_|(refine Sh.sa hS ?_;clear hS;intro w hS)|(refine K3 ?_;clear hS;intro g w hS hge)|((first|refine GS ?_ ?_|refine VB ?_ ?_)<;>intro hb<;>(try simp only [J1,J2,J3,J4,J5,J6] at hb)<;>(try (exfalso;first|omega|exact hb trivial))))
  replace hS := (hS.focus (R := PC gc _ _ _ _) (by repeat (first | exact At.here | apply At.next))).focus (R := PC gx2 _ _ _ _) (by repeat (first | exact At.here | apply At.next))
  refine Z.eff (Z.cl (pcsame_z gx2 gc 1 0 1 0 _ _ c2 (cpOf h) _ _ _ hS (by omega) (by omega)) rfl ?_) rfl
  clear hS
  rintro e w ⟨rfl, hS⟩
  refine ⟨_, rfl, ?_⟩
  repeat' (first|refine Kd ?_|(refine Sh.sa hS ?_;clear hS;intro w hS)|(refine K3 ?_;clear hS;intro g w hS hge)|((first|refine GS ?_ ?_|refine VB ?_ ?_)<;>intro hb<;>(try simp only [J1,J2,J3,J4,J5,J6] at hb)<;>(try (exfalso;first|omega|exact hb trivial))))
  replace hS := (hS.focus (R := CR gw _ _ _ _) (by repeat (first | exact At.here | apply At.next))).focus (R := CR gy2 _ _ _ _) (by repeat (first | exact At.here | apply At.next))
  refine Z.eff (Z.cl (rcsame_z gy2 gw 1 0 1 0 _ _ c2' (cpOf h) _ _ _ hS (by rw [hc2h]; omega) (by omega)) rfl ?_) rfl
  clear hS
  rintro e w ⟨rfl, hS⟩
  refine ⟨_, rfl, ?_⟩
  rw [hc2h]
  repeat' (first|refine Kd ?_|(refine Sh.sa hS ?_;clear hS;intro w hS)|(refine K3 ?_;clear hS;intro g w hS hge)|((first|refine GS ?_ ?_|refine VB ?_ ?_)<;>intro hb<;>(try simp only [J1,J2,J3,J4,J5,J6] at hb)<;>(try (exfalso;first|omega|exact hb trivial))))
  refine Dnt Tryz.results12 ?_
  exact ⟨by simp [Z.packR], hS.chg⟩
set_option maxRecDepth 100000 in
theorem cellCopies_lifted (os : Os) (started : os.Started) (H : Type) (enc : TypeId × Value → H) :
    ReturnsInHanded {} Tryz.checked os 12 .any (Rows.cellCopiesSpec.pre6 enc Tryz.prog Tryz.f12 Rows.cellCopiesRow.domain false) (Rows.cellCopiesSpec.post enc Tryz.prog Tryz.f12 false Rows.cellCopiesRow.fresh Rows.cellCopiesRow.handsOn Rows.cellCopiesRow.again) := by
  refine returnsInHanded_of_change (C := Tryz.checked) Tryz.own started (by kernel_rfl) Tryz.func12
    (ChangeSpec.witness6 (enc := enc) (C := Tryz.checked) false ⟨#[], #[.slice none 0 0, .slice none 0 0, .agg #[.int .i64 0, .int .i64 0, .int .i64 0, .int .i64 0, .int .i64 0, .int .i64 0, .int .i64 0, .int .i64 0, .string ⟨#[]⟩, .string ⟨#[]⟩, .int .i64 0, .int .i64 0, .int .i64 0, .int .i64 0, .int .i64 0, .int .i64 0, .string ⟨#[]⟩, .string ⟨#[]⟩, .int .i64 0, .int .i64 0, .int .i64 0, .int .i64 0, .int .i64 0]], []⟩ 8 (by kernel_rfl) (by kernel_rfl) (by kernel_rfl) (by kernel_rfl)) ?_
  intro W base args ds gs before hval0 hW _ _
  have hval : ∀ (j : Nat) t v, Tryz.f12.params[j]? = some t → args[j]? = some v → Value.okWide Tryz.prog W .any base t v := hval0
  have hW0 := hW
  obtain ⟨p, q, hA0, hV, hpq, _, _⟩ := hW
  obtain ⟨la⟩ := args
  have hA : DataW.TrodAll enc Tryz.prog W 0 (fun _ => true) true [24, 24, 89] la ds p := by have := hA0; rw [Tryz.params12] at this; exact this
  rw [Tryz.params12] at hval
  obtain ⟨v0, la0, d0, ds0, p0, q0, rfl, rfl, rfl, h0, hA⟩ := trodAll_cons hA
  obtain ⟨v1, la1, d1, ds1, p1, q1, rfl, rfl, rfl, h1, hA⟩ := trodAll_cons hA
  obtain ⟨v2, la2, d2, ds2, p2, q2, rfl, rfl, rfl, h2, hA⟩ := trodAll_cons hA
  obtain ⟨rfl, rfl, rfl⟩ := trodAll_nil hA
  obtain ⟨l0, A0, cap0, rfl, hr0⟩ := arg_ints (hval 0 _ _ rfl rfl) h0
  obtain ⟨l1, A1, cap1, rfl, hr1⟩ := arg_ints (hval 1 _ _ rfl rfl) h1
  obtain ⟨x2, rfl⟩ := arg_act8 (hval 2 _ _ rfl rfl) h2
  have fin : Calls Tryz.prog 12 _ W fun e W' => e = .returned (.bool true) ∧ Chg [] W W' := copies28_z l0 A0 cap0 l1 A1 cap1 x2 W hr0 hr1 
  refine fin.mono fun e W' ⟨he, hc⟩ => ⟨_, he, ?_⟩
  exact law_post Tryz.laidOut (by rw [Tryz.params12]; intro t ht; simp only [List.mem_cons, List.not_mem_nil, or_false] at ht; rcases ht with rfl | rfl | rfl <;> exact ⟨by kernel_rfl, of_decide_eq_true (by kernel_rfl)⟩) rfl rfl Tryz.underlying4 rfl hW0 hc.below
theorem cellCopies_holds : Rows.CellCopiesSaid :=
  OpenClaim.holds_of_wide 12 Tryz.f12 rfl rfl rfl rfl rfl rfl rfl ⟨rfl, rfl, rfl, rfl, rfl⟩ rfl rfl rfl rfl rfl (by kernel_rfl) Tryz.func12 (by kernel_rfl)
    (of_decide_eq_true (by kernel_rfl)) (by unfold Func.isWrapper; rw [if_neg (of_decide_eq_false (by kernel_rfl))]; exact ⟨rfl, rfl⟩)
    (fun os started H enc _ => cellCopies_lifted os started H enc)
end Go.Proofs.YtahackdfjcgkhaaGreat
