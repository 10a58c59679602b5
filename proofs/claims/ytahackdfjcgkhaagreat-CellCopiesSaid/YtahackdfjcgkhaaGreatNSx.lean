/-
  A copy of the program and one of the reference that have the same, compared.
-/
import Derived.Test.YtahackdfjcgkhaaGreatYd
import Derived.Test.YtahackdfjcgkhaaGreatCG
import Derived.Test.YtahackdfjcgkhaaGreatQ2
import Derived.Test.YtahackdfjcgkhaaGreatNCrP
namespace Go.Proofs.YtahackdfjcgkhaaGreat
open Go.RowKit
set_option linter.unusedSimpArgs false
set_option linter.unusedVariables false
attribute [local irreducible] Res.blk Res.sl Res.all Res.ex Res.pure Res.star

theorem Good.kok {c : Cp} (h : Good c) : KOk c.s := by
  induction h with
  | zero => exact KOk.nil
  | @app c x hc hx ih =>
    obtain ⟨_, _, _, _, _, _, e⟩ := cApp_ok hx
    rw [e]
    exact ih.app x
set_option maxHeartbeats 8000000 in
theorem same28_z (gp gg gr gh : Nat) (cell ten cell' ten' : Int) (c c' : Cp) (G G' : Ga) (r : World) (F : List Res) (w : World) (hS : Sep r [] (PC gp cell ten (.pointer (some ⟨gg, 0, .none⟩)) c :: GP gg G :: CR gr cell' ten' (.pointer (some ⟨gh, 0, .none⟩)) c' :: GR gh G' :: F) w)
    (hc : CG c) (hr : CRel c c') (hG : G'.closed = G.closed) (hl : c.h.length ≤ 5000) :
    Calls Tryz.prog 32 #[.pointer (some ⟨gp, 0, .none⟩), .pointer (some ⟨gr, 0, .none⟩)] w fun e w' => e = .returned (.bool true) ∧ Sep r [] (PC gp cell ten (.pointer (some ⟨gg, 0, .none⟩)) c :: GP gg G :: CR gr cell' ten' (.pointer (some ⟨gh, 0, .none⟩)) c' :: GR gh G' :: F) w' := by
  have hok := hc.ok
  have hss := hc.cok.ss
  have hk : KOk c.s := hc.good.kok
  obtain ⟨h, s, q, t⟩ := c
  obtain ⟨h', s', q', t'⟩ := c'
  obtain ⟨e1, e2, e3, hqr⟩ := hr
  simp only at e1 e2 e3 hqr hl hok hss hk
  subst e1 e2 e3
  have hql := hqr.l
  obtain ⟨vh, gs, gq, gt, vs, vl, vr, hS⟩ := Sep.CR_open.1 (hS.focus (R := CR gr cell' ten' _ _) (by repeat (first | exact At.here | apply At.next)))
  simp only at hS
  rw [hql] at hS
  obtain ⟨Ah, ch, rfl, _⟩ := (hS.slrows (e := 49) (v := vh) (by repeat (first | exact At.here | apply At.next))).mform
  obtain ⟨As, cs, rfl, _⟩ := (hS.slrows (e := 102) (v := vs) (by repeat (first | exact At.here | apply At.next))).mform
  obtain ⟨Al, cl, rfl, _⟩ := (hS.slrows (e := 79) (v := vl) (by repeat (first | exact At.here | apply At.next))).mform
  generalize hh : h' = h at *
  generalize hs0 : s' = s at *
  generalize ht0 : t' = t at *
  clear hh hs0 ht0
  replace hS : Sep r [] (PC gp cell ten (.pointer (some ⟨gg, 0, .none⟩)) ⟨h, s, q, t⟩ :: GP gg G :: .blk gr 69 [.int .i64 cell', .int .i64 ten', .slice Ah h.length ch, .pointer (some ⟨gs, 0, .none⟩), .pointer (some ⟨gq, 0, .none⟩), .pointer (some ⟨gt, 0, .none⟩), .pointer (some ⟨gh, 0, .none⟩)] :: .sl 49 8 (.slice Ah h.length ch) (h.map Ch.cells) :: .blk gs 100 [.slice As s.length cs] :: .sl 102 3 (.slice As s.length cs) (s.map Ce.cells) :: .blk gq 105 [.slice Al q.l.length cl, vr, .int .i64 q'.most] :: .sl 79 2 (.slice Al q.l.length cl) (q.l.map It.cells) :: .sl 133 4 vr (q'.r.map Le.cells) :: .blk gt 109 t.cells.toList :: GR gh G' :: F) w := hS.sb
  refine Z.enter Tryz.func32 Tryz.ntmps32 rfl rfl ?_
  repeat' (first|refine Kd ?_|(refine Sh.sa hS ?_;clear hS;intro w hS)|(refine K3 ?_;clear hS;intro g w hS hge)|((first|refine GS ?_ ?_|refine VB ?_ ?_)<;>intro hb<;>(try simp only [J1,J2,J3,J4,J5,J6] at hb)<;>(try (exfalso;first|omega|exact hb trivial))))
  refine D.startS (Lr := [.blk gr 69 [.int .i64 cell', .int .i64 ten', .slice Ah h.length ch, .pointer (some ⟨gs, 0, .none⟩), .pointer (some ⟨gq, 0, .none⟩), .pointer (some ⟨gt, 0, .none⟩), .pointer (some ⟨gh, 0, .none⟩)], .blk gs 100 [.slice As s.length cs], .blk gq 105 [.slice Al q.l.length cl, vr, .int .i64 q'.most]]) (hS.sb) 60 60 (by kernel_rfl) rfl ?_
  replace hS := hS.drew
  refine Sh.dp 0 1 ?_
  refine Sh.dp 2 5 ?_
  refine Sh.dp 3 13 ?_
  refine Sh.dp 4 29 ?_
  refine Sh.dl 5 61 ?_
  refine Sh.dp 6 125 ?_
  refine D.eff 1 127 rfl D.wantedN (by kernel_rfl) (by kernel_rfl) (fun _ _ h => h) ?_
  replace hS := hS.fo (R := PC gp _ _ _ _)
  refine Z.cl (pclen_z gp cell ten _ _ _ _ _ hS) rfl ?_
  clear hS
  rintro e w ⟨rfl, hS⟩
  refine ⟨_, rfl, ?_⟩
  refine ⟨HM.s (hS.sb), ?_⟩
  first | refine D.pr 7 255 rfl D.wantedN (by kernel_rfl) rfl ?_ | refine D.pl 7 255 rfl D.wantedN (by kernel_rfl) (R.nea rfl rfl rfl rfl) ?_
  refine Sh.dp 8 511 ?_
  refine D.slot 18 rfl (fun hb => by exfalso; (try simp only [decide_eq_true_eq, decide_eq_false_iff_not, Bool.not_eq_true', Bool.not_eq_false', Int.not_lt, Int.not_le] at hb) <;> first | omega | exact hb trivial | cases hb | simp at hb) (fun hb => ?_)
  (try simp only [decide_eq_true_eq, decide_eq_false_iff_not, Bool.not_eq_true', Bool.not_eq_false', Int.not_lt, Int.not_le] at hb)
  refine Sh.dp 9 1023 ?_
  refine Sh.dp 11 3071 ?_
  refine D.eff 10 4095 rfl (D.wantedT rfl rfl) (by kernel_rfl) (by kernel_rfl) (fun _ _ h => h) ?_
  refine WE.guard ?_
  replace hS := hS.fo (R := PC gp _ _ _ _)
  refine Z.cl (pcepoch_z gp cell ten _ _ _ _ _ hS (by simp only; omega)) rfl ?_
  clear hS
  rintro e w ⟨rfl, hS⟩
  refine ⟨_, rfl, ?_⟩
  refine ⟨HM.s (hS.sb), ?_⟩
  refine D.eff 12 8191 rfl (D.wantedT rfl rfl) (by kernel_rfl) (by kernel_rfl) (fun _ _ h => h) ?_
  refine WE.guard ?_
  replace hS := hS.fo (R := .blk gr _ _)
  refine Z.cl (epoch_z gr _ _ _ _ _ _ _ h _ _ _ hS (Reads.of_at (e := 49) (by repeat (first | exact At.here | apply At.next))) (by omega)) rfl ?_
  clear hS
  rintro e w ⟨rfl, hS⟩
  refine ⟨_, rfl, ?_⟩
  refine ⟨HM.s (hS.sb), ?_⟩
  first | refine D.pr 13 16383 rfl (D.wantedT rfl rfl) (by kernel_rfl) rfl ?_ | refine D.pl 13 16383 rfl (D.wantedT rfl rfl) (by kernel_rfl) (R.nea rfl rfl rfl rfl) ?_
  refine Sh.dp 14 32767 ?_
  refine Sh.dp 15 65535 ?_
  refine D.slot 25 rfl (fun hb => by exfalso; (try simp only [decide_eq_true_eq, decide_eq_false_iff_not, Bool.not_eq_true', Bool.not_eq_false', Int.not_lt, Int.not_le] at hb) <;> first | omega | exact hb trivial | cases hb | simp at hb) (fun hb => ?_)
  (try simp only [decide_eq_true_eq, decide_eq_false_iff_not, Bool.not_eq_true', Bool.not_eq_false', Int.not_lt, Int.not_le] at hb)
  refine Sh.dp 16 131071 ?_
  refine Sh.dp 18 393215 ?_
  refine Sh.dp 19 917503 ?_
  refine Sh.dp 20 1966079 ?_
  refine Sh.dl 21 4063231 ?_
  refine D.eff 17 4194303 rfl (D.wantedT rfl rfl) (by kernel_rfl) (by kernel_rfl) (fun _ _ h => h) ?_
  refine WE.guard ?_
  replace hS := hS.fo (R := PC gp _ _ _ _)
  refine Z.cl (phist_z gp cell ten _ _ 0 _ _ _ hS (by simp only; omega)) rfl ?_
  clear hS
  rintro e w ⟨A1, c1, rfl, hS⟩
  refine ⟨_, rfl, ?_⟩
  rw [show histB (⟨h, s, q, t⟩ : Cp).h 0 = h from rfl] at hS ⊢
  refine ⟨HM.s (hS.sb), ?_⟩
  refine D.eff 22 8388607 rfl (D.wantedT rfl rfl) (by kernel_rfl) (by kernel_rfl) (fun _ _ h => h) ?_
  refine WE.guard ?_
  refine Z.cl (chsame_z h h _ _ _ _ _ hS (Reads.of_at (e := 49) (v := .slice A1 h.length c1) (by repeat (first | exact At.here | apply At.next))) (Reads.of_at (e := 49) (v := .slice Ah h.length ch) (by repeat (first | exact At.here | apply At.next))) (by omega) (by omega)) rfl ?_
  clear hS
  rintro e w ⟨rfl, hS⟩
  refine ⟨_, rfl, ?_⟩
  refine ⟨HM.s (hS.sb), ?_⟩
  refine Sh.dp 23 16777215 ?_
  refine Sh.dp 24 33554431 ?_
  refine Sh.dp 25 67108863 ?_
  refine D.slot 35 rfl (fun hb => by exfalso; (try simp only [decide_eq_true_eq, decide_eq_false_iff_not, Bool.not_eq_true', Bool.not_eq_false', Int.not_lt, Int.not_le] at hb) <;> first | omega | exact hb trivial | cases hb | simp at hb) (fun hb => ?_)
  (try simp only [decide_eq_true_eq, decide_eq_false_iff_not, Bool.not_eq_true', Bool.not_eq_false', Int.not_lt, Int.not_le] at hb)
  refine Sh.dp 26 134217727 ?_
  refine Sh.dp 28 402653183 ?_
  refine Sh.dp 29 939524095 ?_
  refine Sh.dp 30 2013265919 ?_
  refine Sh.dl 31 4160749567 ?_
  refine D.eff 27 4294967295 rfl (D.wantedT rfl rfl) (by kernel_rfl) (by kernel_rfl) (fun _ _ h => h) ?_
  refine WE.guard ?_
  replace hS := hS.fo (R := PC gp _ _ _ _)
  refine Z.cl (pckeys_z gp cell ten _ _ _ _ _ hS hss (by simp only; omega)) rfl ?_
  clear hS
  rintro e w ⟨A2, c2, rfl, hS⟩
  refine ⟨_, rfl, ?_⟩
  refine ⟨HM.s (hS.sb), ?_⟩
  refine D.eff 32 8589934591 rfl (D.wantedT rfl rfl) (by kernel_rfl) (by kernel_rfl) (fun _ _ h => h) ?_
  refine WE.guard ?_
  replace hS := hS.fo (R := .blk gs _ _)
  refine Z.cl (rskeys_z gs s _ _ _ _ hS (Reads.of_at (e := 102) (by repeat (first | exact At.here | apply At.next))) (by omega)) rfl ?_
  clear hS
  rintro e w ⟨A3, c3, rfl, hS⟩
  refine ⟨_, rfl, ?_⟩
  refine ⟨HM.s (hS.sb), ?_⟩
  refine D.eff 33 17179869183 rfl (D.wantedT rfl rfl) (by kernel_rfl) (by kernel_rfl) (fun _ _ h => h) ?_
  refine WE.guard ?_
  refine Z.cl (sameTexts_z s s _ _ _ _ _ hS (Reads.of_at (e := 9) (v := .slice A2 s.length c2) (by repeat (first | exact At.here | apply At.next))) (Reads.of_at (e := 9) (v := .slice A3 s.length c3) (by repeat (first | exact At.here | apply At.next))) (by omega) (by omega)) rfl ?_
  clear hS
  rintro e w ⟨rfl, hS⟩
  refine ⟨_, rfl, ?_⟩
  refine ⟨HM.s (hS.sb), ?_⟩
  refine Sh.dp 34 34359738367 ?_
  refine Sh.dp 35 68719476735 ?_
  refine Sh.dp 36 137438953471 ?_
  refine D.slot 46 rfl (fun hb => by exfalso; (try simp only [decide_eq_true_eq, decide_eq_false_iff_not, Bool.not_eq_true', Bool.not_eq_false', Int.not_lt, Int.not_le] at hb) <;> first | omega | exact hb trivial | cases hb | simp at hb) (fun hb => ?_)
  (try simp only [decide_eq_true_eq, decide_eq_false_iff_not, Bool.not_eq_true', Bool.not_eq_false', Int.not_lt, Int.not_le] at hb)
  refine Sh.dp 37 274877906943 ?_
  refine Sh.dp 39 824633720831 ?_
  refine Sh.dp 40 1924145348607 ?_
  refine Sh.dp 41 4123168604159 ?_
  refine Sh.dl 42 8521215115263 ?_
  refine Sh.dp 43 17317308137471 ?_
  refine Sh.dp 44 34909494181887 ?_
  refine Sh.dl 45 70093866270719 ?_
  refine D.eff 38 70368744177663 rfl (D.wantedT rfl rfl) (by kernel_rfl) (by kernel_rfl) (fun _ _ h => h) ?_
  refine WE.guard ?_
  replace hS := hS.fo (R := PC gp _ _ _ _)
  refine Z.cl (pcitems_z gp cell ten _ _ _ _ _ hS (by simp only; omega)) rfl ?_
  clear hS
  rintro e w ⟨A4, c4, rfl, hS⟩
  refine ⟨_, rfl, ?_⟩
  refine ⟨HM.s (hS.sb), ?_⟩
  refine D.eff 46 140737488355327 rfl (D.wantedT rfl rfl) (by kernel_rfl) (by kernel_rfl) (fun _ _ h => h) ?_
  refine WE.guard ?_
  refine Z.cl (sameItems_z q.l q.l _ _ _ _ _ hS (Reads.of_at (e := 79) (v := .slice A4 q.l.length c4) (by repeat (first | exact At.here | apply At.next))) (Reads.of_at (e := 79) (v := .slice Al q.l.length cl) (by repeat (first | exact At.here | apply At.next))) (by omega) (by omega)) rfl ?_
  clear hS
  rintro e w ⟨rfl, hS⟩
  refine ⟨_, rfl, ?_⟩
  refine ⟨HM.s (hS.sb), ?_⟩
  refine Sh.dp 47 281474976710655 ?_
  refine Sh.dp 48 562949953421311 ?_
  refine Sh.dp 49 1125899906842623 ?_
  refine D.slot 59 rfl (fun hb => by exfalso; (try simp only [decide_eq_true_eq, decide_eq_false_iff_not, Bool.not_eq_true', Bool.not_eq_false', Int.not_lt, Int.not_le] at hb) <;> first | omega | exact hb trivial | cases hb | simp at hb) (fun hb => ?_)
  (try simp only [decide_eq_true_eq, decide_eq_false_iff_not, Bool.not_eq_true', Bool.not_eq_false', Int.not_lt, Int.not_le] at hb)
  refine Sh.dp 50 2251799813685247 ?_
  refine Sh.dp 52 6755399441055743 ?_
  refine Sh.dp 53 15762598695796735 ?_
  refine Sh.dp 54 33776997205278719 ?_
  refine Sh.dl 55 69805794224242687 ?_
  refine D.eff 51 72057594037927935 rfl (D.wantedT rfl rfl) (by kernel_rfl) (by kernel_rfl) (fun _ _ h => h) ?_
  refine WE.guard ?_
  replace hS := hS.fo (R := PC gp _ _ _ _)
  refine Z.cl (pclasts_z gp cell ten _ _ _ _ _ hS) rfl ?_
  clear hS
  rintro e w ⟨v5, rfl, hS⟩
  refine ⟨_, rfl, ?_⟩
  refine ⟨HM.s (hS.sb), ?_⟩
  refine D.eff 56 144115188075855871 rfl (D.wantedT rfl rfl) (by kernel_rfl) (by kernel_rfl) (fun _ _ h => h) ?_
  refine WE.guard ?_
  replace hS := hS.fo (R := .blk gt _ _)
  refine Z.cl (rlasts_z t gt _ _ _ hS) rfl ?_
  clear hS
  rintro e w ⟨v6, rfl, hS⟩
  refine ⟨_, rfl, ?_⟩
  unfold RT at hS
  refine ⟨HM.s (hS.sb), ?_⟩
  refine D.eff 57 288230376151711743 rfl (D.wantedT rfl rfl) (by kernel_rfl) (by kernel_rfl) (fun _ _ h => h) ?_
  refine WE.guard ?_
  refine Z.cl (sameInts_z (lastsL t) (lastsL t) _ _ _ _ _ hS (Reads.of_at (e := 3) (v := v5) (by repeat (first | exact At.here | apply At.next))) (Reads.of_at (e := 3) (v := v6) (by repeat (first | exact At.here | apply At.next))) (by simp [lastsL]) (by simp [lastsL])) rfl ?_
  clear hS
  rintro e w ⟨rfl, hS⟩
  refine ⟨_, rfl, ?_⟩
  refine ⟨HM.s (hS.sb), ?_⟩
  refine Sh.dp 58 576460752303423487 ?_
  refine Sh.dp 59 1152921504606846975 ?_
  refine D.done (by kernel_rfl) ?_
  replace hS : Sep r [] (PC gp cell ten (.pointer (some ⟨gg, 0, .none⟩)) ⟨h, s, q, t⟩ :: GP gg G :: .blk gr 69 [.int .i64 cell', .int .i64 ten', .slice Ah h.length ch, .pointer (some ⟨gs, 0, .none⟩), .pointer (some ⟨gq, 0, .none⟩), .pointer (some ⟨gt, 0, .none⟩), .pointer (some ⟨gh, 0, .none⟩)] :: .sl 49 8 (.slice Ah h.length ch) (h.map Ch.cells) :: .blk gs 100 [.slice As s.length cs] :: .sl 102 3 (.slice As s.length cs) (s.map Ce.cells) :: .blk gq 105 [.slice Al q.l.length cl, vr, .int .i64 q'.most] :: .sl 79 2 (.slice Al q.l.length cl) (q.l.map It.cells) :: .sl 133 4 vr (q'.r.map Le.cells) :: .blk gt 109 t.cells.toList :: GR gh G' :: F) _ := hS.sb
  repeat' (first|refine Kd ?_|(refine Sh.sa hS ?_;clear hS;intro w hS)|(refine K3 ?_;clear hS;intro g w hS hge)|((first|refine GS ?_ ?_|refine VB ?_ ?_)<;>intro hb<;>(try simp only [J1,J2,J3,J4,J5,J6] at hb)<;>(try (exfalso;first|omega|exact hb trivial))))
  all_goals (try (exfalso; first | exact hb rfl | (simp at hb; done)))
  refine Z.lpS [4, 6, 7, 8, 9, 78, 79, 80, 81, 82, 83, 84, 85, 86, 87, 88, 89, 90, 91, 92, 93, 94, 95, 96, 97, 98, 99, 100, 101, 102, 103, 104] (fun m w z => ∃ i : Nat, z = [(78, .int .i64 i)] ∧ i ≤ s.length ∧ m = s.length - i ∧ Sep r [] (PC gp cell ten (.pointer (some ⟨gg, 0, .none⟩)) ⟨h, s, q, t⟩ :: GP gg G :: .blk gr 69 [.int .i64 cell', .int .i64 ten', .slice Ah h.length ch, .pointer (some ⟨gs, 0, .none⟩), .pointer (some ⟨gq, 0, .none⟩), .pointer (some ⟨gt, 0, .none⟩), .pointer (some ⟨gh, 0, .none⟩)] :: .sl 49 8 (.slice Ah h.length ch) (h.map Ch.cells) :: .blk gs 100 [.slice As s.length cs] :: .sl 102 3 (.slice As s.length cs) (s.map Ce.cells) :: .blk gq 105 [.slice Al q.l.length cl, vr, .int .i64 q'.most] :: .sl 79 2 (.slice Al q.l.length cl) (q.l.map It.cells) :: .sl 133 4 vr (q'.r.map Le.cells) :: .blk gt 109 t.cells.toList :: GR gh G' :: F) w) _ [(78, .int .i64 (0 : Nat))] (by repeat (first | exact trivial | refine ⟨rfl, ?_⟩)) ⟨0, rfl, by omega, rfl, hS⟩ ?_
  clear hS
  rintro m f0 w _ ⟨i, rfl, hi, rfl, hS⟩
  by_cases hlt : i < s.length
  · obtain ⟨gb, o, hAs, _, hra⟩ := (hS.slrows (e := 102) (v := .slice As s.length cs) (by repeat (first | exact At.here | apply At.next))).mat (by omega) hlt
    have hat : atK s s[i].key = some s[i] := atK_some hss (by simp) rfl
    have hks := hk s[i] (by simp)
    subst hAs
    repeat' (first|refine Kd ?_|(refine Sh.sa hS ?_;clear hS;intro w hS)|(refine K3 ?_;clear hS;intro g w hS hge)|((first|refine GS ?_ ?_|refine VB ?_ ?_)<;>intro hb<;>(try simp only [J1,J2,J3,J4,J5,J6] at hb)<;>(try (exfalso;first|omega|exact hb trivial))))
    replace hS := hS.fo (R := PC gp _ _ _ _)
    refine Z.eff (Z.cl (pcget_z gp cell ten _ _ s[i].key _ _ _ hS hss (by unfold maxLen; omega)) rfl ?_) rfl
    clear hS
    rintro e w ⟨rfl, hS⟩
    refine ⟨_, rfl, ?_⟩
    rw [show (⟨h, s, q, t⟩ : Cp).s = s from rfl, hat, getV_some]
    repeat' (first|refine Kd ?_|(refine Sh.sa hS ?_;clear hS;intro w hS)|(refine K3 ?_;clear hS;intro g w hS hge)|((first|refine GS ?_ ?_|refine VB ?_ ?_)<;>intro hb<;>(try simp only [J1,J2,J3,J4,J5,J6] at hb)<;>(try (exfalso;first|omega|exact hb trivial))))
    all_goals (try (exfalso; exact hb rfl; done))
    refine Sh.again (s.length - (i + 1)) [(78, .int .i64 (i + 1 : Nat))] ?_
    exact ⟨i + 1, rfl, by omega, rfl, hS.sb⟩
  · repeat' (first|refine Kd ?_|(refine Sh.sa hS ?_;clear hS;intro w hS)|(refine K3 ?_;clear hS;intro g w hS hge)|((first|refine GS ?_ ?_|refine VB ?_ ?_)<;>intro hb<;>(try simp only [J1,J2,J3,J4,J5,J6] at hb)<;>(try (exfalso;first|omega|exact hb trivial))))
    obtain ⟨Ag, cg, hS⟩ := Sep.GR_open.1 (hS.focus (R := GR gh G') (by repeat (first | exact At.here | apply At.next)))
    rw [hG] at hS
    refine D.startS (Lr := [.blk gr 69 [.int .i64 cell', .int .i64 ten', .slice Ah h.length ch, .pointer (some ⟨gs, 0, .none⟩), .pointer (some ⟨gq, 0, .none⟩), .pointer (some ⟨gt, 0, .none⟩), .pointer (some ⟨gh, 0, .none⟩)], .blk gh 112 [.int .i64 G'.cell, .int .i64 G.closed, .slice Ag G'.ws.length cg]]) (hS.sb) 12 12 (by kernel_rfl) rfl ?_
    replace hS := hS.drew
    refine Sh.dp 0 1 ?_
    refine Sh.dp 3 9 ?_
    refine Sh.dp 4 25 ?_
    refine Sh.dp 5 57 ?_
    refine Sh.dl 6 121 ?_
    refine Sh.dp 7 249 ?_
    refine Sh.dp 8 505 ?_
    refine Sh.dl 9 1017 ?_
    refine D.eff 1 1019 rfl D.wantedN (by kernel_rfl) (by kernel_rfl) (fun _ _ h => h) ?_
    replace hS := hS.fo (R := PC gp _ _ _ _)
    refine Z.cl (pcgate_z gp gg cell ten _ _ _ _ hS) rfl ?_
    clear hS
    rintro e w ⟨rfl, hS⟩
    refine ⟨_, rfl, ?_⟩
    refine ⟨HM.s (hS.sb), ?_⟩
    refine D.eff 2 1023 rfl D.wantedN (by kernel_rfl) (by kernel_rfl) (fun _ _ h => h) ?_
    replace hS := hS.fo (R := GP gg G)
    refine Z.cl (gclosed_z gg G _ _ _ hS) rfl ?_
    clear hS
    rintro e w ⟨rfl, hS⟩
    refine ⟨_, rfl, ?_⟩
    refine ⟨HM.s (hS.sb), ?_⟩
    first | refine D.pr 10 2047 rfl D.wantedN (by kernel_rfl) rfl ?_ | refine D.pl 10 2047 rfl D.wantedN (by kernel_rfl) (R.eqa rfl rfl rfl rfl) ?_
    refine Sh.dp 11 4095 ?_
    refine D.done (by kernel_rfl) ?_
    repeat' (first|refine Kd ?_|(refine Sh.sa hS ?_;clear hS;intro w hS)|(refine K3 ?_;clear hS;intro g w hS hge)|((first|refine GS ?_ ?_|refine VB ?_ ?_)<;>intro hb<;>(try simp only [J1,J2,J3,J4,J5,J6] at hb)<;>(try (exfalso;first|omega|exact hb trivial))))
    refine Dnt Tryz.results32 ?_
    rw [← hG] at hS
    replace hS := Sep.GR_open.2 ⟨Ag, cg, hS.sub (L' := .blk gh 112 _ :: .sl 46 5 (.slice Ag G'.ws.length cg) (G'.ws.map Wi.cells) :: PC gp cell ten (.pointer (some ⟨gg, 0, .none⟩)) ⟨h, s, q, t⟩ :: GP gg G :: .blk gr 69 [.int .i64 cell', .int .i64 ten', .slice Ah h.length ch, .pointer (some ⟨gs, 0, .none⟩), .pointer (some ⟨gq, 0, .none⟩), .pointer (some ⟨gt, 0, .none⟩), .pointer (some ⟨gh, 0, .none⟩)] :: .sl 49 8 (.slice Ah h.length ch) (h.map Ch.cells) :: .blk gs 100 [.slice As s.length cs] :: .sl 102 3 (.slice As s.length cs) (s.map Ce.cells) :: .blk gq 105 [.slice Al q.l.length cl, vr, .int .i64 q'.most] :: .sl 79 2 (.slice Al q.l.length cl) (q.l.map It.cells) :: .sl 133 4 vr (q'.r.map Le.cells) :: .blk gt 109 t.cells.toList :: F) (by repeat (first | exact Sub.rest | exact Sub.nil | exact .skip .rest | exact .skip (.skip .rest) | exact .skip (.skip (.skip .rest)) | apply Sub.keep | refine Sub.cons (by repeat (first | exact At.here | apply At.next)) ?_ | apply Sub.skip))⟩
    rw [← hql] at hS
    replace hS := (Sep.CR_open (g := gr) (cell := cell') (ten := ten') (vg := .pointer (some ⟨gh, 0, .none⟩)) (c := ⟨h, s, q', t⟩)).2 ⟨.slice Ah h.length ch, gs, gq, gt, .slice As s.length cs, .slice Al q'.l.length cl, vr, hS.sub (L' := .blk gr 69 [.int .i64 cell', .int .i64 ten', .slice Ah h.length ch, .pointer (some ⟨gs, 0, .none⟩), .pointer (some ⟨gq, 0, .none⟩), .pointer (some ⟨gt, 0, .none⟩), .pointer (some ⟨gh, 0, .none⟩)] :: .sl 49 8 (.slice Ah h.length ch) (h.map Ch.cells) :: .blk gs 100 [.slice As s.length cs] :: .sl 102 3 (.slice As s.length cs) (s.map Ce.cells) :: .blk gq 105 [.slice Al q'.l.length cl, vr, .int .i64 q'.most] :: .sl 79 2 (.slice Al q'.l.length cl) (q'.l.map It.cells) :: .sl 133 4 vr (q'.r.map Le.cells) :: .blk gt 109 t.cells.toList :: GR gh G' :: PC gp cell ten (.pointer (some ⟨gg, 0, .none⟩)) ⟨h, s, q, t⟩ :: GP gg G :: F) (by repeat (first | exact Sub.rest | exact Sub.nil | exact .skip .rest | exact .skip (.skip .rest) | exact .skip (.skip (.skip .rest)) | apply Sub.keep | refine Sub.cons (by repeat (first | exact At.here | apply At.next)) ?_ | apply Sub.skip))⟩
    exact ⟨by simp [Z.packR], hS.sb⟩
end Go.Proofs.YtahackdfjcgkhaaGreat
