/-
  The reference's Waits, kind and refused.
  The walk of the reference's Find of a table of sessions.
  The reference's Execute.
-/
import Derived.Test.YtahackdfjcgkhaaGreatYd
import Derived.Test.YtahackdfjcgkhaaGreatEX
import Derived.Test.YtahackdfjcgkhaaGreatQ2
import Derived.Test.YtahackdfjcgkhaaGreatCG
import Derived.Test.YtahackdfjcgkhaaGreatB1
import Derived.Test.YtahackdfjcgkhaaGreatGA
namespace Go.Proofs.YtahackdfjcgkhaaGreat
open Go.RowKit
set_option linter.unusedSimpArgs false
set_option linter.unusedVariables false
attribute [local irreducible] Res.blk Res.sl Res.all Res.ex Res.pure Res.star

theorem waits_qat {l : List It} {n : Int} : decide (0 ≤ qat l n) = waitsB l n := by
  cases h : waitsB l n with
  | true => have := qat_ge h; simp; omega
  | false =>
    rw [decide_eq_false_iff_not]
    intro h0
    have hf : ∀ y, y ∈ l → y.number ≠ n := fun y hy e => by
      unfold waitsB at h
      rw [List.any_eq_false] at h
      exact h y hy (by simpa using e)
    have key : ∀ (l : List It), (∀ y, y ∈ l → y.number ≠ n) → qidx l n = l.length := by
      intro l
      induction l with
      | nil => intro _; rfl
      | cons a l ih =>
        intro hf
        unfold qidx
        rw [if_neg (hf a (by simp)), ih fun y hy => hf y (by simp [hy])]
        rfl
    unfold qat at h0
    rw [if_neg (by rw [key l hf]; omega)] at h0
    omega
theorem rqwaits_z (gq : Nat) (q : Qu) (n : Int) (r : World) (F : List Res) (w : World) (hS : Sep r [] (QR gq q :: F) w) (hl : q.l.length ≤ 1000) :
    Calls Tryz.prog 132 #[.pointer (some ⟨gq, 0, .none⟩), .int .i64 n] w fun e w' => e = .returned (.bool (waitsB q.l n)) ∧ Sep r [] (QR gq q :: F) w' := by
  obtain ⟨vl, vr, hS⟩ := Sep.QR_open.1 hS
  refine Z.enter Tryz.func132 Tryz.ntmps132 rfl rfl ?_
  repeat' (first|refine Kd ?_|(refine Sh.sa hS ?_;clear hS;intro w hS)|(refine K3 ?_;clear hS;intro g w hS hge)|((first|refine GS ?_ ?_|refine VB ?_ ?_)<;>intro hb<;>(try simp only [J1,J2,J3,J4,J5,J6] at hb)<;>(try (exfalso;first|omega|exact hb trivial))))
  refine Z.eff (Z.cl (qat_z gq q.l vl vr _ n _ _ _ hS (Reads.of_at (e := 79) .here) hl) rfl ?_) rfl
  clear hS
  rintro e w ⟨rfl, hS⟩
  refine ⟨_, rfl, ?_⟩
  repeat' (first|refine Kd ?_|(refine Sh.sa hS ?_;clear hS;intro w hS)|(refine K3 ?_;clear hS;intro g w hS hge)|((first|refine GS ?_ ?_|refine VB ?_ ?_)<;>intro hb<;>(try simp only [J1,J2,J3,J4,J5,J6] at hb)<;>(try (exfalso;first|omega|exact hb trivial))))
  refine Dnt Tryz.results132 ?_
  rw [← waits_qat]
  exact ⟨rfl, Sep.QR_open.2 ⟨vl, vr, hS.sb⟩⟩
theorem rkind_z (op : Int) (r : World) (F : List Res) (w : World) (hS : Sep r [] F w) :
    Calls Tryz.prog 93 #[.int .i64 op] w fun e w' => e = .returned (.int .i64 (kindOp op)) ∧ Sep r [] F w' := by
  unfold kindOp
  refine Z.enter Tryz.func93 Tryz.ntmps93 rfl rfl ?_
  repeat' (first|refine Kd ?_|(refine Sh.sa hS ?_;clear hS;intro w hS)|(refine K3 ?_;clear hS;intro g w hS hge)|((first|refine GS ?_ ?_|refine VB ?_ ?_)<;>intro hb<;>(try simp only [J1,J2,J3,J4,J5,J6] at hb)<;>(try (exfalso;first|omega|exact hb trivial))))
  · refine Dnt Tryz.results93 ?_
    rw [if_pos (by assumption)]
    exact ⟨rfl, hS⟩
  · refine Dnt Tryz.results93 ?_
    rw [if_neg (by assumption), if_pos (by assumption)]
    exact ⟨rfl, hS⟩
  · refine Dnt Tryz.results93 ?_
    rw [if_neg (by assumption), if_neg (by assumption), if_pos (by assumption)]
    exact ⟨rfl, hS⟩
  · refine Dnt Tryz.results93 ?_
    rw [if_neg (by assumption), if_neg (by assumption), if_neg (by assumption)]
    exact ⟨rfl, hS⟩
set_option maxHeartbeats 4000000 in
theorem rrefused_z (gp : Nat) (cell ten : Int) (vg : Value) (c : Cp) (ep tk : Int) (x : Rq) (r : World) (F : List Res) (w : World) (hS : Sep r [] (CR gp cell ten vg c :: F) w) (hc : CW c) (hx : reqOk x) (h1 : x.op ≠ 1) (h5 : x.op ≠ 5) (hl : c.h.length ≤ 4300) :
    Calls Tryz.prog 92 #[.pointer (some ⟨gp, 0, .none⟩), x.val, .int .i64 ep, .int .i64 tk] w fun e w' => e = .returned (.int .i64 (if 4096 ≤ c.h.length then 2 else refuse c x (holdsR c.q.r x.client ep x.item tk))) ∧ Sep r [] (CR gp cell ten vg c :: F) w' := by
  have hok := hc.ok
  have hop : x.op = 2 ∨ x.op = 3 ∨ x.op = 4 ∨ x.op = 6 := by
    obtain ⟨_, _, _, _, ho⟩ := hx
    rcases ho with ho | ho | ho | ho | ho | ho
    all_goals have := ho.1; omega
  obtain ⟨vh, gs, gq, gt, vs, vl, vr, hS⟩ := Sep.CR_open.1 hS
  obtain ⟨Ah, ch, rfl, _⟩ := (hS.slrows (e := 49) (v := vh) (sz := 8) (by exact At.next .here)).mform
  obtain ⟨As, cs, rfl, _⟩ := (hS.slrows (e := 102) (v := vs) (sz := 3) (by exact At.next (At.next (At.next .here)))).mform
  obtain ⟨Aq, cq, rfl, _⟩ := (hS.slrows (e := 79) (v := vl) (sz := 2) (by exact At.next (At.next (At.next (At.next (At.next .here))))) ).mform
  refine Z.enter Tryz.func92 Tryz.ntmps92 rfl rfl ?_
  repeat' (first|refine Kd ?_|(refine Sh.sa hS ?_;clear hS;intro w hS)|(refine K3 ?_;clear hS;intro g w hS hge)|((first|refine GS ?_ ?_|refine VB ?_ ?_)<;>intro hb<;>(try simp only [J1,J2,J3,J4,J5,J6] at hb)<;>(try (exfalso;first|omega|exact hb trivial))))
  refine D.startS (Lr := [.blk gp 69 _, .blk g 23 x.cells]) (hS.sb) 14 14 (by kernel_rfl) rfl ?_
  replace hS := hS.drew
  refine Sh.dp 0 1 ?_
  refine Sh.dp 1 3 ?_
  refine Sh.dp 2 7 ?_
  refine Sh.dp 4 23 ?_
  refine Sh.dl 3 31 ?_
  refine Sh.dl 5 63 ?_
  refine D.eff 6 127 rfl D.wantedN (by kernel_rfl) (by kernel_rfl) (fun _ _ h => h) ?_
  replace hS := hS.fo (R := .blk gs 100 _)
  refine Z.cl (rsget_z gs c.s (.slice As c.s.length cs) x.key _ _ _ hS (Reads.of_at (e := 102) (v := .slice As c.s.length cs) (by repeat (first | exact At.here | apply At.next))) (by omega)) rfl ?_
  clear hS
  rintro e w ⟨rfl, hS⟩
  refine ⟨_, rfl, ?_⟩
  rw [getV_eq]
  refine ⟨HM.s (hS.sb), ?_⟩
  refine Sh.dp 7 255 ?_
  refine Sh.dp 8 511 ?_
  refine Sh.dp 9 1023 ?_
  refine Sh.dp 10 2047 ?_
  refine Sh.dp 11 4095 ?_
  refine Sh.dp 12 8191 ?_
  refine Sh.dp 13 16383 ?_
  refine D.done (by kernel_rfl) ?_
  by_cases h4 : 4096 ≤ c.h.length
  · rw [if_pos h4]
    repeat' (first|refine Kd ?_|(refine Sh.sa hS ?_;clear hS;intro w hS)|(refine K3 ?_;clear hS;intro g w hS hge)|((first|refine GS ?_ ?_|refine VB ?_ ?_)<;>intro hb<;>(try simp only [J1,J2,J3,J4,J5,J6] at hb)<;>(try (exfalso;first|omega|exact hb trivial))))
    refine Dnt Tryz.results92 ?_
    exact ⟨rfl, Sep.CR_open.2 ⟨_, _, _, _, _, _, _, hS.sb⟩⟩
  rw [if_neg h4]
  generalize hhd : holdsR c.q.r x.client ep x.item tk = hold at *
  rcases hop with o | o | o | o
  · repeat' (first|refine Kd ?_|(refine Sh.sa hS ?_;clear hS;intro w hS)|(refine K3 ?_;clear hS;intro g w hS hge)|((first|refine GS ?_ ?_|refine VB ?_ ?_)<;>intro hb<;>(try simp only [J1,J2,J3,J4,J5,J6] at hb)<;>(try (exfalso;first|omega|exact hb trivial))))
    · refine Dnt Tryz.results92 ?_
      have hr : refuse c x hold = 33 := by unfold refuse; rw [if_pos o, if_pos ⟨by assumption, by omega⟩]
      rw [hr]
      exact ⟨rfl, Sep.CR_open.2 ⟨_, _, _, _, _, _, _, hS.sb⟩⟩
    · refine D.startS (Lr := [.blk gp 69 _, .blk g 23 x.cells]) (hS.sb) 14 14 (by kernel_rfl) rfl ?_
      replace hS := hS.drew
      refine Sh.dp 0 1 ?_
      refine Sh.dl 1 3 ?_
      first | refine D.pr 2 7 rfl D.wantedN (by kernel_rfl) rfl ?_ | refine D.pl 2 7 rfl D.wantedN (by kernel_rfl) (R.eqa rfl rfl rfl rfl) ?_
      refine Sh.dp 3 15 ?_
      refine D.slot 76 rfl (fun hb => by exfalso; (try simp only [decide_eq_true_eq, decide_eq_false_iff_not, Bool.not_eq_true', Bool.not_eq_false', Int.not_lt, Int.not_le] at hb) <;> first | omega | exact hb trivial | cases hb | simp at hb) (fun hb => ?_)
      (try simp only [decide_eq_true_eq, decide_eq_false_iff_not, Bool.not_eq_true', Bool.not_eq_false', Int.not_lt, Int.not_le] at hb)
      refine D.skF 4 31 rfl (by kernel_rfl) rfl rfl ?_
      refine D.skF 5 63 rfl (by kernel_rfl) rfl rfl ?_
      refine D.skF 6 127 rfl (by kernel_rfl) rfl rfl ?_
      refine D.skF 7 255 rfl (by kernel_rfl) rfl rfl ?_
      refine D.skF 8 511 rfl (by kernel_rfl) rfl rfl ?_
      refine D.skF 9 1023 rfl (by kernel_rfl) rfl rfl ?_
      refine D.skF 10 2047 rfl (by kernel_rfl) rfl rfl ?_
      refine D.skF 11 4095 rfl (by kernel_rfl) rfl rfl ?_
      refine Sh.dp 12 8191 ?_
      refine Sh.dp 13 16383 ?_
      refine D.done (by kernel_rfl) ?_
      repeat' (first|refine Kd ?_|(refine Sh.sa hS ?_;clear hS;intro w hS)|(refine K3 ?_;clear hS;intro g w hS hge)|((first|refine GS ?_ ?_|refine VB ?_ ?_)<;>intro hb<;>(try simp only [J1,J2,J3,J4,J5,J6] at hb)<;>(try (exfalso;first|omega|exact hb trivial))))
      refine D.startS (Lr := [.blk gp 69 _, .blk g 23 x.cells]) (hS.sb) 18 18 (by kernel_rfl) rfl ?_
      replace hS := hS.drew
      refine Sh.dp 0 1 ?_
      refine Sh.dl 1 3 ?_
      first | refine D.pr 2 7 rfl D.wantedN (by kernel_rfl) rfl ?_ | refine D.pl 2 7 rfl D.wantedN (by kernel_rfl) (R.eqa rfl rfl rfl rfl) ?_
      refine Sh.dp 3 15 ?_
      refine D.slot 90 rfl (fun hb => by exfalso; (try simp only [decide_eq_true_eq, decide_eq_false_iff_not, Bool.not_eq_true', Bool.not_eq_false', Int.not_lt, Int.not_le] at hb) <;> first | omega | exact hb trivial | cases hb | simp at hb) (fun hb => ?_)
      (try simp only [decide_eq_true_eq, decide_eq_false_iff_not, Bool.not_eq_true', Bool.not_eq_false', Int.not_lt, Int.not_le] at hb)
      refine D.skF 4 31 rfl (by kernel_rfl) rfl rfl ?_
      refine D.skF 5 63 rfl (by kernel_rfl) rfl rfl ?_
      refine D.skF 6 127 rfl (by kernel_rfl) rfl rfl ?_
      refine D.skF 7 255 rfl (by kernel_rfl) rfl rfl ?_
      refine D.skF 8 511 rfl (by kernel_rfl) rfl rfl ?_
      refine D.skF 9 1023 rfl (by kernel_rfl) rfl rfl ?_
      refine D.skF 10 2047 rfl (by kernel_rfl) rfl rfl ?_
      refine D.skF 11 4095 rfl (by kernel_rfl) rfl rfl ?_
      refine D.skF 12 8191 rfl (by kernel_rfl) rfl rfl ?_
      refine D.skF 13 16383 rfl (by kernel_rfl) rfl rfl ?_
      refine D.skF 14 32767 rfl (by kernel_rfl) rfl rfl ?_
      refine D.skF 15 65535 rfl (by kernel_rfl) rfl rfl ?_
      refine Sh.dp 16 131071 ?_
      refine Sh.dp 17 262143 ?_
      refine D.done (by kernel_rfl) ?_
      repeat' (first|refine Kd ?_|(refine Sh.sa hS ?_;clear hS;intro w hS)|(refine K3 ?_;clear hS;intro g w hS hge)|((first|refine GS ?_ ?_|refine VB ?_ ?_)<;>intro hb<;>(try simp only [J1,J2,J3,J4,J5,J6] at hb)<;>(try (exfalso;first|omega|exact hb trivial))))
      refine Dnt Tryz.results92 ?_
      have hr : refuse c x hold = 0 := by unfold refuse; rw [if_pos o, if_neg (by omega)]
      rw [hr]
      exact ⟨rfl, Sep.CR_open.2 ⟨_, _, _, _, _, _, _, hS.sb⟩⟩
    · refine D.startS (Lr := [.blk gp 69 _, .blk g 23 x.cells]) (hS.sb) 14 14 (by kernel_rfl) rfl ?_
      replace hS := hS.drew
      refine Sh.dp 0 1 ?_
      refine Sh.dl 1 3 ?_
      first | refine D.pr 2 7 rfl D.wantedN (by kernel_rfl) rfl ?_ | refine D.pl 2 7 rfl D.wantedN (by kernel_rfl) (R.eqa rfl rfl rfl rfl) ?_
      refine Sh.dp 3 15 ?_
      refine D.slot 76 rfl (fun hb => by exfalso; (try simp only [decide_eq_true_eq, decide_eq_false_iff_not, Bool.not_eq_true', Bool.not_eq_false', Int.not_lt, Int.not_le] at hb) <;> first | omega | exact hb trivial | cases hb | simp at hb) (fun hb => ?_)
      (try simp only [decide_eq_true_eq, decide_eq_false_iff_not, Bool.not_eq_true', Bool.not_eq_false', Int.not_lt, Int.not_le] at hb)
      refine D.skF 4 31 rfl (by kernel_rfl) rfl rfl ?_
      refine D.skF 5 63 rfl (by kernel_rfl) rfl rfl ?_
      refine D.skF 6 127 rfl (by kernel_rfl) rfl rfl ?_
      refine D.skF 7 255 rfl (by kernel_rfl) rfl rfl ?_
      refine D.skF 8 511 rfl (by kernel_rfl) rfl rfl ?_
      refine D.skF 9 1023 rfl (by kernel_rfl) rfl rfl ?_
      refine D.skF 10 2047 rfl (by kernel_rfl) rfl rfl ?_
      refine D.skF 11 4095 rfl (by kernel_rfl) rfl rfl ?_
      refine Sh.dp 12 8191 ?_
      refine Sh.dp 13 16383 ?_
      refine D.done (by kernel_rfl) ?_
      repeat' (first|refine Kd ?_|(refine Sh.sa hS ?_;clear hS;intro w hS)|(refine K3 ?_;clear hS;intro g w hS hge)|((first|refine GS ?_ ?_|refine VB ?_ ?_)<;>intro hb<;>(try simp only [J1,J2,J3,J4,J5,J6] at hb)<;>(try (exfalso;first|omega|exact hb trivial))))
      refine D.startS (Lr := [.blk gp 69 _, .blk g 23 x.cells]) (hS.sb) 18 18 (by kernel_rfl) rfl ?_
      replace hS := hS.drew
      refine Sh.dp 0 1 ?_
      refine Sh.dl 1 3 ?_
      first | refine D.pr 2 7 rfl D.wantedN (by kernel_rfl) rfl ?_ | refine D.pl 2 7 rfl D.wantedN (by kernel_rfl) (R.eqa rfl rfl rfl rfl) ?_
      refine Sh.dp 3 15 ?_
      refine D.slot 90 rfl (fun hb => by exfalso; (try simp only [decide_eq_true_eq, decide_eq_false_iff_not, Bool.not_eq_true', Bool.not_eq_false', Int.not_lt, Int.not_le] at hb) <;> first | omega | exact hb trivial | cases hb | simp at hb) (fun hb => ?_)
      (try simp only [decide_eq_true_eq, decide_eq_false_iff_not, Bool.not_eq_true', Bool.not_eq_false', Int.not_lt, Int.not_le] at hb)
      refine D.skF 4 31 rfl (by kernel_rfl) rfl rfl ?_
      refine D.skF 5 63 rfl (by kernel_rfl) rfl rfl ?_
      refine D.skF 6 127 rfl (by kernel_rfl) rfl rfl ?_
      refine D.skF 7 255 rfl (by kernel_rfl) rfl rfl ?_
      refine D.skF 8 511 rfl (by kernel_rfl) rfl rfl ?_
      refine D.skF 9 1023 rfl (by kernel_rfl) rfl rfl ?_
      refine D.skF 10 2047 rfl (by kernel_rfl) rfl rfl ?_
      refine D.skF 11 4095 rfl (by kernel_rfl) rfl rfl ?_
      refine D.skF 12 8191 rfl (by kernel_rfl) rfl rfl ?_
      refine D.skF 13 16383 rfl (by kernel_rfl) rfl rfl ?_
      refine D.skF 14 32767 rfl (by kernel_rfl) rfl rfl ?_
      refine D.skF 15 65535 rfl (by kernel_rfl) rfl rfl ?_
      refine Sh.dp 16 131071 ?_
      refine Sh.dp 17 262143 ?_
      refine D.done (by kernel_rfl) ?_
      repeat' (first|refine Kd ?_|(refine Sh.sa hS ?_;clear hS;intro w hS)|(refine K3 ?_;clear hS;intro g w hS hge)|((first|refine GS ?_ ?_|refine VB ?_ ?_)<;>intro hb<;>(try simp only [J1,J2,J3,J4,J5,J6] at hb)<;>(try (exfalso;first|omega|exact hb trivial))))
      refine Dnt Tryz.results92 ?_
      have hr : refuse c x hold = 0 := by unfold refuse; rw [if_pos o, if_neg (by rintro ⟨h, _⟩; simp_all)]
      rw [hr]
      exact ⟨rfl, Sep.CR_open.2 ⟨_, _, _, _, _, _, _, hS.sb⟩⟩
  · repeat' (first|refine Kd ?_|(refine Sh.sa hS ?_;clear hS;intro w hS)|(refine K3 ?_;clear hS;intro g w hS hge)|((first|refine GS ?_ ?_|refine VB ?_ ?_)<;>intro hb<;>(try simp only [J1,J2,J3,J4,J5,J6] at hb)<;>(try (exfalso;first|omega|exact hb trivial))))
    · refine Dnt Tryz.results92 ?_
      have hr : refuse c x hold = 34 := by unfold refuse; rw [if_neg (by omega), if_pos o, if_pos (by assumption)]
      rw [hr]
      exact ⟨rfl, Sep.CR_open.2 ⟨_, _, _, _, _, _, _, hS.sb⟩⟩
    · refine D.startS (Lr := [.blk gp 69 _, .blk g 23 x.cells]) (hS.sb) 14 14 (by kernel_rfl) rfl ?_
      replace hS := hS.drew
      refine Sh.dp 0 1 ?_
      refine Sh.dl 1 3 ?_
      first | refine D.pr 2 7 rfl D.wantedN (by kernel_rfl) rfl ?_ | refine D.pl 2 7 rfl D.wantedN (by kernel_rfl) (R.eqa rfl rfl rfl rfl) ?_
      refine Sh.dp 3 15 ?_
      refine D.slot 76 rfl (fun hb => by exfalso; (try simp only [decide_eq_true_eq, decide_eq_false_iff_not, Bool.not_eq_true', Bool.not_eq_false', Int.not_lt, Int.not_le] at hb) <;> first | omega | exact hb trivial | cases hb | simp at hb) (fun hb => ?_)
      (try simp only [decide_eq_true_eq, decide_eq_false_iff_not, Bool.not_eq_true', Bool.not_eq_false', Int.not_lt, Int.not_le] at hb)
      refine D.skF 4 31 rfl (by kernel_rfl) rfl rfl ?_
      refine D.skF 5 63 rfl (by kernel_rfl) rfl rfl ?_
      refine D.skF 6 127 rfl (by kernel_rfl) rfl rfl ?_
      refine D.skF 7 255 rfl (by kernel_rfl) rfl rfl ?_
      refine D.skF 8 511 rfl (by kernel_rfl) rfl rfl ?_
      refine D.skF 9 1023 rfl (by kernel_rfl) rfl rfl ?_
      refine D.skF 10 2047 rfl (by kernel_rfl) rfl rfl ?_
      refine D.skF 11 4095 rfl (by kernel_rfl) rfl rfl ?_
      refine Sh.dp 12 8191 ?_
      refine Sh.dp 13 16383 ?_
      refine D.done (by kernel_rfl) ?_
      repeat' (first|refine Kd ?_|(refine Sh.sa hS ?_;clear hS;intro w hS)|(refine K3 ?_;clear hS;intro g w hS hge)|((first|refine GS ?_ ?_|refine VB ?_ ?_)<;>intro hb<;>(try simp only [J1,J2,J3,J4,J5,J6] at hb)<;>(try (exfalso;first|omega|exact hb trivial))))
      refine D.startS (Lr := [.blk gp 69 _, .blk g 23 x.cells]) (hS.sb) 18 18 (by kernel_rfl) rfl ?_
      replace hS := hS.drew
      refine Sh.dp 0 1 ?_
      refine Sh.dl 1 3 ?_
      first | refine D.pr 2 7 rfl D.wantedN (by kernel_rfl) rfl ?_ | refine D.pl 2 7 rfl D.wantedN (by kernel_rfl) (R.eqa rfl rfl rfl rfl) ?_
      refine Sh.dp 3 15 ?_
      refine D.slot 90 rfl (fun hb => by exfalso; (try simp only [decide_eq_true_eq, decide_eq_false_iff_not, Bool.not_eq_true', Bool.not_eq_false', Int.not_lt, Int.not_le] at hb) <;> first | omega | exact hb trivial | cases hb | simp at hb) (fun hb => ?_)
      (try simp only [decide_eq_true_eq, decide_eq_false_iff_not, Bool.not_eq_true', Bool.not_eq_false', Int.not_lt, Int.not_le] at hb)
      refine D.skF 4 31 rfl (by kernel_rfl) rfl rfl ?_
      refine D.skF 5 63 rfl (by kernel_rfl) rfl rfl ?_
      refine D.skF 6 127 rfl (by kernel_rfl) rfl rfl ?_
      refine D.skF 7 255 rfl (by kernel_rfl) rfl rfl ?_
      refine D.skF 8 511 rfl (by kernel_rfl) rfl rfl ?_
      refine D.skF 9 1023 rfl (by kernel_rfl) rfl rfl ?_
      refine D.skF 10 2047 rfl (by kernel_rfl) rfl rfl ?_
      refine D.skF 11 4095 rfl (by kernel_rfl) rfl rfl ?_
      refine D.skF 12 8191 rfl (by kernel_rfl) rfl rfl ?_
      refine D.skF 13 16383 rfl (by kernel_rfl) rfl rfl ?_
      refine D.skF 14 32767 rfl (by kernel_rfl) rfl rfl ?_
      refine D.skF 15 65535 rfl (by kernel_rfl) rfl rfl ?_
      refine Sh.dp 16 131071 ?_
      refine Sh.dp 17 262143 ?_
      refine D.done (by kernel_rfl) ?_
      repeat' (first|refine Kd ?_|(refine Sh.sa hS ?_;clear hS;intro w hS)|(refine K3 ?_;clear hS;intro g w hS hge)|((first|refine GS ?_ ?_|refine VB ?_ ?_)<;>intro hb<;>(try simp only [J1,J2,J3,J4,J5,J6] at hb)<;>(try (exfalso;first|omega|exact hb trivial))))
      refine Dnt Tryz.results92 ?_
      have hr : refuse c x hold = 0 := by unfold refuse; rw [if_neg (by omega), if_pos o, if_neg (by simp_all)]
      rw [hr]
      exact ⟨rfl, Sep.CR_open.2 ⟨_, _, _, _, _, _, _, hS.sb⟩⟩
  · repeat' (first|refine Kd ?_|(refine Sh.sa hS ?_;clear hS;intro w hS)|(refine K3 ?_;clear hS;intro g w hS hge)|((first|refine GS ?_ ?_|refine VB ?_ ?_)<;>intro hb<;>(try simp only [J1,J2,J3,J4,J5,J6] at hb)<;>(try (exfalso;first|omega|exact hb trivial))))
    · refine Dnt Tryz.results92 ?_
      have hr : refuse c x hold = 33 := by unfold refuse; rw [if_neg (by omega), if_neg (by omega), if_pos o, if_pos (by omega)]
      rw [hr]
      exact ⟨rfl, Sep.CR_open.2 ⟨_, _, _, _, _, _, _, hS.sb⟩⟩
    · refine D.startS (Lr := [.blk gp 69 _, .blk g 23 x.cells]) (hS.sb) 14 14 (by kernel_rfl) rfl ?_
      replace hS := hS.drew
      refine Sh.dp 0 1 ?_
      refine Sh.dl 1 3 ?_
      first | refine D.pr 2 7 rfl D.wantedN (by kernel_rfl) rfl ?_ | refine D.pl 2 7 rfl D.wantedN (by kernel_rfl) (R.eqa rfl rfl rfl rfl) ?_
      refine Sh.dp 3 15 ?_
      refine D.slot 76 rfl (fun hb => by exfalso; (try simp only [decide_eq_true_eq, decide_eq_false_iff_not, Bool.not_eq_true', Bool.not_eq_false', Int.not_lt, Int.not_le] at hb) <;> first | omega | exact hb trivial | cases hb | simp at hb) (fun hb => ?_)
      (try simp only [decide_eq_true_eq, decide_eq_false_iff_not, Bool.not_eq_true', Bool.not_eq_false', Int.not_lt, Int.not_le] at hb)
      refine D.skF 4 31 rfl (by kernel_rfl) rfl rfl ?_
      refine D.skF 5 63 rfl (by kernel_rfl) rfl rfl ?_
      refine D.skF 6 127 rfl (by kernel_rfl) rfl rfl ?_
      refine D.skF 7 255 rfl (by kernel_rfl) rfl rfl ?_
      refine D.skF 8 511 rfl (by kernel_rfl) rfl rfl ?_
      refine D.skF 9 1023 rfl (by kernel_rfl) rfl rfl ?_
      refine D.skF 10 2047 rfl (by kernel_rfl) rfl rfl ?_
      refine D.skF 11 4095 rfl (by kernel_rfl) rfl rfl ?_
      refine Sh.dp 12 8191 ?_
      refine Sh.dp 13 16383 ?_
      refine D.done (by kernel_rfl) ?_
      repeat' (first|refine Kd ?_|(refine Sh.sa hS ?_;clear hS;intro w hS)|(refine K3 ?_;clear hS;intro g w hS hge)|((first|refine GS ?_ ?_|refine VB ?_ ?_)<;>intro hb<;>(try simp only [J1,J2,J3,J4,J5,J6] at hb)<;>(try (exfalso;first|omega|exact hb trivial))))
      refine D.startS (Lr := [.blk gp 69 _, .blk g 23 x.cells]) (hS.sb) 18 18 (by kernel_rfl) rfl ?_
      replace hS := hS.drew
      refine Sh.dp 0 1 ?_
      refine Sh.dl 1 3 ?_
      first | refine D.pr 2 7 rfl D.wantedN (by kernel_rfl) rfl ?_ | refine D.pl 2 7 rfl D.wantedN (by kernel_rfl) (R.eqa rfl rfl rfl rfl) ?_
      refine Sh.dp 3 15 ?_
      refine D.slot 90 rfl (fun hb => by exfalso; (try simp only [decide_eq_true_eq, decide_eq_false_iff_not, Bool.not_eq_true', Bool.not_eq_false', Int.not_lt, Int.not_le] at hb) <;> first | omega | exact hb trivial | cases hb | simp at hb) (fun hb => ?_)
      (try simp only [decide_eq_true_eq, decide_eq_false_iff_not, Bool.not_eq_true', Bool.not_eq_false', Int.not_lt, Int.not_le] at hb)
      refine D.skF 4 31 rfl (by kernel_rfl) rfl rfl ?_
      refine D.skF 5 63 rfl (by kernel_rfl) rfl rfl ?_
      refine D.skF 6 127 rfl (by kernel_rfl) rfl rfl ?_
      refine D.skF 7 255 rfl (by kernel_rfl) rfl rfl ?_
      refine D.skF 8 511 rfl (by kernel_rfl) rfl rfl ?_
      refine D.skF 9 1023 rfl (by kernel_rfl) rfl rfl ?_
      refine D.skF 10 2047 rfl (by kernel_rfl) rfl rfl ?_
      refine D.skF 11 4095 rfl (by kernel_rfl) rfl rfl ?_
      refine D.skF 12 8191 rfl (by kernel_rfl) rfl rfl ?_
      refine D.skF 13 16383 rfl (by kernel_rfl) rfl rfl ?_
      refine D.skF 14 32767 rfl (by kernel_rfl) rfl rfl ?_
      refine D.skF 15 65535 rfl (by kernel_rfl) rfl rfl ?_
      refine Sh.dp 16 131071 ?_
      refine Sh.dp 17 262143 ?_
      refine D.done (by kernel_rfl) ?_
      repeat' (first|refine Kd ?_|(refine Sh.sa hS ?_;clear hS;intro w hS)|(refine K3 ?_;clear hS;intro g w hS hge)|((first|refine GS ?_ ?_|refine VB ?_ ?_)<;>intro hb<;>(try simp only [J1,J2,J3,J4,J5,J6] at hb)<;>(try (exfalso;first|omega|exact hb trivial))))
      refine Dnt Tryz.results92 ?_
      have hr : refuse c x hold = 0 := by unfold refuse; rw [if_neg (by omega), if_neg (by omega), if_pos o, if_neg (by omega)]
      rw [hr]
      exact ⟨rfl, Sep.CR_open.2 ⟨_, _, _, _, _, _, _, hS.sb⟩⟩
  · repeat' (first|refine Kd ?_|(refine Sh.sa hS ?_;clear hS;intro w hS)|(refine K3 ?_;clear hS;intro g w hS hge)|((first|refine GS ?_ ?_|refine VB ?_ ?_)<;>intro hb<;>(try simp only [J1,J2,J3,J4,J5,J6] at hb)<;>(try (exfalso;first|omega|exact hb trivial))))
    replace hS := Sep.QR_open.2 ⟨.slice Aq c.q.l.length cq, vr, ((hS.focus (R := .sl 133 4 vr _) (by repeat (first | exact At.here | apply At.next))).focus (R := .sl 79 2 _ _) (by repeat (first | exact At.here | apply At.next))).focus (R := .blk gq 105 _) (by repeat (first | exact At.here | apply At.next))⟩
    have hr0 : refuse c x hold = if waitsB c.q.l x.item then (if hold then 0 else 35) else 34 := by unfold refuse; rw [if_neg (by omega), if_neg (by omega), if_neg (by omega)]
    rw [hr0]
    refine D.startS (Lr := [.blk gp 69 _, .blk g 23 x.cells]) (hS.sb) 14 14 (by kernel_rfl) rfl ?_
    replace hS := hS.drew
    refine Sh.dp 0 1 ?_
    refine Sh.dl 1 3 ?_
    first | refine D.pr 2 7 rfl D.wantedN (by kernel_rfl) rfl ?_ | refine D.pl 2 7 rfl D.wantedN (by kernel_rfl) (R.eqa rfl rfl rfl rfl) ?_
    refine Sh.dp 3 15 ?_
    refine D.slot 76 rfl (fun hb => ?_) (fun hb => by exfalso; (try simp only [decide_eq_true_eq, decide_eq_false_iff_not, Bool.not_eq_true', Bool.not_eq_false', Int.not_lt, Int.not_le] at hb) <;> first | omega | exact hb trivial | cases hb | simp at hb)
    (try simp only [decide_eq_true_eq, decide_eq_false_iff_not, Bool.not_eq_true', Bool.not_eq_false', Int.not_lt, Int.not_le] at hb)
    refine Sh.dp 4 31 ?_
    refine Sh.dp 5 63 ?_
    refine Sh.dp 6 127 ?_
    refine Sh.dp 8 383 ?_
    refine Sh.dl 7 511 ?_
    refine Sh.dl 9 1023 ?_
    refine D.eff 10 2047 rfl (D.wantedT rfl rfl) (by kernel_rfl) (by kernel_rfl) (fun _ _ h => h) ?_
    refine WE.guard ?_
    replace hS := hS.fo (R := QR gq c.q)
    refine Z.cl (rqwaits_z gq c.q x.item _ _ _ hS (by omega)) rfl ?_
    clear hS
    rintro e w ⟨rfl, hS⟩
    refine ⟨_, rfl, ?_⟩
    refine ⟨HM.s (hS.sb), ?_⟩
    refine Sh.dp 11 4095 ?_
    refine Sh.dp 12 8191 ?_
    refine Sh.dp 13 16383 ?_
    refine D.done (by kernel_rfl) ?_
    repeat' (first|refine Kd ?_|(refine Sh.sa hS ?_;clear hS;intro w hS)|(refine K3 ?_;clear hS;intro g w hS hge)|((first|refine GS ?_ ?_|refine VB ?_ ?_)<;>intro hb<;>(try simp only [J1,J2,J3,J4,J5,J6] at hb)<;>(try (exfalso;first|omega|exact hb trivial))))
    · refine Dnt Tryz.results92 ?_
      rename waitsB c.q.l x.item = false => hw
      rw [hw]
      obtain ⟨vl', vr', hS⟩ := Sep.QR_open.1 (hS.focus (R := QR gq c.q) (by repeat (first | exact At.here | apply At.next)))
      exact ⟨rfl, Sep.CR_open.2 ⟨_, _, _, _, _, _, _, hS.sb⟩⟩
    · rename waitsB c.q.l x.item = true => hw
      rw [hw]
      refine D.startS (Lr := [.blk gp 69 _, .blk g 23 x.cells]) (hS.sb) 18 18 (by kernel_rfl) rfl ?_
      replace hS := hS.drew
      refine Sh.dp 0 1 ?_
      refine Sh.dl 1 3 ?_
      first | refine D.pr 2 7 rfl D.wantedN (by kernel_rfl) rfl ?_ | refine D.pl 2 7 rfl D.wantedN (by kernel_rfl) (R.eqa rfl rfl rfl rfl) ?_
      refine Sh.dp 3 15 ?_
      refine D.slot 90 rfl (fun hb => ?_) (fun hb => by exfalso; (try simp only [decide_eq_true_eq, decide_eq_false_iff_not, Bool.not_eq_true', Bool.not_eq_false', Int.not_lt, Int.not_le] at hb) <;> first | omega | exact hb trivial | cases hb | simp at hb)
      (try simp only [decide_eq_true_eq, decide_eq_false_iff_not, Bool.not_eq_true', Bool.not_eq_false', Int.not_lt, Int.not_le] at hb)
      refine Sh.dp 4 31 ?_
      refine Sh.dp 5 63 ?_
      refine Sh.dp 6 127 ?_
      refine Sh.dp 8 383 ?_
      refine Sh.dp 10 1407 ?_
      refine Sh.dp 11 3455 ?_
      refine Sh.dp 13 11647 ?_
      refine Sh.dl 7 11775 ?_
      refine Sh.dl 9 12287 ?_
      refine Sh.dl 12 16383 ?_
      refine D.eff 14 32767 rfl (D.wantedT rfl rfl) (by kernel_rfl) (by kernel_rfl) (fun _ _ h => h) ?_
      refine WE.guard ?_
      replace hS := hS.fo (R := QR gq c.q)
      refine Z.cl (rqholds_z gq c.q x.client ep x.item tk _ _ _ hS (by omega)) rfl ?_
      clear hS
      rintro e w ⟨rfl, hS⟩
      refine ⟨_, rfl, ?_⟩
      rw [hhd]
      refine ⟨HM.s (hS.sb), ?_⟩
      refine Sh.dp 15 65535 ?_
      refine Sh.dp 16 131071 ?_
      refine Sh.dp 17 262143 ?_
      refine D.done (by kernel_rfl) ?_
      repeat' (first|refine Kd ?_|(refine Sh.sa hS ?_;clear hS;intro w hS)|(refine K3 ?_;clear hS;intro g w hS hge)|((first|refine GS ?_ ?_|refine VB ?_ ?_)<;>intro hb<;>(try simp only [J1,J2,J3,J4,J5,J6] at hb)<;>(try (exfalso;first|omega|exact hb trivial))))
      · refine Dnt Tryz.results92 ?_
        rename hold = false => hh
        rw [hh]
        obtain ⟨vl', vr', hS⟩ := Sep.QR_open.1 (hS.focus (R := QR gq c.q) (by repeat (first | exact At.here | apply At.next)))
        exact ⟨rfl, Sep.CR_open.2 ⟨_, _, _, _, _, _, _, hS.sb⟩⟩
      · refine Dnt Tryz.results92 ?_
        rename hold = true => hh
        rw [hh]
        obtain ⟨vl', vr', hS⟩ := Sep.QR_open.1 (hS.focus (R := QR gq c.q) (by repeat (first | exact At.here | apply At.next)))
        exact ⟨rfl, Sep.CR_open.2 ⟨_, _, _, _, _, _, _, hS.sb⟩⟩
end Go.Proofs.YtahackdfjcgkhaaGreat

namespace Go.Proofs.YtahackdfjcgkhaaGreat
open Go.RowKit
set_option linter.unusedSimpArgs false
set_option linter.unusedVariables false

set_option maxHeartbeats 4000000 in
theorem find_any (g : Nat) (t : Tab) (cl nu : Int) (w : World) (hb : Blk w g 109 t.cells) (hok : t.ok) :
    Calls Tryz.prog 91 #[.pointer (some ⟨g, 0, none⟩), .int .i64 cl, .int .i64 nu] w fun e w' => e = .returned (.tuple #[(findB t cl nu).1.val, .int .i64 (findB t cl nu).2]) ∧ Chg [] w w' := by
  by_cases hcl : cl < 1 ∨ 8 < cl ∨ nu < 1 ∨ 1048576 < nu
  · have hf : findB t cl nu = (.zero, 1) := by unfold findB; rw [if_pos hcl]
    rw [hf]
    clear hf hb
    go_enter Tryz.func91, Tryz.ntmps91
    go_wp2
    all_goals (go_returns; exact ⟨rfl, (Chg.refl _ _).alloc _⟩)
  · have hk : ∃ k : Nat, cl = (k : Int) + 1 ∧ k < 8 := ⟨(cl - 1).toNat, by omega, by omega⟩
    obtain ⟨k, rfl, hk⟩ := hk
    have b1 : 1 ≤ nu := by omega
    have b2 : nu ≤ 1048576 := by omega
    have hn := hok k
    obtain ⟨⟨re, rq, ri, rv⟩, hR⟩ : ∃ R, t.r k = R := ⟨_, rfl⟩
    obtain ⟨cN, cR0, cR1, cR2, cR3⟩ := Tab.cells_at hb hk hR
    have hg : g < w.heap.size := hb.lt
    have hg' : g ≠ w.heap.size := by omega
    have hf : findB t ((k : Int) + 1) nu = if nu = t.n k then (⟨re, rq, ri, rv⟩, 0) else if nu = t.n k + 1 then (.zero, 34) else (.zero, 32) := by
      unfold findB
      rw [if_neg hcl, show ((k : Int) + 1 - 1).toNat = k by omega, hR]
    rw [hf]
    clear hf hb hok hR hcl
    have hk1 : (k : Int) + 1 ≤ 8 := by omega
    have d1 : decide ((8 : Int) < (k : Int) + 1) = false := by simp; omega
    have d2 : decide ((k : Int) + 1 < 1) = false := by simp; omega
    have d3 : decide (nu < 1) = false := by simp; omega
    have d4 : decide (1048576 < nu) = false := by simp; omega
    by_cases h0 : nu = t.n k
    · rw [if_pos h0]
      have h0' : (nu - t.n k == 0) = true := by simp; omega
      clear h0
      go_enter Tryz.func91, Tryz.ntmps91
      go_wp2
      go_returns
      exact ⟨rfl, (Chg.refl _ _).alloc _⟩
    · rw [if_neg h0]
      have h0' : (nu - t.n k == 0) = false := by simp; omega
      clear h0
      by_cases h1 : nu = t.n k + 1
      · rw [if_pos h1]
        have h1' : (nu - t.n k == 1) = true := by simp; omega
        clear h1
        go_enter Tryz.func91, Tryz.ntmps91
        go_wp2
        go_returns
        exact ⟨rfl, (Chg.refl _ _).alloc _⟩
      · rw [if_neg h1]
        have h1' : (nu - t.n k == 1) = false := by simp; omega
        clear h1
        go_enter Tryz.func91, Tryz.ntmps91
        go_wp2
        go_returns
        exact ⟨rfl, (Chg.refl _ _).alloc _⟩

end Go.Proofs.YtahackdfjcgkhaaGreat

namespace Go.Proofs.YtahackdfjcgkhaaGreat
open Go.RowKit
set_option linter.unusedSimpArgs false
set_option linter.unusedVariables false
attribute [local irreducible] Res.blk Res.sl Res.all Res.ex Res.pure Res.star

theorem rcepoch_z (g : Nat) (cell ten : Int) (vg : Value) (c : Cp) (r : World) (F : List Res) (w : World) (hS : Sep r [] (CR g cell ten vg c :: F) w) (hl : c.h.length ≤ 5000) :
    Calls Tryz.prog 74 #[.pointer (some ⟨g, 0, .none⟩)] w fun e w' => e = .returned (.int .i64 (epochOf c.h)) ∧ Sep r [] (CR g cell ten vg c :: F) w' := by
  obtain ⟨vh, gs, gq, gt, vs, vl, vr, hS⟩ := Sep.CR_open.1 hS
  exact (epoch_z g _ _ vh _ _ _ _ c.h r _ w hS (Reads.of_at (e := 49) .here) hl).mono fun e w' ⟨he, hS⟩ => ⟨he, Sep.CR_open.2 ⟨vh, gs, gq, gt, vs, vl, vr, hS⟩⟩
theorem rcfind_z (g : Nat) (t : Tab) (cl nu : Int) (R : Rep × Int) (hR : findB t cl nu = R) (r : World) (F : List Res) (w : World) (hS : Sep r [] (.blk g 109 t.cells.toList :: F) w) (hok : t.ok) :
    Calls Tryz.prog 91 #[.pointer (some ⟨g, 0, .none⟩), .int .i64 cl, .int .i64 nu] w fun e w' => e = .returned (.tuple #[R.1.val, .int .i64 R.2]) ∧ Sep r [] (.blk g 109 t.cells.toList :: F) w' := by
  subst hR
  exact (find_any g t cl nu w (Sep.blk hS .here) hok).mono fun _ _ ⟨h1, h2⟩ => ⟨h1, hS.ext h2⟩
theorem find_three (t : Tab) {x : Rq} (hx : reqOk x) (h1 : x.op ≠ 1) (h5 : x.op ≠ 5) : (findB t x.client x.number).2 = 0 ∨ (findB t x.client x.number).2 = 32 ∨ (findB t x.client x.number).2 = 34 := by
  have hn : 1 ≤ x.number ∧ x.number ≤ 1048576 := by
    obtain ⟨_, _, _, _, ho⟩ := hx
    unfold numOk at ho
    rcases ho with ho | ho | ho | ho | ho | ho
    · exact absurd ho.1 h1
    · exact ho.2.1
    · exact ho.2.1
    · exact ho.2.1
    · exact absurd ho.1 h5
    · exact ho.2.1
  have hc := hx.2.2
  unfold findB
  rw [if_neg (by omega)]
  repeat' split
  all_goals simp
theorem rep_of_find {t : Tab} {cl nu : Int} {R : Rep} (h : findB t cl nu = (R, 0)) : t.r (cl - 1).toNat = R := by
  unfold findB at h
  split at h
  · simp at h
  · split at h
    · simpa using h
    · split at h
      · simp at h
      · simp at h
def accR (G : Ga) (v t : Int) : Int := accs (G.ws.filter fun x => decide (G.closed < x.epoch)) v t 0
theorem accR_bd {G : Ga} {v t : Int} (hw : ∀ y, y ∈ G.ws → 1 ≤ y.epoch ∧ y.epoch ≤ 1048576) : 0 ≤ accR G v t ∧ accR G v t ≤ 1048576 := by
  have := accs_bd (G := ⟨G.cell, G.closed, G.ws.filter fun x => decide (G.closed < x.epoch)⟩) (v := v) (t := t) (fun y hy => hw y (List.mem_filter.1 hy).1)
  exact this
set_option maxHeartbeats 8000000 in
theorem rexec_z (gp gg : Nat) (cell ten : Int) (c : Cp) (G : Ga) (ver tk : Int) (x : Rq) (r : World) (F : List Res) (w : World) (hS : Sep r [] (CR gp cell ten (.pointer (some ⟨gg, 0, .none⟩)) c :: GR gg G :: F) w) (hc : CW c) (hw : ∀ y, y ∈ G.ws → 1 ≤ y.epoch ∧ y.epoch ≤ 1048576) (hgl : G.ws.length ≤ 100000) (hl : c.h.length ≤ 4000) :
    Calls Tryz.prog 39 #[.pointer (some ⟨gp, 0, .none⟩), .int .i64 ver, .int .i64 tk, x.val] w fun e w' => e = .returned (exR c ten (accR G ver tk) tk x).p.val ∧ Sep r [] (CR gp cell ten (.pointer (some ⟨gg, 0, .none⟩)) (exR c ten (accR G ver tk) tk x).c :: GR gg G :: F) w' := by
  have hcok := hc.cok
  have hab := accR_bd (G := G) (v := ver) (t := tk) hw
  unfold exR exQ
  refine Z.enter Tryz.func39 Tryz.ntmps39 rfl rfl ?_
  repeat' (first|refine Kd ?_|(refine Sh.sa hS ?_;clear hS;intro w hS)|(refine K3 ?_;clear hS;intro g w hS hge)|((first|refine GS ?_ ?_|refine VB ?_ ?_)<;>intro hb<;>(try simp only [J1,J2,J3,J4,J5,J6] at hb)<;>(try (exfalso;first|omega|exact hb trivial))))
  rename Nat => g8
  refine Z.cut [19, 20, 21, 22, 23, 24, 25, 26, 27, 28, 29, 30, 31, 32, 33, 34, 35, 36, 37, 38] (fun w s => s = [(38, .bool (!decide (reqOk x ∧ x.tenant = ten ∧ 0 ≤ tk ∧ tk ≤ 1073741824)))] ∧ Sep r [] (CR gp cell ten (.pointer (some ⟨gg, 0, .none⟩)) c :: .blk g 23 x.cells :: .blk g8 51 [.int .i64 0, .int .i64 0, .int .i64 0, .string ⟨#[]⟩] :: GR gg G :: F) w) ?_ ?_
  · obtain ⟨vh, gs, gq, gt, vs, vl, vr, hS⟩ := Sep.CR_open.1 (hS.focus (R := CR gp cell ten _ c) (by repeat (first | exact At.here | apply At.next)))
    refine D.startS (Lr := [.blk gp 69 _, .blk g 23 x.cells]) (hS.sb) 20 20 (by kernel_rfl) rfl ?_
    replace hS := hS.drew
    refine Sh.dl 0 1 ?_
    refine D.eff 1 3 rfl D.wantedN (by kernel_rfl) (by kernel_rfl) (fun _ _ h => h) ?_
    refine Z.cl (rvalidq_z x _ _ _ hS) rfl ?_
    clear hS
    rintro e w ⟨rfl, hS⟩
    refine ⟨_, rfl, ?_⟩
    rw [reqB_ok]
    refine ⟨HM.s (hS.sb), ?_⟩
    refine Sh.dp 2 7 ?_
    refine Sh.dp 3 15 ?_
    refine D.slot 22 rfl (fun hb => ?_) (fun hb => ?_)
    · (try simp only [decide_eq_true_eq, decide_eq_false_iff_not, Bool.not_eq_true', Bool.not_eq_false', Int.not_lt, Int.not_le] at hb)
      refine D.skF 4 31 rfl (by kernel_rfl) rfl rfl ?_
      refine D.skF 5 63 rfl (by kernel_rfl) rfl rfl ?_
      refine D.skF 6 127 rfl (by kernel_rfl) rfl rfl ?_
      refine D.skF 7 255 rfl (by kernel_rfl) rfl rfl ?_
      refine D.skF 8 511 rfl (by kernel_rfl) rfl rfl ?_
      refine D.skF 9 1023 rfl (by kernel_rfl) rfl rfl ?_
      refine D.skF 10 2047 rfl (by kernel_rfl) rfl rfl ?_
      refine Sh.dp 11 4095 ?_
      refine Sh.dp 12 8191 ?_
      refine D.skF 13 16383 rfl (by kernel_rfl) rfl rfl ?_
      refine D.skF 14 32767 rfl (by kernel_rfl) rfl rfl ?_
      refine Sh.dp 15 65535 ?_
      refine Sh.dp 16 131071 ?_
      refine D.skF 17 262143 rfl (by kernel_rfl) rfl rfl ?_
      refine D.skF 18 524287 rfl (by kernel_rfl) rfl rfl ?_
      refine Sh.dp 19 1048575 ?_
      refine D.done (by kernel_rfl) ?_
      refine Sh.cut [(38, _)] ?_
      refine ⟨?_, Sep.CR_open.2 ⟨_, _, _, _, _, _, _, hS.sb⟩⟩
      first
        | (simp_all; done)
        | (simp_all; omega)
        | (simp_all; exact dec_gt _ _)
    · (try simp only [decide_eq_true_eq, decide_eq_false_iff_not, Bool.not_eq_true', Bool.not_eq_false', Int.not_lt, Int.not_le] at hb)
      refine Sh.dp 4 31 ?_
      refine Sh.dp 6 95 ?_
      refine Sh.dp 7 223 ?_
      refine Sh.dp 8 479 ?_
      refine Sh.dl 5 511 ?_
      refine Sh.dl 9 1023 ?_
      first | refine D.pr 10 2047 rfl (D.wantedT rfl rfl) (by kernel_rfl) rfl ?_ | refine D.pl 10 2047 rfl (D.wantedT rfl rfl) (by kernel_rfl) (R.nea rfl rfl rfl rfl) ?_
      refine Sh.dp 11 4095 ?_
      refine Sh.dp 12 8191 ?_
      refine D.slot 31 rfl (fun hb => ?_) (fun hb => ?_)
      · (try simp only [decide_eq_true_eq, decide_eq_false_iff_not, Bool.not_eq_true', Bool.not_eq_false', Int.not_lt, Int.not_le] at hb)
        refine D.skF 13 16383 rfl (by kernel_rfl) rfl rfl ?_
        refine D.skF 14 32767 rfl (by kernel_rfl) rfl rfl ?_
        refine Sh.dp 15 65535 ?_
        refine Sh.dp 16 131071 ?_
        refine D.skF 17 262143 rfl (by kernel_rfl) rfl rfl ?_
        refine D.skF 18 524287 rfl (by kernel_rfl) rfl rfl ?_
        refine Sh.dp 19 1048575 ?_
        refine D.done (by kernel_rfl) ?_
        refine Sh.cut [(38, _)] ?_
        refine ⟨?_, Sep.CR_open.2 ⟨_, _, _, _, _, _, _, hS.sb⟩⟩
        first
          | (simp_all; done)
          | (simp_all; omega)
          | (simp_all; exact dec_gt _ _)
      · (try simp only [decide_eq_true_eq, decide_eq_false_iff_not, Bool.not_eq_true', Bool.not_eq_false', Int.not_lt, Int.not_le] at hb)
        refine Sh.dp 13 16383 ?_
        refine Sh.dp 14 32767 ?_
        refine Sh.dp 15 65535 ?_
        refine Sh.dp 16 131071 ?_
        refine D.slot 35 rfl (fun hb => ?_) (fun hb => ?_)
        · (try simp only [decide_eq_true_eq, decide_eq_false_iff_not, Bool.not_eq_true', Bool.not_eq_false', Int.not_lt, Int.not_le] at hb)
          refine D.skF 17 262143 rfl (by kernel_rfl) rfl rfl ?_
          refine D.skF 18 524287 rfl (by kernel_rfl) rfl rfl ?_
          refine Sh.dp 19 1048575 ?_
          refine D.done (by kernel_rfl) ?_
          refine Sh.cut [(38, _)] ?_
          refine ⟨?_, Sep.CR_open.2 ⟨_, _, _, _, _, _, _, hS.sb⟩⟩
          first
            | (simp_all; done)
            | (simp_all; omega)
            | (simp_all; exact dec_gt _ _)
        · (try simp only [decide_eq_true_eq, decide_eq_false_iff_not, Bool.not_eq_true', Bool.not_eq_false', Int.not_lt, Int.not_le] at hb)
          refine Sh.dp 17 262143 ?_
          refine Sh.dp 18 524287 ?_
          refine Sh.dp 19 1048575 ?_
          refine D.done (by kernel_rfl) ?_
          refine Sh.cut [(38, _)] ?_
          refine ⟨?_, Sep.CR_open.2 ⟨_, _, _, _, _, _, _, hS.sb⟩⟩
          first
            | (simp_all; done)
            | (simp_all; omega)
            | (simp_all; exact dec_gt _ _)
  clear hS
  rintro q1 w _ ⟨rfl, hS⟩
  by_cases hrq : reqOk x ∧ x.tenant = ten ∧ 0 ≤ tk ∧ tk ≤ 1073741824
  rotate_left
  · rw [if_neg hrq, decide_eq_false hrq]
    repeat' (first|refine Kd ?_|(refine Sh.sa hS ?_;clear hS;intro w hS)|(refine K3 ?_;clear hS;intro g w hS hge)|((first|refine GS ?_ ?_|refine VB ?_ ?_)<;>intro hb<;>(try simp only [J1,J2,J3,J4,J5,J6] at hb)<;>(try (exfalso;first|omega|exact hb trivial))))
    refine Dnc Tryz.results39 ?_
    exact ⟨rfl, hS.sb⟩
  rw [if_pos hrq, decide_eq_true hrq]
  obtain ⟨hx, hten, ht0, ht1⟩ := hrq
  obtain ⟨vh, gs, gq, gt, vs, vl, vr, hS⟩ := Sep.CR_open.1 (hS.focus (R := CR gp cell ten _ c) (by repeat (first | exact At.here | apply At.next)))
  repeat' (first|refine Kd ?_|(refine Sh.sa hS ?_;clear hS;intro w hS)|(refine K3 ?_;clear hS;intro g w hS hge)|((first|refine GS ?_ ?_|refine VB ?_ ?_)<;>intro hb<;>(try simp only [J1,J2,J3,J4,J5,J6] at hb)<;>(try (exfalso;first|omega|exact hb trivial))))
  replace hS := hS.fo (R := GR gg G)
  refine Z.eff (Z.cl (raccepts_z gg G ver tk _ _ _ hS hgl) rfl ?_) rfl
  clear hS
  rintro e w ⟨rfl, hS⟩
  refine ⟨_, rfl, ?_⟩
  rw [show accs (G.ws.filter fun x => decide (G.closed < x.epoch)) ver tk 0 = accR G ver tk from rfl]
  generalize hacc : accR G ver tk = acc at *
  have hS : Sep r [] (CR gp cell ten (.pointer (some ⟨gg, 0, .none⟩)) c :: .blk g 23 x.cells :: .blk g8 51 [.int .i64 0, .int .i64 0, .int .i64 0, .string ⟨#[]⟩] :: GR gg G :: F) w := Sep.CR_open.2 ⟨vh, gs, gq, gt, vs, vl, vr, hS.sb⟩
  repeat' (first|refine Kd ?_|(refine Sh.sa hS ?_;clear hS;intro w hS)|(refine K3 ?_;clear hS;intro g w hS hge)|((first|refine GS ?_ ?_|refine VB ?_ ?_)<;>intro hb<;>(try simp only [J1,J2,J3,J4,J5,J6] at hb)<;>(try (exfalso;first|omega|exact hb trivial))))
  · rw [if_neg (by omega)]
    repeat' (first|refine Kd ?_|(refine Sh.sa hS ?_;clear hS;intro w hS)|(refine K3 ?_;clear hS;intro g w hS hge)|((first|refine GS ?_ ?_|refine VB ?_ ?_)<;>intro hb<;>(try simp only [J1,J2,J3,J4,J5,J6] at hb)<;>(try (exfalso;first|omega|exact hb trivial))))
    refine Dnc Tryz.results39 ?_
    exact ⟨rfl, hS.sb⟩
  refine Z.eff (Z.cl (rcepoch_z gp cell ten _ c _ _ _ hS (by omega)) rfl ?_) rfl
  clear hS
  rintro e w ⟨rfl, hS⟩
  refine ⟨_, rfl, ?_⟩
  repeat' (first|refine Kd ?_|(refine Sh.sa hS ?_;clear hS;intro w hS)|(refine K3 ?_;clear hS;intro g w hS hge)|((first|refine GS ?_ ?_|refine VB ?_ ?_)<;>intro hb<;>(try simp only [J1,J2,J3,J4,J5,J6] at hb)<;>(try (exfalso;first|omega|exact hb trivial))))
  · rw [if_neg (by omega)]
    refine Dnc Tryz.results39 ?_
    exact ⟨rfl, hS.sb⟩
  · rw [if_pos (by omega), if_pos (by assumption)]
    obtain ⟨vh, gs, gq, gt, vs, vl, vr, hS⟩ := Sep.CR_open.1 (hS.focus (R := CR gp cell ten _ c) (by repeat (first | exact At.here | apply At.next)))
    have hok := hc.ok
    rcases hat : atK c.s x.key with _ | y
    · refine D.startS (Lr := [.blk gp 69 _, .blk g 23 x.cells]) (hS.sb) 14 14 (by kernel_rfl) rfl ?_
      replace hS := hS.drew
      refine Sh.dp 0 1 ?_
      refine Sh.dp 1 3 ?_
      refine Sh.dp 2 7 ?_
      refine Sh.dp 4 23 ?_
      refine Sh.dl 3 31 ?_
      refine Sh.dl 5 63 ?_
      refine D.eff 6 127 rfl D.wantedN (by kernel_rfl) (by kernel_rfl) (fun _ _ h => h) ?_
      replace hS := hS.fo (R := .blk gs 100 _)
      refine Z.cl (rsget_z gs c.s vs x.key _ _ _ hS (Reads.of_at (e := 102) (v := vs) (sz := 3) (by repeat (first | exact At.here | apply At.next))) (by omega)) rfl ?_
      clear hS
      rintro e w ⟨rfl, hS⟩
      refine ⟨_, rfl, ?_⟩
      rw [hat, getV_eq]
      refine ⟨HM.s (hS.sb), ?_⟩
      refine Sh.dp 7 255 ?_
      refine Sh.dp 8 511 ?_
      refine Sh.dp 9 1023 ?_
      refine Sh.dp 10 2047 ?_
      refine Sh.dp 11 4095 ?_
      refine Sh.dp 12 8191 ?_
      refine Sh.dp 13 16383 ?_
      refine D.done (by kernel_rfl) ?_
      repeat' (first|refine Kd ?_|(refine Sh.sa hS ?_;clear hS;intro w hS)|(refine K3 ?_;clear hS;intro g w hS hge)|((first|refine GS ?_ ?_|refine VB ?_ ?_)<;>intro hb<;>(try simp only [J1,J2,J3,J4,J5,J6] at hb)<;>(try (exfalso;first|omega|exact hb trivial))))
      refine Dnc Tryz.results39 ?_
      exact ⟨rfl, Sep.CR_open.2 ⟨_, _, _, _, _, _, _, hS.sb⟩⟩
    · refine D.startS (Lr := [.blk gp 69 _, .blk g 23 x.cells]) (hS.sb) 14 14 (by kernel_rfl) rfl ?_
      replace hS := hS.drew
      refine Sh.dp 0 1 ?_
      refine Sh.dp 1 3 ?_
      refine Sh.dp 2 7 ?_
      refine Sh.dp 4 23 ?_
      refine Sh.dl 3 31 ?_
      refine Sh.dl 5 63 ?_
      refine D.eff 6 127 rfl D.wantedN (by kernel_rfl) (by kernel_rfl) (fun _ _ h => h) ?_
      replace hS := hS.fo (R := .blk gs 100 _)
      refine Z.cl (rsget_z gs c.s vs x.key _ _ _ hS (Reads.of_at (e := 102) (v := vs) (sz := 3) (by repeat (first | exact At.here | apply At.next))) (by omega)) rfl ?_
      clear hS
      rintro e w ⟨rfl, hS⟩
      refine ⟨_, rfl, ?_⟩
      rw [hat, getV_eq]
      refine ⟨HM.s (hS.sb), ?_⟩
      refine Sh.dp 7 255 ?_
      refine Sh.dp 8 511 ?_
      refine Sh.dp 9 1023 ?_
      refine Sh.dp 10 2047 ?_
      refine Sh.dp 11 4095 ?_
      refine Sh.dp 12 8191 ?_
      refine Sh.dp 13 16383 ?_
      refine D.done (by kernel_rfl) ?_
      repeat' (first|refine Kd ?_|(refine Sh.sa hS ?_;clear hS;intro w hS)|(refine K3 ?_;clear hS;intro g w hS hge)|((first|refine GS ?_ ?_|refine VB ?_ ?_)<;>intro hb<;>(try simp only [J1,J2,J3,J4,J5,J6] at hb)<;>(try (exfalso;first|omega|exact hb trivial))))
      refine Dnc Tryz.results39 ?_
      exact ⟨rfl, Sep.CR_open.2 ⟨_, _, _, _, _, _, _, hS.sb⟩⟩
  · rw [if_pos (by omega), if_neg (by omega), if_pos (by assumption)]
    obtain ⟨vh, gs, gq, gt, vs, vl, vr, hS⟩ := Sep.CR_open.1 (hS.focus (R := CR gp cell ten _ c) (by repeat (first | exact At.here | apply At.next)))
    have hqo := hc.ok
    generalize hT : takeR c.q x.client acc tk 20 = T at *
    rcases T with ⟨q2, ⟨i1, i2⟩, ⟨l1, l2, l3, l4⟩, te⟩
    refine Z.cut [14, 15, 16, 82, 83, 84, 85, 86, 87, 88, 89, 90, 91, 92, 93, 94] (fun w s => ∃ g15, s = [(14, .pointer (some ⟨g15, 0, .none⟩)), (16, .int .i64 te)] ∧ Sep r [] (CR gp cell ten (.pointer (some ⟨gg, 0, .none⟩)) ⟨c.h, c.s, q2, c.t⟩ :: .blk g15 79 [.int .i64 i1, .string i2] :: .blk g 23 x.cells :: .blk g8 51 [.int .i64 0, .int .i64 0, .int .i64 0, .string ⟨#[]⟩] :: GR gg G :: F) w) ?_ ?_
    · replace hS := Sep.QR_open.2 ⟨vl, vr, ((hS.focus (R := .sl 133 4 vr _) (by repeat (first | exact At.here | apply At.next))).focus (R := .sl 79 2 _ _) (by repeat (first | exact At.here | apply At.next))).focus (R := .blk gq 105 _) (by repeat (first | exact At.here | apply At.next))⟩
      refine D.startS (Lr := [.blk gp 69 _, .blk g 23 x.cells]) (hS.sb) 16 18 (by kernel_rfl) rfl ?_
      replace hS := hS.drew
      refine Sh.dp 0 1 ?_
      refine Sh.dp 1 3 ?_
      refine Sh.dp 2 7 ?_
      refine Sh.dp 4 23 ?_
      refine Sh.dp 6 87 ?_
      refine Sh.dp 7 215 ?_
      refine Sh.dl 3 223 ?_
      refine Sh.dl 5 255 ?_
      refine D.each [8, 13, 14] (by kernel_rfl) rfl ?_
      refine D.econs 8 511 rfl D.wantedN (by kernel_rfl) (fun _ _ h => h) ?_ ?_
      · replace hS := hS.fo (R := QR gq c.q)
        refine Z.cl (rqtake_z gq c.q x.client acc tk 20 _ _ _ hS (by omega) (by omega)) rfl ?_
        clear hS
        rintro e w ⟨rfl, hS⟩
        refine ⟨_, rfl, ?_⟩
        rw [hT] at hS ⊢
        refine ⟨HM.s (hS.sb), ?_⟩
        refine Sh.dp 9 1023 ?_
        refine Sh.dp 10 2047 ?_
        refine Sh.dp 11 4095 ?_
        refine Sh.dp 12 8191 ?_
        refine D.each [13, 14] (by kernel_rfl) rfl ?_
        refine D.econs 13 16383 rfl D.wantedN (by kernel_rfl) (fun _ _ h => h) ?_ ?_
        · refine Z.al hS ?_
          clear hS; intro g w hS hge
          refine ⟨HM.s (hS.sb), ?_⟩
          refine D.eff 14 32767 rfl D.wantedN (by kernel_rfl) (by kernel_rfl) (fun _ _ h => h) ?_
          refine Z.al hS ?_
          clear hS; intro g w hS hge
          refine ⟨HM.s (hS.sb), ?_⟩
          refine D.eff 15 65535 rfl D.wantedN (by kernel_rfl) (by kernel_rfl) (fun _ _ h => h) ?_
          refine Z.st hS rfl (by repeat (first | exact At.here | apply At.next)) rfl rfl ?_
          clear hS; intro w hS
          refine ⟨HM.s (hS.sb), ?_⟩
          refine D.eff 16 131071 rfl D.wantedN (by kernel_rfl) (by kernel_rfl) (fun _ _ h => h) ?_
          refine Z.st hS rfl (by repeat (first | exact At.here | apply At.next)) rfl rfl ?_
          clear hS; intro w hS
          refine ⟨HM.last (by kernel_rfl), ?_⟩
          refine Sh.dp 17 262143 ?_
          refine D.done (by kernel_rfl) ?_
          refine Sh.cut [(14, _), (16, _)] ?_
          obtain ⟨vl', vr', hS⟩ := Sep.QR_open.1 (hS.focus (R := QR gq q2) (by repeat (first | exact At.here | apply At.next)))
          exact ⟨_, rfl, Sep.CR_open.2 ⟨_, _, _, _, _, _, _, hS.sb⟩⟩
        refine D.econs 14 24575 rfl D.wantedN (by kernel_rfl) (fun _ _ h => h) ?_ ?_
        · refine Z.al hS ?_
          clear hS; intro g w hS hge
          refine ⟨HM.s (hS.sb), ?_⟩
          refine D.eff 13 32767 rfl D.wantedN (by kernel_rfl) (by kernel_rfl) (fun _ _ h => h) ?_
          refine Z.al hS ?_
          clear hS; intro g w hS hge
          refine ⟨HM.s (hS.sb), ?_⟩
          refine D.eff 15 65535 rfl D.wantedN (by kernel_rfl) (by kernel_rfl) (fun _ _ h => h) ?_
          refine Z.st hS rfl (by repeat (first | exact At.here | apply At.next)) rfl rfl ?_
          clear hS; intro w hS
          refine ⟨HM.s (hS.sb), ?_⟩
          refine D.eff 16 131071 rfl D.wantedN (by kernel_rfl) (by kernel_rfl) (fun _ _ h => h) ?_
          refine Z.st hS rfl (by repeat (first | exact At.here | apply At.next)) rfl rfl ?_
          clear hS; intro w hS
          refine ⟨HM.last (by kernel_rfl), ?_⟩
          refine Sh.dp 17 262143 ?_
          refine D.done (by kernel_rfl) ?_
          refine Sh.cut [(14, _), (16, _)] ?_
          obtain ⟨vl', vr', hS⟩ := Sep.QR_open.1 (hS.focus (R := QR gq q2) (by repeat (first | exact At.here | apply At.next)))
          exact ⟨_, rfl, Sep.CR_open.2 ⟨_, _, _, _, _, _, _, hS.sb⟩⟩
        exact D.enil
      refine D.econs 13 8447 rfl D.wantedN (by kernel_rfl) (fun _ _ h => h) ?_ ?_
      · refine Z.al hS ?_
        clear hS; intro g w hS hge
        refine ⟨HM.s (hS.sb), ?_⟩
        refine D.each [8, 14] (by kernel_rfl) rfl ?_
        refine D.econs 8 8703 rfl D.wantedN (by kernel_rfl) (fun _ _ h => h) ?_ ?_
        · replace hS := hS.fo (R := QR gq c.q)
          refine Z.cl (rqtake_z gq c.q x.client acc tk 20 _ _ _ hS (by omega) (by omega)) rfl ?_
          clear hS
          rintro e w ⟨rfl, hS⟩
          refine ⟨_, rfl, ?_⟩
          rw [hT] at hS ⊢
          refine ⟨HM.s (hS.sb), ?_⟩
          refine Sh.dp 9 9215 ?_
          refine Sh.dp 10 10239 ?_
          refine Sh.dp 11 12287 ?_
          refine Sh.dp 12 16383 ?_
          refine D.eff 14 32767 rfl D.wantedN (by kernel_rfl) (by kernel_rfl) (fun _ _ h => h) ?_
          refine Z.al hS ?_
          clear hS; intro g w hS hge
          refine ⟨HM.s (hS.sb), ?_⟩
          refine D.eff 15 65535 rfl D.wantedN (by kernel_rfl) (by kernel_rfl) (fun _ _ h => h) ?_
          refine Z.st hS rfl (by repeat (first | exact At.here | apply At.next)) rfl rfl ?_
          clear hS; intro w hS
          refine ⟨HM.s (hS.sb), ?_⟩
          refine D.eff 16 131071 rfl D.wantedN (by kernel_rfl) (by kernel_rfl) (fun _ _ h => h) ?_
          refine Z.st hS rfl (by repeat (first | exact At.here | apply At.next)) rfl rfl ?_
          clear hS; intro w hS
          refine ⟨HM.last (by kernel_rfl), ?_⟩
          refine Sh.dp 17 262143 ?_
          refine D.done (by kernel_rfl) ?_
          refine Sh.cut [(14, _), (16, _)] ?_
          obtain ⟨vl', vr', hS⟩ := Sep.QR_open.1 (hS.focus (R := QR gq q2) (by repeat (first | exact At.here | apply At.next)))
          exact ⟨_, rfl, Sep.CR_open.2 ⟨_, _, _, _, _, _, _, hS.sb⟩⟩
        refine D.econs 14 24831 rfl D.wantedN (by kernel_rfl) (fun _ _ h => h) ?_ ?_
        · refine Z.al hS ?_
          clear hS; intro g w hS hge
          refine ⟨HM.s (hS.sb), ?_⟩
          refine D.eff 8 25087 rfl D.wantedN (by kernel_rfl) (by kernel_rfl) (fun _ _ h => h) ?_
          replace hS := hS.fo (R := QR gq c.q)
          refine Z.cl (rqtake_z gq c.q x.client acc tk 20 _ _ _ hS (by omega) (by omega)) rfl ?_
          clear hS
          rintro e w ⟨rfl, hS⟩
          refine ⟨_, rfl, ?_⟩
          rw [hT] at hS ⊢
          refine ⟨HM.s (hS.sb), ?_⟩
          refine Sh.dp 9 25599 ?_
          refine Sh.dp 10 26623 ?_
          refine Sh.dp 11 28671 ?_
          refine Sh.dp 12 32767 ?_
          refine D.eff 15 65535 rfl D.wantedN (by kernel_rfl) (by kernel_rfl) (fun _ _ h => h) ?_
          refine Z.st hS rfl (by repeat (first | exact At.here | apply At.next)) rfl rfl ?_
          clear hS; intro w hS
          refine ⟨HM.s (hS.sb), ?_⟩
          refine D.eff 16 131071 rfl D.wantedN (by kernel_rfl) (by kernel_rfl) (fun _ _ h => h) ?_
          refine Z.st hS rfl (by repeat (first | exact At.here | apply At.next)) rfl rfl ?_
          clear hS; intro w hS
          refine ⟨HM.last (by kernel_rfl), ?_⟩
          refine Sh.dp 17 262143 ?_
          refine D.done (by kernel_rfl) ?_
          refine Sh.cut [(14, _), (16, _)] ?_
          obtain ⟨vl', vr', hS⟩ := Sep.QR_open.1 (hS.focus (R := QR gq q2) (by repeat (first | exact At.here | apply At.next)))
          exact ⟨_, rfl, Sep.CR_open.2 ⟨_, _, _, _, _, _, _, hS.sb⟩⟩
        exact D.enil
      refine D.econs 14 16639 rfl D.wantedN (by kernel_rfl) (fun _ _ h => h) ?_ ?_
      · refine Z.al hS ?_
        clear hS; intro g w hS hge
        refine ⟨HM.s (hS.sb), ?_⟩
        refine D.each [8, 13] (by kernel_rfl) rfl ?_
        refine D.econs 8 16895 rfl D.wantedN (by kernel_rfl) (fun _ _ h => h) ?_ ?_
        · replace hS := hS.fo (R := QR gq c.q)
          refine Z.cl (rqtake_z gq c.q x.client acc tk 20 _ _ _ hS (by omega) (by omega)) rfl ?_
          clear hS
          rintro e w ⟨rfl, hS⟩
          refine ⟨_, rfl, ?_⟩
          rw [hT] at hS ⊢
          refine ⟨HM.s (hS.sb), ?_⟩
          refine Sh.dp 9 17407 ?_
          refine Sh.dp 10 18431 ?_
          refine Sh.dp 11 20479 ?_
          refine Sh.dp 12 24575 ?_
          refine D.eff 13 32767 rfl D.wantedN (by kernel_rfl) (by kernel_rfl) (fun _ _ h => h) ?_
          refine Z.al hS ?_
          clear hS; intro g w hS hge
          refine ⟨HM.s (hS.sb), ?_⟩
          refine D.eff 15 65535 rfl D.wantedN (by kernel_rfl) (by kernel_rfl) (fun _ _ h => h) ?_
          refine Z.st hS rfl (by repeat (first | exact At.here | apply At.next)) rfl rfl ?_
          clear hS; intro w hS
          refine ⟨HM.s (hS.sb), ?_⟩
          refine D.eff 16 131071 rfl D.wantedN (by kernel_rfl) (by kernel_rfl) (fun _ _ h => h) ?_
          refine Z.st hS rfl (by repeat (first | exact At.here | apply At.next)) rfl rfl ?_
          clear hS; intro w hS
          refine ⟨HM.last (by kernel_rfl), ?_⟩
          refine Sh.dp 17 262143 ?_
          refine D.done (by kernel_rfl) ?_
          refine Sh.cut [(14, _), (16, _)] ?_
          obtain ⟨vl', vr', hS⟩ := Sep.QR_open.1 (hS.focus (R := QR gq q2) (by repeat (first | exact At.here | apply At.next)))
          exact ⟨_, rfl, Sep.CR_open.2 ⟨_, _, _, _, _, _, _, hS.sb⟩⟩
        refine D.econs 13 24831 rfl D.wantedN (by kernel_rfl) (fun _ _ h => h) ?_ ?_
        · refine Z.al hS ?_
          clear hS; intro g w hS hge
          refine ⟨HM.s (hS.sb), ?_⟩
          refine D.eff 8 25087 rfl D.wantedN (by kernel_rfl) (by kernel_rfl) (fun _ _ h => h) ?_
          replace hS := hS.fo (R := QR gq c.q)
          refine Z.cl (rqtake_z gq c.q x.client acc tk 20 _ _ _ hS (by omega) (by omega)) rfl ?_
          clear hS
          rintro e w ⟨rfl, hS⟩
          refine ⟨_, rfl, ?_⟩
          rw [hT] at hS ⊢
          refine ⟨HM.s (hS.sb), ?_⟩
          refine Sh.dp 9 25599 ?_
          refine Sh.dp 10 26623 ?_
          refine Sh.dp 11 28671 ?_
          refine Sh.dp 12 32767 ?_
          refine D.eff 15 65535 rfl D.wantedN (by kernel_rfl) (by kernel_rfl) (fun _ _ h => h) ?_
          refine Z.st hS rfl (by repeat (first | exact At.here | apply At.next)) rfl rfl ?_
          clear hS; intro w hS
          refine ⟨HM.s (hS.sb), ?_⟩
          refine D.eff 16 131071 rfl D.wantedN (by kernel_rfl) (by kernel_rfl) (fun _ _ h => h) ?_
          refine Z.st hS rfl (by repeat (first | exact At.here | apply At.next)) rfl rfl ?_
          clear hS; intro w hS
          refine ⟨HM.last (by kernel_rfl), ?_⟩
          refine Sh.dp 17 262143 ?_
          refine D.done (by kernel_rfl) ?_
          refine Sh.cut [(14, _), (16, _)] ?_
          obtain ⟨vl', vr', hS⟩ := Sep.QR_open.1 (hS.focus (R := QR gq q2) (by repeat (first | exact At.here | apply At.next)))
          exact ⟨_, rfl, Sep.CR_open.2 ⟨_, _, _, _, _, _, _, hS.sb⟩⟩
        exact D.enil
      exact D.enil
    clear hS
    rintro q1 w _ ⟨g15, rfl, hS⟩
    repeat' (first|refine Kd ?_|(refine Sh.sa hS ?_;clear hS;intro w hS)|(refine K3 ?_;clear hS;intro g w hS hge)|((first|refine GS ?_ ?_|refine VB ?_ ?_)<;>intro hb<;>(try simp only [J1,J2,J3,J4,J5,J6] at hb)<;>(try (exfalso;first|omega|exact hb trivial))))
    · refine Dnc Tryz.results39 ?_
      rw [if_neg (by assumption)]
      exact ⟨rfl, hS.sb⟩
    · refine Dnc Tryz.results39 ?_
      rw [if_pos (by assumption)]
      exact ⟨rfl, hS.sb⟩
  · rw [if_pos (by omega), if_neg (by assumption), if_neg (by assumption)]
    rename ¬x.op = 1 => h1
    rename ¬x.op = 5 => h5
    have hwok := fun (hold : Bool) (hf : (findB c.t x.client x.number).2 = 34) (h4 : ¬ 4096 ≤ c.h.length) (hr : refuse c x hold = 0) => write_ok hc hx h1 h5 (by omega : 1 ≤ acc) (by omega) (by assumption) hf h4 hr
    have h3 := find_three c.t hx h1 h5
    unfold wrQ
    generalize hR : findB c.t x.client x.number = R at *
    obtain ⟨vh, gs, gq, gt, vs, vl, vr, hS⟩ := Sep.CR_open.1 (hS.focus (R := CR gp cell ten _ c) (by repeat (first | exact At.here | apply At.next)))
    refine Z.cut [17, 18, 104, 105, 106, 107, 108, 109, 110, 111, 112, 113, 114, 115] (fun w s => ∃ g17, s = [(17, .pointer (some ⟨g17, 0, .none⟩)), (18, .int .i64 R.2)] ∧ Sep r [] (CR gp cell ten (.pointer (some ⟨gg, 0, .none⟩)) c :: .blk g17 51 R.1.cells :: .blk g 23 x.cells :: .blk g8 51 [.int .i64 0, .int .i64 0, .int .i64 0, .string ⟨#[]⟩] :: GR gg G :: F) w) ?_ ?_
    · refine D.startS (Lr := [.blk gp 69 _, .blk g 23 x.cells]) (hS.sb) 13 15 (by kernel_rfl) rfl ?_
      replace hS := hS.drew
      refine Sh.dp 0 1 ?_
      refine Sh.dp 1 3 ?_
      refine Sh.dp 2 7 ?_
      refine Sh.dp 4 23 ?_
      refine Sh.dp 6 87 ?_
      refine Sh.dl 3 95 ?_
      refine Sh.dl 5 127 ?_
      refine Sh.dl 7 255 ?_
      refine D.each [8, 12] (by kernel_rfl) rfl ?_
      refine D.econs 8 511 rfl D.wantedN (by kernel_rfl) (fun _ _ h => h) ?_ ?_
      · replace hS := hS.fo (R := .blk gt 109 c.t.cells.toList)
        refine Z.cl (rcfind_z gt c.t x.client x.number R hR _ _ _ hS hcok.t) rfl ?_
        clear hS
        rintro e w ⟨rfl, hS⟩
        refine ⟨_, rfl, ?_⟩
        refine ⟨HM.s (hS.sb), ?_⟩
        refine Sh.dp 9 1023 ?_
        refine Sh.dp 10 2047 ?_
        refine Sh.dp 11 4095 ?_
        refine D.eff 12 8191 rfl D.wantedN (by kernel_rfl) (by kernel_rfl) (fun _ _ h => h) ?_
        refine Z.al hS ?_
        clear hS; intro g w hS hge
        refine ⟨HM.s (hS.sb), ?_⟩
        refine D.eff 13 16383 rfl D.wantedN (by kernel_rfl) (by kernel_rfl) (fun _ _ h => h) ?_
        refine Z.st hS rfl (by repeat (first | exact At.here | apply At.next)) rfl rfl ?_
        clear hS; intro w hS
        refine ⟨HM.last (by kernel_rfl), ?_⟩
        refine Sh.dp 14 32767 ?_
        refine D.done (by kernel_rfl) ?_
        refine Sh.cut [(17, _), (18, _)] ?_
        exact ⟨_, rfl, Sep.CR_open.2 ⟨_, _, _, _, _, _, _, hS.sb⟩⟩
      refine D.econs 12 4351 rfl D.wantedN (by kernel_rfl) (fun _ _ h => h) ?_ ?_
      · refine Z.al hS ?_
        clear hS; intro g w hS hge
        refine ⟨HM.s (hS.sb), ?_⟩
        refine D.eff 8 4607 rfl D.wantedN (by kernel_rfl) (by kernel_rfl) (fun _ _ h => h) ?_
        replace hS := hS.fo (R := .blk gt 109 c.t.cells.toList)
        refine Z.cl (rcfind_z gt c.t x.client x.number R hR _ _ _ hS hcok.t) rfl ?_
        clear hS
        rintro e w ⟨rfl, hS⟩
        refine ⟨_, rfl, ?_⟩
        refine ⟨HM.s (hS.sb), ?_⟩
        refine Sh.dp 9 5119 ?_
        refine Sh.dp 10 6143 ?_
        refine Sh.dp 11 8191 ?_
        refine D.eff 13 16383 rfl D.wantedN (by kernel_rfl) (by kernel_rfl) (fun _ _ h => h) ?_
        refine Z.st hS rfl (by repeat (first | exact At.here | apply At.next)) rfl rfl ?_
        clear hS; intro w hS
        refine ⟨HM.last (by kernel_rfl), ?_⟩
        refine Sh.dp 14 32767 ?_
        refine D.done (by kernel_rfl) ?_
        refine Sh.cut [(17, _), (18, _)] ?_
        exact ⟨_, rfl, Sep.CR_open.2 ⟨_, _, _, _, _, _, _, hS.sb⟩⟩
      exact D.enil
    clear hS
    rintro q1 w _ ⟨g17, rfl, hS⟩
    repeat' (first|refine Kd ?_|(refine Sh.sa hS ?_;clear hS;intro w hS)|(refine K3 ?_;clear hS;intro g w hS hge)|((first|refine GS ?_ ?_|refine VB ?_ ?_)<;>intro hb<;>(try simp only [J1,J2,J3,J4,J5,J6] at hb)<;>(try (exfalso;first|omega|exact hb trivial))))
    · refine Dnc Tryz.results39 ?_
      rw [if_pos (by assumption)]
      exact ⟨rfl, hS.sb⟩
    · refine Dnc Tryz.results39 ?_
      rw [if_neg (by omega), if_neg (by omega)]
      exact ⟨rfl, hS.sb⟩
    have h34 : R.2 = 34 := by omega
    rw [if_neg (by omega), if_pos h34]
    refine Z.eff (Z.cl (rrefused_z gp cell ten _ c acc tk x _ _ _ hS hc hx h1 h5 (by omega)) rfl ?_) rfl
    clear hS
    rintro e w ⟨rfl, hS⟩
    refine ⟨_, rfl, ?_⟩
    generalize holdsR c.q.r x.client acc x.item tk = hold at *
    have h4 : ¬ 4096 ≤ c.h.length := by omega
    rw [if_neg h4, if_neg h4]
    by_cases hr : refuse c x hold = 0
    · obtain ⟨hw1, hw2⟩ := hwok hold h34 h4 hr
      rw [if_pos hr, hr]
      obtain ⟨vh, gs, gq, gt, vs, vl, vr, hS⟩ := Sep.CR_open.1 (hS.focus (R := CR gp cell ten _ c) (by repeat (first | exact At.here | apply At.next)))
      obtain ⟨Ah, ch, rfl, _⟩ := (hS.slrows (e := 49) (v := vh) (sz := 8) (by exact At.next .here)).mform
      have hok := hc.ok
      repeat' (first|refine Kd ?_|(refine Sh.sa hS ?_;clear hS;intro w hS)|(refine K3 ?_;clear hS;intro g w hS hge)|((first|refine GS ?_ ?_|refine VB ?_ ?_)<;>intro hb<;>(try simp only [J1,J2,J3,J4,J5,J6] at hb)<;>(try (exfalso;first|omega|exact hb trivial))))
      refine Z.cut [132, 133, 134, 135, 136, 137, 138, 139, 140, 141, 142, 143, 144, 145, 146, 147, 148, 149, 150, 151, 152, 153, 154] (fun w s => s = [] ∧ Sep r [] (CR gp cell ten (.pointer (some ⟨gg, 0, .none⟩)) (cApp c (chOf c acc x)).1 :: .blk g 23 x.cells :: .blk g8 51 [.int .i64 0, .int .i64 0, .int .i64 0, .string ⟨#[]⟩] :: GR gg G :: F) w) ?_ ?_
      · refine D.startS (Lr := [.blk g 23 x.cells]) (hS.sb) 23 23 (by kernel_rfl) rfl ?_
        replace hS := hS.drew
        refine Sh.dp 0 1 ?_
        refine Sh.dp 1 3 ?_
        refine Sh.dp 2 7 ?_
        refine Sh.dp 3 15 ?_
        refine Sh.dp 4 31 ?_
        refine Sh.dp 8 287 ?_
        refine Sh.dp 11 2335 ?_
        refine Sh.dp 13 10527 ?_
        refine Sh.dp 15 43295 ?_
        refine Sh.dp 17 174367 ?_
        refine Sh.dp 19 698655 ?_
        refine Sh.dl 9 699167 ?_
        refine Sh.dl 12 703263 ?_
        refine Sh.dl 14 719647 ?_
        refine Sh.dl 16 785183 ?_
        refine Sh.dl 18 1047327 ?_
        refine Sh.dl 20 2095903 ?_
        refine D.each [5, 10] (by kernel_rfl) rfl ?_
        refine D.econs 5 2095935 rfl D.wantedN (by kernel_rfl) (fun _ _ h => h) ?_ ?_
        · refine Z.ld hS rfl (by repeat (first | exact At.here | apply At.next)) rfl ?_
          refine ⟨HM.s (hS.sb), ?_⟩
          refine Sh.dp 6 2095999 ?_
          first | refine D.sum 7 2096127 rfl D.wantedN (by kernel_rfl) rfl (by constructor <;> omega) ?_ | refine D.sumW 7 2096127 rfl D.wantedN (by kernel_rfl) rfl ?_
          refine D.eff 10 2097151 rfl D.wantedN (by kernel_rfl) (by kernel_rfl) (fun _ _ h => h) ?_
          refine Z.cl (rkind_z x.op _ _ _ hS) rfl ?_
          clear hS
          rintro e w ⟨rfl, hS⟩
          refine ⟨_, rfl, ?_⟩
          refine ⟨HM.s (hS.sb), ?_⟩
          first | refine D.bu 21 4194303 rfl D.wantedN (by kernel_rfl) rfl rfl ?_ | refine D.buA 21 4194303 rfl D.wantedN (by kernel_rfl) rfl rfl ?_
          refine D.eff 22 8388607 rfl D.wantedN (by kernel_rfl) (by kernel_rfl) (fun _ _ h => h) ?_
          replace hS : Sep r [] (CR gp cell ten (.pointer (some ⟨gg, 0, .none⟩)) c :: .blk g17 51 R.1.cells :: .blk g 23 x.cells :: .blk g8 51 [.int .i64 0, .int .i64 0, .int .i64 0, .string ⟨#[]⟩] :: GR gg G :: F) w := Sep.CR_open.2 ⟨_, _, _, _, _, _, _, hS.sb⟩
          refine Z.cl (capply_z gp cell ten _ c (chOf c acc x) _ _ _ hS hcok.t (by omega) (by omega) (by omega) (by omega)) rfl ?_
          clear hS
          rintro e w ⟨rfl, hS⟩
          refine ⟨_, rfl, ?_⟩
          rw [hw1]
          refine ⟨HM.s (hS.sb), ?_⟩
          refine D.done (by kernel_rfl) ?_
          refine Sh.cut [] ?_
          exact ⟨rfl, hS.sb⟩
        refine D.econs 10 2096927 rfl D.wantedN (by kernel_rfl) (fun _ _ h => h) ?_ ?_
        · refine Z.cl (rkind_z x.op _ _ _ hS) rfl ?_
          clear hS
          rintro e w ⟨rfl, hS⟩
          refine ⟨_, rfl, ?_⟩
          refine ⟨HM.s (hS.sb), ?_⟩
          refine D.eff 5 2096959 rfl D.wantedN (by kernel_rfl) (by kernel_rfl) (fun _ _ h => h) ?_
          refine Z.ld hS rfl (by repeat (first | exact At.here | apply At.next)) rfl ?_
          refine ⟨HM.s (hS.sb), ?_⟩
          refine Sh.dp 6 2097023 ?_
          first | refine D.sum 7 2097151 rfl D.wantedN (by kernel_rfl) rfl (by constructor <;> omega) ?_ | refine D.sumW 7 2097151 rfl D.wantedN (by kernel_rfl) rfl ?_
          first | refine D.bu 21 4194303 rfl D.wantedN (by kernel_rfl) rfl rfl ?_ | refine D.buA 21 4194303 rfl D.wantedN (by kernel_rfl) rfl rfl ?_
          refine D.eff 22 8388607 rfl D.wantedN (by kernel_rfl) (by kernel_rfl) (fun _ _ h => h) ?_
          replace hS : Sep r [] (CR gp cell ten (.pointer (some ⟨gg, 0, .none⟩)) c :: .blk g17 51 R.1.cells :: .blk g 23 x.cells :: .blk g8 51 [.int .i64 0, .int .i64 0, .int .i64 0, .string ⟨#[]⟩] :: GR gg G :: F) w := Sep.CR_open.2 ⟨_, _, _, _, _, _, _, hS.sb⟩
          refine Z.cl (capply_z gp cell ten _ c (chOf c acc x) _ _ _ hS hcok.t (by omega) (by omega) (by omega) (by omega)) rfl ?_
          clear hS
          rintro e w ⟨rfl, hS⟩
          refine ⟨_, rfl, ?_⟩
          rw [hw1]
          refine ⟨HM.s (hS.sb), ?_⟩
          refine D.done (by kernel_rfl) ?_
          refine Sh.cut [] ?_
          exact ⟨rfl, hS.sb⟩
        exact D.enil
      clear hS
      rintro q2 w _ ⟨rfl, hS⟩
      have hrr := rep_of_find hw2
      generalize (cApp c (chOf c acc x)).1 = c2 at *
      generalize repOf (chOf c acc x) = R2 at *
      obtain ⟨vh', gs', gq', gt', vs', vl', vr', hS⟩ := Sep.CR_open.1 (hS.focus (R := CR gp cell ten _ c2) (by repeat (first | exact At.here | apply At.next)))
      have hcl : x.client = 1 ∨ x.client = 2 ∨ x.client = 3 ∨ x.client = 4 ∨ x.client = 5 ∨ x.client = 6 ∨ x.client = 7 ∨ x.client = 8 := by
        have := hx.2.2.1
        have := hx.2.2.2.1
        omega
      obtain ⟨xt, xc, xn, xo, xi, xk, xv⟩ := x
      simp only at hcl hrr
      simp only [Rq.cells] at hS
      repeat' (first|refine Kd ?_|(refine Sh.sa hS ?_;clear hS;intro w hS)|(refine K3 ?_;clear hS;intro g w hS hge)|((first|refine GS ?_ ?_|refine VB ?_ ?_)<;>intro hb<;>(try simp only [J1,J2,J3,J4,J5,J6] at hb)<;>(try (exfalso;first|omega|exact hb trivial))))
      rcases hcl with rfl | rfl | rfl | rfl | rfl | rfl | rfl | rfl
      all_goals
        refine D.startS (Lr := [.blk gp 69 _, .blk g 23 _, .blk gt' 109 c2.t.cells.toList]) (hS.sb) 11 12 (by kernel_rfl) rfl ?_
        replace hS := hS.drew
        refine Sh.dp 0 1 ?_
        refine Sh.dp 1 3 ?_
        refine Sh.dp 2 7 ?_
        refine Sh.dp 4 23 ?_
        refine Sh.dl 3 31 ?_
        refine Sh.dp 7 159 ?_
        refine Sh.dp 8 415 ?_
        refine Sh.dl 5 447 ?_
        first | refine D.sum 6 511 rfl D.wantedN (by kernel_rfl) rfl (by constructor <;> omega) ?_ | refine D.sumW 6 511 rfl D.wantedN (by kernel_rfl) rfl ?_
        first | refine D.ixn 9 1023 rfl D.wantedN (by kernel_rfl) rfl rfl rfl (by omega) ?_ | refine D.ix 9 1023 rfl D.wantedN (by kernel_rfl) rfl rfl rfl (by omega) ?_ | refine D.ia 9 1023 rfl D.wantedN (by kernel_rfl) rfl rfl rfl (by omega) ?_
        refine Sh.dl 10 2047 ?_
        refine D.eff 11 4095 rfl D.wantedN (by kernel_rfl) (by kernel_rfl) (fun _ _ h => h) ?_
        refine Z.st hS rfl (by repeat (first | exact At.here | apply At.next)) rfl rfl ?_
        clear hS; intro w hS
        refine ⟨HM.last (by kernel_rfl), ?_⟩
        refine D.done (by kernel_rfl) ?_
        repeat' (first|refine Kd ?_|(refine Sh.sa hS ?_;clear hS;intro w hS)|(refine K3 ?_;clear hS;intro g w hS hge)|((first|refine GS ?_ ?_|refine VB ?_ ?_)<;>intro hb<;>(try simp only [J1,J2,J3,J4,J5,J6] at hb)<;>(try (exfalso;first|omega|exact hb trivial))))
        refine Dnc Tryz.results39 ?_
        rw [← hrr]
        exact ⟨rfl, Sep.CR_open.2 ⟨_, _, _, _, _, _, _, hS.sb⟩⟩
    · rw [if_neg hr]
      repeat' (first|refine Kd ?_|(refine Sh.sa hS ?_;clear hS;intro w hS)|(refine K3 ?_;clear hS;intro g w hS hge)|((first|refine GS ?_ ?_|refine VB ?_ ?_)<;>intro hb<;>(try simp only [J1,J2,J3,J4,J5,J6] at hb)<;>(try (exfalso;first|omega|exact hb trivial))))
      refine Dnc Tryz.results39 ?_
      exact ⟨rfl, hS.sb⟩
end Go.Proofs.YtahackdfjcgkhaaGreat
