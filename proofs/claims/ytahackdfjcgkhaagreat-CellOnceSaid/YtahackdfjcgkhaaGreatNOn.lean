/-
  CellOnce: for every input the call returns true, and the arguments read afterwards as they read before.
-/
import Derived.Test.YtahackdfjcgkhaaGreatYd
import Derived.Test.YtahackdfjcgkhaaGreatCG
import Derived.Test.YtahackdfjcgkhaaGreatNTc
import Derived.Test.YtahackdfjcgkhaaGreatEW
import Derived.Test.YtahackdfjcgkhaaGreatNRq
import Derived.Test.YtahackdfjcgkhaaGreatNOnP
import Derived.Test.YtahackdfjcgkhaaGreatH1
import Derived.Test.YtahackdfjcgkhaaGreatML
import Derived.Test.YtahackdfjcgkhaaGreatA1
namespace Go.Proofs.YtahackdfjcgkhaaGreat
open Go.RowKit Go.ChangeShapes Go.WideShapes Go.ChangeAt
set_option linter.unusedSimpArgs false
set_option linter.unusedVariables false

def Answered (c : Cp) (last : Rq) (rep : Rep) : Prop := 0 < last.number → reqOk last ∧ last.tenant = 0 ∧ last.op ≠ 1 ∧ last.op ≠ 5 ∧ findB c.t last.client last.number = (rep, 0)
set_option maxHeartbeats 8000000 in
theorem once28_z (l : List Int) (A : Option Addr) (cap : Nat) (l2 : List Int) (A2 : Option Addr) (cap2 : Nat) (z : Int) (r : World) (hr0 : Rd r 1 A l.length (l.map (Value.int .i64))) (hr1 : Rd r 1 A2 l2.length (l2.map (Value.int .i64))) (hz : -9223372036854775808 ≤ z ∧ z ≤ 9223372036854775807) :
    Calls Tryz.prog 6 #[.slice A l.length cap, .slice A2 l2.length cap2, .int .i64 z] r fun e w' => e = .returned (.bool true) ∧ Chg [] r w' := by
  have hS := Sep.root r
  refine Z.enter Tryz.func6 Tryz.ntmps6 rfl rfl ?_
  repeat' (first|refine Kd ?_|(refine Sh.sa hS ?_;clear hS;intro w hS)|(refine K3 ?_;clear hS;intro g w hS hge)|((first|refine GS ?_ ?_|refine VB ?_ ?_)<;>intro hb<;>(try simp only [J1,J2,J3,J4,J5,J6] at hb)<;>(try (exfalso;first|omega|exact hb trivial))))
  refine Z.eff (Z.cl (awake28_z _ _ _ hS) rfl ?_) rfl
  clear hS
  rintro e w ⟨rfl, hS⟩
  refine ⟨_, rfl, ?_⟩
  repeat' (first|refine Kd ?_|(refine Sh.sa hS ?_;clear hS;intro w hS)|(refine K3 ?_;clear hS;intro g w hS hge)|((first|refine GS ?_ ?_|refine VB ?_ ?_)<;>intro hb<;>(try simp only [J1,J2,J3,J4,J5,J6] at hb)<;>(try (exfalso;first|omega|exact hb trivial))))
  refine Z.eff (Z.cl (lightS_z A l.length cap _ _ _ hS) rfl ?_) rfl
  clear hS
  rintro e w ⟨rfl, hS⟩
  refine ⟨_, rfl, ?_⟩
  repeat' (first|refine Kd ?_|(refine Sh.sa hS ?_;clear hS;intro w hS)|(refine K3 ?_;clear hS;intro g w hS hge)|((first|refine GS ?_ ?_|refine VB ?_ ?_)<;>intro hb<;>(try simp only [J1,J2,J3,J4,J5,J6] at hb)<;>(try (exfalso;first|omega|exact hb trivial))))
  · refine Dnt Tryz.results6 ?_
    exact ⟨rfl, hS.chg⟩
  rename _ ≤ (150 : Int) => hlt
  refine Z.eff (Z.cl (lightS_z A2 l2.length cap2 _ _ _ hS) rfl ?_) rfl
  clear hS
  rintro e w ⟨rfl, hS⟩
  refine ⟨_, rfl, ?_⟩
  repeat' (first|refine Kd ?_|(refine Sh.sa hS ?_;clear hS;intro w hS)|(refine K3 ?_;clear hS;intro g w hS hge)|((first|refine GS ?_ ?_|refine VB ?_ ?_)<;>intro hb<;>(try simp only [J1,J2,J3,J4,J5,J6] at hb)<;>(try (exfalso;first|omega|exact hb trivial))))
  · refine Dnt Tryz.results6 ?_
    exact ⟨rfl, hS.chg⟩
  refine Z.eff (Z.cl (pcnew_z 1 0 _ _ _ hS) rfl ?_) rfl
  clear hS
  rintro e w ⟨ga, gga, rfl, hS⟩
  refine ⟨_, rfl, ?_⟩
  repeat' (first|refine Kd ?_|(refine Sh.sa hS ?_;clear hS;intro w hS)|(refine K3 ?_;clear hS;intro g w hS hge)|((first|refine GS ?_ ?_|refine VB ?_ ?_)<;>intro hb<;>(try simp only [J1,J2,J3,J4,J5,J6] at hb)<;>(try (exfalso;first|omega|exact hb trivial))))
  refine Z.eff (Z.cl (cnew_z 1 0 _ _ _ hS) rfl ?_) rfl
  clear hS
  rintro e w ⟨gr, ggr, rfl, hS⟩
  refine ⟨_, rfl, ?_⟩
  replace hS := Sep.gate0 (hS.focus (R := .blk gga _ _) (by repeat (first | exact At.here | apply At.next)))
  replace hS := Sep.gate1 (hS.focus (R := .blk ggr _ _) (by repeat (first | exact At.here | apply At.next)))
  have hok : okW (⟨1, 1, 0, 0, 100⟩ : Wi) := by decide
  obtain ⟨hgp, hgr⟩ := gave (z := 1) hok rfl
  have hrel := Rel.gave (z := 1) hok rfl
  have hacc : ∀ y, y ∈ (⟨1, 0, [(⟨1, 1, 0, 0, 100⟩ : Wi)]⟩ : Ga).ws → 1 ≤ y.epoch ∧ y.epoch ≤ 1048576 := by intro y hy; simp at hy; subst hy; simp only; omega
  have hac5 : accs (⟨1, 0, [(⟨1, 1, 0, 0, 100⟩ : Wi)]⟩ : Ga).ws 0 5 0 = 1 := by decide
  repeat' (first|refine Kd ?_|(refine Sh.sa hS ?_;clear hS;intro w hS)|(refine K3 ?_;clear hS;intro g w hS hge)|((first|refine GS ?_ ?_|refine VB ?_ ?_)<;>intro hb<;>(try simp only [J1,J2,J3,J4,J5,J6] at hb)<;>(try (exfalso;first|omega|exact hb trivial))))
  replace hS := hS.fo (R := PC ga _ _ _ _)
  refine Z.eff (Z.cl (pcgate_z ga gga 1 0 _ _ _ _ hS) rfl ?_) rfl
  clear hS
  rintro e w ⟨rfl, hS⟩
  refine ⟨_, rfl, ?_⟩
  repeat' (first|refine Kd ?_|(refine Sh.sa hS ?_;clear hS;intro w hS)|(refine K3 ?_;clear hS;intro g w hS hge)|((first|refine GS ?_ ?_|refine VB ?_ ?_)<;>intro hb<;>(try simp only [J1,J2,J3,J4,J5,J6] at hb)<;>(try (exfalso;first|omega|exact hb trivial))))
  replace hS := hS.fo (R := GP gga _)
  refine Z.eff (Z.cl (ggive_z gga ⟨1, 0, []⟩ (⟨1, 1, 0, 0, 100⟩ : Wi) _ _ _ hS (by simp) (by simp)) rfl ?_) rfl
  clear hS
  rintro e w ⟨rfl, hS⟩
  refine ⟨_, rfl, ?_⟩
  rw [hgp] at hS ⊢
  obtain ⟨vh, gs, gq, gt, vs, vl, vr, hS⟩ := Sep.CR_open.1 (hS.focus (R := CR gr _ _ _ _) (by repeat (first | exact At.here | apply At.next)))
  repeat' (first|refine Kd ?_|(refine Sh.sa hS ?_;clear hS;intro w hS)|(refine K3 ?_;clear hS;intro g w hS hge)|((first|refine GS ?_ ?_|refine VB ?_ ?_)<;>intro hb<;>(try simp only [J1,J2,J3,J4,J5,J6] at hb)<;>(try (exfalso;first|omega|exact hb trivial))))
  replace hS := hS.fo (R := GR ggr _)
  refine Z.eff (Z.cl (rgive_z ggr ⟨1, 0, []⟩ (⟨1, 1, 0, 0, 100⟩ : Wi) _ _ _ hS (by simp)) rfl ?_) rfl
  clear hS
  rintro e w ⟨rfl, hS⟩
  refine ⟨_, rfl, ?_⟩
  rw [hgr] at hS ⊢
  replace hS := Sep.CR_open.2 ⟨vh, gs, gq, gt, vs, vl, vr, hS.sub (L' := .blk gr 69 [.int .i64 1, .int .i64 0, vh, .pointer (some ⟨gs, 0, none⟩), .pointer (some ⟨gq, 0, none⟩), .pointer (some ⟨gt, 0, none⟩), .pointer (some ⟨ggr, 0, .none⟩)] :: .sl 49 8 vh (Cp.zero.h.map Ch.cells) :: .blk gs 100 [vs] :: .sl 102 3 vs (Cp.zero.s.map Ce.cells) :: .blk gq 105 [vl, vr, .int .i64 Cp.zero.q.most] :: .sl 79 2 vl (Cp.zero.q.l.map It.cells) :: .sl 133 4 vr (Cp.zero.q.r.map Le.cells) :: .blk gt 109 Cp.zero.t.cells.toList :: PC ga 1 0 (.pointer (some ⟨gga, 0, .none⟩)) .zero :: GP gga ⟨1, 0, [(⟨1, 1, 0, 0, 100⟩ : Wi)]⟩ :: GR ggr ⟨1, 0, [(⟨1, 1, 0, 0, 100⟩ : Wi)]⟩ :: []) (by repeat (first | exact Sub.rest | exact Sub.nil | exact .skip .rest | exact .skip (.skip .rest) | exact .skip (.skip (.skip .rest)) | apply Sub.keep | refine Sub.cons (by repeat (first | exact At.here | apply At.next)) ?_ | apply Sub.skip))⟩
  generalize hG : (⟨1, 0, [(⟨1, 1, 0, 0, 100⟩ : Wi)]⟩ : Ga) = G at *
  have hGl : G.ws.length ≤ 10 := by rw [← hG]; simp
  have hRa : ∀ v t, accR G v t = accs G.ws v t 0 := fun v t => hrel.accs v t
  have hz0 := Good.zero.cg QOk.zero
  repeat' (first|refine Kd ?_|(refine Sh.sa hS ?_;clear hS;intro w hS)|(refine K3 ?_;clear hS;intro g w hS hge)|((first|refine GS ?_ ?_|refine VB ?_ ?_)<;>intro hb<;>(try simp only [J1,J2,J3,J4,J5,J6] at hb)<;>(try (exfalso;first|omega|exact hb trivial))))
  refine Z.eff (Z.cl (tnew_z l A cap hS hr0 (by omega)) rfl ?_) rfl
  clear hS
  rintro e w ⟨gx, rfl, hS⟩
  refine ⟨_, rfl, ?_⟩
  repeat' (first|refine Kd ?_|(refine Sh.sa hS ?_;clear hS;intro w hS)|(refine K3 ?_;clear hS;intro g w hS hge)|((first|refine GS ?_ ?_|refine VB ?_ ?_)<;>intro hb<;>(try simp only [J1,J2,J3,J4,J5,J6] at hb)<;>(try (exfalso;first|omega|exact hb trivial))))
  rename Nat => gp
  obtain ⟨gl, hgl⟩ : ∃ x, x = g := ⟨g, rfl⟩
  subst hgl
  refine Z.lpS [6, 12, 13, 14, 43, 44, 45, 46, 47, 48, 49, 50, 51, 52, 53, 54, 55, 56, 57, 58, 59, 60, 61, 62, 63, 64, 65, 66, 67, 68, 69, 70, 71, 72, 73, 74, 75, 76] (fun m w s => ∃ (c c' : Cp) (j : Nat) (last : Rq) (rep : Rep), s = [] ∧ CG c ∧ CRel c c' ∧ epochOf c.h ≤ 1 ∧ Answered c last rep ∧ c.h.length ≤ j ∧ j ≤ l.length ∧ m = l.length - j ∧ Sep r [] (.blk gl 23 last.cells :: .blk gp 51 rep.cells :: TpR r gx l j :: PC ga 1 0 (.pointer (some ⟨gga, 0, .none⟩)) c :: GP gga G :: CR gr 1 0 (.pointer (some ⟨ggr, 0, .none⟩)) c' :: GR ggr G :: []) w) _ [] (by repeat (first | exact trivial | refine ⟨rfl, ?_⟩)) ⟨.zero, .zero, 0, .zero, .zero, rfl, hz0, CRel.refl hz0, by decide, fun h => by simp [Rq.zero] at h, by simp [Cp.zero], by omega, rfl, hS.sb⟩ ?_
  clear hS
  rintro m f0 w _ ⟨c, c', j, last, rep, rfl, hc, hr, hep, han, hlj, hj, rfl, hS⟩
  have hcw := hr.cw hc
  have hok1 := hc.ok
  have hok2 := hcw.ok
  have hle := hr.h
  replace hS := hS.fo (R := TpR r gx l j)
  repeat' (first|refine Kd ?_|(refine Sh.sa hS ?_;clear hS;intro w hS)|(refine K3 ?_;clear hS;intro g w hS hge)|((first|refine GS ?_ ?_|refine VB ?_ ?_)<;>intro hb<;>(try simp only [J1,J2,J3,J4,J5,J6] at hb)<;>(try (exfalso;first|omega|exact hb trivial))))
  refine Z.eff (Z.cl (more_z hS) rfl ?_) rfl
  clear hS
  rintro e w ⟨rfl, hS⟩
  refine ⟨_, rfl, ?_⟩
  repeat' (first|refine Kd ?_|(refine Sh.sa hS ?_;clear hS;intro w hS)|(refine K3 ?_;clear hS;intro g w hS hge)|((first|refine GS ?_ ?_|refine VB ?_ ?_)<;>intro hb<;>(try simp only [J1,J2,J3,J4,J5,J6] at hb)<;>(try (exfalso;first|omega|exact hb trivial))))
  · rename j < l.length => hjl
    replace hS := (hS.focus (R := CR gr _ _ _ _) (by repeat (first | exact At.here | apply At.next))).focus (R := TpR r gx l j) (by repeat (first | exact At.here | apply At.next))
    refine Z.eff (Z.cl (request_z gx gr 1 0 _ l j c' r _ _ hS hok2.1 (by omega) (by omega)) rfl ?_) rfl
    clear hS
    rintro e w ⟨q, j2, rfl, hj2, hS⟩
    refine ⟨_, rfl, ?_⟩
    have hj2l : j2 ≤ l.length := hS.tape.le
    have hj2j := hj2.2 hjl
    repeat' (first|refine Kd ?_|(refine Sh.sa hS ?_;clear hS;intro w hS)|(refine K3 ?_;clear hS;intro g w hS hge)|((first|refine GS ?_ ?_|refine VB ?_ ?_)<;>intro hb<;>(try simp only [J1,J2,J3,J4,J5,J6] at hb)<;>(try (exfalso;first|omega|exact hb trivial))))
    rename Nat => g12
    replace hS := (hS.focus (R := GP gga _) (by repeat (first | exact At.here | apply At.next))).focus (R := PC ga _ _ _ _) (by repeat (first | exact At.here | apply At.next))
    refine Z.eff (Z.cl (pexec_z ga gga 1 0 c G 0 5 q _ _ _ hS hc hacc (by omega) (by omega)) rfl ?_) rfl
    clear hS
    rintro e w ⟨rfl, hS⟩
    refine ⟨_, rfl, ?_⟩
    rw [hac5] at hS ⊢
    repeat' (first|refine Kd ?_|(refine Sh.sa hS ?_;clear hS;intro w hS)|(refine K3 ?_;clear hS;intro g w hS hge)|((first|refine GS ?_ ?_|refine VB ?_ ?_)<;>intro hb<;>(try simp only [J1,J2,J3,J4,J5,J6] at hb)<;>(try (exfalso;first|omega|exact hb trivial))))
    rename Nat => g13
    replace hS := (hS.focus (R := GR ggr _) (by repeat (first | exact At.here | apply At.next))).focus (R := CR gr _ _ _ _) (by repeat (first | exact At.here | apply At.next))
    refine Z.eff (Z.cl (rexec_z gr ggr 1 0 c' G 0 5 q _ _ _ hS hcw hacc (by omega) (by rw [hle]; omega)) rfl ?_) rfl
    clear hS
    rintro e w ⟨rfl, hS⟩
    refine ⟨_, rfl, ?_⟩
    rw [hRa, hac5] at hS ⊢
    obtain ⟨_, hr2⟩ := hr.ex hc 0 1 5 q
    obtain ⟨hc2, hl2⟩ := hc.ex 0 1 5 q
    have he2 := ex_epoch hc (ten := 0) (acc := 1) (tk := 5) (x := q) (by omega) _ rfl
    obtain ⟨ho1, ho2⟩ := ex_once hc (ten := 0) (acc := 1) (tk := 5) (x := q) (by omega) _ rfl
    generalize (exR c' 0 1 5 q).c = c2' at *
    generalize hE : exP c 0 1 5 q = E at *
    obtain ⟨c2, p2⟩ := E
    simp only at hr2 hc2 hl2 he2 ho1 ho2 hS ⊢
    by_cases hgo : 0 < q.number ∧ p2.err = 0
    · obtain ⟨hq1, hq2, hq3, hq4, hq5, hq6⟩ := ho1 hgo.1 hgo.2
      have hh1 := hgo.1
      have hh2 := hgo.2
      repeat' (first|refine Kd ?_|(refine Sh.sa hS ?_;clear hS;intro w hS)|(refine K3 ?_;clear hS;intro g w hS hge)|((first|refine GS ?_ ?_|refine VB ?_ ?_)<;>intro hb<;>(try simp only [J1,J2,J3,J4,J5,J6] at hb)<;>(try (exfalso;first|omega|exact hb trivial))))
      all_goals (try (exfalso; omega))
      replace hS := hS.fo (R := PC ga _ _ _ _)
      refine Z.eff (Z.cl (pclen_z ga 1 0 _ c2 _ _ _ hS) rfl ?_) rfl
      clear hS
      rintro e w ⟨rfl, hS⟩
      refine ⟨_, rfl, ?_⟩
      repeat' (first|refine Kd ?_|(refine Sh.sa hS ?_;clear hS;intro w hS)|(refine K3 ?_;clear hS;intro g w hS hge)|((first|refine GS ?_ ?_|refine VB ?_ ?_)<;>intro hb<;>(try simp only [J1,J2,J3,J4,J5,J6] at hb)<;>(try (exfalso;first|omega|exact hb trivial))))
      refine D.startS (Lr := [.blk g12 23 q.cells, .blk g13 51 p2.cells]) (hS.sb) 11 11 (by kernel_rfl) rfl ?_
      replace hS := hS.drew
      refine Sh.dp 0 1 ?_
      refine Sh.dl 1 3 ?_
      refine Sh.dl 3 11 ?_
      refine D.eff 2 15 rfl D.wantedN (by kernel_rfl) (by kernel_rfl) (fun _ _ h => h) ?_
      replace hS := (hS.focus (R := GP gga _) (by repeat (first | exact At.here | apply At.next))).focus (R := PC ga _ _ _ _) (by repeat (first | exact At.here | apply At.next))
      refine Z.cl (pexec_z ga gga 1 0 c2 G 0 5 q _ _ _ hS hc2 hacc (by omega) (by omega)) rfl ?_
      clear hS
      rintro e w ⟨rfl, hS⟩
      refine ⟨_, rfl, ?_⟩
      rw [hac5, hq6] at hS ⊢
      refine ⟨HM.s (hS.sb), ?_⟩
      first | refine D.pr 4 31 rfl D.wantedN (by kernel_rfl) rfl ?_ | refine D.pl 4 31 rfl D.wantedN (by kernel_rfl) (R.nea rfl rfl rfl rfl) ?_
      refine Sh.dp 5 63 ?_
      refine D.slot 69 rfl (fun hb => by exfalso; (try simp only [decide_eq_true_eq, decide_eq_false_iff_not, Bool.not_eq_true', Bool.not_eq_false', Int.not_lt, Int.not_le] at hb) <;> first | omega | exact hb trivial | cases hb | simp at hb) (fun hb => ?_)
      (try simp only [decide_eq_true_eq, decide_eq_false_iff_not, Bool.not_eq_true', Bool.not_eq_false', Int.not_lt, Int.not_le] at hb)
      refine Sh.dp 6 127 ?_
      refine Sh.dp 8 383 ?_
      refine D.eff 7 511 rfl (D.wantedT rfl rfl) (by kernel_rfl) (by kernel_rfl) (fun _ _ h => h) ?_
      refine WE.guard ?_
      replace hS := hS.fo (R := PC ga _ _ _ _)
      refine Z.cl (pclen_z ga 1 0 _ c2 _ _ _ hS) rfl ?_
      clear hS
      rintro e w ⟨rfl, hS⟩
      refine ⟨_, rfl, ?_⟩
      refine ⟨HM.s (hS.sb), ?_⟩
      first | refine D.pr 9 1023 rfl (D.wantedT rfl rfl) (by kernel_rfl) rfl ?_ | refine D.pl 9 1023 rfl (D.wantedT rfl rfl) (by kernel_rfl) (R.nea rfl rfl rfl rfl) ?_
      refine Sh.dp 10 2047 ?_
      refine D.done (by kernel_rfl) ?_
      repeat' (first|refine Kd ?_|(refine Sh.sa hS ?_;clear hS;intro w hS)|(refine K3 ?_;clear hS;intro g w hS hge)|((first|refine GS ?_ ?_|refine VB ?_ ?_)<;>intro hb<;>(try simp only [J1,J2,J3,J4,J5,J6] at hb)<;>(try (exfalso;first|omega|exact hb trivial))))
      all_goals (try (exfalso; omega))
      refine D.startS (Lr := [.blk g12 23 q.cells, .blk g13 51 p2.cells]) (hS.sb) 3 4 (by kernel_rfl) rfl ?_
      replace hS := hS.drew
      refine Sh.dl 0 1 ?_
      refine Sh.dl 1 3 ?_
      refine D.eff 2 7 rfl D.wantedN (by kernel_rfl) (by kernel_rfl) (fun _ _ h => h) ?_
      refine Z.st hS rfl (by repeat (first | exact At.here | apply At.next)) rfl rfl ?_
      clear hS; intro w hS
      refine ⟨HM.s (hS.sb), ?_⟩
      refine D.eff 3 15 rfl D.wantedN (by kernel_rfl) (by kernel_rfl) (fun _ _ h => h) ?_
      refine Z.st hS rfl (by repeat (first | exact At.here | apply At.next)) rfl rfl ?_
      clear hS; intro w hS
      refine ⟨HM.last (by kernel_rfl), ?_⟩
      refine D.done (by kernel_rfl) ?_
      repeat' (first|refine Kd ?_|(refine Sh.sa hS ?_;clear hS;intro w hS)|(refine K3 ?_;clear hS;intro g w hS hge)|((first|refine GS ?_ ?_|refine VB ?_ ?_)<;>intro hb<;>(try simp only [J1,J2,J3,J4,J5,J6] at hb)<;>(try (exfalso;first|omega|exact hb trivial))))
      refine Sh.again (l.length - j2) [] ?_
      exact ⟨c2, c2', j2, q, p2, rfl, hc2, hr2, by omega, fun _ => ⟨hq1, hq2, hq3, hq4, hq5⟩, by omega, hj2l, rfl, hS.sb⟩
    · have hte := ho2 hgo
      have han2 : Answered c2 last rep := fun h => by
        have := han h
        rw [hte]
        exact this
      repeat' (first|refine Kd ?_|(refine Sh.sa hS ?_;clear hS;intro w hS)|(refine K3 ?_;clear hS;intro g w hS hge)|((first|refine GS ?_ ?_|refine VB ?_ ?_)<;>intro hb<;>(try simp only [J1,J2,J3,J4,J5,J6] at hb)<;>(try (exfalso;first|omega|exact hb trivial))))
      all_goals (try (exfalso; exact hgo ⟨by assumption, by assumption⟩))
      all_goals
        refine Sh.again (l.length - j2) [] ?_
        exact ⟨c2, c2', j2, last, rep, rfl, hc2, hr2, by omega, han2, by omega, hj2l, rfl, hS.sb⟩
  · replace hS := hS.fo (R := PC ga _ _ _ _)
    refine Z.eff (Z.cl (phist_z ga 1 0 _ c 0 _ _ _ hS (by omega)) rfl ?_) rfl
    clear hS
    rintro e w ⟨A3, c3, rfl, hS⟩
    refine ⟨_, rfl, ?_⟩
    rw [show histB c.h 0 = c.h from rfl] at hS ⊢
    repeat' (first|refine Kd ?_|(refine Sh.sa hS ?_;clear hS;intro w hS)|(refine K3 ?_;clear hS;intro g w hS hge)|((first|refine GS ?_ ?_|refine VB ?_ ?_)<;>intro hb<;>(try simp only [J1,J2,J3,J4,J5,J6] at hb)<;>(try (exfalso;first|omega|exact hb trivial))))
    refine Z.eff (Z.cl (pcfold_ok 2 0 c.h _ _ _ _ hS (Reads.of_at (e := 49) (v := .slice A3 c.h.length c3) (by repeat (first | exact At.here | apply At.next))) (by omega) hc.isH) rfl ?_) rfl
    clear hS
    rintro e w ⟨gb, ggb, rfl, hS⟩
    refine ⟨_, rfl, ?_⟩
    replace hS := Sep.gate0 (hS.focus (R := .blk ggb _ _) (by repeat (first | exact At.here | apply At.next)))
    rw [bare_cpOf hc] at hS
    have hbl : (bare c).h.length ≤ 150 := by show c.h.length ≤ 150; omega
    repeat' (first|refine Kd ?_|(refine Sh.sa hS ?_;clear hS;intro w hS)|(refine K3 ?_;clear hS;intro g w hS hge)|((first|refine GS ?_ ?_|refine VB ?_ ?_)<;>intro hb<;>(try simp only [J1,J2,J3,J4,J5,J6] at hb)<;>(try (exfalso;first|omega|exact hb trivial))))
    replace hS := (hS.focus (R := PC gb _ _ _ _) (by repeat (first | exact At.here | apply At.next))).focus (R := PC ga _ _ _ _) (by repeat (first | exact At.here | apply At.next))
    refine Z.eff (Z.cl (pcsame_z ga gb 1 0 2 0 _ _ c (bare c) _ _ _ hS (by omega) (by omega)) rfl ?_) rfl
    clear hS
    rintro e w ⟨rfl, hS⟩
    refine ⟨_, rfl, ?_⟩
    rw [show decide ((0 : Int) = 0 ∧ c.h = (bare c).h) = true from by simp [bare]]
    repeat' (first|refine Kd ?_|(refine Sh.sa hS ?_;clear hS;intro w hS)|(refine K3 ?_;clear hS;intro g w hS hge)|((first|refine GS ?_ ?_|refine VB ?_ ?_)<;>intro hb<;>(try simp only [J1,J2,J3,J4,J5,J6] at hb)<;>(try (exfalso;first|omega|exact hb trivial))))
    replace hS := hS.fo (R := PC gb _ _ _ _)
    refine Z.eff (Z.cl (pcgate_z gb ggb 2 0 _ _ _ _ hS) rfl ?_) rfl
    clear hS
    rintro e w ⟨rfl, hS⟩
    refine ⟨_, rfl, ?_⟩
    have hok2b : okW ⟨2, 2, 0, 6, 100⟩ := by decide
    have hgp2 := (gave (z := 2) hok2b rfl).1
    repeat' (first|refine Kd ?_|(refine Sh.sa hS ?_;clear hS;intro w hS)|(refine K3 ?_;clear hS;intro g w hS hge)|((first|refine GS ?_ ?_|refine VB ?_ ?_)<;>intro hb<;>(try simp only [J1,J2,J3,J4,J5,J6] at hb)<;>(try (exfalso;first|omega|exact hb trivial))))
    replace hS := hS.fo (R := GP ggb _)
    refine Z.eff (Z.cl (ggive_z ggb ⟨2, 0, []⟩ ⟨2, 2, 0, 6, 100⟩ _ _ _ hS (by simp) (by simp)) rfl ?_) rfl
    clear hS
    rintro e w ⟨rfl, hS⟩
    refine ⟨_, rfl, ?_⟩
    rw [hgp2] at hS ⊢
    have hm4 := modN_bd z 4 (by omega)
    generalize hmz : modN z 4 = mz at *
    replace hS := hS.sub (L' := .blk gl 23 last.cells :: .blk gp 51 rep.cells :: PC ga 1 0 (.pointer (some ⟨gga, 0, .none⟩)) c :: PC gb 2 0 (.pointer (some ⟨ggb, 0, .none⟩)) (bare c) :: GP ggb ⟨2, 0, [⟨2, 2, 0, 6, 100⟩]⟩ :: []) (by repeat (first | exact Sub.rest | exact Sub.nil | exact .skip .rest | exact .skip (.skip .rest) | exact .skip (.skip (.skip .rest)) | apply Sub.keep | refine Sub.cons (by repeat (first | exact At.here | apply At.next)) ?_ | apply Sub.skip))
    repeat' (first|refine Kd ?_|(refine Sh.sa hS ?_;clear hS;intro w hS)|(refine K3 ?_;clear hS;intro g w hS hge)|((first|refine GS ?_ ?_|refine VB ?_ ?_)<;>intro hb<;>(try simp only [J1,J2,J3,J4,J5,J6] at hb)<;>(try (exfalso;first|omega|exact hb trivial))))
    refine Z.lpS [6, 18, 100, 101, 102, 103, 104, 105, 106, 107, 108, 109, 110, 111, 112, 113, 114, 115, 116, 117, 118, 119, 120, 121, 122, 123, 124] (fun m w s => ∃ i : Nat, s = [(18, .int .i64 i)] ∧ i ≤ 4 ∧ m = 4 - i ∧ Sep r [] (.blk gl 23 last.cells :: .blk gp 51 rep.cells :: PC ga 1 0 (.pointer (some ⟨gga, 0, .none⟩)) c :: PC gb 2 0 (.pointer (some ⟨ggb, 0, .none⟩)) (bare c) :: GP ggb ⟨2, 0, [⟨2, 2, 0, 6, 100⟩]⟩ :: []) w) _ [(18, .int .i64 (0 : Nat))] (by repeat (first | exact trivial | refine ⟨rfl, ?_⟩)) ⟨0, rfl, by omega, rfl, hS⟩ ?_
    clear hS
    rintro m f0 w _ ⟨i, rfl, hi, rfl, hS⟩
    repeat' (first|refine Kd ?_|(refine Sh.sa hS ?_;clear hS;intro w hS)|(refine K3 ?_;clear hS;intro g w hS hge)|((first|refine GS ?_ ?_|refine VB ?_ ?_)<;>intro hb<;>(try simp only [J1,J2,J3,J4,J5,J6] at hb)<;>(try (exfalso;first|omega|exact hb trivial))))
    refine Z.eff (Z.cl (modS_z z 4 _ _ _ hS (by omega) (by omega)) rfl ?_) rfl
    clear hS
    rintro e w ⟨rfl, hS⟩
    refine ⟨_, rfl, ?_⟩
    rw [hmz]
    repeat' (first|refine Kd ?_|(refine Sh.sa hS ?_;clear hS;intro w hS)|(refine K3 ?_;clear hS;intro g w hS hge)|((first|refine GS ?_ ?_|refine VB ?_ ?_)<;>intro hb<;>(try simp only [J1,J2,J3,J4,J5,J6] at hb)<;>(try (exfalso;first|omega|exact hb trivial))))
    · by_cases hln : 0 < last.number
      · obtain ⟨hq1, hq2, hq3, hq4, hq5⟩ := han hln
        have hex : exP (bare c) 0 2 (6 + (i : Int)) last = ⟨bare c, rep⟩ := ex_found hq1 hq2 (by omega) ⟨by omega, by show epochOf c.h ≤ 2; omega⟩ hq3 hq4 hq5
        have hacc2 : accs (⟨2, 0, [⟨2, 2, 0, 6, 100⟩]⟩ : Ga).ws 0 (6 + (i : Int)) 0 = 2 := by
          unfold accs
          simp only [List.foldl_cons, List.foldl_nil]
          rw [if_pos ⟨trivial, by omega, by omega⟩]
          decide
        refine D.startS (Lr := [.blk gl 23 last.cells, .blk gp 51 rep.cells]) (hS.sb) 19 19 (by kernel_rfl) rfl ?_
        replace hS := hS.drew
        refine Sh.dp 0 1 ?_
        refine Sh.dl 1 3 ?_
        refine Sh.dp 2 7 ?_
        refine Sh.dp 3 15 ?_
        refine D.slot 109 rfl (fun hb => ?_) (fun hb => by exfalso; (try simp only [decide_eq_true_eq, decide_eq_false_iff_not, Bool.not_eq_true', Bool.not_eq_false', Int.not_lt, Int.not_le] at hb) <;> first | omega | exact hb trivial | cases hb | simp at hb)
        (try simp only [decide_eq_true_eq, decide_eq_false_iff_not, Bool.not_eq_true', Bool.not_eq_false', Int.not_lt, Int.not_le] at hb)
        refine Sh.dp 4 31 ?_
        refine Sh.dp 5 63 ?_
        first | refine D.sum 6 127 rfl (D.wantedT rfl rfl) (by kernel_rfl) rfl (by constructor <;> omega) ?_ | refine D.sumW 6 127 rfl (D.wantedT rfl rfl) (by kernel_rfl) rfl ?_
        refine Sh.dl 7 255 ?_
        refine Sh.dl 9 767 ?_
        refine D.eff 8 1023 rfl (D.wantedT rfl rfl) (by kernel_rfl) (by kernel_rfl) (fun _ _ h => h) ?_
        refine WE.guard ?_
        replace hS := (hS.focus (R := GP ggb _) (by repeat (first | exact At.here | apply At.next))).focus (R := PC gb _ _ _ _) (by repeat (first | exact At.here | apply At.next))
        refine Z.cl (pexec_z gb ggb 2 0 (bare c) ⟨2, 0, [⟨2, 2, 0, 6, 100⟩]⟩ 0 (6 + (i : Int)) last _ _ _ hS (hc.good.cg hc.good.qok) (by intro y hy; simp at hy; subst hy; simp only; omega) (by simp) (by omega)) rfl ?_
        clear hS
        rintro e w ⟨rfl, hS⟩
        refine ⟨_, rfl, ?_⟩
        rw [hacc2, hex] at hS ⊢
        refine ⟨HM.s (hS.sb), ?_⟩
        first | refine D.pr 10 2047 rfl (D.wantedT rfl rfl) (by kernel_rfl) rfl ?_ | refine D.pl 10 2047 rfl (D.wantedT rfl rfl) (by kernel_rfl) (R.nea rfl rfl rfl rfl) ?_
        refine Sh.dp 11 4095 ?_
        refine D.slot 117 rfl (fun hb => by exfalso; (try simp only [decide_eq_true_eq, decide_eq_false_iff_not, Bool.not_eq_true', Bool.not_eq_false', Int.not_lt, Int.not_le] at hb) <;> first | omega | exact hb trivial | cases hb | simp at hb) (fun hb => ?_)
        (try simp only [decide_eq_true_eq, decide_eq_false_iff_not, Bool.not_eq_true', Bool.not_eq_false', Int.not_lt, Int.not_le] at hb)
        refine Sh.dp 12 8191 ?_
        refine Sh.dp 14 24575 ?_
        refine D.eff 13 32767 rfl (D.wantedT rfl rfl) (by kernel_rfl) (by kernel_rfl) (fun _ _ h => h) ?_
        refine WE.guard ?_
        replace hS := hS.fo (R := PC gb _ _ _ _)
        refine Z.cl (pclen_z gb 2 0 _ (bare c) _ _ _ hS) rfl ?_
        clear hS
        rintro e w ⟨rfl, hS⟩
        refine ⟨_, rfl, ?_⟩
        refine ⟨HM.s (hS.sb), ?_⟩
        refine D.eff 15 65535 rfl (D.wantedT rfl rfl) (by kernel_rfl) (by kernel_rfl) (fun _ _ h => h) ?_
        refine WE.guard ?_
        replace hS := hS.fo (R := PC ga _ _ _ _)
        refine Z.cl (pclen_z ga 1 0 _ c _ _ _ hS) rfl ?_
        clear hS
        rintro e w ⟨rfl, hS⟩
        refine ⟨_, rfl, ?_⟩
        rw [show (bare c).h.length = c.h.length from rfl]
        refine ⟨HM.s (hS.sb), ?_⟩
        first | refine D.pr 16 131071 rfl (D.wantedT rfl rfl) (by kernel_rfl) rfl ?_ | refine D.pl 16 131071 rfl (D.wantedT rfl rfl) (by kernel_rfl) (R.nea rfl rfl rfl rfl) ?_
        refine Sh.dp 17 262143 ?_
        refine Sh.dp 18 524287 ?_
        refine D.done (by kernel_rfl) ?_
        repeat' (first|refine Kd ?_|(refine Sh.sa hS ?_;clear hS;intro w hS)|(refine K3 ?_;clear hS;intro g w hS hge)|((first|refine GS ?_ ?_|refine VB ?_ ?_)<;>intro hb<;>(try simp only [J1,J2,J3,J4,J5,J6] at hb)<;>(try (exfalso;first|omega|exact hb trivial))))
        all_goals (try (exfalso; exact hb rfl))
        refine Sh.again (4 - (i + 1)) [(18, .int .i64 (i + 1 : Nat))] ?_
        exact ⟨i + 1, rfl, by omega, rfl, hS.sb⟩
      · refine D.startS (Lr := [.blk gl 23 last.cells, .blk gp 51 rep.cells]) (hS.sb) 19 19 (by kernel_rfl) rfl ?_
        replace hS := hS.drew
        refine Sh.dp 0 1 ?_
        refine Sh.dl 1 3 ?_
        refine Sh.dp 2 7 ?_
        refine Sh.dp 3 15 ?_
        refine D.slot 109 rfl (fun hb => by exfalso; (try simp only [decide_eq_true_eq, decide_eq_false_iff_not, Bool.not_eq_true', Bool.not_eq_false', Int.not_lt, Int.not_le] at hb) <;> first | omega | exact hb trivial | cases hb | simp at hb) (fun hb => ?_)
        (try simp only [decide_eq_true_eq, decide_eq_false_iff_not, Bool.not_eq_true', Bool.not_eq_false', Int.not_lt, Int.not_le] at hb)
        refine D.skF 4 31 rfl (by kernel_rfl) rfl rfl ?_
        refine D.skF 5 63 rfl (by kernel_rfl) rfl rfl ?_
        refine D.skF 6 127 rfl (by kernel_rfl) rfl rfl ?_
        refine D.skF 7 255 rfl (by kernel_rfl) rfl rfl ?_
        refine D.skF 8 511 rfl (by kernel_rfl) rfl rfl ?_
        refine D.skF 9 1023 rfl (by kernel_rfl) rfl rfl ?_
        refine D.skF 10 2047 rfl (by kernel_rfl) rfl rfl ?_
        refine D.skF 11 4095 rfl (by kernel_rfl) rfl rfl ?_
        refine D.skU 12 8191 rfl (by kernel_rfl) rfl rfl ?_
        refine D.skU 13 16383 rfl (by kernel_rfl) rfl rfl ?_
        refine D.skU 14 32767 rfl (by kernel_rfl) rfl rfl ?_
        refine D.skU 15 65535 rfl (by kernel_rfl) rfl rfl ?_
        refine D.skU 16 131071 rfl (by kernel_rfl) rfl rfl ?_
        refine D.skF 17 262143 rfl (by kernel_rfl) rfl rfl ?_
        refine Sh.dp 18 524287 ?_
        refine D.done (by kernel_rfl) ?_
        repeat' (first|refine Kd ?_|(refine Sh.sa hS ?_;clear hS;intro w hS)|(refine K3 ?_;clear hS;intro g w hS hge)|((first|refine GS ?_ ?_|refine VB ?_ ?_)<;>intro hb<;>(try simp only [J1,J2,J3,J4,J5,J6] at hb)<;>(try (exfalso;first|omega|exact hb trivial))))
        refine Sh.again (4 - (i + 1)) [(18, .int .i64 (i + 1 : Nat))] ?_
        exact ⟨i + 1, rfl, by omega, rfl, hS.sb⟩
    · refine Dnt Tryz.results6 ?_
      exact ⟨rfl, hS.chg⟩
set_option maxRecDepth 100000 in
theorem cellOnce_lifted (os : Os) (started : os.Started) (H : Type) (enc : TypeId × Value → H) :
    ReturnsInHanded {} Tryz.checked os 6 .any (Rows.cellOnceSpec.pre6 enc Tryz.prog Tryz.f6 Rows.cellOnceRow.domain false) (Rows.cellOnceSpec.post enc Tryz.prog Tryz.f6 false Rows.cellOnceRow.fresh Rows.cellOnceRow.handsOn Rows.cellOnceRow.again) := by
  refine returnsInHanded_of_change (C := Tryz.checked) Tryz.own started (by kernel_rfl) Tryz.func6
    (ChangeSpec.witness6 (enc := enc) (C := Tryz.checked) false ⟨#[], #[.slice none 0 0, .slice none 0 0, .int .i64 0], []⟩ 8 (by kernel_rfl) (by kernel_rfl) (by kernel_rfl) (by kernel_rfl)) ?_
  intro W base args ds gs before hval0 hW _ _
  have hval : ∀ (j : Nat) t v, Tryz.f6.params[j]? = some t → args[j]? = some v → Value.okWide Tryz.prog W .any base t v := hval0
  have hW0 := hW
  obtain ⟨p, q, hA0, hV, hpq, _, _⟩ := hW
  obtain ⟨la⟩ := args
  have hA : DataW.TrodAll enc Tryz.prog W 0 (fun _ => true) true [24, 24, 3] la ds p := by have := hA0; rw [Tryz.params6] at this; exact this
  rw [Tryz.params6] at hval
  obtain ⟨v0, la0, d0, ds0, p0, q0, rfl, rfl, rfl, h0, hA⟩ := trodAll_cons hA
  obtain ⟨v1, la1, d1, ds1, p1, q1, rfl, rfl, rfl, h1, hA⟩ := trodAll_cons hA
  obtain ⟨v2, la2, d2, ds2, p2, q2, rfl, rfl, rfl, h2, hA⟩ := trodAll_cons hA
  obtain ⟨rfl, rfl, rfl⟩ := trodAll_nil hA
  obtain ⟨l0, A0, cap0, rfl, hr0⟩ := arg_ints (hval 0 _ _ rfl rfl) h0
  obtain ⟨l1, A1, cap1, rfl, hr1⟩ := arg_ints (hval 1 _ _ rfl rfl) h1
  obtain ⟨z2, rfl, hr2⟩ := arg_int (hval 2 _ _ rfl rfl) h2
  have fin : Calls Tryz.prog 6 _ W fun e W' => e = .returned (.bool true) ∧ Chg [] W W' := once28_z l0 A0 cap0 l1 A1 cap1 z2 W hr0 hr1 hr2
  refine fin.mono fun e W' ⟨he, hc⟩ => ⟨_, he, ?_⟩
  exact law_post Tryz.laidOut (by rw [Tryz.params6]; intro t ht; simp only [List.mem_cons, List.not_mem_nil, or_false] at ht; rcases ht with rfl | rfl | rfl <;> exact ⟨by kernel_rfl, of_decide_eq_true (by kernel_rfl)⟩) rfl rfl Tryz.underlying4 rfl hW0 hc.below
theorem cellOnce_holds : Rows.CellOnceSaid :=
  OpenClaim.holds_of_wide 6 Tryz.f6 rfl rfl rfl rfl rfl rfl rfl ⟨rfl, rfl, rfl, rfl, rfl⟩ rfl rfl rfl rfl rfl (by kernel_rfl) Tryz.func6 (by kernel_rfl)
    (of_decide_eq_true (by kernel_rfl)) (by unfold Func.isWrapper; rw [if_neg (of_decide_eq_false (by kernel_rfl))]; exact ⟨rfl, rfl⟩)
    (fun os started H enc _ => cellOnce_lifted os started H enc)
end Go.Proofs.YtahackdfjcgkhaaGreat
