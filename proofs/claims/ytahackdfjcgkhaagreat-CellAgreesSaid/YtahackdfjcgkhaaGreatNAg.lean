/-
  CellAgrees: for every input the call returns true, and the arguments read afterwards as they read before.
-/
import Derived.Test.YtahackdfjcgkhaaGreatYd
import Derived.Test.YtahackdfjcgkhaaGreatNSx
import Derived.Test.YtahackdfjcgkhaaGreatNTc
import Derived.Test.YtahackdfjcgkhaaGreatEW
import Derived.Test.YtahackdfjcgkhaaGreatNRq
import Derived.Test.YtahackdfjcgkhaaGreatNOnP
import Derived.Test.YtahackdfjcgkhaaGreatH1
import Derived.Test.YtahackdfjcgkhaaGreatML
import Derived.Test.YtahackdfjcgkhaaGreatA1
namespace Go.Proofs.YtahackdfjcgkhaaGreat
open Go.RowKit Go.ChangeShapes Go.WideShapes Go.ChangeAt
set_option linter.unusedSimpArgs false
set_option linter.unusedVariables false

set_option maxHeartbeats 8000000 in
theorem agrees_z (l : List Int) (A : Option Addr) (cap : Nat) (z1 z2 : Int) (r : World) (hr0 : Rd r 1 A l.length (l.map (Value.int .i64))) (hz1 : -9223372036854775808 ≤ z1 ∧ z1 ≤ 9223372036854775807) (hz2 : -9223372036854775808 ≤ z2 ∧ z2 ≤ 9223372036854775807) :
    Calls Tryz.prog 7 #[.slice A l.length cap, .int .i64 z1, .int .i64 z2] r fun e w' => e = .returned (.bool true) ∧ Chg [] r w' := by
  have hS := Sep.root r
  refine Z.enter Tryz.func7 Tryz.ntmps7 rfl rfl ?_
  repeat' (first|refine Kd ?_|(refine Sh.sa hS ?_;clear hS;intro w hS)|(refine K3 ?_;clear hS;intro g w hS hge)|((first|refine GS ?_ ?_|refine VB ?_ ?_)<;>intro hb<;>(try simp only [J1,J2,J3,J4,J5,J6] at hb)<;>(try (exfalso;first|omega|exact hb trivial))))
  refine Z.eff (Z.cl (awake28_z _ _ _ hS) rfl ?_) rfl
  clear hS
  rintro e w ⟨rfl, hS⟩
  refine ⟨_, rfl, ?_⟩
  repeat' (first|refine Kd ?_|(refine Sh.sa hS ?_;clear hS;intro w hS)|(refine K3 ?_;clear hS;intro g w hS hge)|((first|refine GS ?_ ?_|refine VB ?_ ?_)<;>intro hb<;>(try simp only [J1,J2,J3,J4,J5,J6] at hb)<;>(try (exfalso;first|omega|exact hb trivial))))
  refine Z.eff (Z.cl (lightS_z A l.length cap _ _ _ hS) rfl ?_) rfl
  clear hS
  rintro e w ⟨rfl, hS⟩
  refine ⟨_, rfl, ?_⟩
  repeat' (first|refine Kd ?_|(refine Sh.sa hS ?_;clear hS;intro w hS)|(refine K3 ?_;clear hS;intro g w hS hge)|((first|refine GS ?_ ?_|refine VB ?_ ?_)<;>intro hb<;>(try simp only [J1,J2,J3,J4,J5,J6] at hb)<;>(try (exfalso;first|omega|exact hb trivial))))
  · refine Dnt Tryz.results7 ?_
    exact ⟨rfl, hS.chg⟩
  rename _ ≤ (150 : Int) => hlt
  refine Z.eff (Z.cl (modS_z z2 1073741824 _ _ _ hS (by omega) (by omega)) rfl ?_) rfl
  clear hS
  rintro e w ⟨rfl, hS⟩
  refine ⟨_, rfl, ?_⟩
  have hm2 := modN_bd z2 1073741824 (by omega)
  repeat' (first|refine Kd ?_|(refine Sh.sa hS ?_;clear hS;intro w hS)|(refine K3 ?_;clear hS;intro g w hS hge)|((first|refine GS ?_ ?_|refine VB ?_ ?_)<;>intro hb<;>(try simp only [J1,J2,J3,J4,J5,J6] at hb)<;>(try (exfalso;first|omega|exact hb trivial))))
  refine Z.eff (Z.cl (modS_z z1 30 _ _ _ hS (by omega) (by omega)) rfl ?_) rfl
  clear hS
  rintro e w ⟨rfl, hS⟩
  refine ⟨_, rfl, ?_⟩
  have hm1 := modN_bd z1 30 (by omega)
  repeat' (first|refine Kd ?_|(refine Sh.sa hS ?_;clear hS;intro w hS)|(refine K3 ?_;clear hS;intro g w hS hge)|((first|refine GS ?_ ?_|refine VB ?_ ?_)<;>intro hb<;>(try simp only [J1,J2,J3,J4,J5,J6] at hb)<;>(try (exfalso;first|omega|exact hb trivial))))
  generalize modN z2 1073741824 = tk at *
  generalize modN z1 30 = ve at *
  refine Z.eff (Z.cl (pcnew_z 1 3 _ _ _ hS) rfl ?_) rfl
  clear hS
  rintro e w ⟨ga, gga, rfl, hS⟩
  refine ⟨_, rfl, ?_⟩
  repeat' (first|refine Kd ?_|(refine Sh.sa hS ?_;clear hS;intro w hS)|(refine K3 ?_;clear hS;intro g w hS hge)|((first|refine GS ?_ ?_|refine VB ?_ ?_)<;>intro hb<;>(try simp only [J1,J2,J3,J4,J5,J6] at hb)<;>(try (exfalso;first|omega|exact hb trivial))))
  refine Z.eff (Z.cl (pcnew_z 2 3 _ _ _ hS) rfl ?_) rfl
  clear hS
  rintro e w ⟨gb, ggb, rfl, hS⟩
  refine ⟨_, rfl, ?_⟩
  repeat' (first|refine Kd ?_|(refine Sh.sa hS ?_;clear hS;intro w hS)|(refine K3 ?_;clear hS;intro g w hS hge)|((first|refine GS ?_ ?_|refine VB ?_ ?_)<;>intro hb<;>(try simp only [J1,J2,J3,J4,J5,J6] at hb)<;>(try (exfalso;first|omega|exact hb trivial))))
  refine Z.eff (Z.cl (cnew_z 1 3 _ _ _ hS) rfl ?_) rfl
  clear hS
  rintro e w ⟨gr, ggr, rfl, hS⟩
  refine ⟨_, rfl, ?_⟩
  repeat' (first|refine Kd ?_|(refine Sh.sa hS ?_;clear hS;intro w hS)|(refine K3 ?_;clear hS;intro g w hS hge)|((first|refine GS ?_ ?_|refine VB ?_ ?_)<;>intro hb<;>(try simp only [J1,J2,J3,J4,J5,J6] at hb)<;>(try (exfalso;first|omega|exact hb trivial))))
  rename Nat => g10
  replace hS := Sep.gate0 (hS.focus (R := .blk gga _ _) (by repeat (first | exact At.here | apply At.next)))
  replace hS := Sep.gate1 (hS.focus (R := .blk ggr _ _) (by repeat (first | exact At.here | apply At.next)))
  have hok : okW ⟨1, 1, ve, tk, tk + 1⟩ := by unfold okW; simp only; omega
  obtain ⟨hgp, hgr⟩ := gave hok rfl
  have hrel := Rel.gave hok rfl
  have hacc : ∀ y, y ∈ (⟨1, 0, [⟨1, 1, ve, tk, tk + 1⟩]⟩ : Ga).ws → 1 ≤ y.epoch ∧ y.epoch ≤ 1048576 := by intro y hy; simp at hy; subst hy; simp only; omega
  replace hS := hS.sub (L' := .blk g10 46 (⟨1, 1, ve, tk, tk + 1⟩ : Wi).cells :: PC ga 1 3 (.pointer (some ⟨gga, 0, .none⟩)) .zero :: GP gga ⟨1, 0, []⟩ :: CR gr 1 3 (.pointer (some ⟨ggr, 0, .none⟩)) .zero :: GR ggr ⟨1, 0, []⟩ :: PC gb 2 3 (.pointer (some ⟨ggb, 0, .none⟩)) .zero :: []) (by repeat (first | exact Sub.rest | exact Sub.nil | exact .skip .rest | exact .skip (.skip .rest) | exact .skip (.skip (.skip .rest)) | apply Sub.keep | refine Sub.cons (by repeat (first | exact At.here | apply At.next)) ?_ | apply Sub.skip))
  refine D.startS (Lr := [.blk g10 46 (⟨1, 1, ve, tk, tk + 1⟩ : Wi).cells]) (hS.sb) 4 4 (by kernel_rfl) rfl ?_
  replace hS := hS.drew
  refine Sh.dp 0 1 ?_
  refine Sh.dl 2 5 ?_
  refine D.eff 1 7 rfl D.wantedN (by kernel_rfl) (by kernel_rfl) (fun _ _ h => h) ?_
  replace hS := hS.fo (R := PC ga _ _ _ _)
  refine Z.cl (pcgate_z ga gga 1 3 _ _ _ _ hS) rfl ?_
  clear hS
  rintro e w ⟨rfl, hS⟩
  refine ⟨_, rfl, ?_⟩
  refine ⟨HM.s (hS.sb), ?_⟩
  refine D.eff 3 15 rfl D.wantedN (by kernel_rfl) (by kernel_rfl) (fun _ _ h => h) ?_
  replace hS := hS.fo (R := GP gga _)
  refine Z.cl (ggive_z gga ⟨1, 0, []⟩ ⟨1, 1, ve, tk, tk + 1⟩ _ _ _ hS (by simp) (by simp)) rfl ?_
  clear hS
  rintro e w ⟨rfl, hS⟩
  refine ⟨_, rfl, ?_⟩
  rw [hgp] at hS ⊢
  refine ⟨HM.s (hS.sb), ?_⟩
  refine D.done (by kernel_rfl) ?_
  repeat' (first|refine Kd ?_|(refine Sh.sa hS ?_;clear hS;intro w hS)|(refine K3 ?_;clear hS;intro g w hS hge)|((first|refine GS ?_ ?_|refine VB ?_ ?_)<;>intro hb<;>(try simp only [J1,J2,J3,J4,J5,J6] at hb)<;>(try (exfalso;first|omega|exact hb trivial))))
  obtain ⟨vh, gs, gq, gt, vs, vl, vr, hS⟩ := Sep.CR_open.1 (hS.focus (R := CR gr _ _ _ _) (by repeat (first | exact At.here | apply At.next)))
  refine D.startS (Lr := [.blk g10 46 (⟨1, 1, ve, tk, tk + 1⟩ : Wi).cells, .blk gr 69 _]) (hS.sb) 6 6 (by kernel_rfl) rfl ?_
  replace hS := hS.drew
  refine Sh.dp 0 1 ?_
  refine Sh.dp 1 3 ?_
  refine Sh.dp 2 7 ?_
  refine Sh.dl 3 15 ?_
  refine Sh.dl 4 31 ?_
  refine D.eff 5 63 rfl D.wantedN (by kernel_rfl) (by kernel_rfl) (fun _ _ h => h) ?_
  replace hS := hS.fo (R := GR ggr _)
  refine Z.cl (rgive_z ggr ⟨1, 0, []⟩ ⟨1, 1, ve, tk, tk + 1⟩ _ _ _ hS (by simp)) rfl ?_
  clear hS
  rintro e w ⟨rfl, hS⟩
  refine ⟨_, rfl, ?_⟩
  rw [hgr] at hS ⊢
  refine ⟨HM.s (hS.sb), ?_⟩
  refine D.done (by kernel_rfl) ?_
  replace hS := Sep.CR_open.2 ⟨vh, gs, gq, gt, vs, vl, vr, hS.sub (L' := .blk gr 69 [.int .i64 1, .int .i64 3, vh, .pointer (some ⟨gs, 0, none⟩), .pointer (some ⟨gq, 0, none⟩), .pointer (some ⟨gt, 0, none⟩), .pointer (some ⟨ggr, 0, .none⟩)] :: .sl 49 8 vh (Cp.zero.h.map Ch.cells) :: .blk gs 100 [vs] :: .sl 102 3 vs (Cp.zero.s.map Ce.cells) :: .blk gq 105 [vl, vr, .int .i64 Cp.zero.q.most] :: .sl 79 2 vl (Cp.zero.q.l.map It.cells) :: .sl 133 4 vr (Cp.zero.q.r.map Le.cells) :: .blk gt 109 Cp.zero.t.cells.toList :: PC ga 1 3 (.pointer (some ⟨gga, 0, .none⟩)) .zero :: GP gga ⟨1, 0, [⟨1, 1, ve, tk, tk + 1⟩]⟩ :: GR ggr ⟨1, 0, [⟨1, 1, ve, tk, tk + 1⟩]⟩ :: PC gb 2 3 (.pointer (some ⟨ggb, 0, .none⟩)) .zero :: []) (by repeat (first | exact Sub.rest | exact Sub.nil | exact .skip .rest | exact .skip (.skip .rest) | exact .skip (.skip (.skip .rest)) | apply Sub.keep | refine Sub.cons (by repeat (first | exact At.here | apply At.next)) ?_ | apply Sub.skip))⟩
  generalize hG : (⟨1, 0, [⟨1, 1, ve, tk, tk + 1⟩]⟩ : Ga) = G at *
  have hGl : G.ws.length ≤ 10 := by rw [← hG]; simp
  have hRa : ∀ v t, accR G v t = accs G.ws v t 0 := fun v t => hrel.accs v t
  have hz := Good.zero.cg QOk.zero
  repeat' (first|refine Kd ?_|(refine Sh.sa hS ?_;clear hS;intro w hS)|(refine K3 ?_;clear hS;intro g w hS hge)|((first|refine GS ?_ ?_|refine VB ?_ ?_)<;>intro hb<;>(try simp only [J1,J2,J3,J4,J5,J6] at hb)<;>(try (exfalso;first|omega|exact hb trivial))))
  refine Z.eff (Z.cl (tnew_z l A cap hS hr0 (by omega)) rfl ?_) rfl
  clear hS
  rintro e w ⟨gx, rfl, hS⟩
  refine ⟨_, rfl, ?_⟩
  repeat' (first|refine Kd ?_|(refine Sh.sa hS ?_;clear hS;intro w hS)|(refine K3 ?_;clear hS;intro g w hS hge)|((first|refine GS ?_ ?_|refine VB ?_ ?_)<;>intro hb<;>(try simp only [J1,J2,J3,J4,J5,J6] at hb)<;>(try (exfalso;first|omega|exact hb trivial))))
  refine Z.lpS [6, 12, 13, 14, 44, 45, 46, 47, 48, 49, 50, 51, 52, 53, 54, 55, 56, 57, 58, 59, 60, 61, 62, 63, 64, 65, 66, 67, 68, 69, 70, 71, 72, 73, 74, 75, 76, 77, 78, 79, 80, 81, 82, 83, 84, 85, 86, 87, 88, 89, 90, 91, 92, 93, 94, 95, 96, 97, 98, 99] (fun m w s => ∃ (c c' : Cp) (j : Nat), s = [] ∧ CG c ∧ CRel c c' ∧ c.h.length ≤ j ∧ j ≤ l.length ∧ m = l.length - j ∧ Sep r [] (TpR r gx l j :: PC ga 1 3 (.pointer (some ⟨gga, 0, .none⟩)) c :: GP gga G :: CR gr 1 3 (.pointer (some ⟨ggr, 0, .none⟩)) c' :: GR ggr G :: PC gb 2 3 (.pointer (some ⟨ggb, 0, .none⟩)) (bare c) :: []) w) _ [] (by repeat (first | exact trivial | refine ⟨rfl, ?_⟩)) ⟨.zero, .zero, 0, rfl, hz, CRel.refl hz, by simp [Cp.zero], by omega, rfl, hS.sb⟩ ?_
  clear hS
  rintro m f0 w _ ⟨c, c', j, rfl, hc, hr, hlj, hj, rfl, hS⟩
  have hcw := hr.cw hc
  have hok1 := hc.ok
  have hok2 := hcw.ok
  have hle := hr.h
  repeat' (first|refine Kd ?_|(refine Sh.sa hS ?_;clear hS;intro w hS)|(refine K3 ?_;clear hS;intro g w hS hge)|((first|refine GS ?_ ?_|refine VB ?_ ?_)<;>intro hb<;>(try simp only [J1,J2,J3,J4,J5,J6] at hb)<;>(try (exfalso;first|omega|exact hb trivial))))
  refine Z.eff (Z.cl (more_z hS) rfl ?_) rfl
  clear hS
  rintro e w ⟨rfl, hS⟩
  refine ⟨_, rfl, ?_⟩
  repeat' (first|refine Kd ?_|(refine Sh.sa hS ?_;clear hS;intro w hS)|(refine K3 ?_;clear hS;intro g w hS hge)|((first|refine GS ?_ ?_|refine VB ?_ ?_)<;>intro hb<;>(try simp only [J1,J2,J3,J4,J5,J6] at hb)<;>(try (exfalso;first|omega|exact hb trivial))))
  · rename j < l.length => hjl
    replace hS := (hS.focus (R := CR gr _ _ _ _) (by repeat (first | exact At.here | apply At.next))).focus (R := TpR r gx l j) (by repeat (first | exact At.here | apply At.next))
    refine Z.eff (Z.cl (request_z gx gr 1 3 _ l j c' r _ _ hS hok2.1 (by omega) (by omega)) rfl ?_) rfl
    clear hS
    rintro e w ⟨q, j2, rfl, hj2, hS⟩
    refine ⟨_, rfl, ?_⟩
    have hj2l : j2 ≤ l.length := hS.tape.le
    have hj2j := hj2.2 hjl
    repeat' (first|refine Kd ?_|(refine Sh.sa hS ?_;clear hS;intro w hS)|(refine K3 ?_;clear hS;intro g w hS hge)|((first|refine GS ?_ ?_|refine VB ?_ ?_)<;>intro hb<;>(try simp only [J1,J2,J3,J4,J5,J6] at hb)<;>(try (exfalso;first|omega|exact hb trivial))))
    rename Nat => g12
    replace hS := hS.fo (R := PC ga _ _ _ _)
    refine Z.eff (Z.cl (pclen_z ga 1 3 _ c _ _ _ hS) rfl ?_) rfl
    clear hS
    rintro e w ⟨rfl, hS⟩
    refine ⟨_, rfl, ?_⟩
    repeat' (first|refine Kd ?_|(refine Sh.sa hS ?_;clear hS;intro w hS)|(refine K3 ?_;clear hS;intro g w hS hge)|((first|refine GS ?_ ?_|refine VB ?_ ?_)<;>intro hb<;>(try simp only [J1,J2,J3,J4,J5,J6] at hb)<;>(try (exfalso;first|omega|exact hb trivial))))
    replace hS := (hS.focus (R := GP gga _) (by repeat (first | exact At.here | apply At.next))).focus (R := PC ga _ _ _ _) (by repeat (first | exact At.here | apply At.next))
    refine Z.eff (Z.cl (pexec_z ga gga 1 3 c G ve tk q _ _ _ hS hc hacc (by omega) (by omega)) rfl ?_) rfl
    clear hS
    rintro e w ⟨rfl, hS⟩
    refine ⟨_, rfl, ?_⟩
    repeat' (first|refine Kd ?_|(refine Sh.sa hS ?_;clear hS;intro w hS)|(refine K3 ?_;clear hS;intro g w hS hge)|((first|refine GS ?_ ?_|refine VB ?_ ?_)<;>intro hb<;>(try simp only [J1,J2,J3,J4,J5,J6] at hb)<;>(try (exfalso;first|omega|exact hb trivial))))
    replace hS := (hS.focus (R := GR ggr _) (by repeat (first | exact At.here | apply At.next))).focus (R := CR gr _ _ _ _) (by repeat (first | exact At.here | apply At.next))
    refine Z.eff (Z.cl (rexec_z gr ggr 1 3 c' G ve tk q _ _ _ hS hcw hacc (by omega) (by rw [hle]; omega)) rfl ?_) rfl
    clear hS
    rintro e w ⟨rfl, hS⟩
    refine ⟨_, rfl, ?_⟩
    rw [hRa] at hS ⊢
    have hab := accs_bd (G := G) (v := ve) (t := tk) hacc
    generalize accs G.ws ve tk 0 = acc at *
    obtain ⟨_, hr2⟩ := hr.ex hc 3 acc tk q
    obtain ⟨hc2, hl2⟩ := hc.ex 3 acc tk q
    have hba := ex_bare hc (ten := 3) (acc := acc) (tk := tk) (x := q) (by omega) _ rfl
    generalize (exR c' 3 acc tk q).c = c2' at *
    generalize (exP c 3 acc tk q).c = c2 at *
    repeat' (first|refine Kd ?_|(refine Sh.sa hS ?_;clear hS;intro w hS)|(refine K3 ?_;clear hS;intro g w hS hge)|((first|refine GS ?_ ?_|refine VB ?_ ?_)<;>intro hb<;>(try simp only [J1,J2,J3,J4,J5,J6] at hb)<;>(try (exfalso;first|omega|exact hb trivial))))
    replace hS := hS.fo (R := PC ga _ _ _ _)
    refine Z.eff (Z.cl (phist_z ga 1 3 _ c2 c.h.length _ _ _ hS (by omega)) rfl ?_) rfl
    clear hS
    rintro e w ⟨A3, c3, rfl, hS⟩
    refine ⟨_, rfl, ?_⟩
    rcases hba with hba | ⟨y, hba, _⟩
    · have hh : c2.h = c.h := by have := congrArg Cp.h hba; exact this
      rw [show histB c2.h c.h.length = [] from by unfold histB; rw [hh]; simp] at hS ⊢
      rw [← hba] at hS
      repeat' (first|refine Kd ?_|(refine Sh.sa hS ?_;clear hS;intro w hS)|(refine K3 ?_;clear hS;intro g w hS hge)|((first|refine GS ?_ ?_|refine VB ?_ ?_)<;>intro hb<;>(try simp only [J1,J2,J3,J4,J5,J6] at hb)<;>(try (exfalso;first|omega|exact hb trivial))))
      replace hS := (hS.focus (R := PC gb _ _ _ _) (by repeat (first | exact At.here | apply At.next))).focus (R := PC ga _ _ _ _) (by repeat (first | exact At.here | apply At.next))
      refine Z.eff (Z.cl (pcsame_z ga gb 1 3 2 3 _ _ c2 (bare c2) _ _ _ hS (by omega) (show c2.h.length ≤ 5000 by omega)) rfl ?_) rfl
      clear hS
      rintro e w ⟨rfl, hS⟩
      refine ⟨_, rfl, ?_⟩
      rw [show decide ((3 : Int) = 3 ∧ c2.h = (bare c2).h) = true from by simp [bare]]
      repeat' (first|refine Kd ?_|(refine Sh.sa hS ?_;clear hS;intro w hS)|(refine K3 ?_;clear hS;intro g w hS hge)|((first|refine GS ?_ ?_|refine VB ?_ ?_)<;>intro hb<;>(try simp only [J1,J2,J3,J4,J5,J6] at hb)<;>(try (exfalso;first|omega|exact hb trivial))))
      replace hS := hS.swap
      refine Z.eff (Z.cl (pcsame_z gb ga 2 3 1 3 _ _ (bare c2) c2 _ _ _ hS (show c2.h.length ≤ 5000 by omega) (by omega)) rfl ?_) rfl
      clear hS
      rintro e w ⟨rfl, hS⟩
      refine ⟨_, rfl, ?_⟩
      rw [show decide ((3 : Int) = 3 ∧ (bare c2).h = c2.h) = true from by simp [bare]]
      repeat' (first|refine Kd ?_|(refine Sh.sa hS ?_;clear hS;intro w hS)|(refine K3 ?_;clear hS;intro g w hS hge)|((first|refine GS ?_ ?_|refine VB ?_ ?_)<;>intro hb<;>(try simp only [J1,J2,J3,J4,J5,J6] at hb)<;>(try (exfalso;first|omega|exact hb trivial))))
      refine Sh.again (l.length - j2) [] ?_
      exact ⟨c2, c2', j2, rfl, hc2, hr2, by omega, hj2l, rfl, hS.sb⟩
    · have hh : c2.h = c.h ++ [y] := by
        obtain ⟨_, _, _, _, _, _, e⟩ := cApp_ok (by rw [hba] : (cApp (bare c) y).2 = 0)
        rw [hba] at e
        have := congrArg Cp.h e
        exact this
      rw [show histB c2.h c.h.length = [y] from by unfold histB; rw [hh]; simp, show [y].length = 1 from rfl] at hS ⊢
      obtain ⟨gb3, o3, rfl, _, hra⟩ := (hS.slrows (e := 49) (v := .slice A3 1 c3) (by repeat (first | exact At.here | apply At.next))).mat (by omega) (q := 0) (by simp)
      replace hra : World.rangeAt _ gb3 (o3 + 0 * 8) y.cells := hra
      repeat' (first|refine Kd ?_|(refine Sh.sa hS ?_;clear hS;intro w hS)|(refine K3 ?_;clear hS;intro g w hS hge)|((first|refine GS ?_ ?_|refine VB ?_ ?_)<;>intro hb<;>(try simp only [J1,J2,J3,J4,J5,J6] at hb)<;>(try (exfalso;first|omega|exact hb trivial))))
      replace hS := hS.fo (R := PC gb _ _ _ _)
      refine Z.eff (Z.cl (pcapply_z gb 2 3 _ (bare c) y _ _ _ hS hc.good.cok (show c.h.length ≤ 4500 by omega)) rfl ?_) rfl
      clear hS
      rintro e w ⟨rfl, hS⟩
      refine ⟨_, rfl, ?_⟩
      rw [hba] at hS ⊢
      have hra2 : World.rangeAt _ gb3 (o3 + 0 * 8) y.cells := (hS.slrows (e := 49) (v := .slice (some ⟨gb3, o3, .none⟩) 1 c3) (by repeat (first | exact At.here | apply At.next))).elem (by omega) (q := 0) (by simp)
      repeat' (first|refine Kd ?_|(refine Sh.sa hS ?_;clear hS;intro w hS)|(refine K3 ?_;clear hS;intro g w hS hge)|((first|refine GS ?_ ?_|refine VB ?_ ?_)<;>intro hb<;>(try simp only [J1,J2,J3,J4,J5,J6] at hb)<;>(try (exfalso;first|omega|exact hb trivial))))
      refine Z.eff (Z.cl (pcapply_z gb 2 3 _ (bare c2) y _ _ _ hS hc2.good.cok (show c2.h.length ≤ 4500 by omega)) rfl ?_) rfl
      clear hS
      rintro e w ⟨rfl, hS⟩
      refine ⟨_, rfl, ?_⟩
      rw [app_twice hba] at hS ⊢
      repeat' (first|refine Kd ?_|(refine Sh.sa hS ?_;clear hS;intro w hS)|(refine K3 ?_;clear hS;intro g w hS hge)|((first|refine GS ?_ ?_|refine VB ?_ ?_)<;>intro hb<;>(try simp only [J1,J2,J3,J4,J5,J6] at hb)<;>(try (exfalso;first|omega|exact hb trivial))))
      replace hS := (hS.focus (R := PC gb _ _ _ _) (by repeat (first | exact At.here | apply At.next))).focus (R := PC ga _ _ _ _) (by repeat (first | exact At.here | apply At.next))
      refine Z.eff (Z.cl (pcsame_z ga gb 1 3 2 3 _ _ c2 (bare c2) _ _ _ hS (by omega) (show c2.h.length ≤ 5000 by omega)) rfl ?_) rfl
      clear hS
      rintro e w ⟨rfl, hS⟩
      refine ⟨_, rfl, ?_⟩
      rw [show decide ((3 : Int) = 3 ∧ c2.h = (bare c2).h) = true from by simp [bare]]
      repeat' (first|refine Kd ?_|(refine Sh.sa hS ?_;clear hS;intro w hS)|(refine K3 ?_;clear hS;intro g w hS hge)|((first|refine GS ?_ ?_|refine VB ?_ ?_)<;>intro hb<;>(try simp only [J1,J2,J3,J4,J5,J6] at hb)<;>(try (exfalso;first|omega|exact hb trivial))))
      replace hS := hS.swap
      refine Z.eff (Z.cl (pcsame_z gb ga 2 3 1 3 _ _ (bare c2) c2 _ _ _ hS (show c2.h.length ≤ 5000 by omega) (by omega)) rfl ?_) rfl
      clear hS
      rintro e w ⟨rfl, hS⟩
      refine ⟨_, rfl, ?_⟩
      rw [show decide ((3 : Int) = 3 ∧ (bare c2).h = c2.h) = true from by simp [bare]]
      repeat' (first|refine Kd ?_|(refine Sh.sa hS ?_;clear hS;intro w hS)|(refine K3 ?_;clear hS;intro g w hS hge)|((first|refine GS ?_ ?_|refine VB ?_ ?_)<;>intro hb<;>(try simp only [J1,J2,J3,J4,J5,J6] at hb)<;>(try (exfalso;first|omega|exact hb trivial))))
      refine Sh.again (l.length - j2) [] ?_
      exact ⟨c2, c2', j2, rfl, hc2, hr2, by omega, hj2l, rfl, hS.sb⟩
  · replace hS := hS.sub (L' := PC ga 1 3 (.pointer (some ⟨gga, 0, .none⟩)) c :: GP gga G :: CR gr 1 3 (.pointer (some ⟨ggr, 0, .none⟩)) c' :: GR ggr G :: []) (by repeat (first | exact Sub.rest | exact Sub.nil | exact .skip .rest | exact .skip (.skip .rest) | exact .skip (.skip (.skip .rest)) | apply Sub.keep | refine Sub.cons (by repeat (first | exact At.here | apply At.next)) ?_ | apply Sub.skip))
    refine Z.eff (Z.cl (same28_z ga gga gr ggr 1 3 1 3 c c' G G _ _ _ hS hc hr rfl (by omega)) rfl ?_) rfl
    clear hS
    rintro e w ⟨rfl, hS⟩
    refine ⟨_, rfl, ?_⟩
    repeat' (first|refine Kd ?_|(refine Sh.sa hS ?_;clear hS;intro w hS)|(refine K3 ?_;clear hS;intro g w hS hge)|((first|refine GS ?_ ?_|refine VB ?_ ?_)<;>intro hb<;>(try simp only [J1,J2,J3,J4,J5,J6] at hb)<;>(try (exfalso;first|omega|exact hb trivial))))
    refine Dnt Tryz.results7 ?_
    exact ⟨rfl, hS.chg⟩
set_option maxRecDepth 100000 in
theorem cellAgrees_lifted (os : Os) (started : os.Started) (H : Type) (enc : TypeId × Value → H) :
    ReturnsInHanded {} Tryz.checked os 7 .any (Rows.cellAgreesSpec.pre6 enc Tryz.prog Tryz.f7 Rows.cellAgreesRow.domain false) (Rows.cellAgreesSpec.post enc Tryz.prog Tryz.f7 false Rows.cellAgreesRow.fresh Rows.cellAgreesRow.handsOn Rows.cellAgreesRow.again) := by
  refine returnsInHanded_of_change (C := Tryz.checked) Tryz.own started (by kernel_rfl) Tryz.func7
    (ChangeSpec.witness6 (enc := enc) (C := Tryz.checked) false ⟨#[], #[.slice none 0 0, .int .i64 0, .int .i64 0], []⟩ 8 (by kernel_rfl) (by kernel_rfl) (by kernel_rfl) (by kernel_rfl)) ?_
  intro W base args ds gs before hval0 hW _ _
  have hval : ∀ (j : Nat) t v, Tryz.f7.params[j]? = some t → args[j]? = some v → Value.okWide Tryz.prog W .any base t v := hval0
  have hW0 := hW
  obtain ⟨p, q, hA0, hV, hpq, _, _⟩ := hW
  obtain ⟨la⟩ := args
  have hA : DataW.TrodAll enc Tryz.prog W 0 (fun _ => true) true [24, 3, 3] la ds p := by have := hA0; rw [Tryz.params7] at this; exact this
  rw [Tryz.params7] at hval
  obtain ⟨v0, la0, d0, ds0, p0, q0, rfl, rfl, rfl, h0, hA⟩ := trodAll_cons hA
  obtain ⟨v1, la1, d1, ds1, p1, q1, rfl, rfl, rfl, h1, hA⟩ := trodAll_cons hA
  obtain ⟨v2, la2, d2, ds2, p2, q2, rfl, rfl, rfl, h2, hA⟩ := trodAll_cons hA
  obtain ⟨rfl, rfl, rfl⟩ := trodAll_nil hA
  obtain ⟨l0, A0, cap0, rfl, hr0⟩ := arg_ints (hval 0 _ _ rfl rfl) h0
  obtain ⟨z1, rfl, hr1⟩ := arg_int (hval 1 _ _ rfl rfl) h1
  obtain ⟨z2, rfl, hr2⟩ := arg_int (hval 2 _ _ rfl rfl) h2
  have fin : Calls Tryz.prog 7 _ W fun e W' => e = .returned (.bool true) ∧ Chg [] W W' := agrees_z l0 A0 cap0 z1 z2 W hr0 hr1 hr2
  refine fin.mono fun e W' ⟨he, hc⟩ => ⟨_, he, ?_⟩
  exact law_post Tryz.laidOut (by rw [Tryz.params7]; intro t ht; simp only [List.mem_cons, List.not_mem_nil, or_false] at ht; rcases ht with rfl | rfl | rfl <;> exact ⟨by kernel_rfl, of_decide_eq_true (by kernel_rfl)⟩) rfl rfl Tryz.underlying4 rfl hW0 hc.below
theorem cellAgrees_holds : Rows.CellAgreesSaid :=
  OpenClaim.holds_of_wide 7 Tryz.f7 rfl rfl rfl rfl rfl rfl rfl ⟨rfl, rfl, rfl, rfl, rfl⟩ rfl rfl rfl rfl rfl (by kernel_rfl) Tryz.func7 (by kernel_rfl)
    (of_decide_eq_true (by kernel_rfl)) (by unfold Func.isWrapper; rw [if_neg (of_decide_eq_false (by kernel_rfl))]; exact ⟨rfl, rfl⟩)
    (fun os started H enc _ => cellAgrees_lifted os started H enc)
end Go.Proofs.YtahackdfjcgkhaaGreat
