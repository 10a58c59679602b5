/-
  The acts that are made out of a tape, and whether acts are short enough.
-/
import Derived.Test.YtahackdfjcgkhaaGreatYd
import Derived.Test.YtahackdfjcgkhaaGreatNDo
import Derived.Test.YtahackdfjcgkhaaGreatNRq
import Derived.Test.YtahackdfjcgkhaaGreatEX
import Derived.Test.YtahackdfjcgkhaaGreatML
namespace Go.Proofs.YtahackdfjcgkhaaGreat
open Go.RowKit
set_option linter.unusedSimpArgs false
set_option linter.unusedVariables false
attribute [local irreducible] Res.blk Res.sl Res.all Res.ex Res.pure Res.star

theorem mkChange_ge (l : List Int) (i : Nat) (c : Cp) (ep : Int) : i ≤ (mkChange l i c ep).2 := by
  have h1 := adv_ge l i
  have h2 := adv_ge l (adv l i)
  have h3 := adv_ge l (adv l (adv l i))
  have h4 := textAdv_ge l (adv l (adv l i)) 1 16
  have h5 := textAdv_ge l (textAdv l (adv l (adv l i)) 1 16) 0 64
  have h6 := textAdv_ge l (adv l (adv l i)) 0 64
  unfold mkChange
  dsimp only
  repeat' split
  all_goals (simp only; omega)
theorem rangeN_z (lo hi : Int) {r w : World} {g i : Nat} {l : List Int} {F : List Res} (hS : Sep r [] (TpR r g l i :: F) w) (h0 : -1000 ≤ lo) (h1 : lo ≤ hi) (h2 : hi ≤ 100000) :
    Calls Tryz.prog 56 #[.pointer (some ⟨g, 0, none⟩), .int .i64 lo, .int .i64 hi] w fun e w' => e = .returned (.int .i64 (lo + nxt l i (hi - lo + 1))) ∧ Sep r [] (TpR r g l (adv l i) :: F) w' := by
  have hb := nxt_bd l i (hi - lo + 1) (by omega)
  refine Z.enter Tryz.func56 Tryz.ntmps56 rfl rfl ?_
  repeat' (first|refine Kd ?_|(refine Sh.sa hS ?_;clear hS;intro w hS)|(refine K3 ?_;clear hS;intro g w hS hge)|((first|refine GS ?_ ?_|refine VB ?_ ?_)<;>intro hb<;>(try simp only [J1,J2,J3,J4,J5,J6] at hb)<;>(try (exfalso;first|omega|exact hb trivial))))
  refine Z.eff (Z.cl (next_z (hi - lo + 1) hS (by omega) (by omega)) rfl ?_) rfl
  clear hS
  rintro e w ⟨rfl, hS⟩
  refine ⟨_, rfl, ?_⟩
  repeat' (first|refine Kd ?_|(refine Sh.sa hS ?_;clear hS;intro w hS)|(refine K3 ?_;clear hS;intro g w hS hge)|((first|refine GS ?_ ?_|refine VB ?_ ?_)<;>intro hb<;>(try simp only [J1,J2,J3,J4,J5,J6] at hb)<;>(try (exfalso;first|omega|exact hb trivial))))
  refine Dnt Tryz.results56 ?_
  exact ⟨rfl, hS⟩
set_option maxHeartbeats 1000000 in
theorem window8_z (gt : Nat) (l : List Int) (i : Nat) (cell : Int) (r : World) (F : List Res) (w : World) (hS : Sep r [] (TpR r gt l i :: F) w) :
    Calls Tryz.prog 109 #[.pointer (some ⟨gt, 0, none⟩), .int .i64 cell] w fun e w' => ∃ (x : Wi) (j : Nat), e = .returned x.val ∧ small x ∧ i ≤ j ∧ Sep r [] (TpR r gt l j :: F) w' := by
  refine Z.enter Tryz.func109 Tryz.ntmps109 rfl rfl ?_
  repeat' (first|refine Kd ?_|(refine Sh.sa hS ?_;clear hS;intro w hS)|(refine K3 ?_;clear hS;intro g w hS hge)|((first|refine GS ?_ ?_|refine VB ?_ ?_)<;>intro hb<;>(try simp only [J1,J2,J3,J4,J5,J6] at hb)<;>(try (exfalso;first|omega|exact hb trivial))))
  replace hS := hS.fo (R := TpR r gt l _)
  refine Z.eff (Z.cl (next_z 30 hS (by omega) (by omega)) rfl ?_) rfl
  clear hS
  rintro e w ⟨rfl, hS⟩
  refine ⟨_, rfl, ?_⟩
  have h1 := nxt_bd l i 30 (by omega)
  repeat' (first|refine Kd ?_|(refine Sh.sa hS ?_;clear hS;intro w hS)|(refine K3 ?_;clear hS;intro g w hS hge)|((first|refine GS ?_ ?_|refine VB ?_ ?_)<;>intro hb<;>(try simp only [J1,J2,J3,J4,J5,J6] at hb)<;>(try (exfalso;first|omega|exact hb trivial))))
  refine Z.eff (Z.cl (range_z 1 5 hS (by omega) (by omega) (by omega)) rfl ?_) rfl
  clear hS
  rintro e w ⟨rfl, hS⟩
  refine ⟨_, rfl, ?_⟩
  have h2 := nxt_bd l (adv l i) (5 - 1 + 1) (by omega)
  repeat' (first|refine Kd ?_|(refine Sh.sa hS ?_;clear hS;intro w hS)|(refine K3 ?_;clear hS;intro g w hS hge)|((first|refine GS ?_ ?_|refine VB ?_ ?_)<;>intro hb<;>(try simp only [J1,J2,J3,J4,J5,J6] at hb)<;>(try (exfalso;first|omega|exact hb trivial))))
  refine Z.eff (Z.cl (next_z 2 hS (by omega) (by omega)) rfl ?_) rfl
  clear hS
  rintro e w ⟨rfl, hS⟩
  refine ⟨_, rfl, ?_⟩
  have h3 := nxt_bd l (adv l (adv l i)) 2 (by omega)
  repeat' (first|refine Kd ?_|(refine Sh.sa hS ?_;clear hS;intro w hS)|(refine K3 ?_;clear hS;intro g w hS hge)|((first|refine GS ?_ ?_|refine VB ?_ ?_)<;>intro hb<;>(try simp only [J1,J2,J3,J4,J5,J6] at hb)<;>(try (exfalso;first|omega|exact hb trivial))))
  refine Z.eff (Z.cl (range_z 1 15 hS (by omega) (by omega) (by omega)) rfl ?_) rfl
  clear hS
  rintro e w ⟨rfl, hS⟩
  refine ⟨_, rfl, ?_⟩
  have h4 := nxt_bd l (adv l (adv l (adv l i))) (15 - 1 + 1) (by omega)
  have k1 := adv_ge l i
  have k2 := adv_ge l (adv l i)
  have k3 := adv_ge l (adv l (adv l i))
  have k4 := adv_ge l (adv l (adv l (adv l i)))
  generalize nxt l i 30 = a1 at *
  generalize nxt l (adv l i) (5 - 1 + 1) = a2 at *
  generalize nxt l (adv l (adv l i)) 2 = a3 at *
  generalize nxt l (adv l (adv l (adv l i))) (15 - 1 + 1) = a4 at *
  repeat' (first|refine Kd ?_|(refine Sh.sa hS ?_;clear hS;intro w hS)|(refine K3 ?_;clear hS;intro g w hS hge)|((first|refine GS ?_ ?_|refine VB ?_ ?_)<;>intro hb<;>(try simp only [J1,J2,J3,J4,J5,J6] at hb)<;>(try (exfalso;first|omega|exact hb trivial))))
  refine Dnc Tryz.results109 ?_
  exact ⟨⟨cell, 1 + a2, a3, a1, a1 + (1 + a4)⟩, adv l (adv l (adv l (adv l i))), rfl, by unfold small; simp only; omega, by omega, hS.sb⟩

def chZ : Ch := ⟨0, 0, 0, 0, 0, 0, ⟨#[]⟩, ⟨#[]⟩⟩
def wiZ : Wi := ⟨0, 0, 0, 0, 0⟩
set_option maxRecDepth 10000 in
set_option maxHeartbeats 8000000 in
theorem next28_z (ga gr : Nat) (cell ten : Int) (vg : Value) (l : List Int) (i : Nat) (c : Cp) (r : World) (F : List Res) (w : World) (hS : Sep r [] (TpR r ga l i :: CR gr cell ten vg c :: F) w) (hc : CW c) (hl : c.h.length ≤ 4000) (hce : epochOf c.h ≤ 2000000) :
    Calls Tryz.prog 53 #[.pointer (some ⟨ga, 0, none⟩), .pointer (some ⟨gr, 0, none⟩)] w fun e w' => ∃ (a : A8) (j : Nat), e = .returned a.val ∧ On l i j ∧ Sep r [] (TpR r ga l j :: CR gr cell ten vg c :: F) w' := by
  have hok := hc.ok
  refine Z.enter Tryz.func53 Tryz.ntmps53 rfl rfl ?_
  repeat' (first|refine Kd ?_|(refine Sh.sa hS ?_;clear hS;intro w hS)|(refine K3 ?_;clear hS;intro g w hS hge)|((first|refine GS ?_ ?_|refine VB ?_ ?_)<;>intro hb<;>(try simp only [J1,J2,J3,J4,J5,J6] at hb)<;>(try (exfalso;first|omega|exact hb trivial))))
  rename Nat => g4
  obtain ⟨vh, gs, gq, gt, vs, vl, vr, hS⟩ := Sep.CR_open.1 (hS.focus (R := CR gr _ _ _ _) (by repeat (first | exact At.here | apply At.next)))
  refine Z.cut [5, 6, 7, 8, 9, 10, 11, 12, 13, 14, 15, 16] (fun w s => ∃ (g5 : Nat) (k t : Int) (W : Wi) (j : Nat), s = [(5, .pointer (some ⟨g5, 0, none⟩))] ∧ small W ∧ On l i j ∧ Sep r [] (.blk g5 89 (⟨k, 0, t, .zero, chZ, W⟩ : A8).cells :: .blk g4 89 (⟨0, 0, 0, .zero, chZ, wiZ⟩ : A8).cells :: TpR r ga l j :: .blk gr 69 [.int .i64 cell, .int .i64 ten, vh, .pointer (some ⟨gs, 0, none⟩), .pointer (some ⟨gq, 0, none⟩), .pointer (some ⟨gt, 0, none⟩), vg] :: .sl 49 8 vh (c.h.map Ch.cells) :: .blk gs 100 [vs] :: .sl 102 3 vs (c.s.map Ce.cells) :: .blk gq 105 [vl, vr, .int .i64 c.q.most] :: .sl 79 2 vl (c.q.l.map It.cells) :: .sl 133 4 vr (c.q.r.map Le.cells) :: .blk gt 109 c.t.cells.toList :: F) w) ?_ ?_
  · refine D.startS (Lr := (.blk gr 69 [.int .i64 cell, .int .i64 ten, vh, .pointer (some ⟨gs, 0, none⟩), .pointer (some ⟨gq, 0, none⟩), .pointer (some ⟨gt, 0, none⟩), vg] :: .sl 49 8 vh (c.h.map Ch.cells) :: .blk gs 100 [vs] :: .sl 102 3 vs (c.s.map Ce.cells) :: .blk gq 105 [vl, vr, .int .i64 c.q.most] :: .sl 79 2 vl (c.q.l.map It.cells) :: .sl 133 4 vr (c.q.r.map Le.cells) :: .blk gt 109 c.t.cells.toList :: F)) (hS.sb) 12 13 (by kernel_rfl) rfl ?_
    replace hS := hS.drew
    refine Sh.dp 0 1 ?_
    refine Sh.dp 2 5 ?_
    refine Sh.dp 4 21 ?_
    refine Sh.dp 5 53 ?_
    refine Sh.dp 6 117 ?_
    refine Sh.dp 7 245 ?_
    refine Sh.dl 8 501 ?_
    refine D.each [1, 11] (by kernel_rfl) rfl ?_
    refine D.econs 1 503 rfl D.wantedN (by kernel_rfl) (fun _ _ h => h) ?_ ?_
    · replace hS := hS.fo (R := TpR r ga l _)
      refine Z.cl (next_z 14 hS (by omega) (by omega)) rfl ?_
      clear hS
      rintro e w ⟨rfl, hS⟩
      refine ⟨_, rfl, ?_⟩
      refine ⟨HM.s (hS.sb), ?_⟩
      refine D.each [3, 11] (by kernel_rfl) rfl ?_
      refine D.econs 3 511 rfl D.wantedN (by kernel_rfl) (fun _ _ h => h) ?_ ?_
      · replace hS := hS.fo (R := TpR r ga l _)
        refine Z.cl (next_z 40 hS (by omega) (by omega)) rfl ?_
        clear hS
        rintro e w ⟨rfl, hS⟩
        refine ⟨_, rfl, ?_⟩
        refine ⟨HM.s (hS.sb), ?_⟩
        refine D.each [9, 11] (by kernel_rfl) rfl ?_
        refine D.econs 9 1023 rfl D.wantedN (by kernel_rfl) (fun _ _ h => h) ?_ ?_
        · replace hS := hS.fo (R := TpR r ga l _)
          refine Z.cl (window8_z ga l _ cell _ _ _ hS) rfl ?_
          clear hS
          rintro e w ⟨W, j, rfl, hW, hj, hS⟩
          refine ⟨_, rfl, ?_⟩
          refine ⟨HM.s (hS.sb), ?_⟩
          first | refine D.bu 10 2047 rfl D.wantedN (by kernel_rfl) rfl rfl ?_ | refine D.buA 10 2047 rfl D.wantedN (by kernel_rfl) rfl rfl ?_
          refine D.eff 11 4095 rfl D.wantedN (by kernel_rfl) (by kernel_rfl) (fun _ _ h => h) ?_
          refine Z.al hS ?_
          clear hS; intro g w hS hge
          refine ⟨HM.s (hS.sb), ?_⟩
          refine D.eff 12 8191 rfl D.wantedN (by kernel_rfl) (by kernel_rfl) (fun _ _ h => h) ?_
          refine Z.st hS rfl (by repeat (first | exact At.here | apply At.next)) rfl rfl ?_
          clear hS; intro w hS
          refine ⟨HM.last (by kernel_rfl), ?_⟩
          refine D.done (by kernel_rfl) ?_
          refine Sh.cut [(5, _)] ?_
          exact ⟨_, nxt l i 14, nxt l (adv l i) 40, W, j, rfl, hW, (On.adv.refl_of (adv_ge l (adv l i))).refl_of hj, hS.sb⟩
        refine D.econs 11 2559 rfl D.wantedN (by kernel_rfl) (fun _ _ h => h) ?_ ?_
        · refine Z.al hS ?_
          clear hS; intro g w hS hge
          refine ⟨HM.s (hS.sb), ?_⟩
          refine D.eff 9 3071 rfl D.wantedN (by kernel_rfl) (by kernel_rfl) (fun _ _ h => h) ?_
          replace hS := hS.fo (R := TpR r ga l _)
          refine Z.cl (window8_z ga l _ cell _ _ _ hS) rfl ?_
          clear hS
          rintro e w ⟨W, j, rfl, hW, hj, hS⟩
          refine ⟨_, rfl, ?_⟩
          refine ⟨HM.s (hS.sb), ?_⟩
          first | refine D.bu 10 4095 rfl D.wantedN (by kernel_rfl) rfl rfl ?_ | refine D.buA 10 4095 rfl D.wantedN (by kernel_rfl) rfl rfl ?_
          refine D.eff 12 8191 rfl D.wantedN (by kernel_rfl) (by kernel_rfl) (fun _ _ h => h) ?_
          refine Z.st hS rfl (by repeat (first | exact At.here | apply At.next)) rfl rfl ?_
          clear hS; intro w hS
          refine ⟨HM.last (by kernel_rfl), ?_⟩
          refine D.done (by kernel_rfl) ?_
          refine Sh.cut [(5, _)] ?_
          exact ⟨_, nxt l i 14, nxt l (adv l i) 40, W, j, rfl, hW, (On.adv.refl_of (adv_ge l (adv l i))).refl_of hj, hS.sb⟩
        exact D.enil
      refine D.econs 11 2551 rfl D.wantedN (by kernel_rfl) (fun _ _ h => h) ?_ ?_
      · refine Z.al hS ?_
        clear hS; intro g w hS hge
        refine ⟨HM.s (hS.sb), ?_⟩
        refine D.eff 3 2559 rfl D.wantedN (by kernel_rfl) (by kernel_rfl) (fun _ _ h => h) ?_
        replace hS := hS.fo (R := TpR r ga l _)
        refine Z.cl (next_z 40 hS (by omega) (by omega)) rfl ?_
        clear hS
        rintro e w ⟨rfl, hS⟩
        refine ⟨_, rfl, ?_⟩
        refine ⟨HM.s (hS.sb), ?_⟩
        refine D.eff 9 3071 rfl D.wantedN (by kernel_rfl) (by kernel_rfl) (fun _ _ h => h) ?_
        replace hS := hS.fo (R := TpR r ga l _)
        refine Z.cl (window8_z ga l _ cell _ _ _ hS) rfl ?_
        clear hS
        rintro e w ⟨W, j, rfl, hW, hj, hS⟩
        refine ⟨_, rfl, ?_⟩
        refine ⟨HM.s (hS.sb), ?_⟩
        first | refine D.bu 10 4095 rfl D.wantedN (by kernel_rfl) rfl rfl ?_ | refine D.buA 10 4095 rfl D.wantedN (by kernel_rfl) rfl rfl ?_
        refine D.eff 12 8191 rfl D.wantedN (by kernel_rfl) (by kernel_rfl) (fun _ _ h => h) ?_
        refine Z.st hS rfl (by repeat (first | exact At.here | apply At.next)) rfl rfl ?_
        clear hS; intro w hS
        refine ⟨HM.last (by kernel_rfl), ?_⟩
        refine D.done (by kernel_rfl) ?_
        refine Sh.cut [(5, _)] ?_
        exact ⟨_, nxt l i 14, nxt l (adv l i) 40, W, j, rfl, hW, (On.adv.refl_of (adv_ge l (adv l i))).refl_of hj, hS.sb⟩
      exact D.enil
    refine D.econs 11 2549 rfl D.wantedN (by kernel_rfl) (fun _ _ h => h) ?_ ?_
    · refine Z.al hS ?_
      clear hS; intro g w hS hge
      refine ⟨HM.s (hS.sb), ?_⟩
      refine D.eff 1 2551 rfl D.wantedN (by kernel_rfl) (by kernel_rfl) (fun _ _ h => h) ?_
      replace hS := hS.fo (R := TpR r ga l _)
      refine Z.cl (next_z 14 hS (by omega) (by omega)) rfl ?_
      clear hS
      rintro e w ⟨rfl, hS⟩
      refine ⟨_, rfl, ?_⟩
      refine ⟨HM.s (hS.sb), ?_⟩
      refine D.eff 3 2559 rfl D.wantedN (by kernel_rfl) (by kernel_rfl) (fun _ _ h => h) ?_
      replace hS := hS.fo (R := TpR r ga l _)
      refine Z.cl (next_z 40 hS (by omega) (by omega)) rfl ?_
      clear hS
      rintro e w ⟨rfl, hS⟩
      refine ⟨_, rfl, ?_⟩
      refine ⟨HM.s (hS.sb), ?_⟩
      refine D.eff 9 3071 rfl D.wantedN (by kernel_rfl) (by kernel_rfl) (fun _ _ h => h) ?_
      replace hS := hS.fo (R := TpR r ga l _)
      refine Z.cl (window8_z ga l _ cell _ _ _ hS) rfl ?_
      clear hS
      rintro e w ⟨W, j, rfl, hW, hj, hS⟩
      refine ⟨_, rfl, ?_⟩
      refine ⟨HM.s (hS.sb), ?_⟩
      first | refine D.bu 10 4095 rfl D.wantedN (by kernel_rfl) rfl rfl ?_ | refine D.buA 10 4095 rfl D.wantedN (by kernel_rfl) rfl rfl ?_
      refine D.eff 12 8191 rfl D.wantedN (by kernel_rfl) (by kernel_rfl) (fun _ _ h => h) ?_
      refine Z.st hS rfl (by repeat (first | exact At.here | apply At.next)) rfl rfl ?_
      clear hS; intro w hS
      refine ⟨HM.last (by kernel_rfl), ?_⟩
      refine D.done (by kernel_rfl) ?_
      refine Sh.cut [(5, _)] ?_
      exact ⟨_, nxt l i 14, nxt l (adv l i) 40, W, j, rfl, hW, (On.adv.refl_of (adv_ge l (adv l i))).refl_of hj, hS.sb⟩
    exact D.enil
  clear hS
  rintro q1 w _ ⟨g5, k, t, W, j, rfl, hW, hj, hS⟩
  replace hS := Sep.CR_open.2 ⟨vh, gs, gq, gt, vs, vl, vr, hS.sub (L' := .blk gr 69 [.int .i64 cell, .int .i64 ten, vh, .pointer (some ⟨gs, 0, none⟩), .pointer (some ⟨gq, 0, none⟩), .pointer (some ⟨gt, 0, none⟩), vg] :: .sl 49 8 vh (c.h.map Ch.cells) :: .blk gs 100 [vs] :: .sl 102 3 vs (c.s.map Ce.cells) :: .blk gq 105 [vl, vr, .int .i64 c.q.most] :: .sl 79 2 vl (c.q.l.map It.cells) :: .sl 133 4 vr (c.q.r.map Le.cells) :: .blk gt 109 c.t.cells.toList :: TpR r ga l j :: .blk g5 89 (⟨k, 0, t, .zero, chZ, W⟩ : A8).cells :: .blk g4 89 (⟨0, 0, 0, .zero, chZ, wiZ⟩ : A8).cells :: F) (by repeat (first | exact Sub.rest | exact Sub.nil | exact .skip .rest | exact .skip (.skip .rest) | exact .skip (.skip (.skip .rest)) | apply Sub.keep | refine Sub.cons (by repeat (first | exact At.here | apply At.next)) ?_ | apply Sub.skip))⟩
  repeat' (first|refine Kd ?_|(refine Sh.sa hS ?_;clear hS;intro w hS)|(refine K3 ?_;clear hS;intro g w hS hge)|((first|refine GS ?_ ?_|refine VB ?_ ?_)<;>intro hb<;>(try simp only [J1,J2,J3,J4,J5,J6] at hb)<;>(try (exfalso;first|omega|exact hb trivial))))
  replace hS := hS.fo (R := TpR r ga l _)
  refine Z.eff (Z.cl (request_z ga gr cell ten vg l j c r _ _ hS hok.1 (by omega) (by omega)) rfl ?_) rfl
  clear hS
  rintro e w ⟨q, j2, rfl, hj2, hS⟩
  refine ⟨_, rfl, ?_⟩
  replace hj := hj.refl_of hj2.1
  clear hj2
  repeat' (first|refine Kd ?_|(refine Sh.sa hS ?_;clear hS;intro w hS)|(refine K3 ?_;clear hS;intro g w hS hge)|((first|refine GS ?_ ?_|refine VB ?_ ?_)<;>intro hb<;>(try simp only [J1,J2,J3,J4,J5,J6] at hb)<;>(try (exfalso;first|omega|exact hb trivial))))
  replace hS := hS.fo (R := CR gr _ _ _ _)
  refine Z.eff (Z.cl (rcepoch_z gr cell ten vg c _ _ _ hS (by omega)) rfl ?_) rfl
  clear hS
  rintro e w ⟨rfl, hS⟩
  refine ⟨_, rfl, ?_⟩
  repeat' (first|refine Kd ?_|(refine Sh.sa hS ?_;clear hS;intro w hS)|(refine K3 ?_;clear hS;intro g w hS hge)|((first|refine GS ?_ ?_|refine VB ?_ ?_)<;>intro hb<;>(try simp only [J1,J2,J3,J4,J5,J6] at hb)<;>(try (exfalso;first|omega|exact hb trivial))))
  replace hS := hS.fo (R := TpR r ga l _)
  refine Z.eff (Z.cl (next_z 2 hS (by omega) (by omega)) rfl ?_) rfl
  clear hS
  rintro e w ⟨rfl, hS⟩
  refine ⟨_, rfl, ?_⟩
  have hb2 := nxt_bd l j2 2 (by omega)
  replace hj := hj.refl_of (adv_ge l j2)
  repeat' (first|refine Kd ?_|(refine Sh.sa hS ?_;clear hS;intro w hS)|(refine K3 ?_;clear hS;intro g w hS hge)|((first|refine GS ?_ ?_|refine VB ?_ ?_)<;>intro hb<;>(try simp only [J1,J2,J3,J4,J5,J6] at hb)<;>(try (exfalso;first|omega|exact hb trivial))))
  replace hS := (hS.focus (R := CR gr _ _ _ _) (by repeat (first | exact At.here | apply At.next))).focus (R := TpR r ga l _) (by repeat (first | exact At.here | apply At.next))
  refine Z.eff (Z.cl (change_z ga gr cell ten vg l _ c _ r _ _ hS hok.1 (by omega) (by omega) (by omega)) rfl ?_) rfl
  clear hS
  rintro e w ⟨rfl, hS⟩
  refine ⟨_, rfl, ?_⟩
  replace hj := hj.refl_of (mkChange_ge l (adv l j2) c (max 1 (epochOf c.h) + nxt l j2 2))
  generalize mkChange l (adv l j2) c (max 1 (epochOf c.h) + nxt l j2 2) = X at *
  obtain ⟨x, j3⟩ := X
  simp only at hj hS ⊢
  unfold small at hW
  obtain ⟨vh, gs, gq, gt, vs, vl, vr, hS⟩ := Sep.CR_open.1 (hS.focus (R := CR gr _ _ _ _) (by repeat (first | exact At.here | apply At.next)))
  obtain ⟨Ah, ch, rfl, _⟩ := (hS.slrows (e := 49) (v := vh) (by repeat (first | exact At.here | apply At.next))).mform
  dsimp only [A8.cells] at hS
  repeat' (first|refine Kd ?_|(refine Sh.sa hS ?_;clear hS;intro w hS)|(refine K3 ?_;clear hS;intro g w hS hge)|((first|refine GS ?_ ?_|refine VB ?_ ?_)<;>intro hb<;>(try simp only [J1,J2,J3,J4,J5,J6] at hb)<;>(try (exfalso;first|omega|exact hb trivial))))
  iterate 2
    · replace hS := hS.fo (R := TpR r ga l _)
      refine Z.eff (Z.cl (next_z 2 hS (by omega) (by omega)) rfl ?_) rfl
      clear hS
      rintro e w ⟨rfl, hS⟩
      refine ⟨_, rfl, ?_⟩
      repeat' (first|refine Kd ?_|(refine Sh.sa hS ?_;clear hS;intro w hS)|(refine K3 ?_;clear hS;intro g w hS hge)|((first|refine GS ?_ ?_|refine VB ?_ ?_)<;>intro hb<;>(try simp only [J1,J2,J3,J4,J5,J6] at hb)<;>(try (exfalso;first|omega|exact hb trivial))))
      refine Dnc Tryz.results53 ?_
      exact ⟨⟨0, nxt l j3 2, t, q, x, W⟩, _, rfl, hj.refl_of (adv_ge l j3), (Sep.CR_open.2 ⟨.slice Ah c.h.length ch, gs, gq, gt, vs, vl, vr, hS.sub (L' := .blk gr 69 [.int .i64 cell, .int .i64 ten, .slice Ah c.h.length ch, .pointer (some ⟨gs, 0, none⟩), .pointer (some ⟨gq, 0, none⟩), .pointer (some ⟨gt, 0, none⟩), vg] :: .sl 49 8 (.slice Ah c.h.length ch) (c.h.map Ch.cells) :: .blk gs 100 [vs] :: .sl 102 3 vs (c.s.map Ce.cells) :: .blk gq 105 [vl, vr, .int .i64 c.q.most] :: .sl 79 2 vl (c.q.l.map It.cells) :: .sl 133 4 vr (c.q.r.map Le.cells) :: .blk gt 109 c.t.cells.toList :: TpR r ga l (adv l j3) :: F) (by repeat (first | exact Sub.rest | exact Sub.nil | exact .skip .rest | exact .skip (.skip .rest) | exact .skip (.skip (.skip .rest)) | apply Sub.keep | refine Sub.cons (by repeat (first | exact At.here | apply At.next)) ?_ | apply Sub.skip))⟩).swap⟩
  · replace hS := hS.fo (R := TpR r ga l _)
    refine Z.eff (Z.cl (rangeN_z (-1) ((c.h.length : Int) + 1) hS (by omega) (by omega) (by omega)) rfl ?_) rfl
    clear hS
    rintro e w ⟨rfl, hS⟩
    refine ⟨_, rfl, ?_⟩
    repeat' (first|refine Kd ?_|(refine Sh.sa hS ?_;clear hS;intro w hS)|(refine K3 ?_;clear hS;intro g w hS hge)|((first|refine GS ?_ ?_|refine VB ?_ ?_)<;>intro hb<;>(try simp only [J1,J2,J3,J4,J5,J6] at hb)<;>(try (exfalso;first|omega|exact hb trivial))))
    refine Dnc Tryz.results53 ?_
    exact ⟨⟨k, -1 + nxt l j3 ((c.h.length : Int) + 1 - -1 + 1), t, q, x, W⟩, _, rfl, hj.refl_of (adv_ge l j3), (Sep.CR_open.2 ⟨.slice Ah c.h.length ch, gs, gq, gt, vs, vl, vr, hS.sub (L' := .blk gr 69 [.int .i64 cell, .int .i64 ten, .slice Ah c.h.length ch, .pointer (some ⟨gs, 0, none⟩), .pointer (some ⟨gq, 0, none⟩), .pointer (some ⟨gt, 0, none⟩), vg] :: .sl 49 8 (.slice Ah c.h.length ch) (c.h.map Ch.cells) :: .blk gs 100 [vs] :: .sl 102 3 vs (c.s.map Ce.cells) :: .blk gq 105 [vl, vr, .int .i64 c.q.most] :: .sl 79 2 vl (c.q.l.map It.cells) :: .sl 133 4 vr (c.q.r.map Le.cells) :: .blk gt 109 c.t.cells.toList :: TpR r ga l (adv l j3) :: F) (by repeat (first | exact Sub.rest | exact Sub.nil | exact .skip .rest | exact .skip (.skip .rest) | exact .skip (.skip (.skip .rest)) | apply Sub.keep | refine Sub.cons (by repeat (first | exact At.here | apply At.next)) ?_ | apply Sub.skip))⟩).swap⟩
  · refine Dnc Tryz.results53 ?_
    exact ⟨⟨k, 0, t, q, x, ⟨W.cell, W.epoch, W.version, W.from_, W.until_ + 30⟩⟩, _, rfl, hj, (Sep.CR_open.2 ⟨.slice Ah c.h.length ch, gs, gq, gt, vs, vl, vr, hS.sub (L' := .blk gr 69 [.int .i64 cell, .int .i64 ten, .slice Ah c.h.length ch, .pointer (some ⟨gs, 0, none⟩), .pointer (some ⟨gq, 0, none⟩), .pointer (some ⟨gt, 0, none⟩), vg] :: .sl 49 8 (.slice Ah c.h.length ch) (c.h.map Ch.cells) :: .blk gs 100 [vs] :: .sl 102 3 vs (c.s.map Ce.cells) :: .blk gq 105 [vl, vr, .int .i64 c.q.most] :: .sl 79 2 vl (c.q.l.map It.cells) :: .sl 133 4 vr (c.q.r.map Le.cells) :: .blk gt 109 c.t.cells.toList :: TpR r ga l j3 :: F) (by repeat (first | exact Sub.rest | exact Sub.nil | exact .skip .rest | exact .skip (.skip .rest) | exact .skip (.skip (.skip .rest)) | apply Sub.keep | refine Sub.cons (by repeat (first | exact At.here | apply At.next)) ?_ | apply Sub.skip))⟩).swap⟩
  · replace hS := hS.fo (R := TpR r ga l _)
    refine Z.eff (Z.cl (range_z 1 3 hS (by omega) (by omega) (by omega)) rfl ?_) rfl
    clear hS
    rintro e w ⟨rfl, hS⟩
    refine ⟨_, rfl, ?_⟩
    repeat' (first|refine Kd ?_|(refine Sh.sa hS ?_;clear hS;intro w hS)|(refine K3 ?_;clear hS;intro g w hS hge)|((first|refine GS ?_ ?_|refine VB ?_ ?_)<;>intro hb<;>(try simp only [J1,J2,J3,J4,J5,J6] at hb)<;>(try (exfalso;first|omega|exact hb trivial))))
    refine Dnc Tryz.results53 ?_
    exact ⟨⟨k, 1 + nxt l j3 (3 - 1 + 1), t, q, x, W⟩, _, rfl, hj.refl_of (adv_ge l j3), (Sep.CR_open.2 ⟨.slice Ah c.h.length ch, gs, gq, gt, vs, vl, vr, hS.sub (L' := .blk gr 69 [.int .i64 cell, .int .i64 ten, .slice Ah c.h.length ch, .pointer (some ⟨gs, 0, none⟩), .pointer (some ⟨gq, 0, none⟩), .pointer (some ⟨gt, 0, none⟩), vg] :: .sl 49 8 (.slice Ah c.h.length ch) (c.h.map Ch.cells) :: .blk gs 100 [vs] :: .sl 102 3 vs (c.s.map Ce.cells) :: .blk gq 105 [vl, vr, .int .i64 c.q.most] :: .sl 79 2 vl (c.q.l.map It.cells) :: .sl 133 4 vr (c.q.r.map Le.cells) :: .blk gt 109 c.t.cells.toList :: TpR r ga l (adv l j3) :: F) (by repeat (first | exact Sub.rest | exact Sub.nil | exact .skip .rest | exact .skip (.skip .rest) | exact .skip (.skip (.skip .rest)) | apply Sub.keep | refine Sub.cons (by repeat (first | exact At.here | apply At.next)) ?_ | apply Sub.skip))⟩).swap⟩
  · refine Dnc Tryz.results53 ?_
    exact ⟨⟨k, 0, t, q, x, W⟩, _, rfl, hj, (Sep.CR_open.2 ⟨.slice Ah c.h.length ch, gs, gq, gt, vs, vl, vr, hS.sub (L' := .blk gr 69 [.int .i64 cell, .int .i64 ten, .slice Ah c.h.length ch, .pointer (some ⟨gs, 0, none⟩), .pointer (some ⟨gq, 0, none⟩), .pointer (some ⟨gt, 0, none⟩), vg] :: .sl 49 8 (.slice Ah c.h.length ch) (c.h.map Ch.cells) :: .blk gs 100 [vs] :: .sl 102 3 vs (c.s.map Ce.cells) :: .blk gq 105 [vl, vr, .int .i64 c.q.most] :: .sl 79 2 vl (c.q.l.map It.cells) :: .sl 133 4 vr (c.q.r.map Le.cells) :: .blk gt 109 c.t.cells.toList :: TpR r ga l j3 :: F) (by repeat (first | exact Sub.rest | exact Sub.nil | exact .skip .rest | exact .skip (.skip .rest) | exact .skip (.skip (.skip .rest)) | apply Sub.keep | refine Sub.cons (by repeat (first | exact At.here | apply At.next)) ?_ | apply Sub.skip))⟩).swap⟩

set_option maxHeartbeats 2000000 in
theorem light28_z (l : List A8) (v : Value) (r : World) (F : List Res) (w : World) (hS : Sep r [] F w) (hrd : Reads r F 23 v (l.map A8.cells)) :
    Calls Tryz.prog 49 #[v] w fun e w' => ∃ b, e = .returned (.bool b) ∧ (b = true → l.length ≤ 40) ∧ Sep r [] F w' := by
  obtain ⟨A, c, rfl, hc⟩ := (hrd [] w hS).mform
  refine Z.enter Tryz.func49 Tryz.ntmps49 rfl rfl ?_
  repeat' (first|refine Kd ?_|(refine Sh.sa hS ?_;clear hS;intro w hS)|(refine K3 ?_;clear hS;intro g w hS hge)|((first|refine GS ?_ ?_|refine VB ?_ ?_)<;>intro hb<;>(try simp only [J1,J2,J3,J4,J5,J6] at hb)<;>(try (exfalso;first|omega|exact hb trivial))))
  refine Z.lpS [2, 3, 4, 5, 6, 7, 8, 9, 10, 11, 12, 13, 14, 15, 16, 17, 18, 19, 20, 21, 22, 23, 24, 25, 26, 27, 28, 29, 30] (fun m w s => ∃ q : Nat, s = [(3, .int .i64 q)] ∧ q ≤ l.length ∧ m = l.length - q ∧ Sep r [] F w) _ [(3, .int .i64 (0 : Nat))] (by repeat (first | exact trivial | refine ⟨rfl, ?_⟩)) ⟨0, rfl, by omega, rfl, hS⟩ ?_
  clear hS
  rintro m f0 w _ ⟨q, rfl, hq, rfl, hS⟩
  by_cases hlt : q < l.length
  · obtain ⟨gb, o, rfl, _, _⟩ := (hrd [] w hS).mat (by omega) hlt
    have hra : ∀ W, Sep r [] F W → W.rangeAt gb (o + q * 23) (A8.cells l[q]) := fun W h => (hrd [] W h).elem (by omega) hlt
    have hra0 := hra w hS
    generalize l[q] = a at *
    repeat' (first|refine Kd ?_|(refine Sh.sa hS ?_;clear hS;intro w hS)|(refine K3 ?_;clear hS;intro g w hS hge)|((first|refine GS ?_ ?_|refine VB ?_ ?_)<;>intro hb<;>(try simp only [J1,J2,J3,J4,J5,J6] at hb)<;>(try (exfalso;first|omega|exact hb trivial))))
    rotate_left
    · refine Dnt Tryz.results49 ?_
      exact ⟨_, rfl, fun h => by simp at h; omega, hS⟩
    refine Z.eff (Z.cl (short28_z a.r _ _ _ hS) rfl ?_) rfl
    clear hS
    rintro e w ⟨rfl, hS⟩
    refine ⟨_, rfl, ?_⟩
    replace hra0 := hra _ hS
    repeat' (first|refine Kd ?_|(refine Sh.sa hS ?_;clear hS;intro w hS)|(refine K3 ?_;clear hS;intro g w hS hge)|((first|refine GS ?_ ?_|refine VB ?_ ?_)<;>intro hb<;>(try simp only [J1,J2,J3,J4,J5,J6] at hb)<;>(try (exfalso;first|omega|exact hb trivial))))
    · refine Dnt Tryz.results49 ?_
      exact ⟨_, rfl, by simp, hS⟩
    refine Z.eff (Z.cl (shortS_z a.x _ _ _ hS) rfl ?_) rfl
    clear hS
    rintro e w ⟨b, rfl, hS⟩
    refine ⟨_, rfl, ?_⟩
    cases b
    · repeat' (first|refine Kd ?_|(refine Sh.sa hS ?_;clear hS;intro w hS)|(refine K3 ?_;clear hS;intro g w hS hge)|((first|refine GS ?_ ?_|refine VB ?_ ?_)<;>intro hb<;>(try simp only [J1,J2,J3,J4,J5,J6] at hb)<;>(try (exfalso;first|omega|exact hb trivial))))
      refine Dnt Tryz.results49 ?_
      exact ⟨_, rfl, by simp, hS⟩
    · repeat' (first|refine Kd ?_|(refine Sh.sa hS ?_;clear hS;intro w hS)|(refine K3 ?_;clear hS;intro g w hS hge)|((first|refine GS ?_ ?_|refine VB ?_ ?_)<;>intro hb<;>(try simp only [J1,J2,J3,J4,J5,J6] at hb)<;>(try (exfalso;first|omega|exact hb trivial))))
      refine Sh.again (l.length - (q + 1)) [(3, .int .i64 (q + 1 : Nat))] ?_
      exact ⟨q + 1, rfl, by omega, rfl, hS⟩
  · repeat' (first|refine Kd ?_|(refine Sh.sa hS ?_;clear hS;intro w hS)|(refine K3 ?_;clear hS;intro g w hS hge)|((first|refine GS ?_ ?_|refine VB ?_ ?_)<;>intro hb<;>(try simp only [J1,J2,J3,J4,J5,J6] at hb)<;>(try (exfalso;first|omega|exact hb trivial))))
    refine Dnt Tryz.results49 ?_
    exact ⟨_, rfl, fun h => by simp at h; omega, hS⟩
end Go.Proofs.YtahackdfjcgkhaaGreat
