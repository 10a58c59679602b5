/-
  The calls of a sequence: of a copy of the program and of one of the reference.
-/
import Derived.Test.YtahackdfjcgkhaaGreatYd
import Derived.Test.YtahackdfjcgkhaaGreatCG
import Derived.Test.YtahackdfjcgkhaaGreatEW
import Derived.Test.YtahackdfjcgkhaaGreatNCrP
import Derived.Test.YtahackdfjcgkhaaGreatNLaw27
import Derived.Test.YtahackdfjcgkhaaGreatNTc
namespace Go.Proofs.YtahackdfjcgkhaaGreat
open Go.RowKit
set_option linter.unusedSimpArgs false
set_option linter.unusedVariables false
attribute [local irreducible] Res.blk Res.sl Res.all Res.ex Res.pure Res.star

theorem rccrash_z (g gg : Nat) (cell ten : Int) (c : Cp) (G : Ga) (r : World) (F : List Res) (w : World) (hS : Sep r [] (CR g cell ten (.pointer (some ⟨gg, 0, .none⟩)) c :: GR gg G :: F) w) :
    Calls Tryz.prog 107 #[.pointer (some ⟨g, 0, .none⟩)] w fun e w' => ∃ v, e = .returned v ∧ Sep r [] (CR g cell ten (.pointer (some ⟨gg, 0, .none⟩)) ⟨c.h, c.s, ⟨c.q.l, [], c.q.most⟩, c.t⟩ :: GR gg ⟨G.cell, G.closed, []⟩ :: F) w' := by
  obtain ⟨vh, gs, gq, gt, vs, vl, vr, hS⟩ := Sep.CR_open.1 hS
  refine Z.enter Tryz.func107 Tryz.ntmps107 rfl rfl ?_
  repeat' (first|refine Kd ?_|(refine Sh.sa hS ?_;clear hS;intro w hS)|(refine K3 ?_;clear hS;intro g w hS hge)|((first|refine GS ?_ ?_|refine VB ?_ ?_)<;>intro hb<;>(try simp only [J1,J2,J3,J4,J5,J6] at hb)<;>(try (exfalso;first|omega|exact hb trivial))))
  replace hS := hS.fo (R := GR gg G)
  refine Z.eff (Z.cl (rcrash_z gg G _ _ _ hS) rfl ?_) rfl
  clear hS
  rintro e w ⟨v1, rfl, hS⟩
  refine ⟨_, rfl, ?_⟩
  repeat' (first|refine Kd ?_|(refine Sh.sa hS ?_;clear hS;intro w hS)|(refine K3 ?_;clear hS;intro g w hS hge)|((first|refine GS ?_ ?_|refine VB ?_ ?_)<;>intro hb<;>(try simp only [J1,J2,J3,J4,J5,J6] at hb)<;>(try (exfalso;first|omega|exact hb trivial))))
  refine Dn Tryz.results107 ?_
  replace hS := Z.nilsl hS 133 4 none
  exact ⟨_, rfl, Sep.CR_open.2 ⟨vh, gs, gq, gt, vs, vl, _, hS.sb⟩⟩

set_option maxHeartbeats 8000000 in
theorem rccopy_z (gp gg : Nat) (cell ten : Int) (c : Cp) (G : Ga) (r : World) (F : List Res) (w : World) (hS : Sep r [] (CR gp cell ten (.pointer (some ⟨gg, 0, .none⟩)) c :: GR gg G :: F) w) (hl : c.h.length ≤ 5000) (h1 : c.s.length ≤ 1000) (h2 : c.q.l.length ≤ 1000) (h3 : c.q.r.length ≤ 1000) (hgl : G.ws.length ≤ 100000) :
    Calls Tryz.prog 55 #[.pointer (some ⟨gp, 0, .none⟩)] w fun e w' => ∃ g' gg', e = .returned (.pointer (some ⟨g', 0, .none⟩)) ∧ Sep r [] (CR g' cell ten (.pointer (some ⟨gg', 0, .none⟩)) c :: GR gg' G :: CR gp cell ten (.pointer (some ⟨gg, 0, .none⟩)) c :: GR gg G :: F) w' := by
  obtain ⟨vh, gs, gq, gt, vs, vl, vr, hS⟩ := Sep.CR_open.1 hS
  obtain ⟨Ah, ch, rfl, _⟩ := (hS.slrows (e := 49) (v := vh) (by repeat (first | exact At.here | apply At.next))).mform
  obtain ⟨As, cs, rfl, _⟩ := (hS.slrows (e := 102) (v := vs) (by repeat (first | exact At.here | apply At.next))).mform
  replace hS : Sep r [] (.blk gp 69 [.int .i64 cell, .int .i64 ten, .slice Ah c.h.length ch, .pointer (some ⟨gs, 0, .none⟩), .pointer (some ⟨gq, 0, .none⟩), .pointer (some ⟨gt, 0, .none⟩), .pointer (some ⟨gg, 0, .none⟩)] :: .sl 49 8 (.slice Ah c.h.length ch) (c.h.map Ch.cells) :: .blk gs 100 [.slice As c.s.length cs] :: .sl 102 3 (.slice As c.s.length cs) (c.s.map Ce.cells) :: QR gq c.q :: .blk gt 109 c.t.cells.toList :: GR gg G :: F) w := (Sep.QR_open.2 ⟨vl, vr, hS.sub (L' := .blk gq 105 [vl, vr, .int .i64 c.q.most] :: .sl 79 2 vl (c.q.l.map It.cells) :: .sl 133 4 vr (c.q.r.map Le.cells) :: .blk gp 69 [.int .i64 cell, .int .i64 ten, .slice Ah c.h.length ch, .pointer (some ⟨gs, 0, .none⟩), .pointer (some ⟨gq, 0, .none⟩), .pointer (some ⟨gt, 0, .none⟩), .pointer (some ⟨gg, 0, .none⟩)] :: .sl 49 8 (.slice Ah c.h.length ch) (c.h.map Ch.cells) :: .blk gs 100 [.slice As c.s.length cs] :: .sl 102 3 (.slice As c.s.length cs) (c.s.map Ce.cells) :: .blk gt 109 c.t.cells.toList :: GR gg G :: F) (by repeat (first | exact Sub.rest | exact Sub.nil | exact .skip .rest | exact .skip (.skip .rest) | exact .skip (.skip (.skip .rest)) | apply Sub.keep | refine Sub.cons (by repeat (first | exact At.here | apply At.next)) ?_ | apply Sub.skip))⟩).sub (by repeat (first | exact Sub.rest | exact Sub.nil | exact .skip .rest | exact .skip (.skip .rest) | exact .skip (.skip (.skip .rest)) | apply Sub.keep | refine Sub.cons (by repeat (first | exact At.here | apply At.next)) ?_ | apply Sub.skip))
  refine Z.enter Tryz.func55 Tryz.ntmps55 rfl rfl ?_
  repeat' (first|refine Kd ?_|(refine Sh.sa hS ?_;clear hS;intro w hS)|(refine K3 ?_;clear hS;intro g w hS hge)|((first|refine GS ?_ ?_|refine VB ?_ ?_)<;>intro hb<;>(try simp only [J1,J2,J3,J4,J5,J6] at hb)<;>(try (exfalso;first|omega|exact hb trivial))))
  rename Nat => g3
  refine Z.cut [2, 10, 11, 12, 13, 14, 15, 16, 17, 18, 19, 20, 21, 22, 23, 24, 25, 26, 27, 28, 29, 30, 31, 32, 33, 34, 35, 36, 37, 38, 39, 40, 41, 42, 43, 44, 45, 46] (fun w s => ∃ g' gg', s = [(2, .pointer (some ⟨g', 0, .none⟩))] ∧ Sep r [] (CR g' cell ten (.pointer (some ⟨gg', 0, .none⟩)) c :: GR gg' G :: .blk gp 69 [.int .i64 cell, .int .i64 ten, .slice Ah c.h.length ch, .pointer (some ⟨gs, 0, .none⟩), .pointer (some ⟨gq, 0, .none⟩), .pointer (some ⟨gt, 0, .none⟩), .pointer (some ⟨gg, 0, .none⟩)] :: .sl 49 8 (.slice Ah c.h.length ch) (c.h.map Ch.cells) :: .blk gs 100 [.slice As c.s.length cs] :: .sl 102 3 (.slice As c.s.length cs) (c.s.map Ce.cells) :: QR gq c.q :: .blk gt 109 c.t.cells.toList :: GR gg G :: F) w) ?_ ?_
  · refine D.startS (Lr := [.blk gp 69 [.int .i64 cell, .int .i64 ten, .slice Ah c.h.length ch, .pointer (some ⟨gs, 0, .none⟩), .pointer (some ⟨gq, 0, .none⟩), .pointer (some ⟨gt, 0, .none⟩), .pointer (some ⟨gg, 0, .none⟩)], .blk gs 100 [.slice As c.s.length cs]]) (hS.sb) 38 38 (by kernel_rfl) rfl ?_
    replace hS := hS.drew
    refine Sh.dp 0 1 ?_
    refine Sh.dp 1 3 ?_
    refine Sh.dp 2 7 ?_
    refine Sh.dp 4 23 ?_
    refine Sh.dp 5 55 ?_
    refine Sh.dp 6 119 ?_
    refine Sh.dp 9 631 ?_
    refine Sh.dp 10 1655 ?_
    refine Sh.dp 11 3703 ?_
    refine Sh.dp 15 36471 ?_
    refine Sh.dp 16 102007 ?_
    refine Sh.dp 17 233079 ?_
    refine Sh.dp 25 33787511 ?_
    refine Sh.dp 26 100896375 ?_
    refine Sh.dp 27 235114103 ?_
    refine Sh.dp 30 1308855927 ?_
    refine Sh.dp 31 3456339575 ?_
    refine Sh.dp 32 7751306871 ?_
    refine Sh.dl 3 7751306879 ?_
    refine Sh.dl 7 7751307007 ?_
    refine Sh.dl 12 7751311103 ?_
    refine Sh.dl 18 7751573247 ?_
    refine Sh.dp 19 7752097535 ?_
    refine Sh.dp 20 7753146111 ?_
    refine Sh.dl 21 7755243263 ?_
    refine Sh.dl 28 8023678719 ?_
    refine Sh.dl 33 16613613311 ?_
    refine D.each [8, 14] (by kernel_rfl) rfl ?_
    refine D.econs 8 16613613567 rfl D.wantedN (by kernel_rfl) (fun _ _ h => h) ?_ ?_
    · refine Z.bs hS rfl rfl rfl ?_
      clear hS; intro g w hS hge
      refine ⟨HM.s (hS.sb), ?_⟩
      refine D.each [13, 14] (by kernel_rfl) rfl ?_
      refine D.econs 13 16613621759 rfl D.wantedN (by kernel_rfl) (fun _ _ h => h) ?_ ?_
      · refine Z.ap0m hS rfl rfl rfl (hS.slrows (e := 49) (v := .slice Ah c.h.length ch) (by repeat (first | exact At.here | apply At.next))) (by (try simp only [maxLen, List.length_take, List.length_drop, List.length_append, List.length_cons, List.length_nil, List.length_map]); omega) (by (try simp only [maxLen, List.length_take, List.length_drop, List.length_append, List.length_cons, List.length_nil, List.length_map]); omega) ?_
        clear hS; intro A1 c1 w hS
        refine ⟨HM.s (hS.sb), ?_⟩
        refine D.eff 14 16613638143 rfl D.wantedN (by kernel_rfl) (by kernel_rfl) (fun _ _ h => h) ?_
        refine Z.bs hS rfl rfl rfl ?_
        clear hS; intro g w hS hge
        refine ⟨HM.s (hS.sb), ?_⟩
        refine D.eff 22 16617832447 rfl D.wantedN (by kernel_rfl) (by kernel_rfl) (fun _ _ h => h) ?_
        refine Z.ap0m hS rfl rfl rfl (hS.slrows (e := 102) (v := .slice As c.s.length cs) (by repeat (first | exact At.here | apply At.next))) (by (try simp only [maxLen, List.length_take, List.length_drop, List.length_append, List.length_cons, List.length_nil, List.length_map]); omega) (by (try simp only [maxLen, List.length_take, List.length_drop, List.length_append, List.length_cons, List.length_nil, List.length_map]); omega) ?_
        clear hS; intro A2 c2 w hS
        refine ⟨HM.s (hS.sb), ?_⟩
        first | refine D.bu 23 16626221055 rfl D.wantedN (by kernel_rfl) rfl rfl ?_ | refine D.buA 23 16626221055 rfl D.wantedN (by kernel_rfl) rfl rfl ?_
        refine D.each [24, 29] (by kernel_rfl) rfl ?_
        refine D.econs 24 16642998271 rfl D.wantedN (by kernel_rfl) (fun _ _ h => h) ?_ ?_
        · refine Z.bx hS rfl ?_
          clear hS; intro g w hS hge
          refine ⟨HM.s (hS.sb), ?_⟩
          refine D.eff 29 17179869183 rfl D.wantedN (by kernel_rfl) (by kernel_rfl) (fun _ _ h => h) ?_
          replace hS := hS.fo (R := QR gq c.q)
          refine Z.cl (rqcopy_z gq c.q _ _ _ hS (by omega) (by omega)) rfl ?_
          clear hS
          rintro e w ⟨gq', rfl, hS⟩
          refine ⟨_, rfl, ?_⟩
          refine ⟨HM.s (hS.sb), ?_⟩
          refine D.eff 34 34359738367 rfl D.wantedN (by kernel_rfl) (by kernel_rfl) (fun _ _ h => h) ?_
          replace hS := hS.fo (R := GR gg G)
          refine Z.cl (rcopy_z gg G _ _ _ hS (by omega)) rfl ?_
          clear hS
          rintro e w ⟨gg', rfl, hS⟩
          refine ⟨_, rfl, ?_⟩
          refine ⟨HM.s (hS.sb), ?_⟩
          first | refine D.bu 35 68719476735 rfl D.wantedN (by kernel_rfl) rfl rfl ?_ | refine D.buA 35 68719476735 rfl D.wantedN (by kernel_rfl) rfl rfl ?_
          refine D.eff 36 137438953471 rfl D.wantedN (by kernel_rfl) (by kernel_rfl) (fun _ _ h => h) ?_
          refine Z.bx hS rfl ?_
          clear hS; intro g w hS hge
          refine ⟨HM.s (hS.sb), ?_⟩
          refine Sh.dp 37 274877906943 ?_
          refine D.done (by kernel_rfl) ?_
          refine Sh.cut [(2, _)] ?_
          refine ⟨_, gg', rfl, ?_⟩
          obtain ⟨vl', vr', hS⟩ := Sep.QR_open.1 (hS.focus (R := QR gq' c.q) (by repeat (first | exact At.here | apply At.next)))
          exact Sep.CR_open.2 ⟨.slice A1 c.h.length c1, _, gq', g3, .slice A2 c.s.length c2, vl', vr', hS.sb⟩
        refine D.econs 29 17163091967 rfl D.wantedN (by kernel_rfl) (fun _ _ h => h) ?_ ?_
        · replace hS := hS.fo (R := QR gq c.q)
          refine Z.cl (rqcopy_z gq c.q _ _ _ hS (by omega) (by omega)) rfl ?_
          clear hS
          rintro e w ⟨gq', rfl, hS⟩
          refine ⟨_, rfl, ?_⟩
          refine ⟨HM.s (hS.sb), ?_⟩
          refine D.each [24, 34] (by kernel_rfl) rfl ?_
          refine D.econs 24 17179869183 rfl D.wantedN (by kernel_rfl) (fun _ _ h => h) ?_ ?_
          · refine Z.bx hS rfl ?_
            clear hS; intro g w hS hge
            refine ⟨HM.s (hS.sb), ?_⟩
            refine D.eff 34 34359738367 rfl D.wantedN (by kernel_rfl) (by kernel_rfl) (fun _ _ h => h) ?_
            replace hS := hS.fo (R := GR gg G)
            refine Z.cl (rcopy_z gg G _ _ _ hS (by omega)) rfl ?_
            clear hS
            rintro e w ⟨gg', rfl, hS⟩
            refine ⟨_, rfl, ?_⟩
            refine ⟨HM.s (hS.sb), ?_⟩
            first | refine D.bu 35 68719476735 rfl D.wantedN (by kernel_rfl) rfl rfl ?_ | refine D.buA 35 68719476735 rfl D.wantedN (by kernel_rfl) rfl rfl ?_
            refine D.eff 36 137438953471 rfl D.wantedN (by kernel_rfl) (by kernel_rfl) (fun _ _ h => h) ?_
            refine Z.bx hS rfl ?_
            clear hS; intro g w hS hge
            refine ⟨HM.s (hS.sb), ?_⟩
            refine Sh.dp 37 274877906943 ?_
            refine D.done (by kernel_rfl) ?_
            refine Sh.cut [(2, _)] ?_
            refine ⟨_, gg', rfl, ?_⟩
            obtain ⟨vl', vr', hS⟩ := Sep.QR_open.1 (hS.focus (R := QR gq' c.q) (by repeat (first | exact At.here | apply At.next)))
            exact Sep.CR_open.2 ⟨.slice A1 c.h.length c1, _, gq', g3, .slice A2 c.s.length c2, vl', vr', hS.sb⟩
          refine D.econs 34 34342961151 rfl D.wantedN (by kernel_rfl) (fun _ _ h => h) ?_ ?_
          · replace hS := hS.fo (R := GR gg G)
            refine Z.cl (rcopy_z gg G _ _ _ hS (by omega)) rfl ?_
            clear hS
            rintro e w ⟨gg', rfl, hS⟩
            refine ⟨_, rfl, ?_⟩
            refine ⟨HM.s (hS.sb), ?_⟩
            refine D.eff 24 34359738367 rfl D.wantedN (by kernel_rfl) (by kernel_rfl) (fun _ _ h => h) ?_
            refine Z.bx hS rfl ?_
            clear hS; intro g w hS hge
            refine ⟨HM.s (hS.sb), ?_⟩
            first | refine D.bu 35 68719476735 rfl D.wantedN (by kernel_rfl) rfl rfl ?_ | refine D.buA 35 68719476735 rfl D.wantedN (by kernel_rfl) rfl rfl ?_
            refine D.eff 36 137438953471 rfl D.wantedN (by kernel_rfl) (by kernel_rfl) (fun _ _ h => h) ?_
            refine Z.bx hS rfl ?_
            clear hS; intro g w hS hge
            refine ⟨HM.s (hS.sb), ?_⟩
            refine Sh.dp 37 274877906943 ?_
            refine D.done (by kernel_rfl) ?_
            refine Sh.cut [(2, _)] ?_
            refine ⟨_, gg', rfl, ?_⟩
            obtain ⟨vl', vr', hS⟩ := Sep.QR_open.1 (hS.focus (R := QR gq' c.q) (by repeat (first | exact At.here | apply At.next)))
            exact Sep.CR_open.2 ⟨.slice A1 c.h.length c1, _, gq', g3, .slice A2 c.s.length c2, vl', vr', hS.sb⟩
          exact D.enil
        exact D.enil
      refine D.econs 14 16613629951 rfl D.wantedN (by kernel_rfl) (fun _ _ h => h) ?_ ?_
      · refine Z.bs hS rfl rfl rfl ?_
        clear hS; intro g w hS hge
        refine ⟨HM.s (hS.sb), ?_⟩
        refine D.eff 13 16613638143 rfl D.wantedN (by kernel_rfl) (by kernel_rfl) (fun _ _ h => h) ?_
        refine Z.ap0m hS rfl rfl rfl (hS.slrows (e := 49) (v := .slice Ah c.h.length ch) (by repeat (first | exact At.here | apply At.next))) (by (try simp only [maxLen, List.length_take, List.length_drop, List.length_append, List.length_cons, List.length_nil, List.length_map]); omega) (by (try simp only [maxLen, List.length_take, List.length_drop, List.length_append, List.length_cons, List.length_nil, List.length_map]); omega) ?_
        clear hS; intro A1 c1 w hS
        refine ⟨HM.s (hS.sb), ?_⟩
        refine D.eff 22 16617832447 rfl D.wantedN (by kernel_rfl) (by kernel_rfl) (fun _ _ h => h) ?_
        refine Z.ap0m hS rfl rfl rfl (hS.slrows (e := 102) (v := .slice As c.s.length cs) (by repeat (first | exact At.here | apply At.next))) (by (try simp only [maxLen, List.length_take, List.length_drop, List.length_append, List.length_cons, List.length_nil, List.length_map]); omega) (by (try simp only [maxLen, List.length_take, List.length_drop, List.length_append, List.length_cons, List.length_nil, List.length_map]); omega) ?_
        clear hS; intro A2 c2 w hS
        refine ⟨HM.s (hS.sb), ?_⟩
        first | refine D.bu 23 16626221055 rfl D.wantedN (by kernel_rfl) rfl rfl ?_ | refine D.buA 23 16626221055 rfl D.wantedN (by kernel_rfl) rfl rfl ?_
        refine D.each [24, 29] (by kernel_rfl) rfl ?_
        refine D.econs 24 16642998271 rfl D.wantedN (by kernel_rfl) (fun _ _ h => h) ?_ ?_
        · refine Z.bx hS rfl ?_
          clear hS; intro g w hS hge
          refine ⟨HM.s (hS.sb), ?_⟩
          refine D.eff 29 17179869183 rfl D.wantedN (by kernel_rfl) (by kernel_rfl) (fun _ _ h => h) ?_
          replace hS := hS.fo (R := QR gq c.q)
          refine Z.cl (rqcopy_z gq c.q _ _ _ hS (by omega) (by omega)) rfl ?_
          clear hS
          rintro e w ⟨gq', rfl, hS⟩
          refine ⟨_, rfl, ?_⟩
          refine ⟨HM.s (hS.sb), ?_⟩
          refine D.eff 34 34359738367 rfl D.wantedN (by kernel_rfl) (by kernel_rfl) (fun _ _ h => h) ?_
          replace hS := hS.fo (R := GR gg G)
          refine Z.cl (rcopy_z gg G _ _ _ hS (by omega)) rfl ?_
          clear hS
          rintro e w ⟨gg', rfl, hS⟩
          refine ⟨_, rfl, ?_⟩
          refine ⟨HM.s (hS.sb), ?_⟩
          first | refine D.bu 35 68719476735 rfl D.wantedN (by kernel_rfl) rfl rfl ?_ | refine D.buA 35 68719476735 rfl D.wantedN (by kernel_rfl) rfl rfl ?_
          refine D.eff 36 137438953471 rfl D.wantedN (by kernel_rfl) (by kernel_rfl) (fun _ _ h => h) ?_
          refine Z.bx hS rfl ?_
          clear hS; intro g w hS hge
          refine ⟨HM.s (hS.sb), ?_⟩
          refine Sh.dp 37 274877906943 ?_
          refine D.done (by kernel_rfl) ?_
          refine Sh.cut [(2, _)] ?_
          refine ⟨_, gg', rfl, ?_⟩
          obtain ⟨vl', vr', hS⟩ := Sep.QR_open.1 (hS.focus (R := QR gq' c.q) (by repeat (first | exact At.here | apply At.next)))
          exact Sep.CR_open.2 ⟨.slice A1 c.h.length c1, _, gq', g3, .slice A2 c.s.length c2, vl', vr', hS.sb⟩
        refine D.econs 29 17163091967 rfl D.wantedN (by kernel_rfl) (fun _ _ h => h) ?_ ?_
        · replace hS := hS.fo (R := QR gq c.q)
          refine Z.cl (rqcopy_z gq c.q _ _ _ hS (by omega) (by omega)) rfl ?_
          clear hS
          rintro e w ⟨gq', rfl, hS⟩
          refine ⟨_, rfl, ?_⟩
          refine ⟨HM.s (hS.sb), ?_⟩
          refine D.each [24, 34] (by kernel_rfl) rfl ?_
          refine D.econs 24 17179869183 rfl D.wantedN (by kernel_rfl) (fun _ _ h => h) ?_ ?_
          · refine Z.bx hS rfl ?_
            clear hS; intro g w hS hge
            refine ⟨HM.s (hS.sb), ?_⟩
            refine D.eff 34 34359738367 rfl D.wantedN (by kernel_rfl) (by kernel_rfl) (fun _ _ h => h) ?_
            replace hS := hS.fo (R := GR gg G)
            refine Z.cl (rcopy_z gg G _ _ _ hS (by omega)) rfl ?_
            clear hS
            rintro e w ⟨gg', rfl, hS⟩
            refine ⟨_, rfl, ?_⟩
            refine ⟨HM.s (hS.sb), ?_⟩
            first | refine D.bu 35 68719476735 rfl D.wantedN (by kernel_rfl) rfl rfl ?_ | refine D.buA 35 68719476735 rfl D.wantedN (by kernel_rfl) rfl rfl ?_
            refine D.eff 36 137438953471 rfl D.wantedN (by kernel_rfl) (by kernel_rfl) (fun _ _ h => h) ?_
            refine Z.bx hS rfl ?_
            clear hS; intro g w hS hge
            refine ⟨HM.s (hS.sb), ?_⟩
            refine Sh.dp 37 274877906943 ?_
            refine D.done (by kernel_rfl) ?_
            refine Sh.cut [(2, _)] ?_
            refine ⟨_, gg', rfl, ?_⟩
            obtain ⟨vl', vr', hS⟩ := Sep.QR_open.1 (hS.focus (R := QR gq' c.q) (by repeat (first | exact At.here | apply At.next)))
            exact Sep.CR_open.2 ⟨.slice A1 c.h.length c1, _, gq', g3, .slice A2 c.s.length c2, vl', vr', hS.sb⟩
          refine D.econs 34 34342961151 rfl D.wantedN (by kernel_rfl) (fun _ _ h => h) ?_ ?_
          · replace hS := hS.fo (R := GR gg G)
            refine Z.cl (rcopy_z gg G _ _ _ hS (by omega)) rfl ?_
            clear hS
            rintro e w ⟨gg', rfl, hS⟩
            refine ⟨_, rfl, ?_⟩
            refine ⟨HM.s (hS.sb), ?_⟩
            refine D.eff 24 34359738367 rfl D.wantedN (by kernel_rfl) (by kernel_rfl) (fun _ _ h => h) ?_
            refine Z.bx hS rfl ?_
            clear hS; intro g w hS hge
            refine ⟨HM.s (hS.sb), ?_⟩
            first | refine D.bu 35 68719476735 rfl D.wantedN (by kernel_rfl) rfl rfl ?_ | refine D.buA 35 68719476735 rfl D.wantedN (by kernel_rfl) rfl rfl ?_
            refine D.eff 36 137438953471 rfl D.wantedN (by kernel_rfl) (by kernel_rfl) (fun _ _ h => h) ?_
            refine Z.bx hS rfl ?_
            clear hS; intro g w hS hge
            refine ⟨HM.s (hS.sb), ?_⟩
            refine Sh.dp 37 274877906943 ?_
            refine D.done (by kernel_rfl) ?_
            refine Sh.cut [(2, _)] ?_
            refine ⟨_, gg', rfl, ?_⟩
            obtain ⟨vl', vr', hS⟩ := Sep.QR_open.1 (hS.focus (R := QR gq' c.q) (by repeat (first | exact At.here | apply At.next)))
            exact Sep.CR_open.2 ⟨.slice A1 c.h.length c1, _, gq', g3, .slice A2 c.s.length c2, vl', vr', hS.sb⟩
          exact D.enil
        exact D.enil
      exact D.enil
    refine D.econs 14 16613629695 rfl D.wantedN (by kernel_rfl) (fun _ _ h => h) ?_ ?_
    · refine Z.bs hS rfl rfl rfl ?_
      clear hS; intro g w hS hge
      refine ⟨HM.s (hS.sb), ?_⟩
      refine D.eff 8 16613629951 rfl D.wantedN (by kernel_rfl) (by kernel_rfl) (fun _ _ h => h) ?_
      refine Z.bs hS rfl rfl rfl ?_
      clear hS; intro g w hS hge
      refine ⟨HM.s (hS.sb), ?_⟩
      refine D.eff 13 16613638143 rfl D.wantedN (by kernel_rfl) (by kernel_rfl) (fun _ _ h => h) ?_
      refine Z.ap0m hS rfl rfl rfl (hS.slrows (e := 49) (v := .slice Ah c.h.length ch) (by repeat (first | exact At.here | apply At.next))) (by (try simp only [maxLen, List.length_take, List.length_drop, List.length_append, List.length_cons, List.length_nil, List.length_map]); omega) (by (try simp only [maxLen, List.length_take, List.length_drop, List.length_append, List.length_cons, List.length_nil, List.length_map]); omega) ?_
      clear hS; intro A1 c1 w hS
      refine ⟨HM.s (hS.sb), ?_⟩
      refine D.eff 22 16617832447 rfl D.wantedN (by kernel_rfl) (by kernel_rfl) (fun _ _ h => h) ?_
      refine Z.ap0m hS rfl rfl rfl (hS.slrows (e := 102) (v := .slice As c.s.length cs) (by repeat (first | exact At.here | apply At.next))) (by (try simp only [maxLen, List.length_take, List.length_drop, List.length_append, List.length_cons, List.length_nil, List.length_map]); omega) (by (try simp only [maxLen, List.length_take, List.length_drop, List.length_append, List.length_cons, List.length_nil, List.length_map]); omega) ?_
      clear hS; intro A2 c2 w hS
      refine ⟨HM.s (hS.sb), ?_⟩
      first | refine D.bu 23 16626221055 rfl D.wantedN (by kernel_rfl) rfl rfl ?_ | refine D.buA 23 16626221055 rfl D.wantedN (by kernel_rfl) rfl rfl ?_
      refine D.each [24, 29] (by kernel_rfl) rfl ?_
      refine D.econs 24 16642998271 rfl D.wantedN (by kernel_rfl) (fun _ _ h => h) ?_ ?_
      · refine Z.bx hS rfl ?_
        clear hS; intro g w hS hge
        refine ⟨HM.s (hS.sb), ?_⟩
        refine D.eff 29 17179869183 rfl D.wantedN (by kernel_rfl) (by kernel_rfl) (fun _ _ h => h) ?_
        replace hS := hS.fo (R := QR gq c.q)
        refine Z.cl (rqcopy_z gq c.q _ _ _ hS (by omega) (by omega)) rfl ?_
        clear hS
        rintro e w ⟨gq', rfl, hS⟩
        refine ⟨_, rfl, ?_⟩
        refine ⟨HM.s (hS.sb), ?_⟩
        refine D.eff 34 34359738367 rfl D.wantedN (by kernel_rfl) (by kernel_rfl) (fun _ _ h => h) ?_
        replace hS := hS.fo (R := GR gg G)
        refine Z.cl (rcopy_z gg G _ _ _ hS (by omega)) rfl ?_
        clear hS
        rintro e w ⟨gg', rfl, hS⟩
        refine ⟨_, rfl, ?_⟩
        refine ⟨HM.s (hS.sb), ?_⟩
        first | refine D.bu 35 68719476735 rfl D.wantedN (by kernel_rfl) rfl rfl ?_ | refine D.buA 35 68719476735 rfl D.wantedN (by kernel_rfl) rfl rfl ?_
        refine D.eff 36 137438953471 rfl D.wantedN (by kernel_rfl) (by kernel_rfl) (fun _ _ h => h) ?_
        refine Z.bx hS rfl ?_
        clear hS; intro g w hS hge
        refine ⟨HM.s (hS.sb), ?_⟩
        refine Sh.dp 37 274877906943 ?_
        refine D.done (by kernel_rfl) ?_
        refine Sh.cut [(2, _)] ?_
        refine ⟨_, gg', rfl, ?_⟩
        obtain ⟨vl', vr', hS⟩ := Sep.QR_open.1 (hS.focus (R := QR gq' c.q) (by repeat (first | exact At.here | apply At.next)))
        exact Sep.CR_open.2 ⟨.slice A1 c.h.length c1, _, gq', g3, .slice A2 c.s.length c2, vl', vr', hS.sb⟩
      refine D.econs 29 17163091967 rfl D.wantedN (by kernel_rfl) (fun _ _ h => h) ?_ ?_
      · replace hS := hS.fo (R := QR gq c.q)
        refine Z.cl (rqcopy_z gq c.q _ _ _ hS (by omega) (by omega)) rfl ?_
        clear hS
        rintro e w ⟨gq', rfl, hS⟩
        refine ⟨_, rfl, ?_⟩
        refine ⟨HM.s (hS.sb), ?_⟩
        refine D.each [24, 34] (by kernel_rfl) rfl ?_
        refine D.econs 24 17179869183 rfl D.wantedN (by kernel_rfl) (fun _ _ h => h) ?_ ?_
        · refine Z.bx hS rfl ?_
          clear hS; intro g w hS hge
          refine ⟨HM.s (hS.sb), ?_⟩
          refine D.eff 34 34359738367 rfl D.wantedN (by kernel_rfl) (by kernel_rfl) (fun _ _ h => h) ?_
          replace hS := hS.fo (R := GR gg G)
          refine Z.cl (rcopy_z gg G _ _ _ hS (by omega)) rfl ?_
          clear hS
          rintro e w ⟨gg', rfl, hS⟩
          refine ⟨_, rfl, ?_⟩
          refine ⟨HM.s (hS.sb), ?_⟩
          first | refine D.bu 35 68719476735 rfl D.wantedN (by kernel_rfl) rfl rfl ?_ | refine D.buA 35 68719476735 rfl D.wantedN (by kernel_rfl) rfl rfl ?_
          refine D.eff 36 137438953471 rfl D.wantedN (by kernel_rfl) (by kernel_rfl) (fun _ _ h => h) ?_
          refine Z.bx hS rfl ?_
          clear hS; intro g w hS hge
          refine ⟨HM.s (hS.sb), ?_⟩
          refine Sh.dp 37 274877906943 ?_
          refine D.done (by kernel_rfl) ?_
          refine Sh.cut [(2, _)] ?_
          refine ⟨_, gg', rfl, ?_⟩
          obtain ⟨vl', vr', hS⟩ := Sep.QR_open.1 (hS.focus (R := QR gq' c.q) (by repeat (first | exact At.here | apply At.next)))
          exact Sep.CR_open.2 ⟨.slice A1 c.h.length c1, _, gq', g3, .slice A2 c.s.length c2, vl', vr', hS.sb⟩
        refine D.econs 34 34342961151 rfl D.wantedN (by kernel_rfl) (fun _ _ h => h) ?_ ?_
        · replace hS := hS.fo (R := GR gg G)
          refine Z.cl (rcopy_z gg G _ _ _ hS (by omega)) rfl ?_
          clear hS
          rintro e w ⟨gg', rfl, hS⟩
          refine ⟨_, rfl, ?_⟩
          refine ⟨HM.s (hS.sb), ?_⟩
          refine D.eff 24 34359738367 rfl D.wantedN (by kernel_rfl) (by kernel_rfl) (fun _ _ h => h) ?_
          refine Z.bx hS rfl ?_
          clear hS; intro g w hS hge
          refine ⟨HM.s (hS.sb), ?_⟩
          first | refine D.bu 35 68719476735 rfl D.wantedN (by kernel_rfl) rfl rfl ?_ | refine D.buA 35 68719476735 rfl D.wantedN (by kernel_rfl) rfl rfl ?_
          refine D.eff 36 137438953471 rfl D.wantedN (by kernel_rfl) (by kernel_rfl) (fun _ _ h => h) ?_
          refine Z.bx hS rfl ?_
          clear hS; intro g w hS hge
          refine ⟨HM.s (hS.sb), ?_⟩
          refine Sh.dp 37 274877906943 ?_
          refine D.done (by kernel_rfl) ?_
          refine Sh.cut [(2, _)] ?_
          refine ⟨_, gg', rfl, ?_⟩
          obtain ⟨vl', vr', hS⟩ := Sep.QR_open.1 (hS.focus (R := QR gq' c.q) (by repeat (first | exact At.here | apply At.next)))
          exact Sep.CR_open.2 ⟨.slice A1 c.h.length c1, _, gq', g3, .slice A2 c.s.length c2, vl', vr', hS.sb⟩
        exact D.enil
      exact D.enil
    exact D.enil
  clear hS
  rintro q1 w _ ⟨g', gg', rfl, hS⟩
  repeat' (first|refine Kd ?_|(refine Sh.sa hS ?_;clear hS;intro w hS)|(refine K3 ?_;clear hS;intro g w hS hge)|((first|refine GS ?_ ?_|refine VB ?_ ?_)<;>intro hb<;>(try simp only [J1,J2,J3,J4,J5,J6] at hb)<;>(try (exfalso;first|omega|exact hb trivial))))
  refine Dnt Tryz.results55 ?_
  obtain ⟨vl, vr, hS⟩ := Sep.QR_open.1 (hS.focus (R := QR gq c.q) (by repeat (first | exact At.here | apply At.next)))
  exact ⟨g', gg', rfl, (Sep.CR_open.2 ⟨.slice Ah c.h.length ch, gs, gq, gt, .slice As c.s.length cs, vl, vr, hS.sub (L' := .blk gp 69 [.int .i64 cell, .int .i64 ten, .slice Ah c.h.length ch, .pointer (some ⟨gs, 0, .none⟩), .pointer (some ⟨gq, 0, .none⟩), .pointer (some ⟨gt, 0, .none⟩), .pointer (some ⟨gg, 0, .none⟩)] :: .sl 49 8 (.slice Ah c.h.length ch) (c.h.map Ch.cells) :: .blk gs 100 [.slice As c.s.length cs] :: .sl 102 3 (.slice As c.s.length cs) (c.s.map Ce.cells) :: .blk gq 105 [vl, vr, .int .i64 c.q.most] :: .sl 79 2 vl (c.q.l.map It.cells) :: .sl 133 4 vr (c.q.r.map Le.cells) :: .blk gt 109 c.t.cells.toList :: CR g' cell ten (.pointer (some ⟨gg', 0, .none⟩)) c :: GR gg' G :: GR gg G :: F) (by repeat (first | exact Sub.rest | exact Sub.nil | exact .skip .rest | exact .skip (.skip .rest) | exact .skip (.skip (.skip .rest)) | apply Sub.keep | refine Sub.cons (by repeat (first | exact At.here | apply At.next)) ?_ | apply Sub.skip))⟩).sub (by repeat (first | exact Sub.rest | exact Sub.nil | exact .skip .rest | exact .skip (.skip .rest) | exact .skip (.skip (.skip .rest)) | apply Sub.keep | refine Sub.cons (by repeat (first | exact At.here | apply At.next)) ?_ | apply Sub.skip))⟩

/-- An act. -/
structure A8 where
  kind : Int
  n : Int
  tick : Int
  r : Rq
  x : Ch
  w : Wi
def A8.cells (a : A8) : List Value := [.int .i64 a.kind, .int .i64 a.n, .int .i64 a.tick, .int .i64 a.r.tenant, .int .i64 a.r.client, .int .i64 a.r.number, .int .i64 a.r.op, .int .i64 a.r.item, .string a.r.key, .string a.r.value,
  .int .i64 a.x.epoch, .int .i64 a.x.seq, .int .i64 a.x.kind, .int .i64 a.x.client, .int .i64 a.x.number, .int .i64 a.x.item, .string a.x.key, .string a.x.value,
  .int .i64 a.w.cell, .int .i64 a.w.epoch, .int .i64 a.w.version, .int .i64 a.w.from_, .int .i64 a.w.until_]
def A8.val (a : A8) : Value := .agg a.cells.toArray
/-- A pair of copies, of the program and of the reference. -/
structure Two (c c' : Cp) (P R : Ga) : Prop where
  g : CG c
  c : CRel c c'
  w : Rel P R
theorem Two.ep {c c' : Cp} {P R : Ga} (h : Two c c' P R) : ∀ y, y ∈ P.ws → 1 ≤ y.epoch ∧ y.epoch ≤ 1048576 := fun y hy => by
  have := (h.w.okP hy).2.1
  unfold okW at this
  omega
theorem Two.epR {c c' : Cp} {P R : Ga} (h : Two c c' P R) : ∀ y, y ∈ R.ws → 1 ≤ y.epoch ∧ y.epoch ≤ 1048576 := fun y hy => by
  have := (h.w.ok y hy).2
  unfold okW at this
  omega
set_option maxHeartbeats 8000000 in
theorem do28_z (gp gg gr gh : Nat) (cell ten : Int) (c c' : Cp) (P V : Ga) (a : A8) (r : World) (F : List Res) (w : World) (hS : Sep r [] (PC gp cell ten (.pointer (some ⟨gg, 0, .none⟩)) c :: GP gg P :: CR gr cell ten (.pointer (some ⟨gh, 0, .none⟩)) c' :: GR gh V :: F) w)
    (hT : Two c c' P V) (hl : c.h.length ≤ 900) (hl1 : P.ws.length ≤ 1000) (hl2 : V.ws.length ≤ 1000) :
    Calls Tryz.prog 52 #[.pointer (some ⟨gp, 0, .none⟩), .pointer (some ⟨gr, 0, .none⟩), a.val] w fun e w' => ∃ (gp' gg' gr' gh' : Nat) (c2 c2' : Cp) (P2 R2 : Ga), e = .returned (.tuple #[.pointer (some ⟨gp', 0, .none⟩), .pointer (some ⟨gr', 0, .none⟩), .bool true]) ∧ Two c2 c2' P2 R2 ∧ c2.h.length ≤ c.h.length + 1 ∧ P2.ws.length ≤ P.ws.length + 1 ∧ R2.ws.length ≤ V.ws.length + 1 ∧
      Sep r [] (PC gp' cell ten (.pointer (some ⟨gg', 0, .none⟩)) c2 :: GP gg' P2 :: CR gr' cell ten (.pointer (some ⟨gh', 0, .none⟩)) c2' :: GR gh' R2 :: F) w' := by
  have hep := hT.ep
  have hepR := hT.epR
  obtain ⟨hc, hr, hg⟩ := hT
  have hcw := hr.cw hc
  have hok := hc.ok
  have hok' := hcw.ok
  have hle := hr.h
  refine Z.enter Tryz.func52 Tryz.ntmps52 rfl rfl ?_
  repeat' (first|refine Kd ?_|(refine Sh.sa hS ?_;clear hS;intro w hS)|(refine K3 ?_;clear hS;intro g w hS hge)|((first|refine GS ?_ ?_|refine VB ?_ ?_)<;>intro hb<;>(try simp only [J1,J2,J3,J4,J5,J6] at hb)<;>(try (exfalso;first|omega|exact hb trivial))))
  rename Nat => ga
  refine Z.eff (Z.cl (mod_y a.kind 12 _ _ _ hS (by omega) (by omega)) rfl ?_) rfl
  clear hS
  rintro e w ⟨rfl, hS⟩
  refine ⟨_, rfl, ?_⟩
  generalize hk : modN a.kind 12 = k
  repeat' (first|refine Kd ?_|(refine Sh.sa hS ?_;clear hS;intro w hS)|(refine K3 ?_;clear hS;intro g w hS hge)|((first|refine GS ?_ ?_|refine VB ?_ ?_)<;>intro hb<;>(try simp only [J1,J2,J3,J4,J5,J6] at hb)<;>(try (exfalso;first|omega|exact hb trivial))))
  · -- Apply
    refine D.startS (Lr := [.blk ga 89 a.cells]) (hS.sb) 14 14 (by kernel_rfl) rfl ?_
    replace hS := hS.drew
    refine Sh.dp 0 1 ?_
    refine Sh.dp 1 3 ?_
    refine Sh.dp 2 7 ?_
    refine Sh.dp 3 15 ?_
    refine Sh.dp 6 79 ?_
    refine Sh.dp 7 207 ?_
    refine Sh.dl 4 223 ?_
    refine Sh.dl 8 479 ?_
    refine D.eff 5 511 rfl D.wantedN (by kernel_rfl) (by kernel_rfl) (fun _ _ h => h) ?_
    replace hS := hS.fo (R := PC gp _ _ _ _)
    refine Z.cl (pcapply_z gp cell ten _ c a.x _ _ _ hS hc.cok (by omega)) rfl ?_
    clear hS
    rintro e w ⟨rfl, hS⟩
    refine ⟨_, rfl, ?_⟩
    refine ⟨HM.s (hS.sb), ?_⟩
    refine D.eff 9 1023 rfl D.wantedN (by kernel_rfl) (by kernel_rfl) (fun _ _ h => h) ?_
    replace hS := hS.fo (R := CR gr _ _ _ _)
    refine Z.cl (capply_z gr cell ten _ c' a.x _ _ _ hS hok'.1 (by rw [hle]; omega) (by omega) (by omega) (by omega)) rfl ?_
    clear hS
    rintro e w ⟨rfl, hS⟩
    refine ⟨_, rfl, ?_⟩
    refine ⟨HM.s (hS.sb), ?_⟩
    first | refine D.pr 10 2047 rfl D.wantedN (by kernel_rfl) rfl ?_ | refine D.pl 10 2047 rfl D.wantedN (by kernel_rfl) (R.eqa rfl rfl rfl rfl) ?_
    refine Sh.dp 11 4095 ?_
    refine Sh.dp 12 8191 ?_
    refine Sh.dp 13 16383 ?_
    refine D.done (by kernel_rfl) ?_
    repeat' (first|refine Kd ?_|(refine Sh.sa hS ?_;clear hS;intro w hS)|(refine K3 ?_;clear hS;intro g w hS hge)|((first|refine GS ?_ ?_|refine VB ?_ ?_)<;>intro hb<;>(try simp only [J1,J2,J3,J4,J5,J6] at hb)<;>(try (exfalso;first|omega|exact hb trivial))))
    refine Dnttt Tryz.results52 ?_
    obtain ⟨he, hr2⟩ := hr.app a.x
    obtain ⟨hc2, hl2⟩ := hc.app a.x
    exact ⟨gp, gg, gr, gh, _, _, _, _, by simp [Z.packR, he], ⟨hc2, hr2, hg⟩, hl2, by omega, by omega, hS.sb⟩
  · -- Truncate
    refine D.startS (Lr := [.blk ga 89 a.cells]) (hS.sb) 14 14 (by kernel_rfl) rfl ?_
    replace hS := hS.drew
    refine Sh.dp 0 1 ?_
    refine Sh.dp 1 3 ?_
    refine Sh.dp 2 7 ?_
    refine Sh.dp 3 15 ?_
    refine Sh.dp 6 79 ?_
    refine Sh.dp 7 207 ?_
    refine Sh.dl 4 223 ?_
    refine Sh.dl 8 479 ?_
    refine D.eff 5 511 rfl D.wantedN (by kernel_rfl) (by kernel_rfl) (fun _ _ h => h) ?_
    replace hS := hS.fo (R := PC gp _ _ _ _)
    refine Z.cl (pctrunc_f gp cell ten _ c a.n _ _ _ hS hc.isH) rfl ?_
    clear hS
    rintro e w ⟨rfl, hS⟩
    refine ⟨_, rfl, ?_⟩
    refine ⟨HM.s (hS.sb), ?_⟩
    refine D.eff 9 1023 rfl D.wantedN (by kernel_rfl) (by kernel_rfl) (fun _ _ h => h) ?_
    replace hS := hS.fo (R := CR gr _ _ _ _)
    refine Z.cl (rctrunc_f gr cell ten _ c' a.n _ _ _ hS (by rw [hle]; exact hc.isH) (by rw [hle]; omega)) rfl ?_
    clear hS
    rintro e w ⟨rfl, hS⟩
    refine ⟨_, rfl, ?_⟩
    refine ⟨HM.s (hS.sb), ?_⟩
    first | refine D.pr 10 2047 rfl D.wantedN (by kernel_rfl) rfl ?_ | refine D.pl 10 2047 rfl D.wantedN (by kernel_rfl) (R.eqa rfl rfl rfl rfl) ?_
    refine Sh.dp 11 4095 ?_
    refine Sh.dp 12 8191 ?_
    refine Sh.dp 13 16383 ?_
    refine D.done (by kernel_rfl) ?_
    repeat' (first|refine Kd ?_|(refine Sh.sa hS ?_;clear hS;intro w hS)|(refine K3 ?_;clear hS;intro g w hS hge)|((first|refine GS ?_ ?_|refine VB ?_ ?_)<;>intro hb<;>(try simp only [J1,J2,J3,J4,J5,J6] at hb)<;>(try (exfalso;first|omega|exact hb trivial))))
    refine Dnttt Tryz.results52 ?_
    obtain ⟨he, hr2, hc2, hl2⟩ := hr.trunc hc a.n
    exact ⟨gp, gg, gr, gh, _, _, _, _, by simp [Z.packR, he], ⟨hc2, hr2, hg⟩, by omega, by omega, by omega, hS.sb⟩
  · -- Crash
    replace hS := (hS.focus (R := GP gg _) (by repeat (first | exact At.here | apply At.next))).focus (R := PC gp _ _ _ _) (by repeat (first | exact At.here | apply At.next))
    refine Z.eff (Z.cl (pccrash_z gp gg cell ten c P _ _ _ hS) rfl ?_) rfl
    clear hS
    rintro e w ⟨v1, rfl, hS⟩
    refine ⟨_, rfl, ?_⟩
    repeat' (first|refine Kd ?_|(refine Sh.sa hS ?_;clear hS;intro w hS)|(refine K3 ?_;clear hS;intro g w hS hge)|((first|refine GS ?_ ?_|refine VB ?_ ?_)<;>intro hb<;>(try simp only [J1,J2,J3,J4,J5,J6] at hb)<;>(try (exfalso;first|omega|exact hb trivial))))
    replace hS := (hS.focus (R := GR gh _) (by repeat (first | exact At.here | apply At.next))).focus (R := CR gr _ _ _ _) (by repeat (first | exact At.here | apply At.next))
    refine Z.eff (Z.cl (rccrash_z gr gh cell ten c' V _ _ _ hS) rfl ?_) rfl
    clear hS
    rintro e w ⟨v2, rfl, hS⟩
    refine ⟨_, rfl, ?_⟩
    repeat' (first|refine Kd ?_|(refine Sh.sa hS ?_;clear hS;intro w hS)|(refine K3 ?_;clear hS;intro g w hS hge)|((first|refine GS ?_ ?_|refine VB ?_ ?_)<;>intro hb<;>(try simp only [J1,J2,J3,J4,J5,J6] at hb)<;>(try (exfalso;first|omega|exact hb trivial))))
    refine Dnttt Tryz.results52 ?_
    exact ⟨gp, gg, gr, gh, _, _, _, _, rfl, ⟨hc.forget, hr.forget, hg.crash⟩, by simp only; omega, by simp, by simp, hS.sb⟩
  · -- Give
    obtain ⟨hrel', heq⟩ := hg.give a.w
    obtain ⟨vh, gs, gq, gt, vs, vl, vr, hS⟩ := Sep.CR_open.1 (hS.focus (R := CR gr _ _ _ _) (by repeat (first | exact At.here | apply At.next)))
    refine D.startS (Lr := [.blk ga 89 a.cells, .blk gr 69 _]) (hS.sb) 18 18 (by kernel_rfl) rfl ?_
    replace hS := hS.drew
    refine Sh.dp 0 1 ?_
    refine Sh.dp 1 3 ?_
    refine Sh.dp 2 7 ?_
    refine Sh.dp 4 23 ?_
    refine Sh.dp 7 151 ?_
    refine Sh.dp 8 407 ?_
    refine Sh.dp 9 919 ?_
    refine Sh.dp 11 2967 ?_
    refine Sh.dl 5 2999 ?_
    refine Sh.dl 10 4023 ?_
    refine Sh.dl 12 8119 ?_
    refine D.eff 3 8127 rfl D.wantedN (by kernel_rfl) (by kernel_rfl) (fun _ _ h => h) ?_
    replace hS := hS.fo (R := PC gp _ _ _ _)
    refine Z.cl (pcgate_z gp gg cell ten _ _ _ _ hS) rfl ?_
    clear hS
    rintro e w ⟨rfl, hS⟩
    refine ⟨_, rfl, ?_⟩
    refine ⟨HM.s (hS.sb), ?_⟩
    refine D.eff 6 8191 rfl D.wantedN (by kernel_rfl) (by kernel_rfl) (fun _ _ h => h) ?_
    replace hS := hS.fo (R := GP gg _)
    refine Z.cl (ggive_z gg P a.w _ _ _ hS (by omega) hg.sorted) rfl ?_
    clear hS
    rintro e w ⟨rfl, hS⟩
    refine ⟨_, rfl, ?_⟩
    refine ⟨HM.s (hS.sb), ?_⟩
    refine D.eff 13 16383 rfl D.wantedN (by kernel_rfl) (by kernel_rfl) (fun _ _ h => h) ?_
    replace hS := hS.fo (R := GR gh _)
    refine Z.cl (rgive_z gh V a.w _ _ _ hS (by omega)) rfl ?_
    clear hS
    rintro e w ⟨rfl, hS⟩
    refine ⟨_, rfl, ?_⟩
    refine ⟨HM.s (hS.sb), ?_⟩
    first | refine D.pr 14 32767 rfl D.wantedN (by kernel_rfl) rfl ?_ | refine D.pl 14 32767 rfl D.wantedN (by kernel_rfl) (R.eqa rfl rfl rfl rfl) ?_
    refine Sh.dp 15 65535 ?_
    refine Sh.dp 16 131071 ?_
    refine Sh.dp 17 262143 ?_
    refine D.done (by kernel_rfl) ?_
    repeat' (first|refine Kd ?_|(refine Sh.sa hS ?_;clear hS;intro w hS)|(refine K3 ?_;clear hS;intro g w hS hge)|((first|refine GS ?_ ?_|refine VB ?_ ?_)<;>intro hb<;>(try simp only [J1,J2,J3,J4,J5,J6] at hb)<;>(try (exfalso;first|omega|exact hb trivial))))
    refine Dnttt Tryz.results52 ?_
    replace hS := Sep.CR_open.2 ⟨vh, gs, gq, gt, vs, vl, vr, hS.sub (L' := .blk gr 69 [.int .i64 cell, .int .i64 ten, vh, .pointer (some ⟨gs, 0, none⟩), .pointer (some ⟨gq, 0, none⟩), .pointer (some ⟨gt, 0, none⟩), .pointer (some ⟨gh, 0, .none⟩)] :: .sl 49 8 vh (c'.h.map Ch.cells) :: .blk gs 100 [vs] :: .sl 102 3 vs (c'.s.map Ce.cells) :: .blk gq 105 [vl, vr, .int .i64 c'.q.most] :: .sl 79 2 vl (c'.q.l.map It.cells) :: .sl 133 4 vr (c'.q.r.map Le.cells) :: .blk gt 109 c'.t.cells.toList :: PC gp cell ten (.pointer (some ⟨gg, 0, .none⟩)) c :: GP gg (giveP P a.w).1 :: GR gh (giveR V a.w).1 :: F) (by repeat (first | exact Sub.rest | exact Sub.nil | exact .skip .rest | exact .skip (.skip .rest) | exact .skip (.skip (.skip .rest)) | apply Sub.keep | refine Sub.cons (by repeat (first | exact At.here | apply At.next)) ?_ | apply Sub.skip))⟩
    exact ⟨gp, gg, gr, gh, _, _, _, _, by simp [Z.packR, heq], ⟨hc, hr, hrel'⟩, by omega, giveP_len _ _, giveR_len _ _, hS.sb⟩
  · -- Close
    obtain ⟨hrel', heq, hlp, hlr⟩ := hg.close' a.n
    obtain ⟨vh, gs, gq, gt, vs, vl, vr, hS⟩ := Sep.CR_open.1 (hS.focus (R := CR gr _ _ _ _) (by repeat (first | exact At.here | apply At.next)))
    refine D.startS (Lr := [.blk ga 89 a.cells, .blk gr 69 _]) (hS.sb) 18 18 (by kernel_rfl) rfl ?_
    replace hS := hS.drew
    refine Sh.dp 0 1 ?_
    refine Sh.dp 1 3 ?_
    refine Sh.dp 2 7 ?_
    refine Sh.dp 4 23 ?_
    refine Sh.dp 7 151 ?_
    refine Sh.dp 8 407 ?_
    refine Sh.dp 9 919 ?_
    refine Sh.dp 11 2967 ?_
    refine Sh.dl 5 2999 ?_
    refine Sh.dl 10 4023 ?_
    refine Sh.dl 12 8119 ?_
    refine D.eff 3 8127 rfl D.wantedN (by kernel_rfl) (by kernel_rfl) (fun _ _ h => h) ?_
    replace hS := hS.fo (R := PC gp _ _ _ _)
    refine Z.cl (pcgate_z gp gg cell ten _ _ _ _ hS) rfl ?_
    clear hS
    rintro e w ⟨rfl, hS⟩
    refine ⟨_, rfl, ?_⟩
    refine ⟨HM.s (hS.sb), ?_⟩
    refine D.eff 6 8191 rfl D.wantedN (by kernel_rfl) (by kernel_rfl) (fun _ _ h => h) ?_
    replace hS := hS.fo (R := GP gg _)
    refine Z.cl (gclose_f gg P a.n _ _ _ hS (by omega)) rfl ?_
    clear hS
    rintro e w ⟨rfl, hS⟩
    refine ⟨_, rfl, ?_⟩
    refine ⟨HM.s (hS.sb), ?_⟩
    refine D.eff 13 16383 rfl D.wantedN (by kernel_rfl) (by kernel_rfl) (fun _ _ h => h) ?_
    replace hS := hS.fo (R := GR gh _)
    refine Z.cl (rclose_f gh V a.n _ _ _ hS) rfl ?_
    clear hS
    rintro e w ⟨rfl, hS⟩
    refine ⟨_, rfl, ?_⟩
    refine ⟨HM.s (hS.sb), ?_⟩
    first | refine D.pr 14 32767 rfl D.wantedN (by kernel_rfl) rfl ?_ | refine D.pl 14 32767 rfl D.wantedN (by kernel_rfl) (R.eqa rfl rfl rfl rfl) ?_
    refine Sh.dp 15 65535 ?_
    refine Sh.dp 16 131071 ?_
    refine Sh.dp 17 262143 ?_
    refine D.done (by kernel_rfl) ?_
    repeat' (first|refine Kd ?_|(refine Sh.sa hS ?_;clear hS;intro w hS)|(refine K3 ?_;clear hS;intro g w hS hge)|((first|refine GS ?_ ?_|refine VB ?_ ?_)<;>intro hb<;>(try simp only [J1,J2,J3,J4,J5,J6] at hb)<;>(try (exfalso;first|omega|exact hb trivial))))
    refine Dnttt Tryz.results52 ?_
    replace hS := Sep.CR_open.2 ⟨vh, gs, gq, gt, vs, vl, vr, hS.sub (L' := .blk gr 69 [.int .i64 cell, .int .i64 ten, vh, .pointer (some ⟨gs, 0, none⟩), .pointer (some ⟨gq, 0, none⟩), .pointer (some ⟨gt, 0, none⟩), .pointer (some ⟨gh, 0, .none⟩)] :: .sl 49 8 vh (c'.h.map Ch.cells) :: .blk gs 100 [vs] :: .sl 102 3 vs (c'.s.map Ce.cells) :: .blk gq 105 [vl, vr, .int .i64 c'.q.most] :: .sl 79 2 vl (c'.q.l.map It.cells) :: .sl 133 4 vr (c'.q.r.map Le.cells) :: .blk gt 109 c'.t.cells.toList :: PC gp cell ten (.pointer (some ⟨gg, 0, .none⟩)) c :: GP gg (closeP P a.n).1 :: GR gh (closeR V a.n).1 :: F) (by repeat (first | exact Sub.rest | exact Sub.nil | exact .skip .rest | exact .skip (.skip .rest) | exact .skip (.skip (.skip .rest)) | apply Sub.keep | refine Sub.cons (by repeat (first | exact At.here | apply At.next)) ?_ | apply Sub.skip))⟩
    exact ⟨gp, gg, gr, gh, _, _, _, _, by simp [Z.packR, heq], ⟨hc, hr, hrel'⟩, by omega, by omega, by omega, hS.sb⟩
  · -- Copy
    replace hS := (hS.focus (R := GP gg _) (by repeat (first | exact At.here | apply At.next))).focus (R := PC gp _ _ _ _) (by repeat (first | exact At.here | apply At.next))
    refine Z.eff (Z.cl (pccopy_z gp gg cell ten c P _ _ _ hS (by omega) (by omega) (by omega) (by omega)) rfl ?_) rfl
    clear hS
    rintro e w ⟨gp', gg', rfl, hS⟩
    refine ⟨_, rfl, ?_⟩
    repeat' (first|refine Kd ?_|(refine Sh.sa hS ?_;clear hS;intro w hS)|(refine K3 ?_;clear hS;intro g w hS hge)|((first|refine GS ?_ ?_|refine VB ?_ ?_)<;>intro hb<;>(try simp only [J1,J2,J3,J4,J5,J6] at hb)<;>(try (exfalso;first|omega|exact hb trivial))))
    replace hS := (hS.focus (R := GR gh _) (by repeat (first | exact At.here | apply At.next))).focus (R := CR gr _ _ _ _) (by repeat (first | exact At.here | apply At.next))
    refine Z.eff (Z.cl (rccopy_z gr gh cell ten c' V _ _ _ hS (by rw [hle]; omega) (by omega) (by omega) (by omega) (by omega)) rfl ?_) rfl
    clear hS
    rintro e w ⟨gr', gh', rfl, hS⟩
    refine ⟨_, rfl, ?_⟩
    repeat' (first|refine Kd ?_|(refine Sh.sa hS ?_;clear hS;intro w hS)|(refine K3 ?_;clear hS;intro g w hS hge)|((first|refine GS ?_ ?_|refine VB ?_ ?_)<;>intro hb<;>(try simp only [J1,J2,J3,J4,J5,J6] at hb)<;>(try (exfalso;first|omega|exact hb trivial))))
    refine Dnttt Tryz.results52 ?_
    exact ⟨gp', gg', gr', gh', _, _, _, _, rfl, ⟨hc, hr, hg⟩, by omega, by omega, by omega, hS.sb⟩
  · -- Execute
    have hac : ∀ v t, accR V v t = accs P.ws v t 0 := fun v t => hg.accs v t
    refine D.startS (Lr := [.blk ga 89 a.cells]) (hS.sb) 22 22 (by kernel_rfl) rfl ?_
    replace hS := hS.drew
    refine Sh.dp 0 1 ?_
    refine Sh.dp 1 3 ?_
    refine Sh.dp 2 7 ?_
    refine Sh.dp 3 15 ?_
    refine Sh.dp 5 47 ?_
    refine Sh.dp 7 175 ?_
    refine Sh.dp 10 1199 ?_
    refine Sh.dp 11 3247 ?_
    refine Sh.dp 13 11439 ?_
    refine Sh.dp 15 44207 ?_
    refine Sh.dl 4 44223 ?_
    refine Sh.dl 6 44287 ?_
    refine Sh.dl 8 44543 ?_
    refine Sh.dl 12 48639 ?_
    refine Sh.dl 14 65023 ?_
    refine Sh.dl 16 130559 ?_
    refine D.eff 9 131071 rfl D.wantedN (by kernel_rfl) (by kernel_rfl) (fun _ _ h => h) ?_
    replace hS := (hS.focus (R := GP gg _) (by repeat (first | exact At.here | apply At.next))).focus (R := PC gp _ _ _ _) (by repeat (first | exact At.here | apply At.next))
    refine Z.cl (pexec_z gp gg cell ten c P a.n a.tick a.r _ _ _ hS hc hep (by omega) (by omega)) rfl ?_
    clear hS
    rintro e w ⟨rfl, hS⟩
    refine ⟨_, rfl, ?_⟩
    refine ⟨HM.s (hS.sb), ?_⟩
    refine D.eff 17 262143 rfl D.wantedN (by kernel_rfl) (by kernel_rfl) (fun _ _ h => h) ?_
    replace hS := (hS.focus (R := GR gh _) (by repeat (first | exact At.here | apply At.next))).focus (R := CR gr _ _ _ _) (by repeat (first | exact At.here | apply At.next))
    refine Z.cl (rexec_z gr gh cell ten c' V a.n a.tick a.r _ _ _ hS hcw hepR (by omega) (by rw [hle]; omega)) rfl ?_
    clear hS
    rintro e w ⟨rfl, hS⟩
    refine ⟨_, rfl, ?_⟩
    rw [hac] at hS ⊢
    rw [(hr.ex hc ten _ a.tick a.r).1]
    refine ⟨HM.s (hS.sb), ?_⟩
    first | refine D.pr 18 524287 rfl D.wantedN (by kernel_rfl) rfl ?_ | refine D.pl 18 524287 rfl D.wantedN (by kernel_rfl) (R.eqa rfl rfl rfl rfl) ?_
    refine Sh.dp 19 1048575 ?_
    refine Sh.dp 20 2097151 ?_
    refine Sh.dp 21 4194303 ?_
    refine D.done (by kernel_rfl) ?_
    repeat' (first|refine Kd ?_|(refine Sh.sa hS ?_;clear hS;intro w hS)|(refine K3 ?_;clear hS;intro g w hS hge)|((first|refine GS ?_ ?_|refine VB ?_ ?_)<;>intro hb<;>(try simp only [J1,J2,J3,J4,J5,J6] at hb)<;>(try (exfalso;first|omega|exact hb trivial))))
    refine Dnttt Tryz.results52 ?_
    obtain ⟨hc2, hl2⟩ := hc.ex ten (accs P.ws a.n a.tick 0) a.tick a.r
    exact ⟨gp, gg, gr, gh, _, _, _, _, by simp [Z.packR], ⟨hc2, (hr.ex hc ten _ a.tick a.r).2, hg⟩, hl2, by omega, by omega, hS.sb⟩
end Go.Proofs.YtahackdfjcgkhaaGreat
