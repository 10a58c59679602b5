/-
  Manifests of copies: Make, Check, Missing, of the program and of the reference.
-/
import Derived.Test.YtiabhlogadboeaaGreatNHoM
import Derived.Test.YtiabhlogadboeaaGreatNTc
namespace Go.Proofs.YtiabhlogadboeaaGreat
open Go.RowKit
set_option linter.unusedSimpArgs false
set_option linter.unusedVariables false
attribute [local irreducible] Res.blk Res.sl Res.all Res.ex Res.pure Res.star

set_option maxHeartbeats 1000000 in
theorem pmissing_z (gp : Nat) (cell ten : Int) (vg : Value) (c : Cp) (m : Mf) (A1 A2 A3 : Option Addr) (n1 n2 n3 c1 c2 c3 : Nat) (r : World) (F : List Res) (w : World) (hS : Sep r [] (PC gp cell ten vg c :: F) w) (hm : i64ok m.length) :
    Calls Tryz.prog 27 #[.pointer (some ⟨gp, 0, .none⟩), m.val (.slice A1 n1 c1) (.slice A2 n2 c2) (.slice A3 n3 c3)] w fun e w' => e = .returned (.int .i64 (missM c m)) ∧ Sep r [] (PC gp cell ten vg c :: F) w' := by
  unfold i64ok at hm
  unfold missM
  refine Z.enter Tryz.func27 Tryz.ntmps27 rfl rfl ?_
  repeat' (first|refine K ?_|(refine Sh.sa hS ?_;clear hS;intro w hS)|(refine K3 ?_;clear hS;intro g w hS hge)|((first|refine GS ?_ ?_|refine VB ?_ ?_)<;>intro hb<;>(try simp only [J1,J2,J3,J4,J5,J6] at hb)<;>(try (exfalso;first|omega|exact hb trivial))))
  refine D.startS (Lr := [.blk g 36 (m.cells (.slice A1 n1 c1) (.slice A2 n2 c2) (.slice A3 n3 c3))]) (hS.sb) 5 5 (by kernel_rfl) rfl ?_
  replace hS := hS.drew
  refine Sh.dp 0 1 ?_
  refine Sh.dp 2 5 ?_
  refine Sh.dl 1 7 ?_
  refine D.eff 3 15 rfl D.wantedN (by kernel_rfl) (by kernel_rfl) (fun _ _ h => h) ?_
  replace hS := hS.fo (R := PC gp _ _ _ _)
  refine Z.cl (pclen_z gp cell ten _ _ _ _ _ hS) rfl ?_
  clear hS
  rintro e w ⟨rfl, hS⟩
  refine ⟨_, rfl, ?_⟩
  refine ⟨HM.s (hS.sb), ?_⟩
  refine Sh.dp 4 31 ?_
  refine D.done (by kernel_rfl) ?_
  repeat' (first|refine K ?_|(refine Sh.sa hS ?_;clear hS;intro w hS)|(refine K3 ?_;clear hS;intro g w hS hge)|((first|refine GS ?_ ?_|refine VB ?_ ?_)<;>intro hb<;>(try simp only [J1,J2,J3,J4,J5,J6] at hb)<;>(try (exfalso;first|omega|exact hb trivial))))
  · refine Dnt Tryz.results27 ?_
    rw [if_pos hb]
    exact ⟨rfl, hS.sb⟩
  · refine D.startS (Lr := [.blk g 36 (m.cells (.slice A1 n1 c1) (.slice A2 n2 c2) (.slice A3 n3 c3))]) (hS.sb) 6 6 (by kernel_rfl) rfl ?_
    replace hS := hS.drew
    refine Sh.dp 0 1 ?_
    refine Sh.dp 2 5 ?_
    refine Sh.dl 1 7 ?_
    refine D.eff 3 15 rfl D.wantedN (by kernel_rfl) (by kernel_rfl) (fun _ _ h => h) ?_
    replace hS := hS.fo (R := PC gp _ _ _ _)
    refine Z.cl (pclen_z gp cell ten _ _ _ _ _ hS) rfl ?_
    clear hS
    rintro e w ⟨rfl, hS⟩
    refine ⟨_, rfl, ?_⟩
    refine ⟨HM.s (hS.sb), ?_⟩
    first | refine D.sum 4 31 rfl D.wantedN (by kernel_rfl) rfl (by constructor <;> omega) ?_ | refine D.sumW 4 31 rfl D.wantedN (by kernel_rfl) rfl ?_
    refine Sh.dp 5 63 ?_
    refine D.done (by kernel_rfl) ?_
    repeat' (first|refine K ?_|(refine Sh.sa hS ?_;clear hS;intro w hS)|(refine K3 ?_;clear hS;intro g w hS hge)|((first|refine GS ?_ ?_|refine VB ?_ ?_)<;>intro hb<;>(try simp only [J1,J2,J3,J4,J5,J6] at hb)<;>(try (exfalso;first|omega|exact hb trivial))))
    refine Dnt Tryz.results27 ?_
    rw [if_neg (by omega)]
    exact ⟨rfl, hS.sb⟩
set_option maxHeartbeats 1000000 in
theorem rmissing_z (gr : Nat) (cell ten : Int) (vg : Value) (c : Cp) (m : Mf) (A1 A2 A3 : Option Addr) (n1 n2 n3 c1 c2 c3 : Nat) (r : World) (F : List Res) (w : World) (hS : Sep r [] (CR gr cell ten vg c :: F) w) (hm : i64ok m.length) (hl : c.h.length ≤ 5000) :
    Calls Tryz.prog 28 #[.pointer (some ⟨gr, 0, .none⟩), m.val (.slice A1 n1 c1) (.slice A2 n2 c2) (.slice A3 n3 c3)] w fun e w' => e = .returned (.int .i64 (missM c m)) ∧ Sep r [] (CR gr cell ten vg c :: F) w' := by
  unfold i64ok at hm
  unfold missM
  obtain ⟨vh, gs, gq, gt, vs, vl, vr, hS⟩ := Sep.CR_open.1 hS
  obtain ⟨Ah, ch, rfl, _⟩ := (hS.slrows (e := 90) (v := vh) (by repeat (first | exact At.here | apply At.next))).mform
  refine Z.enter Tryz.func28 Tryz.ntmps28 rfl rfl ?_
  repeat' (first|refine K ?_|(refine Sh.sa hS ?_;clear hS;intro w hS)|(refine K3 ?_;clear hS;intro g w hS hge)|((first|refine GS ?_ ?_|refine VB ?_ ?_)<;>intro hb<;>(try simp only [J1,J2,J3,J4,J5,J6] at hb)<;>(try (exfalso;first|omega|exact hb trivial))))
  refine D.startS (Lr := [.blk g 36 (m.cells (.slice A1 n1 c1) (.slice A2 n2 c2) (.slice A3 n3 c3)), .blk gr 54 [.int .i64 cell, .int .i64 ten, .slice Ah c.h.length ch, .pointer (some ⟨gs, 0, .none⟩), .pointer (some ⟨gq, 0, .none⟩), .pointer (some ⟨gt, 0, .none⟩), vg]]) (hS.sb) 8 8 (by kernel_rfl) rfl ?_
  replace hS := hS.drew
  refine Sh.dp 0 1 ?_
  refine Sh.dp 2 5 ?_
  refine Sh.dp 3 13 ?_
  refine Sh.dp 4 29 ?_
  refine Sh.dl 1 31 ?_
  refine Sh.dl 5 63 ?_
  refine Sh.dp 6 127 ?_
  refine Sh.dp 7 255 ?_
  refine D.done (by kernel_rfl) ?_
  repeat' (first|refine K ?_|(refine Sh.sa hS ?_;clear hS;intro w hS)|(refine K3 ?_;clear hS;intro g w hS hge)|((first|refine GS ?_ ?_|refine VB ?_ ?_)<;>intro hb<;>(try simp only [J1,J2,J3,J4,J5,J6] at hb)<;>(try (exfalso;first|omega|exact hb trivial))))
  · refine Dnt Tryz.results28 ?_
    rw [if_pos hb]
    exact ⟨rfl, Sep.CR_open.2 ⟨.slice Ah c.h.length ch, gs, gq, gt, vs, vl, vr, hS.sb⟩⟩
  · refine D.startS (Lr := [.blk g 36 (m.cells (.slice A1 n1 c1) (.slice A2 n2 c2) (.slice A3 n3 c3)), .blk gr 54 [.int .i64 cell, .int .i64 ten, .slice Ah c.h.length ch, .pointer (some ⟨gs, 0, .none⟩), .pointer (some ⟨gq, 0, .none⟩), .pointer (some ⟨gt, 0, .none⟩), vg]]) (hS.sb) 9 9 (by kernel_rfl) rfl ?_
    replace hS := hS.drew
    refine Sh.dp 0 1 ?_
    refine Sh.dp 2 5 ?_
    refine Sh.dp 3 13 ?_
    refine Sh.dp 4 29 ?_
    refine Sh.dl 1 31 ?_
    refine Sh.dl 5 63 ?_
    refine Sh.dp 6 127 ?_
    first | refine D.sum 7 255 rfl D.wantedN (by kernel_rfl) rfl (by constructor <;> omega) ?_ | refine D.sumW 7 255 rfl D.wantedN (by kernel_rfl) rfl ?_
    refine Sh.dp 8 511 ?_
    refine D.done (by kernel_rfl) ?_
    repeat' (first|refine K ?_|(refine Sh.sa hS ?_;clear hS;intro w hS)|(refine K3 ?_;clear hS;intro g w hS hge)|((first|refine GS ?_ ?_|refine VB ?_ ?_)<;>intro hb<;>(try simp only [J1,J2,J3,J4,J5,J6] at hb)<;>(try (exfalso;first|omega|exact hb trivial))))
    refine Dnt Tryz.results28 ?_
    rw [if_neg (by omega)]
    exact ⟨rfl, Sep.CR_open.2 ⟨.slice Ah c.h.length ch, gs, gq, gt, vs, vl, vr, hS.sb⟩⟩
/-! Make. -/
set_option maxHeartbeats 4000000 in
theorem pmake_z (gp : Nat) (cell ten : Int) (vg : Value) (c : Cp) (key : Int) (r : World) (F : List Res) (w : World) (hS : Sep r [] (PC gp cell ten vg c :: F) w) (hc : CG c) (hl : c.h.length ≤ 5000) (ht : i64ok ten) :
    Calls Tryz.prog 22 #[.pointer (some ⟨gp, 0, .none⟩), .int .i64 key] w fun e w' => ∃ vk vi vs, e = .returned ((mfOf ten key c).val vk vi vs) ∧ Sep r [] (.sl 9 1 vk ((mfOf ten key c).keys.map kC) :: .sl 3 1 vi ((mfOf ten key c).items.map intC) :: .sl 3 1 vs ((mfOf ten key c).sessions.map intC) :: PC gp cell ten vg c :: F) w' := by
  have ho := hc.ok
  have hm := mf_ok hc ht hl
  have hss := hc.cok.ss
  refine Z.enter Tryz.func22 Tryz.ntmps22 rfl rfl ?_
  repeat' (first|refine K ?_|(refine Sh.sa hS ?_;clear hS;intro w hS)|(refine K3 ?_;clear hS;intro g w hS hge)|((first|refine GS ?_ ?_|refine VB ?_ ?_)<;>intro hb<;>(try simp only [J1,J2,J3,J4,J5,J6] at hb)<;>(try (exfalso;first|omega|exact hb trivial))))
  rename Nat => g4
  replace hS := hS.fo (R := PC gp _ _ _ _)
  refine Z.eff (Z.cl (pctenant_z gp cell ten _ _ _ _ _ hS) rfl ?_) rfl
  clear hS
  rintro e w ⟨rfl, hS⟩
  refine ⟨_, rfl, ?_⟩
  repeat' (first|refine K ?_|(refine Sh.sa hS ?_;clear hS;intro w hS)|(refine K3 ?_;clear hS;intro g w hS hge)|((first|refine GS ?_ ?_|refine VB ?_ ?_)<;>intro hb<;>(try simp only [J1,J2,J3,J4,J5,J6] at hb)<;>(try (exfalso;first|omega|exact hb trivial))))
  refine Z.eff (Z.cl (pclen_z gp cell ten _ _ _ _ _ hS) rfl ?_) rfl
  clear hS
  rintro e w ⟨rfl, hS⟩
  refine ⟨_, rfl, ?_⟩
  repeat' (first|refine K ?_|(refine Sh.sa hS ?_;clear hS;intro w hS)|(refine K3 ?_;clear hS;intro g w hS hge)|((first|refine GS ?_ ?_|refine VB ?_ ?_)<;>intro hb<;>(try simp only [J1,J2,J3,J4,J5,J6] at hb)<;>(try (exfalso;first|omega|exact hb trivial))))
  refine Z.eff (Z.cl (pcepoch_z gp cell ten _ _ _ _ _ hS hl) rfl ?_) rfl
  clear hS
  rintro e w ⟨rfl, hS⟩
  refine ⟨_, rfl, ?_⟩
  repeat' (first|refine K ?_|(refine Sh.sa hS ?_;clear hS;intro w hS)|(refine K3 ?_;clear hS;intro g w hS hge)|((first|refine GS ?_ ?_|refine VB ?_ ?_)<;>intro hb<;>(try simp only [J1,J2,J3,J4,J5,J6] at hb)<;>(try (exfalso;first|omega|exact hb trivial))))
  refine Z.eff (Z.cl (pckeys_z gp cell ten _ _ _ _ _ hS hss (by omega)) rfl ?_) rfl
  clear hS
  rintro e w ⟨A1, c1, rfl, hS⟩
  refine ⟨_, rfl, ?_⟩
  repeat' (first|refine K ?_|(refine Sh.sa hS ?_;clear hS;intro w hS)|(refine K3 ?_;clear hS;intro g w hS hge)|((first|refine GS ?_ ?_|refine VB ?_ ?_)<;>intro hb<;>(try simp only [J1,J2,J3,J4,J5,J6] at hb)<;>(try (exfalso;first|omega|exact hb trivial))))
  refine Z.eff (Z.cl (pclasts_z gp cell ten _ _ _ _ _ hS) rfl ?_) rfl
  clear hS
  rintro e w ⟨v3, rfl, hS⟩
  refine ⟨_, rfl, ?_⟩
  obtain ⟨A3, c3, rfl, _⟩ := (hS.slrows (e := 3) (v := v3) (by repeat (first | exact At.here | apply At.next))).mform
  repeat' (first|refine K ?_|(refine Sh.sa hS ?_;clear hS;intro w hS)|(refine K3 ?_;clear hS;intro g w hS hge)|((first|refine GS ?_ ?_|refine VB ?_ ?_)<;>intro hb<;>(try simp only [J1,J2,J3,J4,J5,J6] at hb)<;>(try (exfalso;first|omega|exact hb trivial))))
  rename Nat => g5
  replace hS := hS.fo (R := PC gp _ _ _ _)
  refine Z.eff (Z.cl (pcitems_z gp cell ten _ _ _ _ _ hS (by omega)) rfl ?_) rfl
  clear hS
  rintro e w ⟨A4, c4, rfl, hS⟩
  refine ⟨_, rfl, ?_⟩
  repeat' (first|refine K ?_|(refine Sh.sa hS ?_;clear hS;intro w hS)|(refine K3 ?_;clear hS;intro g w hS hge)|((first|refine GS ?_ ?_|refine VB ?_ ?_)<;>intro hb<;>(try simp only [J1,J2,J3,J4,J5,J6] at hb)<;>(try (exfalso;first|omega|exact hb trivial))))
  replace hS := Z.nilsl hS 3 1 none
  obtain ⟨N, hN⟩ : ∃ N, N = c.q.l.map It.number := ⟨_, rfl⟩
  have hNl : N.length = c.q.l.length := by rw [hN, List.length_map]
  refine Z.lpS [7, 22, 23, 24, 25, 26, 27, 28, 29, 30, 31, 32, 33] (fun q w s => ∃ (l : List Int) (A : Option Addr) (cc : Nat), s = [(22, .int .i64 l.length)] ∧ l = N.take l.length ∧ l.length ≤ N.length ∧ q = N.length - l.length ∧ Sep r [] (.blk g5 36 ((mf0 ten c).cells (.slice A1 c.s.length c1) (.slice A l.length cc) (.slice A3 (lastsL c.t).length c3)) :: .sl 3 1 (.slice A l.length cc) (l.map intC) :: .sl 114 2 (.slice A4 c.q.l.length c4) (c.q.l.map It.cells) :: .sl 3 1 (.slice A3 (lastsL c.t).length c3) ((lastsL c.t).map intC) :: .sl 9 1 (.slice A1 c.s.length c1) (c.s.map Ce.kc) :: PC gp cell ten vg c :: .blk g4 36 [.int .i64 0, .int .i64 0, .int .i64 0, .slice none 0 0, .slice none 0 0, .slice none 0 0, .int .u64 0] :: F) w) _ [(22, .int .i64 (0 : Nat))] (by repeat (first | exact trivial | refine ⟨rfl, ?_⟩)) ⟨[], none, 0, rfl, by simp, by simp, rfl, hS.sb⟩ ?_
  clear hS
  rintro q f0 w _ ⟨l, A, cc, rfl, hlN, hle, rfl, hS⟩
  by_cases hlt : l.length < N.length
  · have hlt2 : l.length < c.q.l.length := by omega
    obtain ⟨gb, o, rfl, _, hra⟩ := (hS.slrows (e := 114) (v := .slice A4 c.q.l.length c4) (by repeat (first | exact At.here | apply At.next))).mat (by omega) (q := l.length) hlt2
    have hx : N[l.length]'hlt = (c.q.l[l.length]'hlt2).number := by subst hN; exact List.getElem_map ..
    repeat' (first|refine K ?_|(refine Sh.sa hS ?_;clear hS;intro w hS)|(refine K3 ?_;clear hS;intro g w hS hge)|((first|refine GS ?_ ?_|refine VB ?_ ?_)<;>intro hb<;>(try simp only [J1,J2,J3,J4,J5,J6] at hb)<;>(try (exfalso;first|omega|exact hb trivial))))
    refine Z.eff (Z.apm (l' := [(c.q.l[l.length]'hlt2).number]) hS rfl rfl rfl (by repeat (first | exact At.here | apply At.next)) (hS.lit1 (by repeat (first | exact At.here | apply At.next)) rfl rfl) (by (try simp only [maxLen, List.length_take, List.length_drop, List.length_append, List.length_cons, List.length_nil, List.length_map]); omega) (by (try simp only [maxLen, List.length_take, List.length_drop, List.length_append, List.length_cons, List.length_nil, List.length_map]); omega) ?_) rfl
    clear hS; intro A' cc' w hS
    repeat' (first|refine K ?_|(refine Sh.sa hS ?_;clear hS;intro w hS)|(refine K3 ?_;clear hS;intro g w hS hge)|((first|refine GS ?_ ?_|refine VB ?_ ?_)<;>intro hb<;>(try simp only [J1,J2,J3,J4,J5,J6] at hb)<;>(try (exfalso;first|omega|exact hb trivial))))
    refine Sh.again (N.length - (l.length + 1)) [(22, .int .i64 (l.length + 1 : Nat))] ?_
    refine ⟨l ++ [(c.q.l[l.length]'hlt2).number], A', cc', by simp, ?_, by simp; omega, by simp, ?_⟩
    · rw [List.length_append, List.length_singleton, List.take_succ_eq_append_getElem hlt, ← hlN, hx]
    · rw [List.length_append]
      exact hS.sb
  · have h8 : l = N := by rw [hlN, List.take_of_length_le (by omega)]
    have h9 : l.length = c.q.l.length := by rw [h8, hNl]
    rw [h8] at hS
    subst hN
    repeat' (first|refine K ?_|(refine Sh.sa hS ?_;clear hS;intro w hS)|(refine K3 ?_;clear hS;intro g w hS hge)|((first|refine GS ?_ ?_|refine VB ?_ ?_)<;>intro hb<;>(try simp only [J1,J2,J3,J4,J5,J6] at hb)<;>(try (exfalso;first|omega|exact hb trivial))))
    rw [kc_key] at hS
    refine Z.eff (Z.cl (psum_z (mf0 ten c) hm (.slice A1 c.s.length c1) (.slice A (c.q.l.map It.number).length cc) (.slice A3 (lastsL c.t).length c3) key _ _ _ hS (Reads.of_at (e := 9) (v := .slice A1 c.s.length c1) (by repeat (first | exact At.here | apply At.next))) (Reads.of_at (e := 3) (by repeat (first | exact At.here | apply At.next))) (Reads.of_at (e := 3) (v := .slice A3 (lastsL c.t).length c3) (by repeat (first | exact At.here | apply At.next)))) rfl ?_) rfl
    clear hS
    rintro e w ⟨rfl, hS⟩
    refine ⟨_, rfl, ?_⟩
    repeat' (first|refine K ?_|(refine Sh.sa hS ?_;clear hS;intro w hS)|(refine K3 ?_;clear hS;intro g w hS hge)|((first|refine GS ?_ ?_|refine VB ?_ ?_)<;>intro hb<;>(try simp only [J1,J2,J3,J4,J5,J6] at hb)<;>(try (exfalso;first|omega|exact hb trivial))))
    refine Dnc Tryz.results22 ?_
    exact ⟨_, _, _, rfl, hS.sb⟩
set_option maxHeartbeats 4000000 in
theorem rmake_z (gr : Nat) (cell ten : Int) (vg : Value) (c : Cp) (key : Int) (r : World) (F : List Res) (w : World) (hS : Sep r [] (CR gr cell ten vg c :: F) w) (hc : CG c) (hl : c.h.length ≤ 5000) (ht : i64ok ten) :
    Calls Tryz.prog 48 #[.pointer (some ⟨gr, 0, .none⟩), .int .i64 key] w fun e w' => ∃ vk vi vs, e = .returned ((mfOf ten key c).val vk vi vs) ∧ Sep r [] (.sl 9 1 vk ((mfOf ten key c).keys.map kC) :: .sl 3 1 vi ((mfOf ten key c).items.map intC) :: .sl 3 1 vs ((mfOf ten key c).sessions.map intC) :: CR gr cell ten vg c :: F) w' := by
  have ho := hc.ok
  have hm := mf_ok hc ht hl
  obtain ⟨vh, gs, gq, gt, vs, vl, vr, hS⟩ := Sep.CR_open.1 hS
  obtain ⟨Ah, ch, rfl, _⟩ := (hS.slrows (e := 90) (v := vh) (by repeat (first | exact At.here | apply At.next))).mform
  obtain ⟨As, cs, rfl, _⟩ := (hS.slrows (e := 188) (v := vs) (by repeat (first | exact At.here | apply At.next))).mform
  obtain ⟨Al, cl, rfl, _⟩ := (hS.slrows (e := 114) (v := vl) (by repeat (first | exact At.here | apply At.next))).mform
  replace hS : Sep r [] (.blk gr 54 [.int .i64 cell, .int .i64 ten, .slice Ah c.h.length ch, .pointer (some ⟨gs, 0, .none⟩), .pointer (some ⟨gq, 0, .none⟩), .pointer (some ⟨gt, 0, .none⟩), vg] :: .sl 90 8 (.slice Ah c.h.length ch) (c.h.map Ch.cells) :: .blk gs 139 [.slice As c.s.length cs] :: .sl 188 3 (.slice As c.s.length cs) (c.s.map Ce.cells) :: .blk gq 144 [.slice Al c.q.l.length cl, vr, .int .i64 c.q.most] :: .sl 114 2 (.slice Al c.q.l.length cl) (c.q.l.map It.cells) :: .sl 126 4 vr (c.q.r.map Le.cells) :: .blk gt 136 c.t.cells.toList :: F) w := hS.sb
  refine Z.enter Tryz.func48 Tryz.ntmps48 rfl rfl ?_
  repeat' (first|refine K ?_|(refine Sh.sa hS ?_;clear hS;intro w hS)|(refine K3 ?_;clear hS;intro g w hS hge)|((first|refine GS ?_ ?_|refine VB ?_ ?_)<;>intro hb<;>(try simp only [J1,J2,J3,J4,J5,J6] at hb)<;>(try (exfalso;first|omega|exact hb trivial))))
  rename Nat => g4
  refine Z.cut [5, 8, 9, 10, 11, 12, 13, 14, 15, 16, 17, 18, 19, 20, 21, 22, 23, 24, 25, 26, 27, 28, 29] (fun w s => ∃ (g5 : Nat) (A1 : Option Addr) (c1 : Nat) (A3 : Option Addr) (c3 : Nat), s = [(5, .pointer (some ⟨g5, 0, .none⟩))] ∧ Sep r [] (.blk g5 36 ((mf0 ten c).cells (.slice A1 c.s.length c1) (.slice none 0 0) (.slice A3 (lastsL c.t).length c3)) :: .sl 3 1 (.slice A3 (lastsL c.t).length c3) ((lastsL c.t).map intC) :: .sl 9 1 (.slice A1 c.s.length c1) (c.s.map Ce.kc) :: .blk g4 36 [.int .i64 0, .int .i64 0, .int .i64 0, .slice none 0 0, .slice none 0 0, .slice none 0 0, .int .u64 0] :: .blk gr 54 [.int .i64 cell, .int .i64 ten, .slice Ah c.h.length ch, .pointer (some ⟨gs, 0, .none⟩), .pointer (some ⟨gq, 0, .none⟩), .pointer (some ⟨gt, 0, .none⟩), vg] :: .sl 90 8 (.slice Ah c.h.length ch) (c.h.map Ch.cells) :: .blk gs 139 [.slice As c.s.length cs] :: .sl 188 3 (.slice As c.s.length cs) (c.s.map Ce.cells) :: .blk gq 144 [.slice Al c.q.l.length cl, vr, .int .i64 c.q.most] :: .sl 114 2 (.slice Al c.q.l.length cl) (c.q.l.map It.cells) :: .sl 126 4 vr (c.q.r.map Le.cells) :: .blk gt 136 c.t.cells.toList :: F) w) ?_ ?_
  · refine D.startS (Lr := [.blk gr 54 [.int .i64 cell, .int .i64 ten, .slice Ah c.h.length ch, .pointer (some ⟨gs, 0, .none⟩), .pointer (some ⟨gq, 0, .none⟩), .pointer (some ⟨gt, 0, .none⟩), vg]]) (hS.sb) 23 24 (by kernel_rfl) rfl ?_
    replace hS := hS.drew
    refine Sh.dp 0 1 ?_
    refine Sh.dp 1 3 ?_
    refine Sh.dp 2 7 ?_
    refine Sh.dp 4 23 ?_
    refine Sh.dp 5 55 ?_
    refine Sh.dp 6 119 ?_
    refine Sh.dp 9 631 ?_
    refine Sh.dp 11 2679 ?_
    refine Sh.dp 12 6775 ?_
    refine Sh.dp 13 14967 ?_
    refine Sh.dp 16 80503 ?_
    refine Sh.dp 17 211575 ?_
    refine Sh.dp 18 473719 ?_
    refine Sh.dl 3 473727 ?_
    refine Sh.dl 7 473855 ?_
    refine Sh.dp 8 474111 ?_
    refine Sh.dl 14 490495 ?_
    refine Sh.dl 19 1014783 ?_
    refine D.each [10, 22] (by kernel_rfl) rfl ?_
    refine D.econs 10 1015807 rfl D.wantedN (by kernel_rfl) (fun _ _ h => h) ?_ ?_
    · replace hS := hS.fo (R := .blk gr _ _)
      refine Z.cl (epoch_z gr _ _ _ _ _ _ _ c.h _ _ _ hS (Reads.of_at (e := 90) (by repeat (first | exact At.here | apply At.next))) hl) rfl ?_
      clear hS
      rintro e w ⟨rfl, hS⟩
      refine ⟨_, rfl, ?_⟩
      refine ⟨HM.s (hS.sb), ?_⟩
      refine D.each [15, 22] (by kernel_rfl) rfl ?_
      refine D.econs 15 1048575 rfl D.wantedN (by kernel_rfl) (fun _ _ h => h) ?_ ?_
      · replace hS := hS.fo (R := .blk gs _ _)
        refine Z.cl (rskeys_z gs c.s _ _ _ _ hS (Reads.of_at (e := 188) (by repeat (first | exact At.here | apply At.next))) (by omega)) rfl ?_
        clear hS
        rintro e w ⟨A1, c1, rfl, hS⟩
        refine ⟨_, rfl, ?_⟩
        refine ⟨HM.s (hS.sb), ?_⟩
        refine D.each [20, 22] (by kernel_rfl) rfl ?_
        refine D.econs 20 2097151 rfl D.wantedN (by kernel_rfl) (fun _ _ h => h) ?_ ?_
        · replace hS := hS.fo (R := .blk gt _ _)
          refine Z.cl (rlasts_z c.t gt _ _ _ hS) rfl ?_
          clear hS
          rintro e w ⟨v6, rfl, hS⟩
          refine ⟨_, rfl, ?_⟩
          unfold RT at hS
          obtain ⟨A3, c3, rfl, _⟩ := (hS.slrows (e := 3) (v := v6) (by repeat (first | exact At.here | apply At.next))).mform
          refine ⟨HM.s (hS.sb), ?_⟩
          first | refine D.bu 21 4194303 rfl D.wantedN (by kernel_rfl) rfl rfl ?_ | refine D.buA 21 4194303 rfl D.wantedN (by kernel_rfl) rfl rfl ?_
          refine D.eff 22 8388607 rfl D.wantedN (by kernel_rfl) (by kernel_rfl) (fun _ _ h => h) ?_
          refine Z.al hS ?_
          clear hS; intro g5 w hS hge
          refine ⟨HM.s (hS.sb), ?_⟩
          refine D.eff 23 16777215 rfl D.wantedN (by kernel_rfl) (by kernel_rfl) (fun _ _ h => h) ?_
          refine Z.st hS rfl (by repeat (first | exact At.here | apply At.next)) rfl rfl ?_
          clear hS; intro w hS
          refine ⟨HM.last (by kernel_rfl), ?_⟩
          refine D.done (by kernel_rfl) ?_
          refine Sh.cut [(5, _)] ?_
          exact ⟨g5, A1, c1, A3, c3, rfl, hS.sb⟩
        refine D.econs 22 5242879 rfl D.wantedN (by kernel_rfl) (fun _ _ h => h) ?_ ?_
        · refine Z.al hS ?_
          clear hS; intro g5 w hS hge
          refine ⟨HM.s (hS.sb), ?_⟩
          refine D.eff 20 6291455 rfl D.wantedN (by kernel_rfl) (by kernel_rfl) (fun _ _ h => h) ?_
          replace hS := hS.fo (R := .blk gt _ _)
          refine Z.cl (rlasts_z c.t gt _ _ _ hS) rfl ?_
          clear hS
          rintro e w ⟨v6, rfl, hS⟩
          refine ⟨_, rfl, ?_⟩
          unfold RT at hS
          obtain ⟨A3, c3, rfl, _⟩ := (hS.slrows (e := 3) (v := v6) (by repeat (first | exact At.here | apply At.next))).mform
          refine ⟨HM.s (hS.sb), ?_⟩
          first | refine D.bu 21 8388607 rfl D.wantedN (by kernel_rfl) rfl rfl ?_ | refine D.buA 21 8388607 rfl D.wantedN (by kernel_rfl) rfl rfl ?_
          refine D.eff 23 16777215 rfl D.wantedN (by kernel_rfl) (by kernel_rfl) (fun _ _ h => h) ?_
          refine Z.st hS rfl (by repeat (first | exact At.here | apply At.next)) rfl rfl ?_
          clear hS; intro w hS
          refine ⟨HM.last (by kernel_rfl), ?_⟩
          refine D.done (by kernel_rfl) ?_
          refine Sh.cut [(5, _)] ?_
          exact ⟨g5, A1, c1, A3, c3, rfl, hS.sb⟩
        exact D.enil
      refine D.econs 22 5210111 rfl D.wantedN (by kernel_rfl) (fun _ _ h => h) ?_ ?_
      · refine Z.al hS ?_
        clear hS; intro g5 w hS hge
        refine ⟨HM.s (hS.sb), ?_⟩
        refine D.eff 15 5242879 rfl D.wantedN (by kernel_rfl) (by kernel_rfl) (fun _ _ h => h) ?_
        replace hS := hS.fo (R := .blk gs _ _)
        refine Z.cl (rskeys_z gs c.s _ _ _ _ hS (Reads.of_at (e := 188) (by repeat (first | exact At.here | apply At.next))) (by omega)) rfl ?_
        clear hS
        rintro e w ⟨A1, c1, rfl, hS⟩
        refine ⟨_, rfl, ?_⟩
        refine ⟨HM.s (hS.sb), ?_⟩
        refine D.eff 20 6291455 rfl D.wantedN (by kernel_rfl) (by kernel_rfl) (fun _ _ h => h) ?_
        replace hS := hS.fo (R := .blk gt _ _)
        refine Z.cl (rlasts_z c.t gt _ _ _ hS) rfl ?_
        clear hS
        rintro e w ⟨v6, rfl, hS⟩
        refine ⟨_, rfl, ?_⟩
        unfold RT at hS
        obtain ⟨A3, c3, rfl, _⟩ := (hS.slrows (e := 3) (v := v6) (by repeat (first | exact At.here | apply At.next))).mform
        refine ⟨HM.s (hS.sb), ?_⟩
        first | refine D.bu 21 8388607 rfl D.wantedN (by kernel_rfl) rfl rfl ?_ | refine D.buA 21 8388607 rfl D.wantedN (by kernel_rfl) rfl rfl ?_
        refine D.eff 23 16777215 rfl D.wantedN (by kernel_rfl) (by kernel_rfl) (fun _ _ h => h) ?_
        refine Z.st hS rfl (by repeat (first | exact At.here | apply At.next)) rfl rfl ?_
        clear hS; intro w hS
        refine ⟨HM.last (by kernel_rfl), ?_⟩
        refine D.done (by kernel_rfl) ?_
        refine Sh.cut [(5, _)] ?_
        exact ⟨g5, A1, c1, A3, c3, rfl, hS.sb⟩
      exact D.enil
    refine D.econs 22 5209087 rfl D.wantedN (by kernel_rfl) (fun _ _ h => h) ?_ ?_
    · refine Z.al hS ?_
      clear hS; intro g5 w hS hge
      refine ⟨HM.s (hS.sb), ?_⟩
      refine D.eff 10 5210111 rfl D.wantedN (by kernel_rfl) (by kernel_rfl) (fun _ _ h => h) ?_
      replace hS := hS.fo (R := .blk gr _ _)
      refine Z.cl (epoch_z gr _ _ _ _ _ _ _ c.h _ _ _ hS (Reads.of_at (e := 90) (by repeat (first | exact At.here | apply At.next))) hl) rfl ?_
      clear hS
      rintro e w ⟨rfl, hS⟩
      refine ⟨_, rfl, ?_⟩
      refine ⟨HM.s (hS.sb), ?_⟩
      refine D.eff 15 5242879 rfl D.wantedN (by kernel_rfl) (by kernel_rfl) (fun _ _ h => h) ?_
      replace hS := hS.fo (R := .blk gs _ _)
      refine Z.cl (rskeys_z gs c.s _ _ _ _ hS (Reads.of_at (e := 188) (by repeat (first | exact At.here | apply At.next))) (by omega)) rfl ?_
      clear hS
      rintro e w ⟨A1, c1, rfl, hS⟩
      refine ⟨_, rfl, ?_⟩
      refine ⟨HM.s (hS.sb), ?_⟩
      refine D.eff 20 6291455 rfl D.wantedN (by kernel_rfl) (by kernel_rfl) (fun _ _ h => h) ?_
      replace hS := hS.fo (R := .blk gt _ _)
      refine Z.cl (rlasts_z c.t gt _ _ _ hS) rfl ?_
      clear hS
      rintro e w ⟨v6, rfl, hS⟩
      refine ⟨_, rfl, ?_⟩
      unfold RT at hS
      obtain ⟨A3, c3, rfl, _⟩ := (hS.slrows (e := 3) (v := v6) (by repeat (first | exact At.here | apply At.next))).mform
      refine ⟨HM.s (hS.sb), ?_⟩
      first | refine D.bu 21 8388607 rfl D.wantedN (by kernel_rfl) rfl rfl ?_ | refine D.buA 21 8388607 rfl D.wantedN (by kernel_rfl) rfl rfl ?_
      refine D.eff 23 16777215 rfl D.wantedN (by kernel_rfl) (by kernel_rfl) (fun _ _ h => h) ?_
      refine Z.st hS rfl (by repeat (first | exact At.here | apply At.next)) rfl rfl ?_
      clear hS; intro w hS
      refine ⟨HM.last (by kernel_rfl), ?_⟩
      refine D.done (by kernel_rfl) ?_
      refine Sh.cut [(5, _)] ?_
      exact ⟨g5, A1, c1, A3, c3, rfl, hS.sb⟩
    exact D.enil
  clear hS
  rintro f0 w _ ⟨g5, A1, c1, A3, c3, rfl, hS⟩
  repeat' (first|refine K ?_|(refine Sh.sa hS ?_;clear hS;intro w hS)|(refine K3 ?_;clear hS;intro g w hS hge)|((first|refine GS ?_ ?_|refine VB ?_ ?_)<;>intro hb<;>(try simp only [J1,J2,J3,J4,J5,J6] at hb)<;>(try (exfalso;first|omega|exact hb trivial))))
  replace hS := Z.nilsl hS 3 1 none
  obtain ⟨N, hN⟩ : ∃ N, N = c.q.l.map It.number := ⟨_, rfl⟩
  have hNl : N.length = c.q.l.length := by rw [hN, List.length_map]
  refine Z.lpS [7, 38, 39, 40, 41, 42, 43, 44, 45, 46, 47, 48, 49] (fun q w s => ∃ (l : List Int) (A : Option Addr) (cc : Nat), s = [(38, .int .i64 l.length)] ∧ l = N.take l.length ∧ l.length ≤ N.length ∧ q = N.length - l.length ∧ Sep r [] (.blk g5 36 ((mf0 ten c).cells (.slice A1 c.s.length c1) (.slice A l.length cc) (.slice A3 (lastsL c.t).length c3)) :: .sl 3 1 (.slice A l.length cc) (l.map intC) :: .sl 3 1 (.slice A3 (lastsL c.t).length c3) ((lastsL c.t).map intC) :: .sl 9 1 (.slice A1 c.s.length c1) (c.s.map Ce.kc) :: .blk g4 36 [.int .i64 0, .int .i64 0, .int .i64 0, .slice none 0 0, .slice none 0 0, .slice none 0 0, .int .u64 0] :: .blk gr 54 [.int .i64 cell, .int .i64 ten, .slice Ah c.h.length ch, .pointer (some ⟨gs, 0, .none⟩), .pointer (some ⟨gq, 0, .none⟩), .pointer (some ⟨gt, 0, .none⟩), vg] :: .sl 90 8 (.slice Ah c.h.length ch) (c.h.map Ch.cells) :: .blk gs 139 [.slice As c.s.length cs] :: .sl 188 3 (.slice As c.s.length cs) (c.s.map Ce.cells) :: .blk gq 144 [.slice Al c.q.l.length cl, vr, .int .i64 c.q.most] :: .sl 114 2 (.slice Al c.q.l.length cl) (c.q.l.map It.cells) :: .sl 126 4 vr (c.q.r.map Le.cells) :: .blk gt 136 c.t.cells.toList :: F) w) _ [(38, .int .i64 (0 : Nat))] (by repeat (first | exact trivial | refine ⟨rfl, ?_⟩)) ⟨[], none, 0, rfl, by simp, by simp, rfl, hS.sb⟩ ?_
  clear hS
  rintro q f0 w _ ⟨l, A, cc, rfl, hlN, hle, rfl, hS⟩
  by_cases hlt : l.length < N.length
  · have hlt2 : l.length < c.q.l.length := by omega
    obtain ⟨gb, o, hAl, _, hra⟩ := (hS.slrows (e := 114) (v := .slice Al c.q.l.length cl) (by repeat (first | exact At.here | apply At.next))).mat (by omega) (q := l.length) hlt2
    subst hAl
    have hx : N[l.length]'hlt = (c.q.l[l.length]'hlt2).number := by subst hN; exact List.getElem_map ..
    repeat' (first|refine K ?_|(refine Sh.sa hS ?_;clear hS;intro w hS)|(refine K3 ?_;clear hS;intro g w hS hge)|((first|refine GS ?_ ?_|refine VB ?_ ?_)<;>intro hb<;>(try simp only [J1,J2,J3,J4,J5,J6] at hb)<;>(try (exfalso;first|omega|exact hb trivial))))
    refine Z.eff (Z.apm (l' := [(c.q.l[l.length]'hlt2).number]) hS rfl rfl rfl (by repeat (first | exact At.here | apply At.next)) (hS.lit1 (by repeat (first | exact At.here | apply At.next)) rfl rfl) (by (try simp only [maxLen, List.length_take, List.length_drop, List.length_append, List.length_cons, List.length_nil, List.length_map]); omega) (by (try simp only [maxLen, List.length_take, List.length_drop, List.length_append, List.length_cons, List.length_nil, List.length_map]); omega) ?_) rfl
    clear hS; intro A' cc' w hS
    repeat' (first|refine K ?_|(refine Sh.sa hS ?_;clear hS;intro w hS)|(refine K3 ?_;clear hS;intro g w hS hge)|((first|refine GS ?_ ?_|refine VB ?_ ?_)<;>intro hb<;>(try simp only [J1,J2,J3,J4,J5,J6] at hb)<;>(try (exfalso;first|omega|exact hb trivial))))
    refine Sh.again (N.length - (l.length + 1)) [(38, .int .i64 (l.length + 1 : Nat))] ?_
    refine ⟨l ++ [(c.q.l[l.length]'hlt2).number], A', cc', by simp, ?_, by simp; omega, by simp, ?_⟩
    · rw [List.length_append, List.length_singleton, List.take_succ_eq_append_getElem hlt, ← hlN, hx]
    · rw [List.length_append]
      exact hS.sb
  · have h8 : l = N := by rw [hlN, List.take_of_length_le (by omega)]
    have h9 : l.length = c.q.l.length := by rw [h8, hNl]
    rw [h8] at hS
    subst hN
    repeat' (first|refine K ?_|(refine Sh.sa hS ?_;clear hS;intro w hS)|(refine K3 ?_;clear hS;intro g w hS hge)|((first|refine GS ?_ ?_|refine VB ?_ ?_)<;>intro hb<;>(try simp only [J1,J2,J3,J4,J5,J6] at hb)<;>(try (exfalso;first|omega|exact hb trivial))))
    rw [kc_key] at hS
    refine Z.eff (Z.cl (rsum_z (mf0 ten c) hm (.slice A1 c.s.length c1) (.slice A (c.q.l.map It.number).length cc) (.slice A3 (lastsL c.t).length c3) key _ _ _ hS (Reads.of_at (e := 9) (v := .slice A1 c.s.length c1) (by repeat (first | exact At.here | apply At.next))) (Reads.of_at (e := 3) (by repeat (first | exact At.here | apply At.next))) (Reads.of_at (e := 3) (v := .slice A3 (lastsL c.t).length c3) (by repeat (first | exact At.here | apply At.next)))) rfl ?_) rfl
    clear hS
    rintro e w ⟨rfl, hS⟩
    refine ⟨_, rfl, ?_⟩
    repeat' (first|refine K ?_|(refine Sh.sa hS ?_;clear hS;intro w hS)|(refine K3 ?_;clear hS;intro g w hS hge)|((first|refine GS ?_ ?_|refine VB ?_ ?_)<;>intro hb<;>(try simp only [J1,J2,J3,J4,J5,J6] at hb)<;>(try (exfalso;first|omega|exact hb trivial))))
    refine Dnc Tryz.results48 ?_
    refine ⟨_, _, _, rfl, ?_⟩
    have h2 := Sep.CR_open.2 ⟨.slice Ah c.h.length ch, gs, gq, gt, .slice As c.s.length cs, .slice Al c.q.l.length cl, vr, hS.sub (L' := .blk gr 54 [.int .i64 cell, .int .i64 ten, .slice Ah c.h.length ch, .pointer (some ⟨gs, 0, .none⟩), .pointer (some ⟨gq, 0, .none⟩), .pointer (some ⟨gt, 0, .none⟩), vg] :: .sl 90 8 (.slice Ah c.h.length ch) (c.h.map Ch.cells) :: .blk gs 139 [.slice As c.s.length cs] :: .sl 188 3 (.slice As c.s.length cs) (c.s.map Ce.cells) :: .blk gq 144 [.slice Al c.q.l.length cl, vr, .int .i64 c.q.most] :: .sl 114 2 (.slice Al c.q.l.length cl) (c.q.l.map It.cells) :: .sl 126 4 vr (c.q.r.map Le.cells) :: .blk gt 136 c.t.cells.toList :: .sl 9 1 (.slice A1 c.s.length c1) ((c.s.map Ce.key).map kC) :: .sl 3 1 (.slice A (c.q.l.map It.number).length cc) ((c.q.l.map It.number).map intC) :: .sl 3 1 (.slice A3 (lastsL c.t).length c3) ((lastsL c.t).map intC) :: F) (by repeat (first | exact Sub.rest | exact Sub.nil | exact .skip .rest | exact .skip (.skip .rest) | exact .skip (.skip (.skip .rest)) | apply Sub.keep | refine Sub.cons (by repeat (first | exact At.here | apply At.next)) ?_ | apply Sub.skip))⟩
    exact h2.sub (by repeat (first | exact Sub.rest | exact Sub.nil | exact .skip .rest | exact .skip (.skip .rest) | exact .skip (.skip (.skip .rest)) | apply Sub.keep | refine Sub.cons (by repeat (first | exact At.here | apply At.next)) ?_ | apply Sub.skip))
/-! Check. -/
set_option maxHeartbeats 4000000 in
theorem pcheck_z (gp : Nat) (cell ten : Int) (vg : Value) (c : Cp) (m : Mf) (vk vi vs : Value) (key : Int) (r : World) (F : List Res) (w : World) (hS : Sep r [] (PC gp cell ten vg c :: F) w) (hr : MR r F m vk vi vs) (hm : m.ok) (hc : CG c) (hl : c.h.length ≤ 5000) (ht : i64ok ten) :
    Calls Tryz.prog 25 #[.pointer (some ⟨gp, 0, .none⟩), m.val vk vi vs, .int .i64 key] w fun e w' => e = .returned (.int .i64 (checkM ten key c m 19 18)) ∧ Sep r [] (PC gp cell ten vg c :: F) w' := by
  obtain ⟨A1, c1, A2, c2, A3, c3, rfl, rfl, rfl⟩ := (hr.app [_]).form hS
  unfold checkM
  refine Z.enter Tryz.func25 Tryz.ntmps25 rfl rfl ?_
  repeat' (first|refine K ?_|(refine Sh.sa hS ?_;clear hS;intro w hS)|(refine K3 ?_;clear hS;intro g w hS hge)|((first|refine GS ?_ ?_|refine VB ?_ ?_)<;>intro hb<;>(try simp only [J1,J2,J3,J4,J5,J6] at hb)<;>(try (exfalso;first|omega|exact hb trivial))))
  refine D.startS (Lr := [.blk g 36 (m.cells (.slice A1 m.keys.length c1) (.slice A2 m.items.length c2) (.slice A3 m.sessions.length c3))]) (hS.sb) 7 7 (by kernel_rfl) rfl ?_
  replace hS := hS.drew
  refine Sh.dp 0 1 ?_
  refine Sh.dp 3 9 ?_
  refine Sh.dl 1 11 ?_
  refine Sh.dl 2 15 ?_
  refine D.eff 4 31 rfl D.wantedN (by kernel_rfl) (by kernel_rfl) (fun _ _ h => h) ?_
  refine Z.cl (psum_z m hm (.slice A1 _ c1) (.slice A2 _ c2) (.slice A3 _ c3) key _ _ _ hS (hr.k.app [_, _]) (hr.i.app [_, _]) (hr.s.app [_, _])) rfl ?_
  clear hS
  rintro e w ⟨rfl, hS⟩
  refine ⟨_, rfl, ?_⟩
  refine ⟨HM.s (hS.sb), ?_⟩
  refine D.pl 5 63 rfl D.wantedN (by kernel_rfl) (R.ibo rfl rfl rfl) ?_
  refine Sh.dp 6 127 ?_
  refine D.done (by kernel_rfl) ?_
  repeat' (first|refine K ?_|(refine Sh.sa hS ?_;clear hS;intro w hS)|(refine K3 ?_;clear hS;intro g w hS hge)|((first|refine GS ?_ ?_|refine VB ?_ ?_)<;>intro hb<;>(try simp only [J1,J2,J3,J4,J5,J6] at hb)<;>(try (exfalso;first|omega|exact hb trivial))))
  · refine Dnt Tryz.results25 ?_
    rw [if_pos (by first | exact hb | simpa using hb)]
    exact ⟨rfl, hS.sb⟩
  rename m.sum = _ => h1
  refine D.startS (Lr := [.blk g 36 (m.cells (.slice A1 m.keys.length c1) (.slice A2 m.items.length c2) (.slice A3 m.sessions.length c3))]) (hS.sb) 6 6 (by kernel_rfl) rfl ?_
  replace hS := hS.drew
  refine Sh.dp 0 1 ?_
  refine Sh.dp 2 5 ?_
  refine Sh.dl 1 7 ?_
  refine D.eff 3 15 rfl D.wantedN (by kernel_rfl) (by kernel_rfl) (fun _ _ h => h) ?_
  replace hS := hS.fo (R := PC gp _ _ _ _)
  refine Z.cl (pctenant_z gp cell ten _ _ _ _ _ hS) rfl ?_
  clear hS
  rintro e w ⟨rfl, hS⟩
  refine ⟨_, rfl, ?_⟩
  refine ⟨HM.s (hS.sb), ?_⟩
  first | refine D.pr 4 31 rfl D.wantedN (by kernel_rfl) rfl ?_ | refine D.pl 4 31 rfl D.wantedN (by kernel_rfl) (R.nea rfl rfl rfl rfl) ?_
  refine Sh.dp 5 63 ?_
  refine D.done (by kernel_rfl) ?_
  repeat' (first|refine K ?_|(refine Sh.sa hS ?_;clear hS;intro w hS)|(refine K3 ?_;clear hS;intro g w hS hge)|((first|refine GS ?_ ?_|refine VB ?_ ?_)<;>intro hb<;>(try simp only [J1,J2,J3,J4,J5,J6] at hb)<;>(try (exfalso;first|omega|exact hb trivial))))
  · refine Dnt Tryz.results25 ?_
    rw [if_neg (by simpa using h1), if_pos (by omega)]
    exact ⟨rfl, hS.sb⟩
  rename m.tenant = _ => h2
  refine D.startS (Lr := [.blk g 36 (m.cells (.slice A1 m.keys.length c1) (.slice A2 m.items.length c2) (.slice A3 m.sessions.length c3))]) (hS.sb) 6 6 (by kernel_rfl) rfl ?_
  replace hS := hS.drew
  refine Sh.dp 0 1 ?_
  refine Sh.dp 2 5 ?_
  refine Sh.dl 1 7 ?_
  refine D.eff 3 15 rfl D.wantedN (by kernel_rfl) (by kernel_rfl) (fun _ _ h => h) ?_
  replace hS := hS.fo (R := PC gp _ _ _ _)
  refine Z.cl (pclen_z gp cell ten _ _ _ _ _ hS) rfl ?_
  clear hS
  rintro e w ⟨rfl, hS⟩
  refine ⟨_, rfl, ?_⟩
  refine ⟨HM.s (hS.sb), ?_⟩
  first | refine D.pr 4 31 rfl D.wantedN (by kernel_rfl) rfl ?_ | refine D.pl 4 31 rfl D.wantedN (by kernel_rfl) (R.nea rfl rfl rfl rfl) ?_
  refine Sh.dp 5 63 ?_
  refine D.done (by kernel_rfl) ?_
  repeat' (first|refine K ?_|(refine Sh.sa hS ?_;clear hS;intro w hS)|(refine K3 ?_;clear hS;intro g w hS hge)|((first|refine GS ?_ ?_|refine VB ?_ ?_)<;>intro hb<;>(try simp only [J1,J2,J3,J4,J5,J6] at hb)<;>(try (exfalso;first|omega|exact hb trivial))))
  · refine Dnt Tryz.results25 ?_
    rw [if_neg (by simpa using h1), if_neg (by omega), if_pos (by omega)]
    exact ⟨rfl, hS.sb⟩
  rename m.length = _ => h3
  refine D.startS (Lr := [.blk g 36 (m.cells (.slice A1 m.keys.length c1) (.slice A2 m.items.length c2) (.slice A3 m.sessions.length c3))]) (hS.sb) 6 6 (by kernel_rfl) rfl ?_
  replace hS := hS.drew
  refine Sh.dp 0 1 ?_
  refine Sh.dp 2 5 ?_
  refine Sh.dl 1 7 ?_
  refine D.eff 3 15 rfl D.wantedN (by kernel_rfl) (by kernel_rfl) (fun _ _ h => h) ?_
  replace hS := hS.fo (R := PC gp _ _ _ _)
  refine Z.cl (pcepoch_z gp cell ten _ _ _ _ _ hS hl) rfl ?_
  clear hS
  rintro e w ⟨rfl, hS⟩
  refine ⟨_, rfl, ?_⟩
  refine ⟨HM.s (hS.sb), ?_⟩
  first | refine D.pr 4 31 rfl D.wantedN (by kernel_rfl) rfl ?_ | refine D.pl 4 31 rfl D.wantedN (by kernel_rfl) (R.nea rfl rfl rfl rfl) ?_
  refine Sh.dp 5 63 ?_
  refine D.done (by kernel_rfl) ?_
  repeat' (first|refine K ?_|(refine Sh.sa hS ?_;clear hS;intro w hS)|(refine K3 ?_;clear hS;intro g w hS hge)|((first|refine GS ?_ ?_|refine VB ?_ ?_)<;>intro hb<;>(try simp only [J1,J2,J3,J4,J5,J6] at hb)<;>(try (exfalso;first|omega|exact hb trivial))))
  · refine Dnt Tryz.results25 ?_
    rw [if_neg (by simpa using h1), if_neg (by omega), if_neg (by omega), if_pos (by omega)]
    exact ⟨rfl, hS.sb⟩
  rename m.epoch = _ => h4
  rw [if_neg (by simpa using h1), if_neg (by omega), if_neg (by omega), if_neg (by omega)]
  refine D.startS (Lr := [.blk g 36 (m.cells (.slice A1 m.keys.length c1) (.slice A2 m.items.length c2) (.slice A3 m.sessions.length c3))]) (hS.sb) 7 7 (by kernel_rfl) rfl ?_
  replace hS := hS.drew
  refine Sh.dp 1 2 ?_
  refine Sh.dp 2 6 ?_
  refine Sh.dl 0 7 ?_
  refine D.eff 3 15 rfl D.wantedN (by kernel_rfl) (by kernel_rfl) (fun _ _ h => h) ?_
  replace hS := hS.sub (L' := PC gp cell ten vg c :: .blk g 36 (m.cells (.slice A1 m.keys.length c1) (.slice A2 m.items.length c2) (.slice A3 m.sessions.length c3)) :: F) (by repeat (first | exact Sub.rest | exact Sub.nil | exact .skip .rest | exact .skip (.skip .rest) | exact .skip (.skip (.skip .rest)) | apply Sub.keep | refine Sub.cons (by repeat (first | exact At.here | apply At.next)) ?_ | apply Sub.skip))
  refine Z.cl (pmake_z gp cell ten _ _ key _ _ _ hS hc hl ht) rfl ?_
  clear hS
  rintro e w ⟨vk, vi, vs, rfl, hS⟩
  refine ⟨_, rfl, ?_⟩
  refine ⟨HM.s (hS.sb), ?_⟩
  refine D.eff 4 31 rfl D.wantedN (by kernel_rfl) (by kernel_rfl) (fun _ _ h => h) ?_
  refine Z.cl (lists_z m (mfOf ten key c) (.slice A1 _ c1) (.slice A2 _ c2) (.slice A3 _ c3) vk vi vs _ _ _ hS (hr.app [_, _, _, _, _]) ⟨Reads.of_at (e := 9) (by repeat (first | exact At.here | apply At.next)), Reads.of_at (e := 3) (v := vi) (by repeat (first | exact At.here | apply At.next)), Reads.of_at (e := 3) (v := vs) (by repeat (first | exact At.here | apply At.next))⟩ hm.few (mfOf_ok hc ht hl).few) rfl ?_
  clear hS
  rintro e w ⟨rfl, hS⟩
  refine ⟨_, rfl, ?_⟩
  refine ⟨HM.s (hS.sb), ?_⟩
  refine Sh.dp 5 63 ?_
  refine Sh.dp 6 127 ?_
  refine D.done (by kernel_rfl) ?_
  repeat' (first|refine K ?_|(refine Sh.sa hS ?_;clear hS;intro w hS)|(refine K3 ?_;clear hS;intro g w hS hge)|((first|refine GS ?_ ?_|refine VB ?_ ?_)<;>intro hb<;>(try simp only [J1,J2,J3,J4,J5,J6] at hb)<;>(try (exfalso;first|omega|exact hb trivial))))
  · refine Dnt Tryz.results25 ?_
    rw [hb]
    exact ⟨rfl, hS.sb⟩
  · refine Dnt Tryz.results25 ?_
    rw [hb]
    exact ⟨rfl, hS.sb⟩
set_option maxHeartbeats 4000000 in
theorem rcheck_z (gr : Nat) (cell ten : Int) (vg : Value) (c : Cp) (m : Mf) (vk vi vs : Value) (key : Int) (r : World) (F : List Res) (w : World) (hS : Sep r [] (CR gr cell ten vg c :: F) w) (hr : MR r F m vk vi vs) (hm : m.ok) (hc : CG c) (hl : c.h.length ≤ 5000) (ht : i64ok ten) :
    Calls Tryz.prog 26 #[.pointer (some ⟨gr, 0, .none⟩), m.val vk vi vs, .int .i64 key] w fun e w' => e = .returned (.int .i64 (checkM ten key c m 19 18)) ∧ Sep r [] (CR gr cell ten vg c :: F) w' := by
  obtain ⟨A1, c1, A2, c2, A3, c3, rfl, rfl, rfl⟩ := (hr.app [_]).form hS
  unfold checkM
  refine Z.enter Tryz.func26 Tryz.ntmps26 rfl rfl ?_
  repeat' (first|refine K ?_|(refine Sh.sa hS ?_;clear hS;intro w hS)|(refine K3 ?_;clear hS;intro g w hS hge)|((first|refine GS ?_ ?_|refine VB ?_ ?_)<;>intro hb<;>(try simp only [J1,J2,J3,J4,J5,J6] at hb)<;>(try (exfalso;first|omega|exact hb trivial))))
  replace hS := hS.sub (L' := CR gr cell ten vg c :: .blk g 36 (m.cells (.slice A1 m.keys.length c1) (.slice A2 m.items.length c2) (.slice A3 m.sessions.length c3)) :: F) (by repeat (first | exact Sub.rest | exact Sub.nil | exact .skip .rest | exact .skip (.skip .rest) | exact .skip (.skip (.skip .rest)) | apply Sub.keep | refine Sub.cons (by repeat (first | exact At.here | apply At.next)) ?_ | apply Sub.skip))
  refine Z.eff (Z.cl (rmake_z gr cell ten _ _ key _ _ _ hS hc hl ht) rfl ?_) rfl
  clear hS
  rintro e w ⟨uk, ui, us, rfl, hS⟩
  refine ⟨_, rfl, ?_⟩
  have hw : MR r _ (mfOf ten key c) uk ui us := ⟨Reads.of_at (F := .sl 9 1 uk ((mfOf ten key c).keys.map kC) :: .sl 3 1 ui ((mfOf ten key c).items.map intC) :: .sl 3 1 us ((mfOf ten key c).sessions.map intC) :: CR gr cell ten vg c :: .blk g 36 (m.cells (.slice A1 m.keys.length c1) (.slice A2 m.items.length c2) (.slice A3 m.sessions.length c3)) :: F) (by repeat (first | exact At.here | apply At.next)), Reads.of_at (e := 3) (v := ui) (by repeat (first | exact At.here | apply At.next)), Reads.of_at (e := 3) (v := us) (by repeat (first | exact At.here | apply At.next))⟩
  obtain ⟨B1, d1, B2, d2, B3, d3, rfl, rfl, rfl⟩ := hw.form hS
  repeat' (first|refine K ?_|(refine Sh.sa hS ?_;clear hS;intro w hS)|(refine K3 ?_;clear hS;intro g w hS hge)|((first|refine GS ?_ ?_|refine VB ?_ ?_)<;>intro hb<;>(try simp only [J1,J2,J3,J4,J5,J6] at hb)<;>(try (exfalso;first|omega|exact hb trivial))))
  rename Nat => gw
  refine D.startS (Lr := [.blk g 36 (m.cells (.slice A1 m.keys.length c1) (.slice A2 m.items.length c2) (.slice A3 m.sessions.length c3))]) (hS.sb) 7 7 (by kernel_rfl) rfl ?_
  replace hS := hS.drew
  refine Sh.dp 0 1 ?_
  refine Sh.dp 3 9 ?_
  refine Sh.dl 1 11 ?_
  refine Sh.dl 2 15 ?_
  refine D.eff 4 31 rfl D.wantedN (by kernel_rfl) (by kernel_rfl) (fun _ _ h => h) ?_
  refine Z.cl (rsum_z m hm (.slice A1 _ c1) (.slice A2 _ c2) (.slice A3 _ c3) key _ _ _ hS (hr.k.app [_, _, _, _, _, _]) (hr.i.app [_, _, _, _, _, _]) (hr.s.app [_, _, _, _, _, _])) rfl ?_
  clear hS
  rintro e w ⟨rfl, hS⟩
  refine ⟨_, rfl, ?_⟩
  refine ⟨HM.s (hS.sb), ?_⟩
  refine D.pl 5 63 rfl D.wantedN (by kernel_rfl) (R.ibo rfl rfl rfl) ?_
  refine Sh.dp 6 127 ?_
  refine D.done (by kernel_rfl) ?_
  repeat' (first|refine K ?_|(refine Sh.sa hS ?_;clear hS;intro w hS)|(refine K3 ?_;clear hS;intro g w hS hge)|((first|refine GS ?_ ?_|refine VB ?_ ?_)<;>intro hb<;>(try simp only [J1,J2,J3,J4,J5,J6] at hb)<;>(try (exfalso;first|omega|exact hb trivial))))
  · refine Dnt Tryz.results26 ?_
    rw [if_pos (by first | exact hb | simpa using hb)]
    exact ⟨rfl, hS.sb⟩
  · refine Dnt Tryz.results26 ?_
    rename m.sum = _ => h1
    rw [if_neg (by simpa using h1), if_pos (by first | exact hb | simpa using hb)]
    exact ⟨rfl, hS.sb⟩
  · refine Dnt Tryz.results26 ?_
    rename m.sum = _ => h1
    rename m.tenant = _ => h2
    replace h2 : m.tenant = ten := h2
    rw [if_neg (by simpa using h1), if_neg (not_not_intro h2), if_pos (by first | exact hb | simpa using hb)]
    exact ⟨rfl, hS.sb⟩
  · refine Dnt Tryz.results26 ?_
    rename m.sum = _ => h1
    rename m.tenant = _ => h2
    replace h2 : m.tenant = ten := h2
    rename m.length = _ => h3
    replace h3 : m.length = c.h.length := h3
    rw [if_neg (by simpa using h1), if_neg (not_not_intro h2), if_neg (not_not_intro h3), if_pos (by first | exact hb | simpa using hb)]
    exact ⟨rfl, hS.sb⟩
  rename m.sum = _ => h1
  rename m.tenant = _ => h2
  replace h2 : m.tenant = ten := h2
  rename m.length = _ => h3
  replace h3 : m.length = c.h.length := h3
  rename m.epoch = _ => h4
  replace h4 : m.epoch = epochOf c.h := h4
  rw [if_neg (by simpa using h1), if_neg (not_not_intro h2), if_neg (not_not_intro h3), if_neg (not_not_intro h4), ← same_lists h1 h2 h3 h4]
  refine Z.eff (Z.cl (rsameM_z m (mfOf ten key c) (.slice A1 _ c1) (.slice A2 _ c2) (.slice A3 _ c3) (.slice B1 _ d1) (.slice B2 _ d2) (.slice B3 _ d3) _ _ _ hS (hr.app [_, _, _, _, _, _]) (hw.cons _) hm.few (mfOf_ok hc ht hl).few) rfl ?_) rfl
  clear hS
  rintro e w ⟨rfl, hS⟩
  refine ⟨_, rfl, ?_⟩
  repeat' (first|refine K ?_|(refine Sh.sa hS ?_;clear hS;intro w hS)|(refine K3 ?_;clear hS;intro g w hS hge)|((first|refine GS ?_ ?_|refine VB ?_ ?_)<;>intro hb<;>(try simp only [J1,J2,J3,J4,J5,J6] at hb)<;>(try (exfalso;first|omega|exact hb trivial))))
  · refine Dnt Tryz.results26 ?_
    rw [hb]
    exact ⟨rfl, hS.sb⟩
  · refine Dnt Tryz.results26 ?_
    rw [hb]
    exact ⟨rfl, hS.sb⟩
end Go.Proofs.YtiabhlogadboeaaGreat
