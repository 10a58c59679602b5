import Derived.Test.YtfmnjbhncnldmaaGreatS46
import Derived.Test.YtfmnjbhncnldmaaGreatS47
import Derived.Test.YtfmnjbhncnldmaaGreatS48
set_option linter.unusedSimpArgs false
set_option linter.unusedVariables false
namespace Go.Proofs.YtfmnjbhncnldmaaGreat
open Go.RowKit
attribute [local irreducible] Res.blk Res.sl Res.all Res.ex Res.pure Res.star
def reqA : Rq := ⟨0, 1, 1, 2, 0, ⟨#[97]⟩, ⟨#[98]⟩⟩
def cellA : Cp := (exP .zero 0 1 3 reqA).c
theorem exA : exP .zero 0 (accs ga1.ws 0 3 0) 3 reqA = ⟨cellA, ⟨0, 1, 0, ⟨#[]⟩⟩⟩ := by kernel_rfl
theorem ga1_ws : ∀ y, y ∈ ga1.ws → 1 ≤ y.epoch ∧ y.epoch ≤ 1048576 := by
  intro y hy
  rcases List.mem_cons.1 hy with rfl | hy
  · decide
  · cases hy
set_option maxHeartbeats 8000000 in
theorem awake_z (r : World) (F : List Res) (w : World) (hS : Sep r [] F w) :
    Calls Tryz.prog 9 #[] w fun y w' => y = .returned (.bool true) ∧ Sep r [] F w' := by
  refine Z.enter Tryz.func9 Tryz.ntmps9 rfl rfl ?_
  repeat' (first|refine K ?_|(refine Sh.sa hS ?_;clear hS;intro w hS)|(refine K3 ?_;clear hS;intro g w hS hge)|((first|refine GS ?_ ?_|refine VB ?_ ?_)<;>intro hb<;>(try simp only [JJ] at hb)<;>(try exact JX)))
  refine Z.eff (Z.cl (two_z _ _ _ hS) rfl ?_) rfl
  clear hS
  rintro e w ⟨a0, rfl, hS⟩
  refine ⟨_, rfl, ?_⟩
  repeat' (first|refine K ?_|(refine Sh.sa hS ?_;clear hS;intro w hS)|(refine K3 ?_;clear hS;intro g w hS hge)|((first|refine GS ?_ ?_|refine VB ?_ ?_)<;>intro hb<;>(try simp only [JJ] at hb)<;>(try exact JX)))
  refine Z.eff (Z.cl (begin_z a0 _ _ _ hS) rfl ?_) rfl
  clear hS
  rintro e w ⟨gs, gp, gq, rfl, hS⟩
  refine ⟨_, rfl, ?_⟩
  repeat' (first|refine K ?_|(refine Sh.sa hS ?_;clear hS;intro w hS)|(refine K3 ?_;clear hS;intro g w hS hge)|((first|refine GS ?_ ?_|refine VB ?_ ?_)<;>intro hb<;>(try simp only [JJ] at hb)<;>(try exact JX)))
  refine Z.eff (Z.cl (simprop1_z gs gp gq (newS c2) [] 1 0 0 ⟨0, 0, []⟩ .zero [] ea0 _ _ _ hS ea0_pr rfl) rfl ?_) rfl
  clear hS
  rintro e w ⟨k1, rfl, hk1, hS⟩
  refine ⟨_, rfl, ?_⟩
  repeat' (first|refine K ?_|(refine Sh.sa hS ?_;clear hS;intro w hS)|(refine K3 ?_;clear hS;intro g w hS hge)|((first|refine GS ?_ ?_|refine VB ?_ ?_)<;>intro hb<;>(try simp only [JJ] at hb)<;>(try exact JX)))
  refine Z.eff (Z.cl (simprop2_z gs gp gq sa1 [⟨1, ea0⟩] 3 1 k1 ⟨0, 0, []⟩ .zero [] ea1 _ _ _ hS (ea1_pr (by omega)) rfl (by simp)) rfl ?_) rfl
  clear hS
  rintro e w ⟨k2, rfl, hk2, hS⟩
  refine ⟨_, rfl, ?_⟩
  repeat' (first|refine K ?_|(refine Sh.sa hS ?_;clear hS;intro w hS)|(refine K3 ?_;clear hS;intro g w hS hge)|((first|refine GS ?_ ?_|refine VB ?_ ?_)<;>intro hb<;>(try simp only [JJ] at hb)<;>(try exact JX)))
  refine Z.eff (Z.cl (deliver_z gs gp gq _ _ 3 1 k2 .zero _ _ _ hS) rfl ?_) rfl
  clear hS
  rintro e w ⟨rfl, hS⟩
  refine ⟨_, rfl, ?_⟩
  simp only [SIM, Sep.ex_open, Sep.all_open, List.cons_append, List.nil_append] at hS
  obtain ⟨⟨a, ⟨Ac, cc⟩, ⟨Ag, cg⟩, ⟨Ar, cr⟩, x0, x1, g0, g1⟩, hS⟩ := hS
  dsimp only at hS
  obtain ⟨gcp, ocp, hB, _, hrb⟩ := (hS.slrows (e := 36) (v := .slice Ac 1 cc) AtF).mat (by omega) (q := 0) (by simp)
  subst hB
  obtain ⟨grw, orw, hC, _, hrc⟩ := (hS.slrows (e := 34) (v := .slice Ar 2 cr) AtF).mat (by omega) (q := 0) (by simp)
  subst hC
  have hb1 : w.rangeAt gcp (ocp + 0 * 1) [.slice (some ⟨grw, orw, none⟩) 2 cr] := by simpa [Sv.cells] using hrb
  have hb2 : w.rangeAt grw (orw + 0 * 1) (ptC x0) := by simpa using hrc
  clear hrb hrc
  repeat' (first|refine K ?_|(refine Sh.sa hS ?_;clear hS;intro w hS)|(refine K3 ?_;clear hS;intro g w hS hge)|((first|refine GS ?_ ?_|refine VB ?_ ?_)<;>intro hb<;>(try simp only [JJ] at hb)<;>(try exact JX)))
  replace hS := hS.fo (R := GP g0 _)
  replace hS := hS.fo (R := PC x0 0 0 _ _)
  refine Z.eff (Z.cl (pexec_z x0 g0 0 0 .zero ga1 0 3 reqA _ _ _ hS CG.zero ga1_ws (by simp [ga1]) (by simp [Cp.zero])) rfl ?_) rfl
  clear hS
  rintro e w ⟨rfl, hS⟩
  refine ⟨_, rfl, ?_⟩
  rw [exA] at hS ⊢
  repeat' (first|refine K ?_|(refine Sh.sa hS ?_;clear hS;intro w hS)|(refine K3 ?_;clear hS;intro g w hS hge)|((first|refine GS ?_ ?_|refine VB ?_ ?_)<;>intro hb<;>(try simp only [JJ] at hb)<;>(try exact JX)))
  rename Nat => g2
  have hlg : ([⟨1, ea0⟩, ⟨1, ea1⟩] : List Lg).map Lg.e = [ea0, ea1] := rfl
  replace hS := hS.sub (L' := .blk g2 114 [.int .i64 0, .int .i64 1, .int .i64 0, .string ⟨#[]⟩] :: .blk gs 119 (c2.cl a ++ [.pointer (some ⟨gp, 0, none⟩), .slice (some ⟨gcp, ocp, none⟩) 1 cc, .slice Ag [spOf 1 ea1].length cg, .slice none 0 0, .int .i64 0]) :: CfO c2 a :: PLN gp gq 1 c2 (effP sa1 ea1) :: Q1 gq 3 1 [⟨1, ea0⟩, ⟨1, ea1⟩] k2 :: F) SuF
  refine Z.cut [3, 4, 33, 34, 35, 36, 37, 38, 39, 40, 41, 42, 43, 44, 45] (fun w z => ∃ g3, z = [(3, .pointer (some ⟨g3, 0, .none⟩)), (4, .bool true)] ∧ Sep r [] (.blk g3 124 (spOf 1 ea1).cells :: .blk g2 114 [.int .i64 0, .int .i64 1, .int .i64 0, .string ⟨#[]⟩] :: F) w) ?_ ?_
  · refine D.startS (Lr := [.blk gs 119 (c2.cl a ++ [.pointer (some ⟨gp, 0, none⟩), .slice (some ⟨gcp, ocp, none⟩) 1 cc, .slice Ag [spOf 1 ea1].length cg, .slice none 0 0, .int .i64 0])]) (hS.sb) 14 16 (by kernel_rfl) rfl ?_
    replace hS := hS.drew
    refine Sh.dp 0 1 ?_
    refine Sh.dp 1 3 ?_
    refine Sh.dp 2 7 ?_
    refine Sh.dp 4 23 ?_
    refine Sh.dp 5 55 ?_
    refine Sh.dp 6 119 ?_
    refine Sh.dl 3 127 ?_
    refine Sh.dl 7 255 ?_
    refine D.each [8, 13] (by kernel_rfl) rfl ?_
    refine D.econs 8 511 rfl D.wantedN (by kernel_rfl) (fun _ _ h => h) ?_ ?_
    · replace hS := hS.fo (R := Q1 gq 3 1 [⟨1, ea0⟩, ⟨1, ea1⟩] k2)
      replace hS := hS.fo (R := PLN gp gq 1 c2 (effP sa1 ea1))
      refine Z.cl (plentries_z gp gq c2 _ 3 1 [⟨1, ea0⟩, ⟨1, ea1⟩] k2 _ _ _ hS (by simp)) rfl ?_
      clear hS
      rintro e w ⟨Al, cl, rfl, hS⟩
      refine ⟨_, rfl, ?_⟩
      rw [hlg] at hS ⊢
      refine ⟨HM.s (hS.sb), ?_⟩
      refine D.each [9, 13] (by kernel_rfl) rfl ?_
      refine D.econs 9 1023 rfl D.wantedN (by kernel_rfl) (fun _ _ h => h) ?_ ?_
      · refine Z.cl (auholder_z c2 a ea0 ea1 (.slice Al [ea0, ea1].length cl) 0 3 _ _ _ hS (CfA.of_co AtF).cf c2_v (Reads.of_at (e := 63) (v := .slice Al [ea0, ea1].length cl) AtF) ea_step rfl rfl rfl (by decide)) rfl ?_
        clear hS
        rintro e w ⟨rfl, hS⟩
        refine ⟨_, rfl, ?_⟩
        refine ⟨HM.s (hS.sb), ?_⟩
        refine Sh.dp 10 2047 ?_
        refine Sh.dp 11 4095 ?_
        refine Sh.dp 12 8191 ?_
        refine D.eff 13 16383 rfl D.wantedN (by kernel_rfl) (by kernel_rfl) (fun _ _ h => h) ?_
        refine Z.al hS ?_
        clear hS; intro g w hS hge
        refine ⟨HM.s (hS.sb), ?_⟩
        refine D.eff 14 32767 rfl D.wantedN (by kernel_rfl) (by kernel_rfl) (fun _ _ h => h) ?_
        refine Z.st hS rfl AtF rfl rfl ?_
        clear hS; intro w hS
        refine ⟨HM.last (by kernel_rfl), ?_⟩
        refine Sh.dp 15 65535 ?_
        refine D.done (by kernel_rfl) ?_
        refine Sh.cut [(3, _), (4, _)] ?_
        exact ⟨_, rfl, hS.sb⟩
      refine D.econs 13 8703 rfl D.wantedN (by kernel_rfl) (fun _ _ h => h) ?_ ?_
      · refine Z.al hS ?_
        clear hS; intro g w hS hge
        refine ⟨HM.s (hS.sb), ?_⟩
        refine D.eff 9 9215 rfl D.wantedN (by kernel_rfl) (by kernel_rfl) (fun _ _ h => h) ?_
        refine Z.cl (auholder_z c2 a ea0 ea1 (.slice Al [ea0, ea1].length cl) 0 3 _ _ _ hS (CfA.of_co AtF).cf c2_v (Reads.of_at (e := 63) (v := .slice Al [ea0, ea1].length cl) AtF) ea_step rfl rfl rfl (by decide)) rfl ?_
        clear hS
        rintro e w ⟨rfl, hS⟩
        refine ⟨_, rfl, ?_⟩
        refine ⟨HM.s (hS.sb), ?_⟩
        refine Sh.dp 10 10239 ?_
        refine Sh.dp 11 12287 ?_
        refine Sh.dp 12 16383 ?_
        refine D.eff 14 32767 rfl D.wantedN (by kernel_rfl) (by kernel_rfl) (fun _ _ h => h) ?_
        refine Z.st hS rfl AtF rfl rfl ?_
        clear hS; intro w hS
        refine ⟨HM.last (by kernel_rfl), ?_⟩
        refine Sh.dp 15 65535 ?_
        refine D.done (by kernel_rfl) ?_
        refine Sh.cut [(3, _), (4, _)] ?_
        exact ⟨_, rfl, hS.sb⟩
      exact D.enil
    refine D.econs 13 8447 rfl D.wantedN (by kernel_rfl) (fun _ _ h => h) ?_ ?_
    · refine Z.al hS ?_
      clear hS; intro g w hS hge
      refine ⟨HM.s (hS.sb), ?_⟩
      refine D.eff 8 8703 rfl D.wantedN (by kernel_rfl) (by kernel_rfl) (fun _ _ h => h) ?_
      replace hS := hS.fo (R := Q1 gq 3 1 [⟨1, ea0⟩, ⟨1, ea1⟩] k2)
      replace hS := hS.fo (R := PLN gp gq 1 c2 (effP sa1 ea1))
      refine Z.cl (plentries_z gp gq c2 _ 3 1 [⟨1, ea0⟩, ⟨1, ea1⟩] k2 _ _ _ hS (by simp)) rfl ?_
      clear hS
      rintro e w ⟨Al, cl, rfl, hS⟩
      refine ⟨_, rfl, ?_⟩
      rw [hlg] at hS ⊢
      refine ⟨HM.s (hS.sb), ?_⟩
      refine D.eff 9 9215 rfl D.wantedN (by kernel_rfl) (by kernel_rfl) (fun _ _ h => h) ?_
      refine Z.cl (auholder_z c2 a ea0 ea1 (.slice Al [ea0, ea1].length cl) 0 3 _ _ _ hS (CfA.of_co AtF).cf c2_v (Reads.of_at (e := 63) (v := .slice Al [ea0, ea1].length cl) AtF) ea_step rfl rfl rfl (by decide)) rfl ?_
      clear hS
      rintro e w ⟨rfl, hS⟩
      refine ⟨_, rfl, ?_⟩
      refine ⟨HM.s (hS.sb), ?_⟩
      refine Sh.dp 10 10239 ?_
      refine Sh.dp 11 12287 ?_
      refine Sh.dp 12 16383 ?_
      refine D.eff 14 32767 rfl D.wantedN (by kernel_rfl) (by kernel_rfl) (fun _ _ h => h) ?_
      refine Z.st hS rfl AtF rfl rfl ?_
      clear hS; intro w hS
      refine ⟨HM.last (by kernel_rfl), ?_⟩
      refine Sh.dp 15 65535 ?_
      refine D.done (by kernel_rfl) ?_
      refine Sh.cut [(3, _), (4, _)] ?_
      exact ⟨_, rfl, hS.sb⟩
    exact D.enil
  clear hS
  rintro f0 w _ ⟨g3, rfl, hS⟩
  have hsc : (spOf 1 ea1).cells = [.int .i64 0, .int .i64 1, .int .i64 0, .int .i64 1, .int .i64 0, .int .i64 0, .int .i64 20] := rfl
  rw [hsc] at hS
  repeat' (first|refine K ?_|(refine Sh.sa hS ?_;clear hS;intro w hS)|(refine K3 ?_;clear hS;intro g w hS hge)|((first|refine GS ?_ ?_|refine VB ?_ ?_)<;>intro hb<;>(try simp only [JJ] at hb)<;>(try exact JX)))
  refine Dnt Tryz.results9 ?_
  exact ⟨rfl, hS.sb⟩
theorem modM_1 (v : Int) : modM v ((1 : Nat) : Int) = ((0 : Nat) : Int) := by
  have := modM_bd v 1 (by omega)
  show modM v 1 = 0
  omega
set_option maxHeartbeats 16000000 in
theorem topKept_z (z : Int) (l : List St3) (A : Option Addr) (cap : Nat) (r : World) (hz : -9223372036854775808 ≤ z ∧ z ≤ 9223372036854775807) (hr : Rows' r 3 (.slice A l.length cap) (l.map St3.cells)) :
    Calls Tryz.prog 3 #[.int .i64 z, .slice A l.length cap] r fun e w' => e = .returned (.bool true) ∧ Chg [] r w' := by
  have hS := Sep.root r
  have hrd : Reads r [] 3 (.slice A l.length cap) (l.map St3.cells) := Reads.root hr
  refine Z.enter Tryz.func3 Tryz.ntmps3 rfl rfl ?_
  repeat' (first|refine K ?_|(refine Sh.sa hS ?_;clear hS;intro w hS)|(refine K3 ?_;clear hS;intro g w hS hge)|((first|refine GS ?_ ?_|refine VB ?_ ?_)<;>intro hb<;>(try simp only [JJ] at hb)<;>(try exact JX)))
  refine Z.eff (Z.cl (between_z z (-1) 4 _ _ _ hS (by omega) (by omega) (by omega)) rfl ?_) rfl
  clear hS
  rintro e w ⟨lag, rfl, hlag, hS⟩
  refine ⟨_, rfl, ?_⟩
  repeat' (first|refine K ?_|(refine Sh.sa hS ?_;clear hS;intro w hS)|(refine K3 ?_;clear hS;intro g w hS hge)|((first|refine GS ?_ ?_|refine VB ?_ ?_)<;>intro hb<;>(try simp only [JJ] at hb)<;>(try exact JX)))
  refine Z.eff (Z.cl (ptogether_z lag 1 _ _ _ hS hlag (by omega)) rfl ?_) rfl
  clear hS
  rintro e w ⟨gx, q, c, f, vg, rfl, hS⟩
  refine ⟨_, rfl, ?_⟩
  repeat' (first|refine K ?_|(refine Sh.sa hS ?_;clear hS;intro w hS)|(refine K3 ?_;clear hS;intro g w hS hge)|((first|refine GS ?_ ?_|refine VB ?_ ?_)<;>intro hb<;>(try simp only [JJ] at hb)<;>(try exact JX)))
  refine Z.eff (Z.cl (awake_z _ _ _ hS) rfl ?_) rfl
  clear hS
  rintro e w ⟨rfl, hS⟩
  refine ⟨_, rfl, ?_⟩
  repeat' (first|refine K ?_|(refine Sh.sa hS ?_;clear hS;intro w hS)|(refine K3 ?_;clear hS;intro g w hS hge)|((first|refine GS ?_ ?_|refine VB ?_ ?_)<;>intro hb<;>(try simp only [JJ] at hb)<;>(try exact JX)))
  · refine Z.eff (Z.cl (awake_z _ _ _ hS) rfl ?_) rfl
    clear hS
    rintro e w ⟨rfl, hS⟩
    refine ⟨_, rfl, ?_⟩
    repeat' (first|refine K ?_|(refine Sh.sa hS ?_;clear hS;intro w hS)|(refine K3 ?_;clear hS;intro g w hS hge)|((first|refine GS ?_ ?_|refine VB ?_ ?_)<;>intro hb<;>(try simp only [JJ] at hb)<;>(try exact JX)))
    refine Dnt Tryz.results3 ?_
    exact ⟨rfl, hS.chg⟩
  have hpk : (List.range 1).map (pk0 c f vg) = [pk0 c f vg 0] := rfl
  rw [hpk] at hS
  replace hS := Sep.all_open.1 (hS.fo (R := .all [pk0 c f vg 0]))
  simp only [List.cons_append, List.nil_append, pk0] at hS
  replace hS := Sep.all_open.1 hS
  simp only [List.cons_append, List.nil_append] at hS
  replace hS := Z.nilsl (Z.nilsl (Sep.pure_open.2 ⟨trivial, hS⟩ : Sep r [] (.pure True :: _) _) 131 4 none) 137 3 none
  refine Z.lpS [4, 6, 27, 28, 29, 30, 31, 32, 33, 34, 35, 36, 37, 38, 39, 40, 41, 42, 43, 44, 45] (fun m w z => ∃ (k : Nat) (x : Pr) (nb : Nat → Int) (sv : Nat → List ShV) (G : Res) (S H : Nat → Option Addr × Nat), z = [(6, .int .i64 k)] ∧ (k ≤ l.length ∧ PI x k ∧ x.lag = lag ∧ x.two = false ∧ (∀ i, i < 1 → x.sh i = (sv i).map ShV.m) ∧ (∀ i, i < 1 → ∀ m, m ∈ sv i → Reads r [G] 8 m.v (m.m.ch.map Ch.cells)) ∧ ∀ i, 0 ≤ nb i ∧ nb i ≤ (k : Int)) ∧ m = l.length - k ∧ Sep r [] (.blk gx 42 (prC q 1 nb x.acked) :: PC q.gh 0 0 (.pointer (some ⟨q.gg, 0, .none⟩)) x.home :: GP q.gg pairG :: PL q.gl x.ld :: .sl 34 1 (.slice q.cA 1 q.cc) (((List.range 1).map c).map ptC) :: .sl 106 1 (.slice q.fA 1 q.fc) (((List.range 1).map f).map ptC) :: .sl 135 1 (.slice q.sA 1 q.sc) (((List.range 1).map (rsv S fun k => (sv k).length)).map Sv.cells) :: .sl 140 1 (.slice q.hA 1 q.hc) (((List.range 1).map (rsv H fun k => (x.he k).length)).map Sv.cells) :: PC (c 0) ((0 : Nat) + 1) 0 (vg 0) (x.fo 0).c :: .blk (f 0) 222 [.pointer (some ⟨c 0, 0, .none⟩), .int .i64 (x.fo 0).seen, .int .i64 (x.fo 0).agreed] :: .sl 131 4 (.slice (S 0).1 (sv 0).length (S 0).2) ((sv 0).map ShV.cells) :: .sl 137 3 (.slice (H 0).1 (x.he 0).length (H 0).2) ((x.he 0).map He.cells) :: G :: []) w) _ [(6, .int .i64 (0 : Nat))] (by repeat (first | exact trivial | refine ⟨rfl, ?_⟩)) ⟨0, pr0 lag, fun _ => 0, sv0, .pure True, sA0, sA0, rfl, ⟨by omega, pr0_inv hlag, rfl, rfl, fun _ _ => rfl, fun i _ m hm => by simp [sv0] at hm, fun _ => ⟨Int.le_refl 0, Int.le_refl 0⟩⟩, rfl, hS.sb⟩ ?_
  clear hS
  rintro m f0 w _ ⟨k, x, nb, sv, G, S, H, rfl, ⟨hk, hI, hxl, hx2, hmsg, hrdm, hnb⟩, rfl, hS⟩
  by_cases hlt : k < l.length
  · obtain ⟨gb, ob, hA, _, hra⟩ := (hrd.sub SuF [] w hS).mat (by omega) (q := k) (by simpa using hlt)
    subst hA
    have hra2 : w.rangeAt gb (ob + k * 3) l[k].cells := by simpa using hra
    clear hra
    generalize l[k] = y at *
    repeat' (first|refine K ?_|(refine Sh.sa hS ?_;clear hS;intro w hS)|(refine K3 ?_;clear hS;intro g w hS hge)|((first|refine GS ?_ ?_|refine VB ?_ ?_)<;>intro hb<;>(try simp only [JJ] at hb)<;>(try exact JX)))
    refine Z.eff (Z.cl (pstep_z gx 1 0 q c f vg S H nb x sv G k y.wh y.a y.b _ _ _ hS hI (by omega) (by omega) (by omega) (modM_1 y.a) hmsg hrdm hnb) rfl ?_) rfl
    clear hS
    rintro e w ⟨x', nb', sv', G', S', H', rfl, hR, hS⟩
    refine ⟨_, rfl, ?_⟩
    obtain ⟨j, hj1, hj2, hj3⟩ := hR.pi.kept0
    rw [hR.lag, hxl] at hj3
    have hhl := hR.pi.len
    repeat' (first|refine K ?_|(refine Sh.sa hS ?_;clear hS;intro w hS)|(refine K3 ?_;clear hS;intro g w hS hge)|((first|refine GS ?_ ?_|refine VB ?_ ?_)<;>intro hb<;>(try simp only [JJ] at hb)<;>(try exact JX)))
    replace hS := hS.fo (R := PC (c 0) ((0 : Nat) + 1) 0 (vg 0) (x'.fo 0).c)
    replace hS := hS.fo (R := .sl 34 1 (.slice q.cA 1 q.cc) (((List.range 1).map c).map ptC))
    replace hS := hS.fo (R := PC q.gh 0 0 (.pointer (some ⟨q.gg, 0, .none⟩)) x'.home)
    replace hS := hS.fo (R := .blk gx 42 (prC q 1 nb' x'.acked))
    refine Z.eff (Z.cl (pkept_z gx 1 0 q c vg nb' x'.acked lag x'.home (x'.fo 0).c j _ _ _ hS (by omega) (by omega) hR.pi.isH (by omega) hj1 hj2 hR.pi.a0 hj3 (by omega)) rfl ?_) rfl
    clear hS
    rintro e w ⟨rfl, hS⟩
    refine ⟨_, rfl, ?_⟩
    repeat' (first|refine K ?_|(refine Sh.sa hS ?_;clear hS;intro w hS)|(refine K3 ?_;clear hS;intro g w hS hge)|((first|refine GS ?_ ?_|refine VB ?_ ?_)<;>intro hb<;>(try simp only [JJ] at hb)<;>(try exact JX)))
    refine Sh.again (l.length - (k + 1)) [(6, .int .i64 (k + 1 : Nat))] ?_
    exact ⟨k + 1, x', nb', sv', G', S', H', rfl, ⟨by omega, hR.pi, hR.lag.trans hxl, hR.two.trans hx2, hR.msg, hR.rd, hR.nb⟩, rfl, hS.sb⟩
  · repeat' (first|refine K ?_|(refine Sh.sa hS ?_;clear hS;intro w hS)|(refine K3 ?_;clear hS;intro g w hS hge)|((first|refine GS ?_ ?_|refine VB ?_ ?_)<;>intro hb<;>(try simp only [JJ] at hb)<;>(try exact JX)))
    refine Dnt Tryz.results3 ?_
    exact ⟨rfl, hS.chg⟩
open Go.ChangeShapes Go.WideShapes Go.ChangeAt
set_option maxRecDepth 100000 in
theorem topKept_lifted (os : Os) (started : os.Started) (H : Type) (enc : TypeId × Value → H) :
    ReturnsInHanded {} Tryz.checked os 3 .any (Rows.topKeptSpec.pre6 enc Tryz.prog Tryz.f3 Rows.topKeptRow.domain false) (Rows.topKeptSpec.post enc Tryz.prog Tryz.f3 false Rows.topKeptRow.fresh Rows.topKeptRow.handsOn Rows.topKeptRow.again) := by
  refine returnsInHanded_of_change (C := Tryz.checked) Tryz.own started (by kernel_rfl) Tryz.func3
    (ChangeSpec.witness6 (enc := enc) (C := Tryz.checked) false ⟨#[], #[.int .i64 0, .slice none 0 0], []⟩ 8 (by kernel_rfl) (by kernel_rfl) (by kernel_rfl) (by kernel_rfl)) ?_
  intro W base args ds gs before hval0 hW _ _
  have hval : ∀ (j : Nat) t v, Tryz.f3.params[j]? = some t → args[j]? = some v → Value.okWide Tryz.prog W .any base t v := hval0
  have hW0 := hW
  obtain ⟨p, q, hA0, hV, hpq, _, _⟩ := hW
  obtain ⟨la⟩ := args
  have hA : DataW.TrodAll enc Tryz.prog W 0 (fun _ => true) true [3, 22] la ds p := by have := hA0; rw [Tryz.params3] at this; exact this
  rw [Tryz.params3] at hval
  obtain ⟨v0, la0, d0, ds0, p0, q0, rfl, rfl, rfl, h0, hA⟩ := trodAll_cons hA
  obtain ⟨v1, la1, d1, ds1, p1, q1, rfl, rfl, rfl, h1, hA⟩ := trodAll_cons hA
  obtain ⟨rfl, rfl, rfl⟩ := trodAll_nil hA
  obtain ⟨z0, rfl, hr0⟩ := arg_int (hval 0 _ _ rfl rfl) h0
  obtain ⟨l1, A1, cap1, rfl, hr1⟩ := arg_steps (hval 1 _ _ rfl rfl) h1
  have fin : Calls Tryz.prog 3 _ W fun e W' => e = .returned (.bool true) ∧ Chg [] W W' := topKept_z z0 l1 A1 cap1 W hr0 hr1
  refine fin.mono fun e W' ⟨he, hc⟩ => ⟨_, he, ?_⟩
  exact law_post Tryz.laidOut (by rw [Tryz.params3]; intro t ht; simp only [List.mem_cons, List.not_mem_nil, or_false] at ht; rcases ht with rfl | rfl <;> exact ⟨by kernel_rfl, of_decide_eq_true (by kernel_rfl)⟩) rfl rfl Tryz.underlying4 rfl hW0 hc.below
theorem topKept_f0 : Tryz.prog.funcNamed Rows.topKeptRow.func = some 3 := by kernel_rfl
theorem topKept_f1 : (Rows.topKeptRow.inPlace == Tryz.prog.inPlace 3) = true := by kernel_rfl
theorem topKept_f2 : (Rows.topKeptRow.unfollowed == Tryz.prog.unfollowed 3) = true := by kernel_rfl
theorem topKept_f3 : (Rows.topKeptRow.recurses == Tryz.prog.recurses 3) = true := by kernel_rfl
theorem topKept_f4 : (Rows.topKeptRow.named == Tryz.prog.varsNamed 3) = true := by kernel_rfl
theorem topKept_closed : joinedFacts Tryz.prog 3 Tryz.f3 Rows.topKeptSpec Rows.topKeptRow = true := by
  unfold joinedFacts
  exact (andT (andT (andT (andT (andT (andT (andT (andT (andT (andT (andT (andT (andT (andT (andT (andT (andT (andT (andT (andT (andT (andT (andT (andT (andT (andT (andT (andT (andT (andT (andT (by kernel_rfl) Tryz.laidOut) fact_mapsRowed) (by kernel_rfl)) (by kernel_rfl)) (by kernel_rfl)) fact_stops) (by kernel_rfl)) fact_knobs) topKept_f1) topKept_f2) topKept_f3) topKept_f4) (by kernel_rfl)) (by kernel_rfl)) (by kernel_rfl)) (by kernel_rfl)) (by kernel_rfl)) (by kernel_rfl)) (by kernel_rfl)) (by kernel_rfl)) (by kernel_rfl)) fact_plainKeys) (by kernel_rfl)) fact_stopsHeard) fact_mayEnter) fact_lifted) fact_make) (by kernel_rfl)) (by kernel_rfl)) (by kernel_rfl)) (by kernel_rfl))
theorem topKept_holds : Rows.TopKeptSaid :=
  OpenClaim.holds_of_wide 3 Tryz.f3 rfl rfl rfl rfl rfl rfl rfl ⟨rfl, rfl, rfl, rfl, rfl⟩ rfl rfl rfl rfl rfl topKept_f0 Tryz.func3 topKept_closed
    (of_decide_eq_true (by kernel_rfl)) (by unfold Func.isWrapper; rw [if_neg (of_decide_eq_false (by kernel_rfl))]; exact ⟨rfl, rfl⟩)
    (fun os started H enc _ => topKept_lifted os started H enc)
end Go.Proofs.YtfmnjbhncnldmaaGreat
