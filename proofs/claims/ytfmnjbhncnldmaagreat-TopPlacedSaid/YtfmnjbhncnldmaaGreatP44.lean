import Derived.Test.YtfmnjbhncnldmaaGreatP19
import Derived.Test.YtfmnjbhncnldmaaGreatP43
set_option linter.unusedSimpArgs false
set_option linter.unusedVariables false
namespace Go.Proofs.YtfmnjbhncnldmaaGreat
open Go.RowKit
attribute [local irreducible] Res.blk Res.sl Res.all Res.ex Res.pure Res.star
theorem plr_ok (l : List (Int × Int)) : ∀ row, row ∈ l.map plR → row.length = 2 ∧ ∀ u, u ∈ row → u.oneCell' = true := by
  intro row hr
  obtain ⟨x, _, rfl⟩ := List.mem_map.1 hr
  exact ⟨rfl, by simp [plR, Value.oneCell']⟩
set_option maxHeartbeats 8000000 in
theorem sfind_z (c : Cfg) (a : CAd) (mk : Int) (r : World) (F : List Res) (w : World) (hS : Sep r [] F w) (hr : CfA r F c a) (hv : CfgV c) (hg : c.regions ≤ 3) (hn : c.tenants.length ≤ 5) :
    Calls Tryz.prog 84 #[pbV c a mk true] w fun e w' => ∃ (er : Int) (gp : Nat) (ps : List (Int × Int)) (pA : Option Addr) (pn pc : Nat) (tA : Option Addr) (tn tc : Nat), e = .returned (.tuple #[.agg #[.slice pA pn pc, .slice tA tn tc], .int .i64 er]) ∧ ((er = 0 ∨ er = 2) ∧ (er = 0 → tn = 0 → (pA = some ⟨gp, 0, none⟩ ∧ pn = c.tenants.length ∧ pc = c.tenants.length) ∧ PlG c (sgC c) ps)) ∧ Sep r [] (.sl 92 2 (.slice (some ⟨gp, 0, none⟩) c.tenants.length c.tenants.length) (ps.map plR) :: F) w' := by
  refine Z.enter Tryz.func84 Tryz.ntmps84 rfl rfl ?_
  repeat' (first|refine K ?_|(refine Sh.sa hS ?_;clear hS;intro w hS)|(refine K3 ?_;clear hS;intro g w hS hge)|(refine KB ?_ ?_<;>intro hb<;>(try simp only [JJ] at hb)<;>(try exact JX))|fail)
  rename_i gb _ _
  rename Nat => gx
  refine Z.eff (Z.cl (nvalid_z c a _ _ _ hS (hr.app [_, _]) hv) rfl ?_) rfl
  clear hS
  rintro e w ⟨rfl, hS⟩
  refine ⟨_, rfl, ?_⟩
  repeat' (first|refine K ?_|(refine Sh.sa hS ?_;clear hS;intro w hS)|(refine K3 ?_;clear hS;intro g w hS hge)|(refine KB ?_ ?_<;>intro hb<;>(try simp only [JJ] at hb)<;>(try exact JX))|fail)
  refine Z.cut [4, 13, 14, 15, 16, 17, 18, 19, 20, 21] (fun w z => ∃ (gs gp : Nat) (o : List Nat) (vA : Option Addr) (vc : Nat), z = [(4, .pointer (some ⟨gs, 0, none⟩))] ∧ o.Perm (List.range c.tenants.length) ∧ Sep r [] (.blk gs 277 (seC c a mk true vA (varsN (sgC c) o).length vc gp c.tenants.length none 0 0 0) :: .blk gp 92 (Z.zerosL (plR (0, 0)) c.tenants.length) :: .sl 3 1 (.slice vA (varsN (sgC c) o).length vc) ((vN (varsN (sgC c) o)).map ztC) :: .blk gb 84 (pbC c a mk true) :: .blk gx 201 [(.slice none 0 0), (.slice none 0 0)] :: F) w) ?_ ?_
  · refine D.startS (Lr := (.blk gb 84 (pbC c a mk true) :: F)) (hS.sb) 10 11 (by kernel_rfl) rfl ?_
    replace hS := hS.drew
    refine Sh.dp 3 8 ?_
    refine Sh.dp 4 24 ?_
    refine Sh.dl 0 25 ?_
    refine Sh.dl 1 27 ?_
    refine Sh.dl 5 59 ?_
    refine Sh.dp 6 123 ?_
    refine D.each [2, 7, 9] (by kernel_rfl) rfl ?_
    refine D.econs 2 127 rfl D.wantedN (by kernel_rfl) (fun _ _ h => h) ?_ ?_
    · refine Z.cl (svars_z c a mk true _ _ _ hS (by first | exact hr.app [_, _] | exact hr.app [_, _, _] | exact hr.app [_, _, _, _] | exact hr.app [_, _, _, _, _]) hv hg hn) rfl ?_
      clear hS
      rintro e w ⟨o, vA, vc, rfl, hpo, hS⟩
      refine ⟨_, rfl, ?_⟩
      refine HMs ?_
      refine D.each [7, 9] (by kernel_rfl) rfl ?_
      refine D.econs 7 255 rfl D.wantedN (by kernel_rfl) (fun _ _ h => h) ?_ ?_
      · refine Z.mks (l := c.tenants.length) (c := c.tenants.length) hS rfl rfl rfl (Nat.le_refl _) (by show 16 * c.tenants.length ≤ 281474976710656; omega) (by unfold maxLen; omega) ?_
        clear hS; intro gp w hS hge1
        refine HMs ?_
        first | refine D.bu 8 511 rfl D.wantedN (by kernel_rfl) rfl rfl ?_ | refine D.buA 8 511 rfl D.wantedN (by kernel_rfl) rfl rfl ?_
        refine D.ef 9 1023 ?_
        refine Z.al hS ?_
        clear hS; intro gs w hS hge3
        refine HMs ?_
        refine D.ef 10 2047 ?_
        refine Z.st hS rfl AtF rfl rfl ?_
        clear hS; intro w hS
        refine ⟨HM.last (by kernel_rfl), ?_⟩
        refine D.done (by kernel_rfl) ?_
        refine Sh.cut [(4, _)] ?_
        exact ⟨gs, gp, o, vA, vc, rfl, hpo, hS.sb⟩
      refine D.econs 9 639 rfl D.wantedN (by kernel_rfl) (fun _ _ h => h) ?_ ?_
      · refine Z.al hS ?_
        clear hS; intro gs w hS hge3
        refine HMs ?_
        refine D.ef 7 767 ?_
        refine Z.mks (l := c.tenants.length) (c := c.tenants.length) hS rfl rfl rfl (Nat.le_refl _) (by show 16 * c.tenants.length ≤ 281474976710656; omega) (by unfold maxLen; omega) ?_
        clear hS; intro gp w hS hge1
        refine HMs ?_
        first | refine D.bu 8 1023 rfl D.wantedN (by kernel_rfl) rfl rfl ?_ | refine D.buA 8 1023 rfl D.wantedN (by kernel_rfl) rfl rfl ?_
        refine D.ef 10 2047 ?_
        refine Z.st hS rfl AtF rfl rfl ?_
        clear hS; intro w hS
        refine ⟨HM.last (by kernel_rfl), ?_⟩
        refine D.done (by kernel_rfl) ?_
        refine Sh.cut [(4, _)] ?_
        exact ⟨gs, gp, o, vA, vc, rfl, hpo, hS.sb⟩
      exact D.enil
    refine D.econs 7 251 rfl D.wantedN (by kernel_rfl) (fun _ _ h => h) ?_ ?_
    · refine Z.mks (l := c.tenants.length) (c := c.tenants.length) hS rfl rfl rfl (Nat.le_refl _) (by show 16 * c.tenants.length ≤ 281474976710656; omega) (by unfold maxLen; omega) ?_
      clear hS; intro gp w hS hge1
      refine HMs ?_
      refine D.each [2, 9] (by kernel_rfl) rfl ?_
      refine D.econs 2 255 rfl D.wantedN (by kernel_rfl) (fun _ _ h => h) ?_ ?_
      · refine Z.cl (svars_z c a mk true _ _ _ hS (by first | exact hr.app [_, _] | exact hr.app [_, _, _] | exact hr.app [_, _, _, _] | exact hr.app [_, _, _, _, _]) hv hg hn) rfl ?_
        clear hS
        rintro e w ⟨o, vA, vc, rfl, hpo, hS⟩
        refine ⟨_, rfl, ?_⟩
        refine HMs ?_
        first | refine D.bu 8 511 rfl D.wantedN (by kernel_rfl) rfl rfl ?_ | refine D.buA 8 511 rfl D.wantedN (by kernel_rfl) rfl rfl ?_
        refine D.ef 9 1023 ?_
        refine Z.al hS ?_
        clear hS; intro gs w hS hge3
        refine HMs ?_
        refine D.ef 10 2047 ?_
        refine Z.st hS rfl AtF rfl rfl ?_
        clear hS; intro w hS
        refine ⟨HM.last (by kernel_rfl), ?_⟩
        refine D.done (by kernel_rfl) ?_
        refine Sh.cut [(4, _)] ?_
        exact ⟨gs, gp, o, vA, vc, rfl, hpo, hS.sb⟩
      refine D.econs 9 763 rfl D.wantedN (by kernel_rfl) (fun _ _ h => h) ?_ ?_
      · refine Z.al hS ?_
        clear hS; intro gs w hS hge3
        refine HMs ?_
        refine D.ef 2 767 ?_
        refine Z.cl (svars_z c a mk true _ _ _ hS (by first | exact hr.app [_, _] | exact hr.app [_, _, _] | exact hr.app [_, _, _, _] | exact hr.app [_, _, _, _, _]) hv hg hn) rfl ?_
        clear hS
        rintro e w ⟨o, vA, vc, rfl, hpo, hS⟩
        refine ⟨_, rfl, ?_⟩
        refine HMs ?_
        first | refine D.bu 8 1023 rfl D.wantedN (by kernel_rfl) rfl rfl ?_ | refine D.buA 8 1023 rfl D.wantedN (by kernel_rfl) rfl rfl ?_
        refine D.ef 10 2047 ?_
        refine Z.st hS rfl AtF rfl rfl ?_
        clear hS; intro w hS
        refine ⟨HM.last (by kernel_rfl), ?_⟩
        refine D.done (by kernel_rfl) ?_
        refine Sh.cut [(4, _)] ?_
        exact ⟨gs, gp, o, vA, vc, rfl, hpo, hS.sb⟩
      exact D.enil
    refine D.econs 9 635 rfl D.wantedN (by kernel_rfl) (fun _ _ h => h) ?_ ?_
    · refine Z.al hS ?_
      clear hS; intro gs w hS hge3
      refine HMs ?_
      refine D.each [2, 7] (by kernel_rfl) rfl ?_
      refine D.econs 2 639 rfl D.wantedN (by kernel_rfl) (fun _ _ h => h) ?_ ?_
      · refine Z.cl (svars_z c a mk true _ _ _ hS (by first | exact hr.app [_, _] | exact hr.app [_, _, _] | exact hr.app [_, _, _, _] | exact hr.app [_, _, _, _, _]) hv hg hn) rfl ?_
        clear hS
        rintro e w ⟨o, vA, vc, rfl, hpo, hS⟩
        refine ⟨_, rfl, ?_⟩
        refine HMs ?_
        refine D.ef 7 767 ?_
        refine Z.mks (l := c.tenants.length) (c := c.tenants.length) hS rfl rfl rfl (Nat.le_refl _) (by show 16 * c.tenants.length ≤ 281474976710656; omega) (by unfold maxLen; omega) ?_
        clear hS; intro gp w hS hge1
        refine HMs ?_
        first | refine D.bu 8 1023 rfl D.wantedN (by kernel_rfl) rfl rfl ?_ | refine D.buA 8 1023 rfl D.wantedN (by kernel_rfl) rfl rfl ?_
        refine D.ef 10 2047 ?_
        refine Z.st hS rfl AtF rfl rfl ?_
        clear hS; intro w hS
        refine ⟨HM.last (by kernel_rfl), ?_⟩
        refine D.done (by kernel_rfl) ?_
        refine Sh.cut [(4, _)] ?_
        exact ⟨gs, gp, o, vA, vc, rfl, hpo, hS.sb⟩
      refine D.econs 7 763 rfl D.wantedN (by kernel_rfl) (fun _ _ h => h) ?_ ?_
      · refine Z.mks (l := c.tenants.length) (c := c.tenants.length) hS rfl rfl rfl (Nat.le_refl _) (by show 16 * c.tenants.length ≤ 281474976710656; omega) (by unfold maxLen; omega) ?_
        clear hS; intro gp w hS hge1
        refine HMs ?_
        refine D.ef 2 767 ?_
        refine Z.cl (svars_z c a mk true _ _ _ hS (by first | exact hr.app [_, _] | exact hr.app [_, _, _] | exact hr.app [_, _, _, _] | exact hr.app [_, _, _, _, _]) hv hg hn) rfl ?_
        clear hS
        rintro e w ⟨o, vA, vc, rfl, hpo, hS⟩
        refine ⟨_, rfl, ?_⟩
        refine HMs ?_
        first | refine D.bu 8 1023 rfl D.wantedN (by kernel_rfl) rfl rfl ?_ | refine D.buA 8 1023 rfl D.wantedN (by kernel_rfl) rfl rfl ?_
        refine D.ef 10 2047 ?_
        refine Z.st hS rfl AtF rfl rfl ?_
        clear hS; intro w hS
        refine ⟨HM.last (by kernel_rfl), ?_⟩
        refine D.done (by kernel_rfl) ?_
        refine Sh.cut [(4, _)] ?_
        exact ⟨gs, gp, o, vA, vc, rfl, hpo, hS.sb⟩
      exact D.enil
    exact D.enil
  clear hS
  rintro f0 w _ ⟨gs, gp, o, vA, vc, rfl, hpo, hS⟩
  replace hS := hS.sub (L' := .blk gp 92 (Z.zerosL (plR (0, 0)) c.tenants.length) :: .blk gs 277 (seC c a mk true vA (varsN (sgC c) o).length vc gp c.tenants.length none 0 0 0) :: .sl 3 1 (.slice vA (varsN (sgC c) o).length vc) ((vN (varsN (sgC c) o)).map ztC) :: .blk gb 84 (pbC c a mk true) :: .blk gx 201 [(.slice none 0 0), (.slice none 0 0)] :: F) SuF
  replace hS := mk_zero plR (0, 0) hS (by unfold maxLen; omega) plr_ok
  repeat' (first|refine K ?_|(refine Sh.sa hS ?_;clear hS;intro w hS)|(refine K3 ?_;clear hS;intro g w hS hge)|(refine KB ?_ ?_<;>intro hb<;>(try simp only [JJ] at hb)<;>(try exact JX))|fail)
  refine Z.lpS [5, 25, 26, 27, 28, 29, 30, 31, 32, 33] (fun m w z => ∃ (i : Nat) (ps : List (Int × Int)), z = [(25, .int .i64 i)] ∧ i ≤ c.tenants.length ∧ (ps.length = c.tenants.length ∧ ∀ q (h : q < ps.length), q < i → ps[q] = (-1, -1)) ∧ m = c.tenants.length - i ∧ Sep r [] (.sl 92 2 (.slice (some ⟨gp, 0, none⟩) c.tenants.length c.tenants.length) (ps.map plR) :: .blk gs 277 (seC c a mk true vA (varsN (sgC c) o).length vc gp c.tenants.length none 0 0 0) :: .sl 3 1 (.slice vA (varsN (sgC c) o).length vc) ((vN (varsN (sgC c) o)).map ztC) :: .blk gb 84 (pbC c a mk true) :: .blk gx 201 [(.slice none 0 0), (.slice none 0 0)] :: F) w) _ [(25, .int .i64 (0 : Nat))] TrF ⟨0, List.replicate c.tenants.length (0, 0), rfl, by omega, ⟨by simp, fun q _ h => absurd h (by omega)⟩, rfl, hS.sb⟩ ?_
  clear hS
  rintro m f1 w _ ⟨i, ps, rfl, hi, ⟨hpl, hps⟩, rfl, hS⟩
  by_cases hlt : i < c.tenants.length
  · repeat' (first|refine K ?_|(refine Sh.sa hS ?_;clear hS;intro w hS)|(refine K3 ?_;clear hS;intro g w hS hge)|(refine KB ?_ ?_<;>intro hb<;>(try simp only [JJ] at hb)<;>(try exact JX))|fail)
    refine Z.eff (Z.stEm ((-1 : Int), (-1 : Int)) hS rfl AtF (by omega) rfl rfl rfl rfl ?_) rfl
    clear hS; intro w hS
    repeat' (first|refine K ?_|(refine Sh.sa hS ?_;clear hS;intro w hS)|(refine K3 ?_;clear hS;intro g w hS hge)|(refine KB ?_ ?_<;>intro hb<;>(try simp only [JJ] at hb)<;>(try exact JX))|fail)
    refine Sh.again (c.tenants.length - (i + 1)) [(25, .int .i64 (i + 1 : Nat))] ?_
    refine ⟨i + 1, ps.set i (-1, -1), rfl, by omega, ⟨by simp [hpl], fun q hq hq2 => ?_⟩, rfl, hS.sb⟩
    rw [List.getElem_set]
    split
    · rfl
    · exact hps q (by simpa using hq) (by omega)
  obtain rfl : i = c.tenants.length := by omega
  have hrep : ps = List.replicate c.tenants.length (-1, -1) := by
    apply List.ext_getElem
    · simp [hpl]
    · intro q h1 h2
      rw [hps q h1 (by omega), List.getElem_replicate]
  subst hrep
  clear hps hpl
  replace hS := Z.nilsl hS 362 8 none
  have hin : ∀ u, u ∈ varsN (sgC c) o → u < 2 * c.tenants.length := fun u hu => by
    have h1 := (mem_vars.1 hu).1
    have := List.mem_range.1 (hpo.mem_iff.1 h1)
    omega
  have hvl : (varsN (sgC c) o).length ≤ 1000 := by
    have h1 := vars_len (sgC c) o
    have h2 := hpo.length_eq
    rw [List.length_range] at h2
    omega
  have hnd : (varsN (sgC c) o).Nodup := nodup_vars (hpo.nodup_iff.2 List.nodup_range)
  repeat' (first|refine K ?_|(refine Sh.sa hS ?_;clear hS;intro w hS)|(refine K3 ?_;clear hS;intro g w hS hge)|(refine KB ?_ ?_<;>intro hb<;>(try simp only [JJ] at hb)<;>(try exact JX))|fail)
  refine Z.eff (Z.cl (srun_z c a mk true gs gp vA vc (varsN (sgC c) o) r (.sl 3 1 (.slice vA (varsN (sgC c) o).length vc) ((vN (varsN (sgC c) o)).map ztC) :: .blk gb 84 (pbC c a mk true) :: .blk gx 201 [(.slice none 0 0), (.slice none 0 0)] :: F) (hr.app [_, _, _]) hv (Reads.of_at (e := 3) (v := .slice vA (varsN (sgC c) o).length vc) AtF) hnd hvl hin (varsN (sgC c) o).length 0 0 _ [] none 0 0 _ (by omega) rfl SvI.zero (hS.sb) (by omega) (by simp)) rfl ?_) rfl
  clear hS
  rintro e w ⟨b, er, ps', tr', tA', tc', cnt', rfl, hR, hS⟩
  refine ⟨_, rfl, ?_⟩
  by_cases he : er = 0
  rotate_left
  · repeat' (first|refine K ?_|(refine Sh.sa hS ?_;clear hS;intro w hS)|(refine K3 ?_;clear hS;intro g w hS hge)|(refine KB ?_ ?_<;>intro hb<;>(try simp only [JJ] at hb)<;>(try exact JX))|fail)
    first | refine Z.done hS Tryz.results84 (Z.RV.cell rfl AtF rfl (Z.RV.tmp rfl Z.RV.nil)) ?_ | refine Z.doneN hS Tryz.results84 (Z.RV.cell rfl AtF rfl (Z.RV.tmp rfl Z.RV.nil)) ?_
    exact ⟨er, gp, ps', none, 0, 0, none, 0, 0, rfl, ⟨hR.two, fun h => absurd h he⟩, hS.sb⟩
  subst he
  cases b
  · obtain ⟨rfl, hne⟩ := hR.no rfl rfl
    repeat' (first|refine K ?_|(refine Sh.sa hS ?_;clear hS;intro w hS)|(refine K3 ?_;clear hS;intro g w hS hge)|(refine KB ?_ ?_<;>intro hb<;>(try simp only [JJ] at hb)<;>(try exact JX))|fail)
    first | refine Z.done hS Tryz.results84 (Z.RV.cell rfl AtF rfl (Z.RV.tmp rfl Z.RV.nil)) ?_ | refine Z.doneN hS Tryz.results84 (Z.RV.cell rfl AtF rfl (Z.RV.tmp rfl Z.RV.nil)) ?_
    exact ⟨0, gp, _, none, 0, 0, tA', tr'.length, tc', rfl, ⟨.inl rfl, fun _ h => absurd (List.length_eq_zero_iff.1 h) hne⟩, hS.sb⟩
  · obtain ⟨_, hsv, hpb⟩ := hR.yes rfl
    repeat' (first|refine K ?_|(refine Sh.sa hS ?_;clear hS;intro w hS)|(refine K3 ?_;clear hS;intro g w hS hge)|(refine KB ?_ ?_<;>intro hb<;>(try simp only [JJ] at hb)<;>(try exact JX))|fail)
    first | refine Z.done hS Tryz.results84 (Z.RV.cell rfl AtF rfl (Z.RV.tmp rfl Z.RV.nil)) ?_ | refine Z.doneN hS Tryz.results84 (Z.RV.cell rfl AtF rfl (Z.RV.tmp rfl Z.RV.nil)) ?_
    exact ⟨0, gp, ps', _, _, _, none, 0, 0, rfl, ⟨.inl rfl, fun _ _ => ⟨⟨rfl, rfl, rfl⟩, pl_full hpb hpo hsv⟩⟩, hS.sb⟩
set_option maxHeartbeats 4000000 in
theorem splaces_z (c : Cfg) (a : CAd) (mk : Int) (r : World) (F : List Res) (w : World) (hS : Sep r [] F w) (hr : CfA r F c a) (hv : CfgV c) (hg : c.regions ≤ 3) (hn : c.tenants.length ≤ 5) :
    Calls Tryz.prog 28 #[pbV c a mk true] w fun e w' => ∃ (er : Int) (gp : Nat) (ps : List (Int × Int)) (pA : Option Addr) (pn pc : Nat), e = .returned (.tuple #[.slice pA pn pc, .int .i64 er]) ∧ ((er = 2 ∨ er = 10) ∨ (er = 0 ∧ (pA = some ⟨gp, 0, none⟩ ∧ pn = c.tenants.length ∧ pc = c.tenants.length) ∧ PlG c (sgC c) ps)) ∧ Sep r [] (.sl 92 2 (.slice (some ⟨gp, 0, none⟩) c.tenants.length c.tenants.length) (ps.map plR) :: F) w' := by
  refine Z.enter Tryz.func28 Tryz.ntmps28 rfl rfl ?_
  repeat' (first|refine K ?_|(refine Sh.sa hS ?_;clear hS;intro w hS)|(refine K3 ?_;clear hS;intro g w hS hge)|(refine KB ?_ ?_<;>intro hb<;>(try simp only [JJ] at hb)<;>(try exact JX))|fail)
  refine Z.eff (Z.cl (sfind_z c a mk _ _ _ hS (hr.cons _) hv hg hn) rfl ?_) rfl
  clear hS
  rintro e w ⟨er, gp, ps, pA, pn, pc, tA, tn, tc, rfl, ⟨her, hok⟩, hS⟩
  refine ⟨_, rfl, ?_⟩
  by_cases he : er = 0
  rotate_left
  · repeat' (first|refine K ?_|(refine Sh.sa hS ?_;clear hS;intro w hS)|(refine K3 ?_;clear hS;intro g w hS hge)|(refine KB ?_ ?_<;>intro hb<;>(try simp only [JJ] at hb)<;>(try exact JX))|fail)
    refine Dntt Tryz.results28 ?_
    exact ⟨er, gp, ps, none, 0, 0, rfl, .inl (by omega), hS.sb⟩
  subst he
  by_cases ht : tn = 0
  rotate_left
  · repeat' (first|refine K ?_|(refine Sh.sa hS ?_;clear hS;intro w hS)|(refine K3 ?_;clear hS;intro g w hS hge)|(refine KB ?_ ?_<;>intro hb<;>(try simp only [JJ] at hb)<;>(try exact JX))|fail)
    refine Dntt Tryz.results28 ?_
    exact ⟨10, gp, ps, none, 0, 0, rfl, .inl (.inr rfl), hS.sb⟩
  obtain ⟨h1, h2⟩ := hok rfl ht
  repeat' (first|refine K ?_|(refine Sh.sa hS ?_;clear hS;intro w hS)|(refine K3 ?_;clear hS;intro g w hS hge)|(refine KB ?_ ?_<;>intro hb<;>(try simp only [JJ] at hb)<;>(try exact JX))|fail)
  refine Dntt Tryz.results28 ?_
  exact ⟨0, gp, ps, pA, pn, pc, rfl, .inr ⟨rfl, h1, h2⟩, hS.sb⟩
end Go.Proofs.YtfmnjbhncnldmaaGreat
