import Derived.Test.YtfmnjbhncnldmaaGreatP26
set_option linter.unusedSimpArgs false
set_option linter.unusedVariables false
namespace Go.Proofs.YtfmnjbhncnldmaaGreat
open Go.RowKit
attribute [local irreducible] Res.blk Res.sl Res.all Res.ex Res.pure Res.star
set_option maxHeartbeats 4000000 in
theorem breach_z (c : Cfg) (a : CAd) (mk : Int) (hd : Bool) (t : Int) (r : World) (F : List Res) (w : World) (hS : Sep r [] F w) (hr : CfR r F c a) (hv : CfgV c) :
    Calls Tryz.prog 388 #[pbV c a mk hd, .int .i64 t] w fun e w' => ∃ z : Int, e = .returned (.int .i64 z) ∧ Sep r [] F w' := by
  have hk := hv.ok.k
  refine Z.enter Tryz.func388 Tryz.ntmps388 rfl rfl ?_
  repeat' (first|refine K ?_|(refine Sh.sa hS ?_;clear hS;intro w hS)|(refine K3 ?_;clear hS;intro g w hS hge)|(refine KB ?_ ?_<;>intro hb<;>(try simp only [JJ] at hb)<;>(try exact JX))|fail)
  rename Nat => gb
  refine Z.lpS [5, 6, 7, 12, 13, 14, 15, 16, 17, 18, 19, 20, 21, 22, 23, 24, 25, 26, 27, 28, 29, 30, 31, 32, 33, 34, 35, 36, 37, 38] (fun m w z => ∃ (i : Nat) (x : Int), z = [(5, .int .i64 x), (12, .int .i64 i)] ∧ i ≤ c.cells.length ∧ m = c.cells.length - i ∧ Sep r [] (.blk gb 84 (pbC c a mk hd) :: F) w) _ [(5, .int .i64 0), (12, .int .i64 (0 : Nat))] TrF ⟨0, 0, rfl, by omega, rfl, hS⟩ ?_
  clear hS
  rintro m f0 w _ ⟨i, x, rfl, hi, rfl, hS⟩
  by_cases hlt : i < c.cells.length
  rotate_left
  · repeat' (first|refine K ?_|(refine Sh.sa hS ?_;clear hS;intro w hS)|(refine K3 ?_;clear hS;intro g w hS hge)|(refine KB ?_ ?_<;>intro hb<;>(try simp only [JJ] at hb)<;>(try exact JX))|fail)
    refine Dnt Tryz.results388 ?_
    exact ⟨x, rfl, hS.sb⟩
  repeat' (first|refine K ?_|(refine Sh.sa hS ?_;clear hS;intro w hS)|(refine K3 ?_;clear hS;intro g w hS hge)|(refine KB ?_ ?_<;>intro hb<;>(try simp only [JJ] at hb)<;>(try exact JX))|fail)
  refine Z.eff (Z.cl (pregion_z c a i _ _ _ hS (hr.cons _) hv.ok) rfl ?_) rfl
  clear hS
  rintro e w ⟨rfl, hS⟩
  refine ⟨_, rfl, ?_⟩
  have hreg := regOf_in hv (k := i) (by omega)
  generalize regOf c i = q at *
  repeat' (first|refine K ?_|(refine Sh.sa hS ?_;clear hS;intro w hS)|(refine K3 ?_;clear hS;intro g w hS hge)|(refine KB ?_ ?_<;>intro hb<;>(try simp only [JJ] at hb)<;>(try exact JX))|fail)
  refine Z.eff (Z.cl (bhas_z mk i _ _ _ hS) rfl ?_) rfl
  clear hS
  rintro e w ⟨rfl, hS⟩
  refine ⟨_, rfl, ?_⟩
  cases hasB mk i
  · repeat' (first|refine K ?_|(refine Sh.sa hS ?_;clear hS;intro w hS)|(refine K3 ?_;clear hS;intro g w hS hge)|(refine KB ?_ ?_<;>intro hb<;>(try simp only [JJ] at hb)<;>(try exact JX))|fail)
    refine Sh.again (c.cells.length - (i + 1)) [(5, _), (12, .int .i64 (i + 1 : Nat))] ?_
    exact ⟨i + 1, _, rfl, by omega, rfl, hS.sb⟩
  repeat' (first|refine K ?_|(refine Sh.sa hS ?_;clear hS;intro w hS)|(refine K3 ?_;clear hS;intro g w hS hge)|(refine KB ?_ ?_<;>intro hb<;>(try simp only [JJ] at hb)<;>(try exact JX))|fail)
  refine Z.eff (Z.cl (nmay_z c a t i _ _ _ hS (hr.cons _) hv) rfl ?_) rfl
  clear hS
  rintro e w ⟨rfl, hS⟩
  refine ⟨_, rfl, ?_⟩
  cases mayP c t i
  · repeat' (first|refine K ?_|(refine Sh.sa hS ?_;clear hS;intro w hS)|(refine K3 ?_;clear hS;intro g w hS hge)|(refine KB ?_ ?_<;>intro hb<;>(try simp only [JJ] at hb)<;>(try exact JX))|fail)
    refine Sh.again (c.cells.length - (i + 1)) [(5, _), (12, .int .i64 (i + 1 : Nat))] ?_
    exact ⟨i + 1, _, rfl, by omega, rfl, hS.sb⟩
  · repeat' (first|refine K ?_|(refine Sh.sa hS ?_;clear hS;intro w hS)|(refine K3 ?_;clear hS;intro g w hS hge)|(refine KB ?_ ?_<;>intro hb<;>(try simp only [JJ] at hb)<;>(try exact JX))|fail)
    refine Sh.again (c.cells.length - (i + 1)) [(5, _), (12, .int .i64 (i + 1 : Nat))] ?_
    exact ⟨i + 1, _, rfl, by omega, rfl, hS.sb⟩
set_option maxHeartbeats 4000000 in
theorem bdemands_z (c : Cfg) (a : CAd) (mk : Int) (hd : Bool) (ps : List (Int × Int)) (v : Value) (r : World) (F : List Res) (w : World) (hS : Sep r [] F w) (hr : CfA r F c a) (hv : CfgV c) (hp : Reads r F 2 v (ps.map plR)) (hs : PlS c ps) :
    Calls Tryz.prog 329 #[pbV c a mk hd, v] w fun e w' => ∃ (A : Option Addr) (cap : Nat) (ds : List (Int × Int)), e = .returned (.slice A ds.length cap) ∧ (ds.length ≤ 32 ∧ ∀ d, d ∈ ds → 0 ≤ d.1 ∧ d.1 ≤ 65536) ∧ Sep r [] (.sl 465 2 (.slice A ds.length cap) (ds.map plR) :: F) w' := by
  obtain ⟨Ap, cp, rfl, hcap⟩ := (hp [] w hS).mform
  have hl := hs.len
  have ht := hv.ok.t
  refine Z.enter Tryz.func329 Tryz.ntmps329 rfl rfl ?_
  repeat' (first|refine K ?_|(refine Sh.sa hS ?_;clear hS;intro w hS)|(refine K3 ?_;clear hS;intro g w hS hge)|(refine KB ?_ ?_<;>intro hb<;>(try simp only [JJ] at hb)<;>(try exact JX))|fail)
  rename Nat => gb
  replace hS := Z.nilsl hS 465 2 none
  refine Z.lpS [5, 6, 7, 10, 11, 12, 13, 14, 15, 16, 17, 18, 19, 20, 21, 22, 23, 24, 25, 26, 27, 28, 29, 30, 31, 32] (fun m w z => ∃ (i : Nat) (A : Option Addr) (cap : Nat) (ds : List (Int × Int)), z = [(5, .slice A ds.length cap), (10, .int .i64 i)] ∧ i ≤ ps.length ∧ (ds.length ≤ i ∧ ∀ d, d ∈ ds → 0 ≤ d.1 ∧ d.1 ≤ 65536) ∧ m = ps.length - i ∧ Sep r [] (.sl 465 2 (.slice A ds.length cap) (ds.map plR) :: .blk gb 84 (pbC c a mk hd) :: F) w) _ [(5, .slice none 0 0), (10, .int .i64 (0 : Nat))] TrF ⟨0, none, 0, [], rfl, by omega, ⟨by simp, by simp⟩, rfl, hS.sb⟩ ?_
  clear hS
  rintro m f0 w _ ⟨i, A, cap, ds, rfl, hi, ⟨hdl, hdb⟩, rfl, hS⟩
  by_cases hlt : i < ps.length
  rotate_left
  · repeat' (first|refine K ?_|(refine Sh.sa hS ?_;clear hS;intro w hS)|(refine K3 ?_;clear hS;intro g w hS hge)|(refine KB ?_ ?_<;>intro hb<;>(try simp only [JJ] at hb)<;>(try exact JX))|fail)
    refine Dnt Tryz.results329 ?_
    exact ⟨A, cap, ds, rfl, ⟨by omega, hdb⟩, hS.sb⟩
  have hlt2 : i < c.tenants.length := by omega
  obtain ⟨gl, o, rfl, _, hra⟩ := (hp [_, _] w hS).mat (by omega) (q := i) (by simpa using hlt)
  have hra2 : w.rangeAt gl (o + i * 2) (plR ps[i]) := by simpa using hra
  clear hra
  have htn := hv.tn _ (List.getElem_mem hlt2)
  obtain ⟨gc, o2, hA2, _⟩ := reads_tn hr.cf [_, _] hS hlt2
  have hrt : ∀ L W, Sep r [] (L ++ F) W → W.rangeAt gc (o2 + i * 7) (c.tenants[i]).cells := fun L W hW => at_tn hr.cf L hW hA2 hlt2
  have hbr := fun (L : List Res) (W : World) (hW : Sep r [] (L ++ F) W) => breach_z c a mk hd i r (L ++ F) W hW (hr.cf.app L) hv
  generalize ps[i] = p at *
  generalize c.tenants[i] = d at *
  obtain ⟨zA, zc, kA, kc, tA, tc, vA, vc, rA, rc, oA, oc⟩ := a
  simp only at hA2
  subst hA2
  repeat' (first|refine K ?_|(refine Sh.sa hS ?_;clear hS;intro w hS)|(refine K3 ?_;clear hS;intro g w hS hge)|(refine KB ?_ ?_<;>intro hb<;>(try simp only [JJ] at hb)<;>(try exact JX))|fail)
  · rename Nat => g7
    refine D.startS (Lr := (.blk g7 92 (plR p) :: .blk gb 84 (pbC c _ mk hd) :: F)) (hS.sb) 15 15 (by kernel_rfl) rfl ?_
    replace hS := hS.drew
    refine Sh.dp 0 1 ?_
    refine Sh.dp 1 3 ?_
    refine Sh.dp 2 7 ?_
    refine Sh.dp 4 23 ?_
    refine Sh.dp 9 535 ?_
    refine Sh.dl 3 543 ?_
    first | refine D.ixn 5 575 rfl D.wantedN (by kernel_rfl) rfl rfl rfl (by omega) ?_ | refine D.ix 5 575 rfl D.wantedN (by kernel_rfl) rfl rfl rfl (by omega) ?_ | refine D.ia 5 575 rfl D.wantedN (by kernel_rfl) rfl rfl rfl (by omega) ?_
    refine Sh.dp 6 639 ?_
    refine D.ldE 7 767 rfl D.wantedN (by kernel_rfl) rfl (hrt [_, _]) rfl ?_
    refine Sh.dl 8 1023 ?_
    refine D.ef 10 2047 ?_
    refine Z.cl (hbr [_, _, _] _ hS) rfl ?_
    clear hS
    rintro e w ⟨zr, rfl, hS⟩
    refine ⟨_, rfl, ?_⟩
    refine HMs ?_
    first | refine D.bu 11 4095 rfl D.wantedN (by kernel_rfl) rfl rfl ?_ | refine D.buA 11 4095 rfl D.wantedN (by kernel_rfl) rfl rfl ?_
    refine D.ef 12 8191 ?_
    refine Z.bs hS rfl rfl rfl ?_
    clear hS; intro g w hS hge
    refine HMs ?_
    refine D.ef 13 16383 ?_
    refine Z.apm (fc := plR) (l := ds) (l' := [(d.load, zr)]) hS rfl rfl rfl AtF (hS.lit1 AtF rfl rfl) LnF LnF ?_
    clear hS; intro A' c' w hS
    rw [← List.length_append] at hS ⊢
    refine HMs ?_
    refine Sh.dp 14 32767 ?_
    refine D.done (by kernel_rfl) ?_
    repeat' (first|refine K ?_|(refine Sh.sa hS ?_;clear hS;intro w hS)|(refine K3 ?_;clear hS;intro g w hS hge)|(refine KB ?_ ?_<;>intro hb<;>(try simp only [JJ] at hb)<;>(try exact JX))|fail)
    refine Sh.again (ps.length - (i + 1)) [(5, _), (10, .int .i64 (i + 1 : Nat))] ?_
    exact ⟨i + 1, A', c', ds ++ [(d.load, zr)], rfl, by omega, ⟨by simp; omega, all_snoc1 hdb (by show 0 ≤ d.load ∧ d.load ≤ 65536; omega)⟩, rfl, hS.sb⟩
  · refine Sh.again (ps.length - (i + 1)) [(5, _), (10, .int .i64 (i + 1 : Nat))] ?_
    exact ⟨i + 1, A, cap, ds, rfl, by omega, ⟨by omega, hdb⟩, rfl, hS.sb⟩
def LBB (l : List Int) (B : Int) : Prop := ∀ x, x ∈ l → -B ≤ x ∧ x ≤ B
theorem LBB.set {l : List Int} {B B' : Int} (h : LBB l B) (hB : B ≤ B') (i : Nat) {x : Int} (hx : -B' ≤ x ∧ x ≤ B') : LBB (l.set i x) B' := fun y hy => by
  rcases mem_set_or hy with hy | rfl
  · have := h y hy
    omega
  · exact hx
set_option maxHeartbeats 8000000 in
theorem brooms_z (c : Cfg) (a : CAd) (mk : Int) (hd : Bool) (ps : List (Int × Int)) (v : Value) (r : World) (F : List Res) (w : World) (hS : Sep r [] F w) (hr : CfA r F c a) (hv : CfgV c) (hp : Reads r F 2 v (ps.map plR)) (hs : PlS c ps) :
    Calls Tryz.prog 330 #[pbV c a mk hd, v] w fun e w' => ∃ (g5 : Nat) (l : List Int), e = .returned (.slice (some ⟨g5, 0, none⟩) c.regions.toNat c.regions.toNat) ∧ (l.length = c.regions.toNat ∧ LBB l 200000000) ∧ Sep r [] (.sl 3 1 (.slice (some ⟨g5, 0, none⟩) c.regions.toNat c.regions.toNat) (l.map ztC) :: F) w' := by
  obtain ⟨Ap, cp, rfl, hcap⟩ := (hp [] w hS).mform
  have hpl := hs.len
  have hk := hv.ok.k
  have ht := hv.ok.t
  have hrg := hv.ok.r
  have hN : c.regions = (c.regions.toNat : Int) := by omega
  refine Z.enter Tryz.func330 Tryz.ntmps330 rfl rfl ?_
  repeat' (first|refine K ?_|(refine Sh.sa hS ?_;clear hS;intro w hS)|(refine K3 ?_;clear hS;intro g w hS hge)|(refine KB ?_ ?_<;>intro hb<;>(try simp only [JJ] at hb)<;>(try exact JX))|fail)
  rename Nat => gb
  refine Z.eff (Z.mks (l := c.regions.toNat) (c := c.regions.toNat) hS (congrArg (Value.int .i64) hN) (congrArg (Value.int .i64) hN) rfl (Nat.le_refl _) (by show 8 * c.regions.toNat ≤ 281474976710656; omega) (by unfold maxLen; omega) ?_) rfl
  clear hS; intro g5 w hS _
  replace hS := mk_sl (n := c.regions.toNat) (rows := (List.replicate c.regions.toNat (0 : Int)).map ztC) hS (by simp) (by omega) (by unfold maxLen; omega) (zt_ok _) (zerosL_int _)
  repeat' (first|refine K ?_|(refine Sh.sa hS ?_;clear hS;intro w hS)|(refine K3 ?_;clear hS;intro g w hS hge)|(refine KB ?_ ?_<;>intro hb<;>(try simp only [JJ] at hb)<;>(try exact JX))|fail)
  refine Z.eff (Z.cl (rbooked_z c a mk hd ps _ _ _ _ hS (hr.app [_, _]) hv (hp.app [_, _]) hs) rfl ?_) rfl
  clear hS
  rintro e w ⟨g6, rfl, hS⟩
  refine ⟨_, rfl, ?_⟩
  obtain ⟨hbl, hbb⟩ := bkN_ok hv ps ps.length
  repeat' (first|refine K ?_|(refine Sh.sa hS ?_;clear hS;intro w hS)|(refine K3 ?_;clear hS;intro g w hS hge)|(refine KB ?_ ?_<;>intro hb<;>(try simp only [JJ] at hb)<;>(try exact JX))|fail)
  refine Z.lpS [7, 8, 20, 21, 22, 23, 24, 25, 26, 27, 28, 29, 30, 31, 32, 33, 34, 35, 36, 37, 38, 39, 40, 41, 42, 43, 44, 45] (fun m w z => ∃ (i : Nat) (l : List Int), z = [(20, .int .i64 i)] ∧ i ≤ c.cells.length ∧ (l.length = c.regions.toNat ∧ LBB l (10000000 * i)) ∧ m = c.cells.length - i ∧ Sep r [] (.sl 3 1 (.slice (some ⟨g5, 0, none⟩) c.regions.toNat c.regions.toNat) (l.map ztC) :: .sl 3 1 (.slice (some ⟨g6, 0, none⟩) c.cells.length c.cells.length) ((bkN c ps ps.length).map ztC) :: .blk gb 84 (pbC c a mk hd) :: F) w) _ [(20, .int .i64 (0 : Nat))] TrF ⟨0, List.replicate c.regions.toNat 0, rfl, by omega, ⟨by simp, fun x hx => by have := List.eq_of_mem_replicate hx; omega⟩, rfl, hS.sb⟩ ?_
  clear hS
  rintro m f0 w _ ⟨i, l, rfl, hi, ⟨hll, hlb⟩, rfl, hS⟩
  by_cases hlt : i < c.cells.length
  rotate_left
  · repeat' (first|refine K ?_|(refine Sh.sa hS ?_;clear hS;intro w hS)|(refine K3 ?_;clear hS;intro g w hS hge)|(refine KB ?_ ?_<;>intro hb<;>(try simp only [JJ] at hb)<;>(try exact JX))|fail)
    refine Dnt Tryz.results330 ?_
    exact ⟨g5, l, rfl, ⟨hll, fun x hx => by have := hlb x hx; omega⟩, hS.sb⟩
  have hib : i < (bkN c ps ps.length).length := by omega
  obtain ⟨gc, o2, hA2, hra1⟩ := reads_kn hr.cf [_, _, _] hS hlt
  have hrx : ∀ L W, Sep r [] L W → ∀ {k}, At L k (.sl 3 1 (.slice (some ⟨g6, 0, none⟩) c.cells.length c.cells.length) ((bkN c ps ps.length).map ztC)) → W.rangeAt g6 (0 + i * 1) (ztC (bkN c ps ps.length)[i]) := fun L W hW k ha => by
    have h3 := (hW.slrows ha).elem (q := i) (by omega) (by simpa using hib)
    simpa using h3
  have hreg := fun (k : Int) (L : List Res) (W : World) (hW : Sep r [] (L ++ F) W) => pregion_z c a k r (L ++ F) W hW (hr.cf.app L) hv.ok
  have hbv := hbb _ (List.getElem_mem hib)
  have hkc := hv.kc _ (List.getElem_mem hlt)
  have hri := regOf_in hv (k := i) (by omega)
  generalize hy0 : (bkN c ps ps.length)[i] = y at *
  generalize c.cells[i] = d at *
  obtain ⟨q, hq⟩ := Int.eq_ofNat_of_zero_le hri.1
  rw [hq] at hri
  have hq2 : q < l.length := by omega
  have hrow : ∀ L W, Sep r [] L W → ∀ {k}, At L k (.sl 3 1 (.slice (some ⟨g5, 0, none⟩) c.regions.toNat c.regions.toNat) (l.map ztC)) → W.rangeAt g5 (0 + q * 1) (ztC l[q]) := fun L W hW k ha => by
    have h3 := (hW.slrows ha).elem (q := q) (by omega) (by simpa using hq2)
    simpa using h3
  have hx := hlb _ (List.getElem_mem hq2)
  generalize l[q] = x at *
  obtain ⟨zA, zc, kA, kc, tA, tc, vA, vc, rA, rc, oA, oc⟩ := a
  simp only at hA2
  subst hA2
  repeat' (first|refine K ?_|(refine Sh.sa hS ?_;clear hS;intro w hS)|(refine K3 ?_;clear hS;intro g w hS hge)|(refine KB ?_ ?_<;>intro hb<;>(try simp only [JJ] at hb)<;>(try exact JX))|fail)
  rename Nat => g8
  refine Z.eff (Z.cl (bhas_z mk i _ _ _ hS) rfl ?_) rfl
  clear hS
  rintro e w ⟨rfl, hS⟩
  refine ⟨_, rfl, ?_⟩
  cases hasB mk i
  · repeat' (first|refine K ?_|(refine Sh.sa hS ?_;clear hS;intro w hS)|(refine K3 ?_;clear hS;intro g w hS hge)|(refine KB ?_ ?_<;>intro hb<;>(try simp only [JJ] at hb)<;>(try exact JX))|fail)
    refine Sh.again (c.cells.length - (i + 1)) [(20, .int .i64 (i + 1 : Nat))] ?_
    exact ⟨i + 1, l, rfl, by omega, ⟨hll, fun x hx => by have := hlb x hx; omega⟩, rfl, hS.sb⟩
  repeat' (first|refine K ?_|(refine Sh.sa hS ?_;clear hS;intro w hS)|(refine K3 ?_;clear hS;intro g w hS hge)|(refine KB ?_ ?_<;>intro hb<;>(try simp only [JJ] at hb)<;>(try exact JX))|fail)
  refine D.startS (Lr := (.blk g8 168 d.cells :: .sl 3 1 (.slice (some ⟨g6, 0, none⟩) c.cells.length c.cells.length) ((bkN c ps ps.length).map ztC) :: .blk gb 84 (pbC c _ mk hd) :: F)) (hS.sb) 16 17 (by kernel_rfl) rfl ?_
  replace hS := hS.drew
  refine Sh.dp 0 1 ?_
  refine Sh.dp 1 3 ?_
  refine Sh.dp 3 11 ?_
  refine Sh.dp 7 139 ?_
  refine Sh.dp 9 651 ?_
  refine Sh.dp 10 1675 ?_
  first | refine D.ixn 11 3723 rfl D.wantedN (by kernel_rfl) rfl rfl rfl (by omega) ?_ | refine D.ix 11 3723 rfl D.wantedN (by kernel_rfl) rfl rfl rfl (by omega) ?_ | refine D.ia 11 3723 rfl D.wantedN (by kernel_rfl) rfl rfl rfl (by omega) ?_
  refine Sh.dl 2 3727 ?_
  refine Sh.dl 8 3983 ?_
  refine D.ldR 12 8079 rfl D.wantedN (by kernel_rfl) rfl (fun W hW => hrx _ W hW (.next .here)) rfl ?_
  first | refine D.sum 13 16271 rfl D.wantedN (by kernel_rfl) rfl (by constructor <;> omega) ?_ | refine D.sumW 13 16271 rfl D.wantedN (by kernel_rfl) rfl ?_
  refine D.ef 4 16287 ?_
  refine Z.cl (hreg i [_, _, _, _] _ hS) rfl ?_
  clear hS
  rintro e w ⟨rfl, hS⟩
  refine ⟨_, rfl, ?_⟩
  rw [hq]
  refine HMs ?_
  first | refine D.ixn 5 16319 rfl D.wantedN (by kernel_rfl) rfl rfl rfl (by omega) ?_ | refine D.ix 5 16319 rfl D.wantedN (by kernel_rfl) rfl rfl rfl (by omega) ?_ | refine D.ia 5 16319 rfl D.wantedN (by kernel_rfl) rfl rfl rfl (by omega) ?_
  refine D.ef 6 16383 ?_
  refine Z.ldR rfl (hrow _ _ hS AtF) rfl ?_
  refine HMs ?_
  first | refine D.sum 14 32767 rfl D.wantedN (by kernel_rfl) rfl (by constructor <;> omega) ?_ | refine D.sumW 14 32767 rfl D.wantedN (by kernel_rfl) rfl ?_
  first | refine D.ixn 15 65535 rfl D.wantedN (by kernel_rfl) rfl rfl rfl (by omega) ?_ | refine D.ix 15 65535 rfl D.wantedN (by kernel_rfl) rfl rfl rfl (by omega) ?_ | refine D.ia 15 65535 rfl D.wantedN (by kernel_rfl) rfl rfl rfl (by omega) ?_
  refine D.ef 16 131071 ?_
  refine Z.stF (sz := 1) (j := 0) (x + (d.cap - y)) hS rfl AtF hq2 rfl rfl rfl (by omega) rfl ?_
  clear hS; intro w hS
  refine ⟨HM.last (by kernel_rfl), ?_⟩
  refine D.done (by kernel_rfl) ?_
  repeat' (first|refine K ?_|(refine Sh.sa hS ?_;clear hS;intro w hS)|(refine K3 ?_;clear hS;intro g w hS hge)|(refine KB ?_ ?_<;>intro hb<;>(try simp only [JJ] at hb)<;>(try exact JX))|fail)
  refine Sh.again (c.cells.length - (i + 1)) [(20, .int .i64 (i + 1 : Nat))] ?_
  exact ⟨i + 1, l.set q (x + (d.cap - y)), rfl, by omega, ⟨by simp [hll], hlb.set (by omega) q (by omega)⟩, rfl, hS.sb⟩
set_option maxHeartbeats 4000000 in
theorem bneed_z (ds : List (Int × Int)) (v : Value) (z : Int) (r : World) (F : List Res) (w : World) (hS : Sep r [] F w) (hp : Reads r F 2 v (ds.map plR)) (hl : ds.length ≤ 32) (hb : ∀ d, d ∈ ds → 0 ≤ d.1 ∧ d.1 ≤ 65536) :
    Calls Tryz.prog 331 #[v, .int .i64 z] w fun e w' => ∃ y : Int, e = .returned (.int .i64 y) ∧ Sep r [] F w' := by
  obtain ⟨Ap, cp, rfl, hcap⟩ := (hp [] w hS).mform
  refine Z.enter Tryz.func331 Tryz.ntmps331 rfl rfl ?_
  repeat' (first|refine K ?_|(refine Sh.sa hS ?_;clear hS;intro w hS)|(refine K3 ?_;clear hS;intro g w hS hge)|(refine KB ?_ ?_<;>intro hb<;>(try simp only [JJ] at hb)<;>(try exact JX))|fail)
  refine Z.lpS [5, 7, 10, 11, 12, 13, 14, 15, 16, 17, 18, 19, 20, 21, 22, 23] (fun m w z => ∃ (i : Nat) (x : Int), z = [(5, .int .i64 x), (10, .int .i64 i)] ∧ i ≤ ds.length ∧ (0 ≤ x ∧ x ≤ 65536 * i) ∧ m = ds.length - i ∧ Sep r [] F w) _ [(5, .int .i64 0), (10, .int .i64 (0 : Nat))] TrF ⟨0, 0, rfl, by omega, by omega, rfl, hS⟩ ?_
  clear hS
  rintro m f0 w _ ⟨i, x, rfl, hi, hx, rfl, hS⟩
  by_cases hlt : i < ds.length
  rotate_left
  · repeat' (first|refine K ?_|(refine Sh.sa hS ?_;clear hS;intro w hS)|(refine K3 ?_;clear hS;intro g w hS hge)|(refine KB ?_ ?_<;>intro hb<;>(try simp only [JJ] at hb)<;>(try exact JX))|fail)
    refine Dnt Tryz.results331 ?_
    exact ⟨x, rfl, hS⟩
  obtain ⟨gl, o, rfl, _, hra⟩ := (hp [] w hS).mat (by omega) (q := i) (by simpa using hlt)
  have hra2 : w.rangeAt gl (o + i * 2) (plR ds[i]) := by simpa using hra
  clear hra
  have hd := hb _ (List.getElem_mem hlt)
  generalize ds[i] = d at *
  repeat' (first|refine K ?_|(refine Sh.sa hS ?_;clear hS;intro w hS)|(refine K3 ?_;clear hS;intro g w hS hge)|(refine KB ?_ ?_<;>intro hb<;>(try simp only [JJ] at hb)<;>(try exact JX))|fail)
  · refine Sh.again (ds.length - (i + 1)) [(5, _), (10, .int .i64 (i + 1 : Nat))] ?_
    exact ⟨i + 1, _, rfl, by omega, by omega, rfl, hS.sb⟩
  · refine Sh.again (ds.length - (i + 1)) [(5, _), (10, .int .i64 (i + 1 : Nat))] ?_
    exact ⟨i + 1, _, rfl, by omega, by omega, rfl, hS.sb⟩
set_option maxHeartbeats 4000000 in
theorem broom_z (l : List Int) (v : Value) (z : Int) (r : World) (F : List Res) (w : World) (hS : Sep r [] F w) (hp : Reads r F 1 v (l.map ztC)) (hl : l.length ≤ 32) (hb : LBB l 200000000) :
    Calls Tryz.prog 332 #[v, .int .i64 z] w fun e w' => ∃ y : Int, e = .returned (.int .i64 y) ∧ Sep r [] F w' := by
  obtain ⟨Ap, cp, rfl, hcap⟩ := (hp [] w hS).mform
  refine Z.enter Tryz.func332 Tryz.ntmps332 rfl rfl ?_
  repeat' (first|refine K ?_|(refine Sh.sa hS ?_;clear hS;intro w hS)|(refine K3 ?_;clear hS;intro g w hS hge)|(refine KB ?_ ?_<;>intro hb<;>(try simp only [JJ] at hb)<;>(try exact JX))|fail)
  refine Z.lpS [5, 6, 7, 10, 11, 12, 13, 14, 15, 16, 17, 18, 19, 20, 21] (fun m w s => ∃ (i : Nat) (x : Int), s = [(5, .int .i64 x), (10, .int .i64 i)] ∧ i ≤ l.length ∧ (-(200000000 * i) ≤ x ∧ x ≤ 200000000 * i) ∧ m = l.length - i ∧ Sep r [] F w) _ [(5, .int .i64 0), (10, .int .i64 (0 : Nat))] TrF ⟨0, 0, rfl, by omega, by omega, rfl, hS⟩ ?_
  clear hS
  rintro m f0 w _ ⟨i, x, rfl, hi, hx, rfl, hS⟩
  by_cases hlt : i < l.length
  rotate_left
  · repeat' (first|refine K ?_|(refine Sh.sa hS ?_;clear hS;intro w hS)|(refine K3 ?_;clear hS;intro g w hS hge)|(refine KB ?_ ?_<;>intro hb<;>(try simp only [JJ] at hb)<;>(try exact JX))|fail)
    refine Dnt Tryz.results332 ?_
    exact ⟨x, rfl, hS⟩
  obtain ⟨gl, o, rfl, _, hra⟩ := (hp [] w hS).mat (by omega) (q := i) (by simpa using hlt)
  have hra2 : w.rangeAt gl (o + i * 1) (ztC l[i]) := by simpa using hra
  clear hra
  have hd := hb _ (List.getElem_mem hlt)
  generalize l[i] = d at *
  repeat' (first|refine K ?_|(refine Sh.sa hS ?_;clear hS;intro w hS)|(refine K3 ?_;clear hS;intro g w hS hge)|(refine KB ?_ ?_<;>intro hb<;>(try simp only [JJ] at hb)<;>(try exact JX))|fail)
  refine Z.eff (Z.cl (bhas_z z i _ _ _ hS) rfl ?_) rfl
  clear hS
  rintro e w ⟨rfl, hS⟩
  refine ⟨_, rfl, ?_⟩
  cases hasB z i
  · repeat' (first|refine K ?_|(refine Sh.sa hS ?_;clear hS;intro w hS)|(refine K3 ?_;clear hS;intro g w hS hge)|(refine KB ?_ ?_<;>intro hb<;>(try simp only [JJ] at hb)<;>(try exact JX))|fail)
    refine Sh.again (l.length - (i + 1)) [(5, _), (10, .int .i64 (i + 1 : Nat))] ?_
    exact ⟨i + 1, _, rfl, by omega, by omega, rfl, hS.sb⟩
  · repeat' (first|refine K ?_|(refine Sh.sa hS ?_;clear hS;intro w hS)|(refine K3 ?_;clear hS;intro g w hS hge)|(refine KB ?_ ?_<;>intro hb<;>(try simp only [JJ] at hb)<;>(try exact JX))|fail)
    refine Sh.again (l.length - (i + 1)) [(5, _), (10, .int .i64 (i + 1 : Nat))] ?_
    exact ⟨i + 1, _, rfl, by omega, by omega, rfl, hS.sb⟩
theorem pow_16 {x : Int} (h : 1 ≤ x ∧ x ≤ 4) : 0 ≤ IntKind.i64.wrap (1 * 2 ^ min x.toNat IntKind.i64.bits) ∧ IntKind.i64.wrap (1 * 2 ^ min x.toNat IntKind.i64.bits) ≤ 16 := by
  rcases (by omega : x = 1 ∨ x = 2 ∨ x = 3 ∨ x = 4) with rfl | rfl | rfl | rfl <;> decide
set_option maxHeartbeats 8000000 in
theorem bexceeded_z (c : Cfg) (a : CAd) (mk : Int) (hd : Bool) (ps : List (Int × Int)) (v : Value) (r : World) (F : List Res) (w : World) (hS : Sep r [] F w) (hr : CfA r F c a) (hv : CfgV c) (hp : Reads r F 2 v (ps.map plR)) (hs : PlS c ps) :
    Calls Tryz.prog 256 #[pbV c a mk hd, v] w fun e w' => ∃ (z : Int) (b : Bool), e = .returned (.tuple #[.int .i64 z, .bool b]) ∧ Sep r [] F w' := by
  obtain ⟨Ap, cp, rfl, hcap⟩ := (hp [] w hS).mform
  have hpl := hs.len
  have hrg := hv.ok.r
  have hpw := pow_16 hrg
  refine Z.enter Tryz.func256 Tryz.ntmps256 rfl rfl ?_
  repeat' (first|refine K ?_|(refine Sh.sa hS ?_;clear hS;intro w hS)|(refine K3 ?_;clear hS;intro g w hS hge)|(refine KB ?_ ?_<;>intro hb<;>(try simp only [JJ] at hb)<;>(try exact JX))|fail)
  rename Nat => gb
  refine Z.eff (Z.cl (rfit_z c a mk hd ps _ _ _ _ hS (hr.cons _) hv (hp.cons _) hs) rfl ?_) rfl
  clear hS
  rintro e w ⟨rfl, hS⟩
  refine ⟨_, rfl, ?_⟩
  repeat' (first|refine K ?_|(refine Sh.sa hS ?_;clear hS;intro w hS)|(refine K3 ?_;clear hS;intro g w hS hge)|(refine KB ?_ ?_<;>intro hb<;>(try simp only [JJ] at hb)<;>(try exact JX))|fail)
  refine Z.cut [6, 7, 13, 14, 15, 16, 17, 18] (fun w z => ∃ (A : Option Addr) (cap : Nat) (ds : List (Int × Int)) (g5 : Nat) (l : List Int), z = [(6, .slice A ds.length cap), (7, .slice (some ⟨g5, 0, none⟩) c.regions.toNat c.regions.toNat)] ∧ ((ds.length ≤ 32 ∧ ∀ d, d ∈ ds → 0 ≤ d.1 ∧ d.1 ≤ 65536) ∧ (l.length = c.regions.toNat ∧ LBB l 200000000)) ∧ Sep r [] (.sl 465 2 (.slice A ds.length cap) (ds.map plR) :: .sl 3 1 (.slice (some ⟨g5, 0, none⟩) c.regions.toNat c.regions.toNat) (l.map ztC) :: .blk gb 84 (pbC c a mk hd) :: F) w) ?_ ?_
  · refine D.startS (Lr := (.blk gb 84 (pbC c a mk hd) :: F)) (hS.sb) 8 8 (by kernel_rfl) rfl ?_
    replace hS := hS.drew
    refine Sh.dp 1 2 ?_
    refine Sh.dp 4 18 ?_
    refine Sh.dl 0 19 ?_
    refine Sh.dl 3 27 ?_
    refine D.ef 2 31 ?_
    refine Z.cl (bdemands_z c a mk hd ps _ _ _ _ hS (hr.app [_]) hv (hp.app [_]) hs) rfl ?_
    clear hS
    rintro e w ⟨A1, c1, ds, rfl, hd1, hS⟩
    refine ⟨_, rfl, ?_⟩
    refine HMs ?_
    refine D.ef 5 63 ?_
    refine Z.cl (brooms_z c a mk hd ps _ _ _ _ hS (hr.app [_, _]) hv (hp.app [_, _]) hs) rfl ?_
    clear hS
    rintro e w ⟨g5, l, rfl, hl1, hS⟩
    refine ⟨_, rfl, ?_⟩
    refine HMs ?_
    refine Sh.dp 6 127 ?_
    refine Sh.dp 7 255 ?_
    refine D.done (by kernel_rfl) ?_
    refine Sh.cut [(6, _), (7, _)] ?_
    exact ⟨A1, c1, ds, g5, l, rfl, ⟨hd1, hl1⟩, hS.sb⟩
  clear hS
  rintro f1 w _ ⟨A1, c1, ds, g5, l, rfl, ⟨⟨hd1, hd2⟩, hl1, hl2⟩, hS⟩
  have hpw2 : (IntKind.i64.wrap (1 * 2 ^ min c.regions.toNat IntKind.i64.bits)) = ((IntKind.i64.wrap (1 * 2 ^ min c.regions.toNat IntKind.i64.bits)).toNat : Int) := by omega
  repeat' (first|refine K ?_|(refine Sh.sa hS ?_;clear hS;intro w hS)|(refine K3 ?_;clear hS;intro g w hS hge)|(refine KB ?_ ?_<;>intro hb<;>(try simp only [JJ] at hb)<;>(try exact JX))|fail)
  refine Z.lpS [4, 5, 8, 19, 20, 21, 22, 23, 24, 25, 26, 27, 28, 29, 30, 31, 32, 33, 34] (fun m w z => ∃ (i : Nat), z = [(8, .int .i64 i)] ∧ i ≤ 16 ∧ m = 16 - i ∧ Sep r [] (.sl 465 2 (.slice A1 ds.length c1) (ds.map plR) :: .sl 3 1 (.slice (some ⟨g5, 0, none⟩) c.regions.toNat c.regions.toNat) (l.map ztC) :: .blk gb 84 (pbC c a mk hd) :: F) w) _ [(8, .int .i64 (1 : Nat))] TrF ⟨1, rfl, by omega, rfl, hS⟩ ?_
  clear hS
  rintro m f0 w _ ⟨i, rfl, hi, rfl, hS⟩
  by_cases hlt : (i : Int) < IntKind.i64.wrap (1 * 2 ^ min c.regions.toNat IntKind.i64.bits)
  rotate_left
  · repeat' (first|refine K ?_|(refine Sh.sa hS ?_;clear hS;intro w hS)|(refine K3 ?_;clear hS;intro g w hS hge)|(refine KB ?_ ?_<;>intro hb<;>(try simp only [JJ] at hb)<;>(try exact JX))|fail)
    refine Dntt Tryz.results256 ?_
    exact ⟨_, _, rfl, hS.sb⟩
  repeat' (first|refine K ?_|(refine Sh.sa hS ?_;clear hS;intro w hS)|(refine K3 ?_;clear hS;intro g w hS hge)|(refine KB ?_ ?_<;>intro hb<;>(try simp only [JJ] at hb)<;>(try exact JX))|fail)
  refine Z.eff (Z.cl (bneed_z ds _ i _ _ _ hS (Reads.of_at (e := 465) (v := .slice A1 ds.length c1) AtF) hd1 hd2) rfl ?_) rfl
  clear hS
  rintro e w ⟨y1, rfl, hS⟩
  refine ⟨_, rfl, ?_⟩
  repeat' (first|refine K ?_|(refine Sh.sa hS ?_;clear hS;intro w hS)|(refine K3 ?_;clear hS;intro g w hS hge)|(refine KB ?_ ?_<;>intro hb<;>(try simp only [JJ] at hb)<;>(try exact JX))|fail)
  refine Z.eff (Z.cl (broom_z l _ i _ _ _ hS (Reads.of_at (e := 3) (v := .slice (some ⟨g5, 0, none⟩) c.regions.toNat c.regions.toNat) AtF) (by omega) hl2) rfl ?_) rfl
  clear hS
  rintro e w ⟨y2, rfl, hS⟩
  refine ⟨_, rfl, ?_⟩
  repeat' (first|refine K ?_|(refine Sh.sa hS ?_;clear hS;intro w hS)|(refine K3 ?_;clear hS;intro g w hS hge)|(refine KB ?_ ?_<;>intro hb<;>(try simp only [JJ] at hb)<;>(try exact JX))|fail)
  · refine Dntt Tryz.results256 ?_
    exact ⟨_, _, rfl, hS.sb⟩
  · refine Sh.again (16 - (i + 1)) [(8, .int .i64 (i + 1 : Nat))] ?_
    exact ⟨i + 1, rfl, by omega, rfl, hS.sb⟩
end Go.Proofs.YtfmnjbhncnldmaaGreat
