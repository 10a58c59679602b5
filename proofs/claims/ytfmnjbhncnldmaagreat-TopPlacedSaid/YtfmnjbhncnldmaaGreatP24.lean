import Derived.Test.YtfmnjbhncnldmaaGreatP23
set_option linter.unusedSimpArgs false
set_option linter.unusedVariables false
namespace Go.Proofs.YtfmnjbhncnldmaaGreat
open Go.RowKit
attribute [local irreducible] Res.blk Res.sl Res.all Res.ex Res.pure Res.star
def exT (c : Cfg) (g : Int) (l : List Int) (p : Int × Int) (d : Tn) : List Int :=
  if p.1 = -1 ∨ p.2 = -1 then l else if regOf c p.1 = g ∧ regOf c p.2 ≠ g then addP l p.2 (d.load - d.shadow) else l
def exN (c : Cfg) (g : Int) (ps : List (Int × Int)) (i : Nat) : List Int := ((List.zip ps c.tenants).take i).foldl (fun l q => exT c g l q.1 q.2) (List.replicate c.cells.length 0)
theorem exN_succ {c : Cfg} {g : Int} {ps : List (Int × Int)} {i : Nat} (h1 : i < ps.length) (h2 : i < c.tenants.length) : exN c g ps (i + 1) = exT c g (exN c g ps i) ps[i] c.tenants[i] := by
  unfold exN
  rw [List.take_succ_eq_append_getElem (by simp; omega), List.foldl_append]
  simp
theorem exN_ok {c : Cfg} (hv : CfgV c) (g : Int) (ps : List (Int × Int)) : ∀ i : Nat, (exN c g ps i).length = c.cells.length ∧ LB (exN c g ps i) (65536 * i)
  | 0 => ⟨by simp [exN], fun x hx => by
      simp [exN] at hx
      omega⟩
  | i + 1 => by
    obtain ⟨h1, h2⟩ := exN_ok hv g ps i
    by_cases h : i < ps.length ∧ i < c.tenants.length
    · rw [exN_succ h.1 h.2]
      have ht := hv.tn _ (List.getElem_mem h.2)
      unfold exT
      split
      · exact ⟨h1, h2.le (by omega)⟩
      · split
        · refine ⟨by rw [addP_len, h1], ?_⟩
          exact (addP_bd h2 (M := 65536) (n := c.tenants[i].load - c.tenants[i].shadow) (by omega) _).le (by omega)
        · exact ⟨h1, h2.le (by omega)⟩
    · have e : exN c g ps (i + 1) = exN c g ps i := by
        unfold exN
        rw [List.take_of_length_le (by simp; omega), List.take_of_length_le (by simp; omega)]
      rw [e]
      exact ⟨h1, h2.le (by omega)⟩
set_option maxHeartbeats 8000000 in
theorem rextra_z (c : Cfg) (a : CAd) (mk : Int) (hd : Bool) (ps : List (Int × Int)) (v : Value) (g : Int) (r : World) (F : List Res) (w : World) (hS : Sep r [] F w) (hr : CfA r F c a) (hv : CfgV c) (hp : Reads r F 2 v (ps.map plR)) (hs : PlS c ps) :
    Calls Tryz.prog 387 #[pbV c a mk hd, v, .int .i64 g] w fun e w' => ∃ g5 : Nat, e = .returned (.slice (some ⟨g5, 0, none⟩) c.cells.length c.cells.length) ∧ Sep r [] (.sl 3 1 (.slice (some ⟨g5, 0, none⟩) c.cells.length c.cells.length) ((exN c g ps ps.length).map ztC) :: F) w' := by
  obtain ⟨Ap, cap, rfl, hcap⟩ := (hp [] w hS).mform
  have hl := hs.len
  have hk := hv.ok.k
  have ht := hv.ok.t
  refine Z.enter Tryz.func387 Tryz.ntmps387 rfl rfl ?_
  repeat' (first|refine K ?_|(refine Sh.sa hS ?_;clear hS;intro w hS)|(refine K3 ?_;clear hS;intro g w hS hge)|(refine KB ?_ ?_<;>intro hb<;>(try simp only [JJ] at hb)<;>(try exact JX))|fail)
  rename Nat => gb
  refine Z.eff (Z.cl (rfit_z c a mk hd ps _ _ _ _ hS (hr.cons _) hv (hp.cons _) hs) rfl ?_) rfl
  clear hS
  rintro e w ⟨rfl, hS⟩
  refine ⟨_, rfl, ?_⟩
  repeat' (first|refine K ?_|(refine Sh.sa hS ?_;clear hS;intro w hS)|(refine K3 ?_;clear hS;intro g w hS hge)|(refine KB ?_ ?_<;>intro hb<;>(try simp only [JJ] at hb)<;>(try exact JX))|fail)
  refine Z.eff (Z.mks (l := c.cells.length) (c := c.cells.length) hS rfl rfl rfl (Nat.le_refl _) (by show 8 * c.cells.length ≤ 281474976710656; omega) (by unfold maxLen; omega) ?_) rfl
  clear hS; intro g5 w hS _
  replace hS := mk_sl (n := c.cells.length) (rows := (List.replicate c.cells.length (0 : Int)).map ztC) hS (by simp) (by omega) (by unfold maxLen; omega) (zt_ok _) (zerosL_int _)
  repeat' (first|refine K ?_|(refine Sh.sa hS ?_;clear hS;intro w hS)|(refine K3 ?_;clear hS;intro g w hS hge)|(refine KB ?_ ?_<;>intro hb<;>(try simp only [JJ] at hb)<;>(try exact JX))|fail)
  refine Z.lpS [8, 9, 21, 22, 23, 24, 25, 26, 27, 28, 29, 30, 31, 32, 33, 34, 35, 36, 37, 38, 39, 40, 41, 42, 43, 44, 45, 46, 47, 48, 49, 50, 51, 52, 53, 54, 55, 56, 57, 58, 59, 60, 61, 62, 63, 64, 65, 66, 67, 68, 69, 70, 71, 72] (fun m w z => ∃ (i : Nat), z = [(21, .int .i64 i)] ∧ i ≤ ps.length ∧ m = ps.length - i ∧ Sep r [] (.sl 3 1 (.slice (some ⟨g5, 0, none⟩) c.cells.length c.cells.length) ((exN c g ps i).map ztC) :: .blk gb 84 (pbC c a mk hd) :: F) w) _ [(21, .int .i64 (0 : Nat))] TrF ⟨0, rfl, by omega, rfl, hS⟩ ?_
  clear hS
  rintro m f0 w _ ⟨i, rfl, hi, rfl, hS⟩
  by_cases hlt : i < ps.length
  rotate_left
  · obtain rfl : i = ps.length := by omega
    repeat' (first|refine K ?_|(refine Sh.sa hS ?_;clear hS;intro w hS)|(refine K3 ?_;clear hS;intro g w hS hge)|(refine KB ?_ ?_<;>intro hb<;>(try simp only [JJ] at hb)<;>(try exact JX))|fail)
    refine Dnt Tryz.results387 ?_
    exact ⟨g5, rfl, hS.sb⟩
  have hlt2 : i < c.tenants.length := by omega
  obtain ⟨gl, o, rfl, _, hra⟩ := (hp [_, _] w hS).mat (by omega) (q := i) (by simpa using hlt)
  have hra2 : w.rangeAt gl (o + i * 2) (plR ps[i]) := by simpa using hra
  clear hra
  have hin := hs.rng _ (List.getElem_mem hlt)
  have htn := hv.tn _ (List.getElem_mem hlt2)
  obtain ⟨hbl, hbB⟩ := exN_ok hv g ps i
  have hsucc := exN_succ (g := g) hlt hlt2
  obtain ⟨gc, o2, hA2, _⟩ := reads_tn hr.cf [_, _] hS hlt2
  have hrt : ∀ L W, Sep r [] (L ++ F) W → W.rangeAt gc (o2 + i * 7) (c.tenants[i]).cells := fun L W hW => at_tn hr.cf L hW hA2 hlt2
  have hreg := fun (k : Int) (L : List Res) (W : World) (hW : Sep r [] (L ++ F) W) => pregion_z c a k r (L ++ F) W hW (hr.cf.app L) hv.ok
  generalize ps[i] = p at *
  generalize c.tenants[i] = d at *
  generalize exN c g ps i = l at *
  obtain ⟨p1, p2⟩ := p
  unfold exT at hsucc
  simp only at hin hsucc
  have row : ∀ (q : Nat) (hq : q < l.length) L W, Sep r [] L W → ∀ {k}, At L k (.sl 3 1 (.slice (some ⟨g5, 0, none⟩) c.cells.length c.cells.length) (l.map ztC)) → W.rangeAt g5 (0 + q * 1) (ztC l[q]) := fun q hq L W hW k ha => by
    have h3 := (hW.slrows ha).elem (q := q) (by omega) (by simpa using hq)
    simpa using h3
  obtain ⟨zA, zc, kA, kc, tA, tc, vA, vc, rA, rc, oA, oc⟩ := a
  simp only at hA2
  subst hA2
  repeat' (first|refine K ?_|(refine Sh.sa hS ?_;clear hS;intro w hS)|(refine K3 ?_;clear hS;intro g w hS hge)|(refine KB ?_ ?_<;>intro hb<;>(try simp only [JJ] at hb)<;>(try exact JX))|fail)
  · refine Sh.again (ps.length - (i + 1)) [(21, .int .i64 (i + 1 : Nat))] ?_
    refine ⟨i + 1, rfl, by omega, rfl, ?_⟩
    rw [hsucc, if_pos (by omega)]
    exact hS.sb
  · refine Sh.again (ps.length - (i + 1)) [(21, .int .i64 (i + 1 : Nat))] ?_
    refine ⟨i + 1, rfl, by omega, rfl, ?_⟩
    rw [hsucc, if_pos (by omega)]
    exact hS.sb
  rename Nat => g7
  rw [if_neg (by omega)] at hsucc
  refine Z.eff (Z.cl (hreg p1 [_, _, _] _ hS) rfl ?_) rfl
  clear hS
  rintro e w ⟨rfl, hS⟩
  refine ⟨_, rfl, ?_⟩
  by_cases h1 : regOf c p1 = g
  rotate_left
  · repeat' (first|refine K ?_|(refine Sh.sa hS ?_;clear hS;intro w hS)|(refine K3 ?_;clear hS;intro g w hS hge)|(refine KB ?_ ?_<;>intro hb<;>(try simp only [JJ] at hb)<;>(try exact JX))|fail)
    refine Sh.again (ps.length - (i + 1)) [(21, .int .i64 (i + 1 : Nat))] ?_
    refine ⟨i + 1, rfl, by omega, rfl, ?_⟩
    rw [hsucc, if_neg (fun h => h1 h.1)]
    exact hS.sb
  repeat' (first|refine K ?_|(refine Sh.sa hS ?_;clear hS;intro w hS)|(refine K3 ?_;clear hS;intro g w hS hge)|(refine KB ?_ ?_<;>intro hb<;>(try simp only [JJ] at hb)<;>(try exact JX))|fail)
  refine Z.eff (Z.cl (hreg p2 [_, _, _] _ hS) rfl ?_) rfl
  clear hS
  rintro e w ⟨rfl, hS⟩
  refine ⟨_, rfl, ?_⟩
  by_cases h2 : regOf c p2 = g
  · repeat' (first|refine K ?_|(refine Sh.sa hS ?_;clear hS;intro w hS)|(refine K3 ?_;clear hS;intro g w hS hge)|(refine KB ?_ ?_<;>intro hb<;>(try simp only [JJ] at hb)<;>(try exact JX))|fail)
    refine Sh.again (ps.length - (i + 1)) [(21, .int .i64 (i + 1 : Nat))] ?_
    refine ⟨i + 1, rfl, by omega, rfl, ?_⟩
    rw [hsucc, if_neg (fun h => h.2 h2)]
    exact hS.sb
  rw [if_pos ⟨h1, h2⟩] at hsucc
  repeat' (first|refine K ?_|(refine Sh.sa hS ?_;clear hS;intro w hS)|(refine K3 ?_;clear hS;intro g w hS hge)|(refine KB ?_ ?_<;>intro hb<;>(try simp only [JJ] at hb)<;>(try exact JX))|fail)
  obtain ⟨q2, rfl⟩ := Int.eq_ofNat_of_zero_le (show 0 ≤ p2 by omega)
  have hq2 : q2 < l.length := by omega
  have hy2 := hbB _ (List.getElem_mem hq2)
  have hrow2 := row q2 hq2
  have hadd2 : addP l (q2 : Nat) (d.load - d.shadow) = l.set q2 (l[q2] + (d.load - d.shadow)) := by
    unfold addP
    rw [if_pos (by omega)]
    simp [List.getD_eq_getElem?_getD, hq2]
  generalize l[q2] = y2 at *
  refine D.startS (Lr := (.blk g7 92 (plR (p1, (q2 : Int))) :: .blk gb 84 (pbC c _ mk hd) :: F)) (hS.sb) 22 23 (by kernel_rfl) rfl ?_
  replace hS := hS.drew
  refine Sh.dp 0 1 ?_
  refine Sh.dp 1 3 ?_
  refine Sh.dp 5 35 ?_
  refine Sh.dp 6 99 ?_
  refine Sh.dp 8 355 ?_
  refine Sh.dp 12 4451 ?_
  refine Sh.dp 13 12643 ?_
  refine Sh.dp 15 45411 ?_
  refine Sh.dl 2 45415 ?_
  first | refine D.ixn 3 45423 rfl D.wantedN (by kernel_rfl) rfl rfl rfl (by omega) ?_ | refine D.ix 3 45423 rfl D.wantedN (by kernel_rfl) rfl rfl rfl (by omega) ?_ | refine D.ia 3 45423 rfl D.wantedN (by kernel_rfl) rfl rfl rfl (by omega) ?_
  refine Sh.dl 7 45551 ?_
  first | refine D.ixn 9 46063 rfl D.wantedN (by kernel_rfl) rfl rfl rfl (by omega) ?_ | refine D.ix 9 46063 rfl D.wantedN (by kernel_rfl) rfl rfl rfl (by omega) ?_ | refine D.ia 9 46063 rfl D.wantedN (by kernel_rfl) rfl rfl rfl (by omega) ?_
  refine Sh.dp 10 47087 ?_
  refine D.ldE 11 49135 rfl D.wantedN (by kernel_rfl) rfl (hrt [_, _]) rfl ?_
  refine Sh.dl 14 65519 ?_
  first | refine D.ixn 16 131055 rfl D.wantedN (by kernel_rfl) rfl rfl rfl (by omega) ?_ | refine D.ix 16 131055 rfl D.wantedN (by kernel_rfl) rfl rfl rfl (by omega) ?_ | refine D.ia 16 131055 rfl D.wantedN (by kernel_rfl) rfl rfl rfl (by omega) ?_
  refine Sh.dp 17 262127 ?_
  refine D.ldE 18 524271 rfl D.wantedN (by kernel_rfl) rfl (hrt [_, _]) rfl ?_
  first | refine D.sum 19 1048559 rfl D.wantedN (by kernel_rfl) rfl (by constructor <;> omega) ?_ | refine D.sumW 19 1048559 rfl D.wantedN (by kernel_rfl) rfl ?_
  refine D.ef 4 1048575 ?_
  refine Z.ldR rfl (hrow2 _ _ hS AtF) rfl ?_
  refine HMs ?_
  first | refine D.sum 20 2097151 rfl D.wantedN (by kernel_rfl) rfl (by constructor <;> omega) ?_ | refine D.sumW 20 2097151 rfl D.wantedN (by kernel_rfl) rfl ?_
  first | refine D.ixn 21 4194303 rfl D.wantedN (by kernel_rfl) rfl rfl rfl (by omega) ?_ | refine D.ix 21 4194303 rfl D.wantedN (by kernel_rfl) rfl rfl rfl (by omega) ?_ | refine D.ia 21 4194303 rfl D.wantedN (by kernel_rfl) rfl rfl rfl (by omega) ?_
  refine D.ef 22 8388607 ?_
  refine Z.stF (sz := 1) (j := 0) (y2 + (d.load - d.shadow)) hS rfl AtF hq2 rfl rfl rfl (by omega) rfl ?_
  clear hS; intro w hS
  rw [← hadd2] at hS
  refine ⟨HM.last (by kernel_rfl), ?_⟩
  refine D.done (by kernel_rfl) ?_
  repeat' (first|refine K ?_|(refine Sh.sa hS ?_;clear hS;intro w hS)|(refine K3 ?_;clear hS;intro g w hS hge)|(refine KB ?_ ?_<;>intro hb<;>(try simp only [JJ] at hb)<;>(try exact JX))|fail)
  refine Sh.again (ps.length - (i + 1)) [(21, .int .i64 (i + 1 : Nat))] ?_
  refine ⟨i + 1, rfl, by omega, rfl, ?_⟩
  rw [hsucc]
  exact hS.sb
def hdOk (c : Cfg) (l : List Int) (ps : List (Int × Int)) (g : Int) (k : Nat) : Prop := ∀ h : k < c.cells.length, regOf c k ≠ g → l.getD k 0 + (exN c g ps ps.length).getD k 0 ≤ c.cells[k].cap
set_option maxHeartbeats 8000000 in
theorem rheadroom_z (c : Cfg) (a : CAd) (mk : Int) (hd : Bool) (ps : List (Int × Int)) (v : Value) (l : List Int) (vl : Value) (r : World) (F : List Res) (w : World) (hS : Sep r [] F w) (hr : CfA r F c a) (hv : CfgV c) (hp : Reads r F 2 v (ps.map plR)) (hs : PlS c ps) (hpl : Reads r F 1 vl (l.map ztC)) (hl : l.length = c.cells.length) (hlb : LB l 100000000) :
    Calls Tryz.prog 328 #[pbV c a mk hd, v, vl] w fun e w' => ∃ (A : Option Addr) (cap : Nat) (bs : List Br), e = .returned (.slice A bs.length cap) ∧ (bs.length ≤ 1000 ∧ (bs = [] → hd = true → ∀ g : Int, 0 ≤ g → g < c.regions → ∀ k, hdOk c l ps g k)) ∧ Sep r [] (.sl 360 5 (.slice A bs.length cap) (bs.map Br.cells) :: F) w' := by
  have hk := hv.ok.k
  have hrg := hv.ok.r
  have htl := hv.ok.t
  have hpn := hs.len
  obtain ⟨Ap, cp, rfl, hcap⟩ := (hp [] w hS).mform
  obtain ⟨Al, cl, rfl, hcl⟩ := (hpl [] w hS).mform
  cases hd
  · refine Z.enter Tryz.func328 Tryz.ntmps328 rfl rfl ?_
    repeat' (first|refine K ?_|(refine Sh.sa hS ?_;clear hS;intro w hS)|(refine K3 ?_;clear hS;intro g w hS hge)|(refine KB ?_ ?_<;>intro hb<;>(try simp only [JJ] at hb)<;>(try exact JX))|fail)
    replace hS := Z.nilsl hS 360 5 none
    refine Dnt Tryz.results328 ?_
    exact ⟨none, 0, [], rfl, ⟨by simp, fun _ h => by cases h⟩, hS.sb⟩
  refine Z.enter Tryz.func328 Tryz.ntmps328 rfl rfl ?_
  repeat' (first|refine K ?_|(refine Sh.sa hS ?_;clear hS;intro w hS)|(refine K3 ?_;clear hS;intro g w hS hge)|(refine KB ?_ ?_<;>intro hb<;>(try simp only [JJ] at hb)<;>(try exact JX))|fail)
  rename Nat => gb
  replace hS := Z.nilsl hS 360 5 none
  refine Z.lpS [7, 8, 9, 10, 11, 18, 19, 20, 21, 22, 23, 24, 25, 26, 27, 28, 29, 30, 31, 32, 33, 34, 35, 36, 37, 38, 39, 40, 41, 42, 43, 44, 45, 46, 47, 48, 49, 50, 51, 52, 53, 54, 55, 56, 57, 58, 59, 60, 61] (fun m w z => ∃ (i : Nat) (A : Option Addr) (cap : Nat) (bs : List Br), z = [(7, .slice A bs.length cap), (18, .int .i64 i)] ∧ (i : Int) ≤ c.regions ∧ (bs.length ≤ 100 * i ∧ (bs = [] → ∀ g : Int, 0 ≤ g → g < i → ∀ k, hdOk c l ps g k)) ∧ m = c.regions.toNat - i ∧ Sep r [] (.sl 360 5 (.slice A bs.length cap) (bs.map Br.cells) :: .blk gb 84 (pbC c a mk true) :: F) w) _ [(7, .slice none 0 0), (18, .int .i64 (0 : Nat))] TrF ⟨0, none, 0, [], rfl, by omega, ⟨by simp, fun _ g h1 h2 => absurd h2 (by omega)⟩, rfl, hS.sb⟩ ?_
  clear hS
  rintro m f0 w _ ⟨i, A, cap, bs, rfl, hi, ⟨hbl, hbs⟩, rfl, hS⟩
  by_cases hlt : (i : Int) < c.regions
  rotate_left
  · repeat' (first|refine K ?_|(refine Sh.sa hS ?_;clear hS;intro w hS)|(refine K3 ?_;clear hS;intro g w hS hge)|(refine KB ?_ ?_<;>intro hb<;>(try simp only [JJ] at hb)<;>(try exact JX))|fail)
    refine Dnt Tryz.results328 ?_
    exact ⟨A, cap, bs, rfl, ⟨by omega, fun h _ g h1 h2 => hbs h g h1 (by omega)⟩, hS.sb⟩
  repeat' (first|refine K ?_|(refine Sh.sa hS ?_;clear hS;intro w hS)|(refine K3 ?_;clear hS;intro g w hS hge)|(refine KB ?_ ?_<;>intro hb<;>(try simp only [JJ] at hb)<;>(try exact JX))|fail)
  refine Z.eff (Z.cl (rextra_z c a mk true ps _ i _ _ _ hS (hr.app [_, _]) hv (hp.app [_, _]) hs) rfl ?_) rfl
  clear hS
  rintro e w ⟨gx, rfl, hS⟩
  refine ⟨_, rfl, ?_⟩
  obtain ⟨hxl, hxb⟩ := exN_ok hv i ps ps.length
  repeat' (first|refine K ?_|(refine Sh.sa hS ?_;clear hS;intro w hS)|(refine K3 ?_;clear hS;intro g w hS hge)|(refine KB ?_ ?_<;>intro hb<;>(try simp only [JJ] at hb)<;>(try exact JX))|fail)
  refine Z.lpS [7, 10, 11, 29, 30, 31, 32, 33, 34, 35, 36, 37, 38, 39, 40, 41, 42, 43, 44, 45, 46, 47, 48, 49, 50, 51, 52, 53, 54, 55, 56, 57, 58, 59, 60] (fun m w z => ∃ (j : Nat) (A : Option Addr) (cap : Nat) (bt : List Br), z = [(7, .slice A bt.length cap), (29, .int .i64 j)] ∧ j ≤ c.cells.length ∧ (bt.length ≤ bs.length + j ∧ (bt = [] → bs = [] ∧ ∀ k, k < j → hdOk c l ps i k)) ∧ m = c.cells.length - j ∧ Sep r [] (.sl 360 5 (.slice A bt.length cap) (bt.map Br.cells) :: .sl 3 1 (.slice (some ⟨gx, 0, none⟩) c.cells.length c.cells.length) ((exN c i ps ps.length).map ztC) :: .blk gb 84 (pbC c a mk true) :: F) w) _ [(7, .slice A bs.length cap), (29, .int .i64 (0 : Nat))] TrF ⟨0, A, cap, bs, rfl, by omega, ⟨by omega, fun h => ⟨h, fun k h => absurd h (by omega)⟩⟩, rfl, hS.sb⟩ ?_
  clear hS
  rintro m f1 w _ ⟨j, A, cap, bt, rfl, hj, ⟨htl2, hts⟩, rfl, hS⟩
  by_cases hj2 : j < c.cells.length
  rotate_left
  · obtain rfl : j = c.cells.length := by omega
    repeat' (first|refine K ?_|(refine Sh.sa hS ?_;clear hS;intro w hS)|(refine K3 ?_;clear hS;intro g w hS hge)|(refine KB ?_ ?_<;>intro hb<;>(try simp only [JJ] at hb)<;>(try exact JX))|fail)
    refine Sh.again (c.regions.toNat - (i + 1)) [(7, .slice A bt.length cap), (18, .int .i64 (i + 1 : Nat))] ?_
    exact ⟨i + 1, A, cap, bt, rfl, by omega, ⟨by omega, fun h g h1 h2 => by
      obtain ⟨h3, h4⟩ := hts h
      by_cases e : g = i
      · subst e
        exact fun k hk => h4 k hk hk
      · exact hbs h3 g h1 (by omega)⟩, rfl, hS.sb⟩
  have hjl : j < l.length := by omega
  have hjx : j < (exN c i ps ps.length).length := by omega
  obtain ⟨gc, o2, hA2, hra1⟩ := reads_kn hr.cf [_, _, _] hS hj2
  obtain ⟨gl, ol, rfl, _, _⟩ := (hpl [_, _, _] w hS).mat (by omega) (q := j) (by simpa using hjl)
  have hrl : ∀ L W, Sep r [] (L ++ F) W → W.rangeAt gl (ol + j * 1) (ztC l[j]) := fun L W hW => by
    have h3 := (hpl L W hW).elem (q := j) (by omega) (by simpa using hjl)
    simpa using h3
  have hrx : ∀ L W, Sep r [] L W → ∀ {k}, At L k (.sl 3 1 (.slice (some ⟨gx, 0, none⟩) c.cells.length c.cells.length) ((exN c i ps ps.length).map ztC)) → W.rangeAt gx (0 + j * 1) (ztC (exN c i ps ps.length)[j]) := fun L W hW k ha => by
    have h3 := (hW.slrows ha).elem (q := j) (by omega) (by simpa using hjx)
    simpa using h3
  have hstep : ∀ bt' : List Br, (bt' = [] → bt = [] ∧ (regOf c j ≠ i → l[j] + (exN c i ps ps.length)[j] ≤ c.cells[j].cap)) → bt' = [] → bs = [] ∧ ∀ k, k < j + 1 → hdOk c l ps i k := fun bt' h1 h2 => by
    obtain ⟨h3, h4⟩ := h1 h2
    obtain ⟨h5, h6⟩ := hts h3
    refine ⟨h5, fun k hk => ?_⟩
    by_cases e : k = j
    · subst e
      intro _ hne
      have h7 := h4 hne
      simpa [List.getD_eq_getElem?_getD, hjl, hjx] using h7
    · exact h6 k (by omega)
  have hreg := fun (k : Int) (L : List Res) (W : World) (hW : Sep r [] (L ++ F) W) => pregion_z c a k r (L ++ F) W hW (hr.cf.app L) hv.ok
  have hy1 := hlb _ (List.getElem_mem hjl)
  have hy2 := hxb _ (List.getElem_mem hjx)
  have hkc := hv.kc _ (List.getElem_mem hj2)
  generalize l[j] = y1 at *
  generalize hy : (exN c i ps ps.length)[j] = y2 at *
  generalize c.cells[j] = y at *
  obtain ⟨zA, zc, kA, kc, tA, tc, vA, vc, rA, rc, oA, oc⟩ := a
  simp only at hA2
  subst hA2
  obtain ⟨u1, u2⟩ := y
  repeat' (first|refine K ?_|(refine Sh.sa hS ?_;clear hS;intro w hS)|(refine K3 ?_;clear hS;intro g w hS hge)|(refine KB ?_ ?_<;>intro hb<;>(try simp only [JJ] at hb)<;>(try exact JX))|fail)
  rename Nat => g11
  by_cases hne : regOf c j = i
  · refine D.startS (Lr := (.blk g11 168 (⟨u1, u2⟩ : Cl).cells :: .blk gb 84 (pbC c _ mk true) :: F)) (hS.sb) 20 20 (by kernel_rfl) rfl ?_
    replace hS := hS.drew
    refine Sh.dp 0 1 ?_
    refine Sh.dp 2 5 ?_
    refine Sh.dp 4 21 ?_
    refine Sh.dl 1 23 ?_
    refine D.ef 3 31 ?_
    refine Z.cl (hreg j [_, _, _, _] _ hS) rfl ?_
    clear hS
    rintro e w ⟨rfl, hS⟩
    refine ⟨_, rfl, ?_⟩
    refine HMs ?_
    first | refine D.pr 5 63 rfl D.wantedN (by kernel_rfl) rfl ?_ | refine D.pl 5 63 rfl D.wantedN (by kernel_rfl) (R.nea rfl rfl rfl rfl) ?_
    refine Sh.dp 6 127 ?_
    refine D.slot 40 rfl NoF (fun hb => ?_)
    (try simp only [JJ] at hb)
    refine D.skF 7 255 rfl (by kernel_rfl) rfl rfl ?_
    refine D.skF 8 511 rfl (by kernel_rfl) rfl rfl ?_
    refine D.skF 9 1023 rfl (by kernel_rfl) rfl rfl ?_
    refine D.skF 10 2047 rfl (by kernel_rfl) rfl rfl ?_
    refine D.skF 11 4095 rfl (by kernel_rfl) rfl rfl ?_
    refine D.skF 12 8191 rfl (by kernel_rfl) rfl rfl ?_
    refine D.skF 13 16383 rfl (by kernel_rfl) rfl rfl ?_
    refine D.skF 14 32767 rfl (by kernel_rfl) rfl rfl ?_
    refine D.skF 15 65535 rfl (by kernel_rfl) rfl rfl ?_
    refine D.skF 16 131071 rfl (by kernel_rfl) rfl rfl ?_
    refine D.skF 17 262143 rfl (by kernel_rfl) rfl rfl ?_
    refine D.skF 18 524287 rfl (by kernel_rfl) rfl rfl ?_
    refine Sh.dp 19 1048575 ?_
    refine D.done (by kernel_rfl) ?_
    repeat' (first|refine K ?_|(refine Sh.sa hS ?_;clear hS;intro w hS)|(refine K3 ?_;clear hS;intro g w hS hge)|(refine KB ?_ ?_<;>intro hb<;>(try simp only [JJ] at hb)<;>(try exact JX))|fail)
    refine Sh.again (c.cells.length - (j + 1)) [(7, .slice A bt.length cap), (29, .int .i64 (j + 1 : Nat))] ?_
    exact ⟨j + 1, A, cap, bt, rfl, by omega, ⟨by omega, hstep bt fun h => ⟨h, fun h2 => absurd hne h2⟩⟩, rfl, hS.sb⟩
  refine Z.cut [34, 35, 36, 37, 38, 39, 40, 41, 42, 43, 44, 45, 46, 47, 48, 49, 50, 51, 52, 53] (fun w z => z = [(53, .bool (decide (u2 < y1 + y2)))] ∧ Sep r [] (.sl 360 5 (.slice A bt.length cap) (bt.map Br.cells) :: .sl 3 1 (.slice (some ⟨gx, 0, none⟩) c.cells.length c.cells.length) ((exN c i ps ps.length).map ztC) :: .blk gb 84 (pbC c ⟨zA, zc, some ⟨gc, o2, none⟩, kc, tA, tc, vA, vc, rA, rc, oA, oc⟩ mk true) :: F) w) ?_ ?_
  · refine D.startS (Lr := (.blk g11 168 (⟨u1, u2⟩ : Cl).cells :: .sl 3 1 (.slice (some ⟨gx, 0, none⟩) c.cells.length c.cells.length) ((exN c i ps ps.length).map ztC) :: .blk gb 84 (pbC c _ mk true) :: F)) (hS.sb) 20 20 (by kernel_rfl) rfl ?_
    replace hS := hS.drew
    refine Sh.dp 0 1 ?_
    refine Sh.dp 2 5 ?_
    refine Sh.dp 4 21 ?_
    refine Sh.dl 1 23 ?_
    refine D.ef 3 31 ?_
    refine Z.cl (hreg j [_, _, _, _] _ hS) rfl ?_
    clear hS
    rintro e w ⟨rfl, hS⟩
    refine ⟨_, rfl, ?_⟩
    refine HMs ?_
    first | refine D.pr 5 63 rfl D.wantedN (by kernel_rfl) rfl ?_ | refine D.pl 5 63 rfl D.wantedN (by kernel_rfl) (R.nea rfl rfl rfl rfl) ?_
    refine Sh.dp 6 127 ?_
    refine D.slot 40 rfl (fun hb => ?_) NoF
    (try simp only [JJ] at hb)
    refine Sh.dp 7 255 ?_
    refine Sh.dp 8 511 ?_
    first | refine D.ixn 9 1023 rfl (D.wantedT rfl rfl) (by kernel_rfl) rfl rfl rfl (by omega) ?_ | refine D.ix 9 1023 rfl (D.wantedT rfl rfl) (by kernel_rfl) rfl rfl rfl (by omega) ?_ | refine D.ia 9 1023 rfl (D.wantedT rfl rfl) (by kernel_rfl) rfl rfl rfl (by omega) ?_
    refine Sh.dp 11 3071 ?_
    refine Sh.dp 12 7167 ?_
    first | refine D.ixn 13 15359 rfl (D.wantedT rfl rfl) (by kernel_rfl) rfl rfl rfl (by omega) ?_ | refine D.ix 13 15359 rfl (D.wantedT rfl rfl) (by kernel_rfl) rfl rfl rfl (by omega) ?_ | refine D.ia 13 15359 rfl (D.wantedT rfl rfl) (by kernel_rfl) rfl rfl rfl (by omega) ?_
    refine Sh.dp 16 80895 ?_
    refine D.ldR 10 81919 rfl (D.wantedT rfl rfl) (by kernel_rfl) rfl (hrl [_, _, _]) rfl ?_
    refine D.ldR 14 98303 rfl (D.wantedT rfl rfl) (by kernel_rfl) rfl (fun W hW => hrx _ W hW (.next .here)) rfl ?_
    first | refine D.sum 15 131071 rfl (D.wantedT rfl rfl) (by kernel_rfl) rfl (by constructor <;> omega) ?_ | refine D.sumW 15 131071 rfl (D.wantedT rfl rfl) (by kernel_rfl) rfl ?_
    refine Sh.dl 17 262143 ?_
    refine Sh.dp 18 524287 ?_
    refine Sh.dp 19 1048575 ?_
    refine D.done (by kernel_rfl) ?_
    refine Sh.cut [(53, _)] ?_
    exact ⟨by simp [Z.packR], hS.sb⟩
  clear hS
  rintro f2 w _ ⟨rfl, hS⟩
  by_cases hgt : u2 < y1 + y2
  · repeat' (first|refine K ?_|(refine Sh.sa hS ?_;clear hS;intro w hS)|(refine K3 ?_;clear hS;intro g w hS hge)|(refine KB ?_ ?_<;>intro hb<;>(try simp only [JJ] at hb)<;>(try exact JX))|fail)
    refine Z.eff (Z.apm (fc := Br.cells) (l := bt) (l' := [(⟨9, -1, -1, j, i⟩ : Br)]) hS rfl rfl rfl AtF (hS.lit1 AtF rfl rfl) LnF LnF ?_) rfl
    clear hS; intro A' c' w hS
    rw [← List.length_append] at hS ⊢
    repeat' (first|refine K ?_|(refine Sh.sa hS ?_;clear hS;intro w hS)|(refine K3 ?_;clear hS;intro g w hS hge)|(refine KB ?_ ?_<;>intro hb<;>(try simp only [JJ] at hb)<;>(try exact JX))|fail)
    refine Sh.again (c.cells.length - (j + 1)) [(7, .slice A' (bt ++ [(⟨9, -1, -1, j, i⟩ : Br)]).length c'), (29, .int .i64 (j + 1 : Nat))] ?_
    exact ⟨j + 1, A', c', _, rfl, by omega, ⟨by simp; omega, fun h => by simp at h⟩, rfl, hS.sb⟩
  · repeat' (first|refine K ?_|(refine Sh.sa hS ?_;clear hS;intro w hS)|(refine K3 ?_;clear hS;intro g w hS hge)|(refine KB ?_ ?_<;>intro hb<;>(try simp only [JJ] at hb)<;>(try exact JX))|fail)
    refine Sh.again (c.cells.length - (j + 1)) [(7, .slice A bt.length cap), (29, .int .i64 (j + 1 : Nat))] ?_
    exact ⟨j + 1, A, cap, bt, rfl, by omega, ⟨by omega, hstep bt fun h => ⟨h, fun _ => by show _ ≤ u2; omega⟩⟩, rfl, hS.sb⟩
end Go.Proofs.YtfmnjbhncnldmaaGreat
