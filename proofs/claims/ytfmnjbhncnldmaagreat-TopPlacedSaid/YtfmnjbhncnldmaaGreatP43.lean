import Derived.Test.YtfmnjbhncnldmaaGreatP42
set_option linter.unusedSimpArgs false
set_option linter.unusedVariables false
namespace Go.Proofs.YtfmnjbhncnldmaaGreat
open Go.RowKit
attribute [local irreducible] Res.blk Res.sl Res.all Res.ex Res.pure Res.star
structure Nd where
  k : Int
  v : Int
  s : Int
  b : Br
def Nd.cells (x : Nd) : List Value := [.int .i64 x.k, .int .i64 x.v, .int .i64 x.s, .int .i64 x.b.rule, .int .i64 x.b.tenant, .int .i64 x.b.other, .int .i64 x.b.cell, .int .i64 x.b.region]
def seC (c : Cfg) (a : CAd) (mk : Int) (hd : Bool) (vA : Option Addr) (vn vc gp n : Nat) (tA : Option Addr) (tn tc : Nat) (cnt : Int) : List Value :=
  pbC c a mk hd ++ [.slice vA vn vc, .slice (some ⟨gp, 0, none⟩) n n, .slice tA tn tc, .int .i64 cnt]
structure RunP (c : Cfg) (hd : Bool) (vs : List Nat) (ps ps' : List (Int × Int)) (tr' : List Nd) (cnt' : Int) (b : Bool) (er : Int) : Prop where
  two : er = 0 ∨ er = 2
  ok : er = 0 → cnt' ≤ 2048
  yes : b = true → er = 0 ∧ SvI c.tenants.length c.cells.length vs vs.length ps' ∧ PlK c hd ps'
  no : b = false → er = 0 → ps' = ps ∧ tr' ≠ []
  len : ps'.length = ps.length
  cnt : 0 ≤ cnt' ∧ cnt' ≤ 2049
  tl : (tr'.length : Int) ≤ cnt'
theorem plR_set (p : Int × Int) (u : Nat) (x : Int) : plR (svP p u x) = (plR p).set (u % 2) (.int .i64 x) := by
  unfold svP
  rcases (by omega : u % 2 = 0 ∨ u % 2 = 1) with h | h
  · rw [if_pos h, h]
    rfl
  · rw [if_neg (by omega), h]
    rfl
theorem sv_set {ps : List (Int × Int)} {u : Nat} {x : Int} (h : u / 2 < ps.length) : ps.set (u / 2) (svP ps[u / 2] u x) = sv ps u x := by
  unfold sv
  simp [List.getD_eq_getElem?_getD, h]
theorem wrap_half (u : Nat) (h : u < 1000) : IntKind.i64.wrap ((u : Int).tdiv 2) = ((u / 2 : Nat) : Int) := by
  rw [Int.tdiv_eq_ediv_of_nonneg (by omega)]
  have := Z.wrap_in (c := (u : Int) / 2) (by omega) (by omega)
  rw [this]
  omega
def RunZ (c : Cfg) (a : CAd) (mk : Int) (hd : Bool) (gs gp : Nat) (vA : Option Addr) (vc : Nat) (vs : List Nat) (r : World) (F : List Res) (m : Nat) : Prop :=
  ∀ (i : Nat) (iz : Int) (ps : List (Int × Int)) (tr : List Nd) (tA : Option Addr) (tc : Nat) (cnt : Int) (w : World), i + m = vs.length → iz = (i : Nat) → SvI c.tenants.length c.cells.length vs i ps → Sep r [] (.blk gs 277 (seC c a mk hd vA vs.length vc gp c.tenants.length tA tr.length tc cnt) :: .sl 92 2 (.slice (some ⟨gp, 0, none⟩) c.tenants.length c.tenants.length) (ps.map plR) :: .sl 362 8 (.slice tA tr.length tc) (tr.map Nd.cells) :: F) w → (0 ≤ cnt ∧ cnt ≤ 2048) → (tr.length : Int) ≤ cnt →
    Calls Tryz.prog 161 #[.pointer (some ⟨gs, 0, none⟩), .int .i64 iz] w fun e w' => ∃ (b : Bool) (er : Int) (ps' : List (Int × Int)) (tr' : List Nd) (tA' : Option Addr) (tc' : Nat) (cnt' : Int), e = .returned (.tuple #[.bool b, .int .i64 er]) ∧ RunP c hd vs ps ps' tr' cnt' b er ∧ Sep r [] (.blk gs 277 (seC c a mk hd vA vs.length vc gp c.tenants.length tA' tr'.length tc' cnt') :: .sl 92 2 (.slice (some ⟨gp, 0, none⟩) c.tenants.length c.tenants.length) (ps'.map plR) :: .sl 362 8 (.slice tA' tr'.length tc') (tr'.map Nd.cells) :: F) w'
set_option maxHeartbeats 16000000 in
theorem srun_z (c : Cfg) (a : CAd) (mk : Int) (hd : Bool) (gs gp : Nat) (vA : Option Addr) (vc : Nat) (vs : List Nat) (r : World) (F : List Res) (hr : CfA r F c a) (hv : CfgV c) (hvr : Reads r F 1 (.slice vA vs.length vc) ((vN vs).map ztC)) (hnd : vs.Nodup) (hvl : vs.length ≤ 1000) (hvb : ∀ u, u ∈ vs → u < 2 * c.tenants.length) :
    ∀ m, RunZ c a mk hd gs gp vA vc vs r F m := by
  have hkc := hv.ok.k
  have htc := hv.ok.t
  intro m
  induction m using Nat.strongRecOn with
  | _ m ih =>
  intro i iz ps tr tA tc cnt w him hiz hsv hS hc htr
  subst hiz
  have hpls := hsv.pls
  have hpl := hsv.len
  refine Z.enter Tryz.func161 Tryz.ntmps161 rfl rfl ?_
  repeat' (first|refine K ?_|(refine Sh.sa hS ?_;clear hS;intro w hS)|(refine K3 ?_;clear hS;intro g w hS hge)|(refine KB ?_ ?_<;>intro hb<;>(try simp only [JJ] at hb)<;>(try exact JX))|fail)
  · refine Dntt Tryz.results161 ?_
    exact ⟨false, 2, ps, tr, tA, tc, cnt + 1, rfl, ⟨.inr rfl, fun h => absurd h (by decide), (fun h => by cases h), fun _ h => absurd h (by decide), rfl, by omega, by omega⟩, hS.sb⟩
  replace hS := hS.sub (L' := .blk gs 277 (seC c a mk hd vA vs.length vc gp c.tenants.length tA tr.length tc (cnt + 1)) :: .sl 92 2 (.slice (some ⟨gp, 0, none⟩) c.tenants.length c.tenants.length) (ps.map plR) :: .sl 362 8 (.slice tA tr.length tc) (tr.map Nd.cells) :: F) SuF
  refine D.startS (Lr := (.blk gs 277 (seC c a mk hd vA vs.length vc gp c.tenants.length tA tr.length tc (cnt + 1)) :: F)) (hS.sb) 10 10 (by kernel_rfl) rfl ?_
  replace hS := hS.drew
  refine Sh.dp 0 1 ?_
  refine Sh.dp 1 3 ?_
  refine Sh.dp 2 7 ?_
  refine Sh.dp 4 23 ?_
  refine Sh.dp 5 55 ?_
  refine Sh.dp 6 119 ?_
  refine Sh.dl 3 127 ?_
  refine Sh.dl 7 255 ?_
  refine D.ef 8 511 ?_
  refine Z.cl (rpartial_z c a mk hd ps _ _ _ _ hS (hr.app [_, _, _]) hv (Reads.of_at (e := 92) (v := .slice (some ⟨gp, 0, none⟩) c.tenants.length c.tenants.length) AtF) hpls) rfl ?_
  clear hS
  rintro e w ⟨A6, c6, bs, rfl, ⟨hbl, hbs⟩, hS⟩
  refine ⟨_, rfl, ?_⟩
  refine HMs ?_
  refine Sh.dp 9 1023 ?_
  refine D.done (by kernel_rfl) ?_
  by_cases hb0 : bs = []
  rotate_left
  · have h0 : 0 < bs.length := List.length_pos_iff.2 hb0
    repeat' (first|refine K ?_|(refine Sh.sa hS ?_;clear hS;intro w hS)|(refine K3 ?_;clear hS;intro g w hS hge)|(refine KB ?_ ?_<;>intro hb<;>(try simp only [JJ] at hb)<;>(try exact JX))|fail)
    obtain ⟨gB, oB, hAe, _, _⟩ := (hS.slrows (e := 360) (v := .slice A6 bs.length c6) AtF).mat (by omega) (q := 0) (by simpa using h0)
    subst hAe
    have row : ∀ L W, Sep r [] L W → ∀ {k}, At L k (.sl 360 5 (.slice (some ⟨gB, oB, none⟩) bs.length c6) (bs.map Br.cells)) → W.rangeAt gB (oB + 0 * 5) (bs[0]).cells := fun L W hW k ha => by
      have h3 := (hW.slrows ha).elem (q := 0) (by omega) (by simpa using h0)
      simpa using h3
    refine D.startS (Lr := F) (hS.sb) 13 14 (by kernel_rfl) rfl ?_
    replace hS := hS.drew
    refine Sh.dp 0 1 ?_
    refine Sh.dp 1 3 ?_
    refine Sh.dp 2 7 ?_
    refine Sh.dp 3 15 ?_
    refine Sh.dp 5 47 ?_
    first | refine D.ixn 6 111 rfl D.wantedN (by kernel_rfl) rfl rfl rfl (by omega) ?_ | refine D.ix 6 111 rfl D.wantedN (by kernel_rfl) rfl rfl rfl (by omega) ?_ | refine D.ia 6 111 rfl D.wantedN (by kernel_rfl) rfl rfl rfl (by omega) ?_
    refine D.each [4, 7] (by kernel_rfl) rfl ?_
    refine D.econs 4 127 rfl D.wantedN (by kernel_rfl) (fun _ _ h => h) ?_ ?_
    · refine Z.ld hS rfl AtF rfl ?_
      refine HMs ?_
      refine D.ef 7 255 ?_
      refine Z.ldR rfl (row _ _ hS AtF) rfl ?_
      refine HMs ?_
      first | refine D.bu 8 511 rfl D.wantedN (by kernel_rfl) rfl rfl ?_ | refine D.buA 8 511 rfl D.wantedN (by kernel_rfl) rfl rfl ?_
      refine D.ef 9 1023 ?_
      refine Z.bs hS rfl rfl rfl ?_
      clear hS; intro g w hS hge
      refine HMs ?_
      refine D.ef 10 2047 ?_
      refine Z.apm (fc := Nd.cells) (l := tr) (l' := [(⟨2, 0, 0, bs[0]⟩ : Nd)]) hS rfl rfl rfl AtF (hS.lit1 AtF rfl rfl) LnF LnF ?_
      clear hS; intro A' c' w hS
      rw [← List.length_append] at hS ⊢
      refine HMs ?_
      refine Sh.dp 11 4095 ?_
      refine Sh.dp 12 8191 ?_
      refine D.ef 13 16383 ?_
      refine Z.st hS rfl AtF rfl rfl ?_
      clear hS; intro w hS
      refine ⟨HM.last (by kernel_rfl), ?_⟩
      refine D.done (by kernel_rfl) ?_
      repeat' (first|refine K ?_|(refine Sh.sa hS ?_;clear hS;intro w hS)|(refine K3 ?_;clear hS;intro g w hS hge)|(refine KB ?_ ?_<;>intro hb<;>(try simp only [JJ] at hb)<;>(try exact JX))|fail)
      refine Dntt Tryz.results161 ?_
      exact ⟨false, 0, ps, tr ++ [(⟨2, 0, 0, bs[0]⟩ : Nd)], A', c', cnt + 1, rfl, ⟨.inl rfl, (fun _ => by omega), (fun h => by cases h), (fun _ _ => ⟨rfl, by simp⟩), rfl, by omega, by rw [List.length_append]; simp; omega⟩, hS.sb⟩
    refine D.econs 7 239 rfl D.wantedN (by kernel_rfl) (fun _ _ h => h) ?_ ?_
    · refine Z.ldR rfl (row _ _ hS AtF) rfl ?_
      refine HMs ?_
      first | refine D.bu 8 495 rfl D.wantedN (by kernel_rfl) rfl rfl ?_ | refine D.buA 8 495 rfl D.wantedN (by kernel_rfl) rfl rfl ?_
      refine D.each [4, 9] (by kernel_rfl) rfl ?_
      refine D.econs 4 511 rfl D.wantedN (by kernel_rfl) (fun _ _ h => h) ?_ ?_
      · refine Z.ld hS rfl AtF rfl ?_
        refine HMs ?_
        refine D.ef 9 1023 ?_
        refine Z.bs hS rfl rfl rfl ?_
        clear hS; intro g w hS hge
        refine HMs ?_
        refine D.ef 10 2047 ?_
        refine Z.apm (fc := Nd.cells) (l := tr) (l' := [(⟨2, 0, 0, bs[0]⟩ : Nd)]) hS rfl rfl rfl AtF (hS.lit1 AtF rfl rfl) LnF LnF ?_
        clear hS; intro A' c' w hS
        rw [← List.length_append] at hS ⊢
        refine HMs ?_
        refine Sh.dp 11 4095 ?_
        refine Sh.dp 12 8191 ?_
        refine D.ef 13 16383 ?_
        refine Z.st hS rfl AtF rfl rfl ?_
        clear hS; intro w hS
        refine ⟨HM.last (by kernel_rfl), ?_⟩
        refine D.done (by kernel_rfl) ?_
        repeat' (first|refine K ?_|(refine Sh.sa hS ?_;clear hS;intro w hS)|(refine K3 ?_;clear hS;intro g w hS hge)|(refine KB ?_ ?_<;>intro hb<;>(try simp only [JJ] at hb)<;>(try exact JX))|fail)
        refine Dntt Tryz.results161 ?_
        exact ⟨false, 0, ps, tr ++ [(⟨2, 0, 0, bs[0]⟩ : Nd)], A', c', cnt + 1, rfl, ⟨.inl rfl, (fun _ => by omega), (fun h => by cases h), (fun _ _ => ⟨rfl, by simp⟩), rfl, by omega, by rw [List.length_append]; simp; omega⟩, hS.sb⟩
      refine D.econs 9 1007 rfl D.wantedN (by kernel_rfl) (fun _ _ h => h) ?_ ?_
      · refine Z.bs hS rfl rfl rfl ?_
        clear hS; intro g w hS hge
        refine HMs ?_
        refine D.ef 4 1023 ?_
        refine Z.ld hS rfl AtF rfl ?_
        refine HMs ?_
        refine D.ef 10 2047 ?_
        refine Z.apm (fc := Nd.cells) (l := tr) (l' := [(⟨2, 0, 0, bs[0]⟩ : Nd)]) hS rfl rfl rfl AtF (hS.lit1 AtF rfl rfl) LnF LnF ?_
        clear hS; intro A' c' w hS
        rw [← List.length_append] at hS ⊢
        refine HMs ?_
        refine Sh.dp 11 4095 ?_
        refine Sh.dp 12 8191 ?_
        refine D.ef 13 16383 ?_
        refine Z.st hS rfl AtF rfl rfl ?_
        clear hS; intro w hS
        refine ⟨HM.last (by kernel_rfl), ?_⟩
        refine D.done (by kernel_rfl) ?_
        repeat' (first|refine K ?_|(refine Sh.sa hS ?_;clear hS;intro w hS)|(refine K3 ?_;clear hS;intro g w hS hge)|(refine KB ?_ ?_<;>intro hb<;>(try simp only [JJ] at hb)<;>(try exact JX))|fail)
        refine Dntt Tryz.results161 ?_
        exact ⟨false, 0, ps, tr ++ [(⟨2, 0, 0, bs[0]⟩ : Nd)], A', c', cnt + 1, rfl, ⟨.inl rfl, (fun _ => by omega), (fun h => by cases h), (fun _ _ => ⟨rfl, by simp⟩), rfl, by omega, by rw [List.length_append]; simp; omega⟩, hS.sb⟩
      exact D.enil
    exact D.enil
  have hpb := hbs hb0
  subst hb0
  clear hbs hbl
  replace hS := hS.sub (L' := .blk gs 277 (seC c a mk hd vA vs.length vc gp c.tenants.length tA tr.length tc (cnt + 1)) :: .sl 92 2 (.slice (some ⟨gp, 0, none⟩) c.tenants.length c.tenants.length) (ps.map plR) :: .sl 362 8 (.slice tA tr.length tc) (tr.map Nd.cells) :: F) SuF
  repeat' (first|refine K ?_|(refine Sh.sa hS ?_;clear hS;intro w hS)|(refine K3 ?_;clear hS;intro g w hS hge)|(refine KB ?_ ?_<;>intro hb<;>(try simp only [JJ] at hb)<;>(try exact JX))|fail)
  refine D.startS (Lr := (.blk gs 277 (seC c a mk hd vA vs.length vc gp c.tenants.length tA tr.length tc (cnt + 1)) :: F)) (hS.sb) 14 14 (by kernel_rfl) rfl ?_
  replace hS := hS.drew
  refine Sh.dp 0 1 ?_
  refine Sh.dp 1 3 ?_
  refine Sh.dp 2 7 ?_
  refine Sh.dp 4 23 ?_
  refine Sh.dp 5 55 ?_
  refine Sh.dp 6 119 ?_
  refine Sh.dl 3 127 ?_
  refine Sh.dl 7 255 ?_
  refine D.ef 8 511 ?_
  refine Z.cl (bexceeded_z c a mk hd ps _ _ _ _ hS (hr.app [_, _, _]) hv (Reads.of_at (e := 92) (v := .slice (some ⟨gp, 0, none⟩) c.tenants.length c.tenants.length) AtF) hpls) rfl ?_
  clear hS
  rintro e w ⟨z7, b8, rfl, hS⟩
  refine ⟨_, rfl, ?_⟩
  refine HMs ?_
  refine Sh.dp 9 1023 ?_
  refine Sh.dp 10 2047 ?_
  refine Sh.dp 11 4095 ?_
  refine Sh.dp 12 8191 ?_
  refine Sh.dp 13 16383 ?_
  refine D.done (by kernel_rfl) ?_
  cases b8
  rotate_left
  · repeat' (first|refine K ?_|(refine Sh.sa hS ?_;clear hS;intro w hS)|(refine K3 ?_;clear hS;intro g w hS hge)|(refine KB ?_ ?_<;>intro hb<;>(try simp only [JJ] at hb)<;>(try exact JX))|fail)
    refine Z.eff (Z.apm (fc := Nd.cells) (l := tr) (l' := [(⟨3, 0, z7, ⟨0, 0, 0, 0, 0⟩⟩ : Nd)]) hS rfl rfl rfl AtF (hS.lit1 AtF rfl rfl) LnF LnF ?_) rfl
    clear hS; intro A' c' w hS
    rw [← List.length_append] at hS ⊢
    repeat' (first|refine K ?_|(refine Sh.sa hS ?_;clear hS;intro w hS)|(refine K3 ?_;clear hS;intro g w hS hge)|(refine KB ?_ ?_<;>intro hb<;>(try simp only [JJ] at hb)<;>(try exact JX))|fail)
    refine Dntt Tryz.results161 ?_
    exact ⟨false, 0, ps, tr ++ [(⟨3, 0, z7, ⟨0, 0, 0, 0, 0⟩⟩ : Nd)], A', c', cnt + 1, rfl, ⟨.inl rfl, (fun _ => by omega), (fun h => by cases h), (fun _ _ => ⟨rfl, by simp⟩), rfl, by omega, by rw [List.length_append]; simp; omega⟩, hS.sb⟩
  by_cases hlt : i < vs.length
  rotate_left
  · obtain rfl : i = vs.length := by omega
    repeat' (first|refine K ?_|(refine Sh.sa hS ?_;clear hS;intro w hS)|(refine K3 ?_;clear hS;intro g w hS hge)|(refine KB ?_ ?_<;>intro hb<;>(try simp only [JJ] at hb)<;>(try exact JX))|fail)
    refine Dntt Tryz.results161 ?_
    exact ⟨true, 0, ps, tr, tA, tc, cnt + 1, rfl, ⟨.inl rfl, fun _ => by omega, fun _ => ⟨rfl, hsv, hpb⟩, (fun h => by cases h), rfl, by omega, by omega⟩, hS.sb⟩
  have hli : i < (vN vs).length := by rw [vN_len]; exact hlt
  have hel : (vN vs)[i] = ((vs[i] : Nat) : Int) := by simp [vN]
  obtain ⟨gv, ov, rfl, _, hra⟩ := (hvr [_, _, _] w hS).mat (by omega) (q := i) (by simpa using hli)
  have hra2 : w.rangeAt gv (ov + i * 1) (ztC ((vs[i] : Nat) : Int)) := by
    rw [← hel]
    simpa using hra
  clear hra hel
  have hub := hvb _ (List.getElem_mem hlt)
  have hun := hsv.unset hnd hlt hub
  have hst := fun (x : Int) hx => hsv.step hlt hub (x := x) hx
  generalize vs[i] = u at *
  have hu2 : u / 2 < ps.length := by omega
  have hwh := wrap_half u (by omega)
  have hmd : (u : Int).tmod 2 = ((u % 2 : Nat) : Int) := by rw [Int.tmod_eq_emod_of_nonneg (by omega)]; omega
  repeat' (first|refine Kn ?_|(refine Sh.sa hS ?_;clear hS;intro w hS)|(refine K3 ?_;clear hS;intro g w hS hge)|(refine KB ?_ ?_<;>intro hb<;>(try simp only [JJ] at hb)<;>(try exact JX))|fail)
  refine Z.thN ?_
  repeat' (first|refine Kn ?_|(refine Sh.sa hS ?_;clear hS;intro w hS)|(refine K3 ?_;clear hS;intro g w hS hge)|(refine KB ?_ ?_<;>intro hb<;>(try simp only [JJ] at hb)<;>(try exact JX))|fail)
  refine Z.thN ?_
  repeat' (first|refine Kn ?_|(refine Sh.sa hS ?_;clear hS;intro w hS)|(refine K3 ?_;clear hS;intro g w hS hge)|(refine KB ?_ ?_<;>intro hb<;>(try simp only [JJ] at hb)<;>(try exact JX))|fail)
  refine Z.thN ?_
  repeat' (first|refine Kn ?_|(refine Sh.sa hS ?_;clear hS;intro w hS)|(refine K3 ?_;clear hS;intro g w hS hge)|(refine KB ?_ ?_<;>intro hb<;>(try simp only [JJ] at hb)<;>(try exact JX))|fail)
  refine Z.thN ?_
  repeat' (first|refine Kn ?_|(refine Sh.sa hS ?_;clear hS;intro w hS)|(refine K3 ?_;clear hS;intro g w hS hge)|(refine KB ?_ ?_<;>intro hb<;>(try simp only [JJ] at hb)<;>(try exact JX))|fail)
  refine Z.thN ?_
  repeat' (first|refine Kn ?_|(refine Sh.sa hS ?_;clear hS;intro w hS)|(refine K3 ?_;clear hS;intro g w hS hge)|(refine KB ?_ ?_<;>intro hb<;>(try simp only [JJ] at hb)<;>(try exact JX))|fail)
  refine Z.thN ?_
  repeat' (first|refine Kn ?_|(refine Sh.sa hS ?_;clear hS;intro w hS)|(refine K3 ?_;clear hS;intro g w hS hge)|(refine KB ?_ ?_<;>intro hb<;>(try simp only [JJ] at hb)<;>(try exact JX))|fail)
  refine Z.thN ?_
  refine Z.seq ?_
  refine Z.cut [10, 97, 98, 99, 100, 101, 102, 103, 104, 105, 106, 107] (fun w z => z = [(10, .pointer (some ⟨gp, 0 + u / 2 * 2 + u % 2, none⟩))] ∧ Sep r [] (.blk gs 277 (seC c a mk hd (some ⟨gv, ov, none⟩) vs.length vc gp c.tenants.length tA tr.length tc (cnt + 1)) :: .sl 92 2 (.slice (some ⟨gp, 0, none⟩) c.tenants.length c.tenants.length) (ps.map plR) :: .sl 362 8 (.slice tA tr.length tc) (tr.map Nd.cells) :: F) w) ?_ ?_
  · repeat' (first|refine K ?_|(refine Sh.sa hS ?_;clear hS;intro w hS)|(refine K3 ?_;clear hS;intro g w hS hge)|(refine KB ?_ ?_<;>intro hb<;>(try simp only [JJ] at hb)<;>(try exact JX))|fail)
    · refine Z.cutE [(10, _)] (by repeat (first | with_reducible exact Same.refl | with_reducible exact Same.mix | ((with_reducible refine Same.upd ?_ ?_); · rfl) | ((with_reducible refine Same.cons ?_ ?_); · rfl) | with_reducible refine Same.nil ?_ | ((with_reducible refine Same.mixS ?_ ?_); · rfl))) TrF ?_
      refine ⟨?_, hS.sb⟩
      have h1 : u % 2 = 1 := by omega
      rw [hwh, h1]
      simp
    · refine Z.cutE [(10, _)] (by repeat (first | with_reducible exact Same.refl | with_reducible exact Same.mix | ((with_reducible refine Same.upd ?_ ?_); · rfl) | ((with_reducible refine Same.cons ?_ ?_); · rfl) | with_reducible refine Same.nil ?_ | ((with_reducible refine Same.mixS ?_ ?_); · rfl))) TrF ?_
      refine ⟨?_, hS.sb⟩
      have h1 : u % 2 = 0 := by omega
      rw [hwh, h1]
      simp
  clear hS hra2
  rintro f1 w _ ⟨rfl, hS⟩
  repeat' (first|refine K ?_|(refine Sh.sa hS ?_;clear hS;intro w hS)|(refine K3 ?_;clear hS;intro g w hS hge)|(refine KB ?_ ?_<;>intro hb<;>(try simp only [JJ] at hb)<;>(try exact JX))|fail)
  refine Z.eff (Z.apm (fc := Nd.cells) (l := tr) (l' := [(⟨1, u, 0, ⟨0, 0, 0, 0, 0⟩⟩ : Nd)]) hS rfl rfl rfl AtF (hS.lit1 AtF rfl rfl) LnF LnF ?_) rfl
  clear hS; intro A1 c1 w hS
  rw [← List.length_append] at hS ⊢
  have htl1 : ((tr ++ [(⟨1, u, 0, ⟨0, 0, 0, 0, 0⟩⟩ : Nd)]).length : Int) ≤ cnt + 1 := by rw [List.length_append]; simp; omega
  have hne1 : tr ++ [(⟨1, u, 0, ⟨0, 0, 0, 0, 0⟩⟩ : Nd)] ≠ [] := by simp
  generalize tr ++ [(⟨1, u, 0, ⟨0, 0, 0, 0, 0⟩⟩ : Nd)] = tr1 at *
  repeat' (first|refine K ?_|(refine Sh.sa hS ?_;clear hS;intro w hS)|(refine K3 ?_;clear hS;intro g w hS hge)|(refine KB ?_ ?_<;>intro hb<;>(try simp only [JJ] at hb)<;>(try exact JX))|fail)
  have hsv0 : sv ps u (-1) = ps := by
    rw [← hun]
    exact sv_gv hu2
  refine Z.lpS [4, 5, 11, 12, 13, 126, 127, 128, 129, 130, 131, 132, 133, 134, 135, 136, 137, 138, 139, 140, 141, 142, 143, 144, 145, 146, 147, 148, 149, 150, 151, 152, 153, 154, 155] (fun m w z => ∃ (j : Nat) (x : Int) (tr2 : List Nd) (tA2 : Option Addr) (tc2 : Nat) (cnt2 : Int), z = [(126, .int .i64 j)] ∧ (j ≤ c.cells.length ∧ tr2 ≠ [] ∧ (0 ≤ cnt2 ∧ cnt2 ≤ 2048) ∧ (tr2.length : Int) ≤ cnt2) ∧ m = c.cells.length - j ∧ Sep r [] (.blk gs 277 (seC c a mk hd (some ⟨gv, ov, none⟩) vs.length vc gp c.tenants.length tA2 tr2.length tc2 cnt2) :: .sl 92 2 (.slice (some ⟨gp, 0, none⟩) c.tenants.length c.tenants.length) ((sv ps u x).map plR) :: .sl 362 8 (.slice tA2 tr2.length tc2) (tr2.map Nd.cells) :: F) w) _ [(126, .int .i64 (0 : Nat))] TrF ⟨0, -1, tr1, A1, c1, cnt + 1, rfl, ⟨by omega, hne1, ⟨by omega, by omega⟩, htl1⟩, rfl, by rw [hsv0]; exact hS.sb⟩ ?_
  clear hS
  rintro m1 f2 w _ ⟨j, x, tr2, tA2, tc2, cnt2, rfl, ⟨hj, hne2, hc2, htl2⟩, rfl, hS⟩
  have hu3 : u / 2 < (sv ps u x).length := by rw [sv_len]; exact hu2
  have hset := fun y : Int => sv_set (x := y) hu3
  have hplr := fun y : Int => plR_set (sv ps u x)[u / 2] u y
  by_cases hjl : j < c.cells.length
  rotate_left
  · repeat' (first|refine K ?_|(refine Sh.sa hS ?_;clear hS;intro w hS)|(refine K3 ?_;clear hS;intro g w hS hge)|(refine KB ?_ ?_<;>intro hb<;>(try simp only [JJ] at hb)<;>(try exact JX))|fail)
    refine Z.eff (Z.stF (sz := 2) (q := u / 2) (j := u % 2) (svP (sv ps u x)[u / 2] u (-1)) hS rfl AtF hu3 rfl rfl rfl (by omega) (hplr (-1)) ?_) rfl
    clear hS; intro w hS
    rw [hset, sv_sv hu2, hsv0] at hS
    repeat' (first|refine K ?_|(refine Sh.sa hS ?_;clear hS;intro w hS)|(refine K3 ?_;clear hS;intro g w hS hge)|(refine KB ?_ ?_<;>intro hb<;>(try simp only [JJ] at hb)<;>(try exact JX))|fail)
    refine Dntt Tryz.results161 ?_
    exact ⟨false, 0, ps, tr2, tA2, tc2, cnt2, rfl, ⟨.inl rfl, fun _ => hc2.2, (fun h => by cases h), fun _ _ => ⟨rfl, hne2⟩, rfl, by omega, htl2⟩, hS.sb⟩
  repeat' (first|refine K ?_|(refine Sh.sa hS ?_;clear hS;intro w hS)|(refine K3 ?_;clear hS;intro g w hS hge)|(refine KB ?_ ?_<;>intro hb<;>(try simp only [JJ] at hb)<;>(try exact JX))|fail)
  · refine Sh.again (c.cells.length - (j + 1)) [(126, .int .i64 (j + 1 : Nat))] ?_
    exact ⟨j + 1, x, tr2, tA2, tc2, cnt2, rfl, ⟨by omega, hne2, hc2, htl2⟩, rfl, hS.sb⟩
  refine Z.eff (Z.stF (sz := 2) (q := u / 2) (j := u % 2) (svP (sv ps u x)[u / 2] u j) hS rfl AtF hu3 rfl rfl rfl (by omega) (hplr j) ?_) rfl
  clear hS; intro w hS
  rw [hset, sv_sv hu2] at hS
  repeat' (first|refine K ?_|(refine Sh.sa hS ?_;clear hS;intro w hS)|(refine K3 ?_;clear hS;intro g w hS hge)|(refine KB ?_ ?_<;>intro hb<;>(try simp only [JJ] at hb)<;>(try exact JX))|fail)
  refine Z.eff (Z.cl (ih (vs.length - (i + 1)) (by omega) (i + 1) ((i : Int) + 1) (sv ps u j) tr2 tA2 tc2 cnt2 _ (by omega) (by omega) (hst j (by omega)) (hS.sb) hc2 htl2) rfl ?_) rfl
  clear hS
  rintro e w ⟨b, er, ps3, tr3, tA3, tc3, cnt3, rfl, hR, hS⟩
  refine ⟨_, rfl, ?_⟩
  cases b
  · by_cases he : er = 0
    · subst he
      obtain ⟨rfl, hne3⟩ := hR.no rfl rfl
      have hc3 := hR.ok rfl
      repeat' (first|refine K ?_|(refine Sh.sa hS ?_;clear hS;intro w hS)|(refine K3 ?_;clear hS;intro g w hS hge)|(refine KB ?_ ?_<;>intro hb<;>(try simp only [JJ] at hb)<;>(try exact JX))|fail)
      refine Sh.again (c.cells.length - (j + 1)) [(126, .int .i64 (j + 1 : Nat))] ?_
      exact ⟨j + 1, j, tr3, tA3, tc3, cnt3, rfl, ⟨by omega, hne3, ⟨hR.cnt.1, hc3⟩, hR.tl⟩, rfl, hS.sb⟩
    · repeat' (first|refine K ?_|(refine Sh.sa hS ?_;clear hS;intro w hS)|(refine K3 ?_;clear hS;intro g w hS hge)|(refine KB ?_ ?_<;>intro hb<;>(try simp only [JJ] at hb)<;>(try exact JX))|fail)
      refine Dntt Tryz.results161 ?_
      exact ⟨false, er, ps3, tr3, tA3, tc3, cnt3, rfl, ⟨hR.two, fun h => absurd h he, (fun h => by cases h), fun _ h => absurd h he, hR.len.trans (sv_len ..), hR.cnt, hR.tl⟩, hS.sb⟩
  · repeat' (first|refine K ?_|(refine Sh.sa hS ?_;clear hS;intro w hS)|(refine K3 ?_;clear hS;intro g w hS hge)|(refine KB ?_ ?_<;>intro hb<;>(try simp only [JJ] at hb)<;>(try exact JX))|fail)
    refine Dntt Tryz.results161 ?_
    exact ⟨true, er, ps3, tr3, tA3, tc3, cnt3, rfl, ⟨hR.two, hR.ok, hR.yes, (fun h => by cases h), hR.len.trans (sv_len ..), hR.cnt, hR.tl⟩, hS.sb⟩
end Go.Proofs.YtfmnjbhncnldmaaGreat
