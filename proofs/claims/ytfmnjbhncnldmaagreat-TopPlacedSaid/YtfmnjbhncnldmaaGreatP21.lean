import Derived.Test.YtfmnjbhncnldmaaGreatP20
set_option linter.unusedSimpArgs false
set_option linter.unusedVariables false
namespace Go.Proofs.YtfmnjbhncnldmaaGreat
open Go.RowKit
attribute [local irreducible] Res.blk Res.sl Res.all Res.ex Res.pure Res.star
def pbC (c : Cfg) (a : CAd) (mk : Int) (hd : Bool) : List Value := c.cl a ++ [.int .i64 mk, .bool hd]
def pbV (c : Cfg) (a : CAd) (mk : Int) (hd : Bool) : Value := .agg (pbC c a mk hd).toArray
def plR (p : Int × Int) : List Value := [.int .i64 p.1, .int .i64 p.2]
structure PlS (c : Cfg) (ps : List (Int × Int)) : Prop where
  len : ps.length = c.tenants.length
  rng : ∀ p, p ∈ ps → (-1 ≤ p.1 ∧ p.1 < c.cells.length) ∧ (-1 ≤ p.2 ∧ p.2 < c.cells.length)
set_option maxHeartbeats 4000000 in
theorem rfit_z (c : Cfg) (a : CAd) (mk : Int) (hd : Bool) (ps : List (Int × Int)) (v : Value) (r : World) (F : List Res) (w : World) (hS : Sep r [] F w) (hr : CfA r F c a) (hv : CfgV c) (hp : Reads r F 2 v (ps.map plR)) (hs : PlS c ps) :
    Calls Tryz.prog 319 #[pbV c a mk hd, v] w fun e w' => e = .returned (.bool true) ∧ Sep r [] F w' := by
  obtain ⟨A, cap, rfl, hcap⟩ := (hp [] w hS).mform
  have hl := hs.len
  have hk := hv.ok.k
  have ht := hv.ok.t
  refine Z.enter Tryz.func319 Tryz.ntmps319 rfl rfl ?_
  repeat' (first|refine K ?_|(refine Sh.sa hS ?_;clear hS;intro w hS)|(refine K3 ?_;clear hS;intro g w hS hge)|(refine KB ?_ ?_<;>intro hb<;>(try simp only [JJ] at hb)<;>(try exact JX))|fail)
  rename Nat => g
  refine Z.eff (Z.cl (nvalid_z c a _ _ _ hS (hr.cons _) hv) rfl ?_) rfl
  clear hS
  rintro e w ⟨rfl, hS⟩
  refine ⟨_, rfl, ?_⟩
  repeat' (first|refine K ?_|(refine Sh.sa hS ?_;clear hS;intro w hS)|(refine K3 ?_;clear hS;intro g w hS hge)|(refine KB ?_ ?_<;>intro hb<;>(try simp only [JJ] at hb)<;>(try exact JX))|fail)
  refine Z.lpS [4, 7, 27, 28, 29, 30, 31, 32, 33, 34, 35, 36, 37, 38, 39, 40, 41, 42, 43, 44, 45, 46, 47, 48, 49, 50, 51] (fun m w z => ∃ (i : Nat), z = [(27, .int .i64 i)] ∧ i ≤ ps.length ∧ m = ps.length - i ∧ Sep r [] (.blk g 84 (pbC c a mk hd) :: F) w) _ [(27, .int .i64 (0 : Nat))] TrF ⟨0, rfl, by omega, rfl, hS⟩ ?_
  clear hS
  rintro m f0 w _ ⟨i, rfl, hi, rfl, hS⟩
  by_cases hlt : i < ps.length
  · obtain ⟨gb, o, rfl, _, hra⟩ := (hp [_] w hS).mat (by omega) (q := i) (by simpa using hlt)
    have hra2 : w.rangeAt gb (o + i * 2) (plR ps[i]) := by simpa using hra
    clear hra
    have hin := hs.rng _ (List.getElem_mem hlt)
    generalize ps[i] = p at *
    repeat' (first|refine K ?_|(refine Sh.sa hS ?_;clear hS;intro w hS)|(refine K3 ?_;clear hS;intro g w hS hge)|(refine KB ?_ ?_<;>intro hb<;>(try simp only [JJ] at hb)<;>(try exact JX))|fail)
    refine Sh.again (ps.length - (i + 1)) [(27, .int .i64 (i + 1 : Nat))] ?_
    exact ⟨i + 1, rfl, by omega, rfl, hS.sb⟩
  · repeat' (first|refine K ?_|(refine Sh.sa hS ?_;clear hS;intro w hS)|(refine K3 ?_;clear hS;intro g w hS hge)|(refine KB ?_ ?_<;>intro hb<;>(try simp only [JJ] at hb)<;>(try exact JX))|fail)
    refine Dnt Tryz.results319 ?_
    exact ⟨rfl, hS.sb⟩
def bkT (l : List Int) (p : Int × Int) (d : Tn) : List Int := addP (addP l p.1 d.load) p.2 d.shadow
def bkN (c : Cfg) (ps : List (Int × Int)) (i : Nat) : List Int := ((List.zip ps c.tenants).take i).foldl (fun l q => bkT l q.1 q.2) (List.replicate c.cells.length 0)
theorem bkN_succ {c : Cfg} {ps : List (Int × Int)} {i : Nat} (h1 : i < ps.length) (h2 : i < c.tenants.length) : bkN c ps (i + 1) = bkT (bkN c ps i) ps[i] c.tenants[i] := by
  unfold bkN
  rw [List.take_succ_eq_append_getElem (by simp; omega), List.foldl_append]
  simp
theorem addP_neg {l : List Int} {i n : Int} (h : i < 0) : addP l i n = l := by
  unfold addP
  rw [if_neg (by omega)]
theorem bkN_ok {c : Cfg} (hv : CfgV c) (ps : List (Int × Int)) : ∀ i : Nat, (bkN c ps i).length = c.cells.length ∧ LB (bkN c ps i) (131072 * i)
  | 0 => ⟨by simp [bkN], fun x hx => by
      simp [bkN] at hx
      omega⟩
  | i + 1 => by
    obtain ⟨h1, h2⟩ := bkN_ok hv ps i
    by_cases h : i < ps.length ∧ i < c.tenants.length
    · rw [bkN_succ h.1 h.2]
      have ht := hv.tn _ (List.getElem_mem h.2)
      refine ⟨by unfold bkT; rw [addP_len, addP_len, h1], ?_⟩
      have h3 := addP_bd (addP_bd h2 (M := 65536) (n := c.tenants[i].load) (by omega) ps[i].1) (M := 65536) (n := c.tenants[i].shadow) (by omega) ps[i].2
      intro x hx
      have := h3 x hx
      omega
    · have e : bkN c ps (i + 1) = bkN c ps i := by
        unfold bkN
        rw [List.take_of_length_le (by simp; omega), List.take_of_length_le (by simp; omega)]
      rw [e]
      refine ⟨h1, fun x hx => ?_⟩
      have := h2 x hx
      omega
set_option maxHeartbeats 8000000 in
theorem rbooked_z (c : Cfg) (a : CAd) (mk : Int) (hd : Bool) (ps : List (Int × Int)) (v : Value) (r : World) (F : List Res) (w : World) (hS : Sep r [] F w) (hr : CfA r F c a) (hv : CfgV c) (hp : Reads r F 2 v (ps.map plR)) (hs : PlS c ps) :
    Calls Tryz.prog 320 #[pbV c a mk hd, v] w fun e w' => ∃ g5 : Nat, e = .returned (.slice (some ⟨g5, 0, none⟩) c.cells.length c.cells.length) ∧ Sep r [] (.sl 3 1 (.slice (some ⟨g5, 0, none⟩) c.cells.length c.cells.length) ((bkN c ps ps.length).map ztC) :: F) w' := by
  obtain ⟨A, cap, rfl, hcap⟩ := (hp [] w hS).mform
  have hl := hs.len
  have hk := hv.ok.k
  have ht := hv.ok.t
  refine Z.enter Tryz.func320 Tryz.ntmps320 rfl rfl ?_
  repeat' (first|refine K ?_|(refine Sh.sa hS ?_;clear hS;intro w hS)|(refine K3 ?_;clear hS;intro g w hS hge)|(refine KB ?_ ?_<;>intro hb<;>(try simp only [JJ] at hb)<;>(try exact JX))|fail)
  rename Nat => g
  refine Z.eff (Z.cl (rfit_z c a mk hd ps _ _ _ _ hS (hr.cons _) hv (hp.cons _) hs) rfl ?_) rfl
  clear hS
  rintro e w ⟨rfl, hS⟩
  refine ⟨_, rfl, ?_⟩
  repeat' (first|refine K ?_|(refine Sh.sa hS ?_;clear hS;intro w hS)|(refine K3 ?_;clear hS;intro g w hS hge)|(refine KB ?_ ?_<;>intro hb<;>(try simp only [JJ] at hb)<;>(try exact JX))|fail)
  refine Z.eff (Z.mks (l := c.cells.length) (c := c.cells.length) hS rfl rfl rfl (Nat.le_refl _) (by show 8 * c.cells.length ≤ 281474976710656; omega) (by unfold maxLen; omega) ?_) rfl
  clear hS; intro g5 w hS _
  replace hS := mk_sl (n := c.cells.length) (rows := (List.replicate c.cells.length (0 : Int)).map ztC) hS (by simp) (by omega) (by unfold maxLen; omega) (zt_ok _) (zerosL_int _)
  repeat' (first|refine K ?_|(refine Sh.sa hS ?_;clear hS;intro w hS)|(refine K3 ?_;clear hS;intro g w hS hge)|(refine KB ?_ ?_<;>intro hb<;>(try simp only [JJ] at hb)<;>(try exact JX))|fail)
  refine Z.lpS [6, 7, 19, 20, 21, 22, 23, 24, 25, 26, 27, 28, 29, 30, 31, 32, 33, 34, 35, 36, 37, 38, 39, 40, 41, 42, 43, 44, 45, 46, 47, 48, 49, 50, 51, 52, 53, 54, 55, 56, 57, 58] (fun m w z => ∃ (i : Nat), z = [(19, .int .i64 i)] ∧ i ≤ ps.length ∧ m = ps.length - i ∧ Sep r [] (.sl 3 1 (.slice (some ⟨g5, 0, none⟩) c.cells.length c.cells.length) ((bkN c ps i).map ztC) :: .blk g 84 (pbC c a mk hd) :: F) w) _ [(19, .int .i64 (0 : Nat))] TrF ⟨0, rfl, by omega, rfl, hS⟩ ?_
  clear hS
  rintro m f0 w _ ⟨i, rfl, hi, rfl, hS⟩
  by_cases hlt : i < ps.length
  rotate_left
  · obtain rfl : i = ps.length := by omega
    repeat' (first|refine K ?_|(refine Sh.sa hS ?_;clear hS;intro w hS)|(refine K3 ?_;clear hS;intro g w hS hge)|(refine KB ?_ ?_<;>intro hb<;>(try simp only [JJ] at hb)<;>(try exact JX))|fail)
    refine Dnt Tryz.results320 ?_
    exact ⟨g5, rfl, hS.sb⟩
  have hlt2 : i < c.tenants.length := by omega
  obtain ⟨gb, o, rfl, _, hra⟩ := (hp [_, _] w hS).mat (by omega) (q := i) (by simpa using hlt)
  have hra2 : w.rangeAt gb (o + i * 2) (plR ps[i]) := by simpa using hra
  clear hra
  have hin := hs.rng _ (List.getElem_mem hlt)
  have htn := hv.tn _ (List.getElem_mem hlt2)
  obtain ⟨hbl, hbB⟩ := bkN_ok hv ps i
  have hsucc := bkN_succ hlt hlt2
  obtain ⟨gc, o2, hA2, _⟩ := reads_tn hr.cf [_, _] hS hlt2
  have hrt : ∀ L W, Sep r [] (L ++ F) W → W.rangeAt gc (o2 + i * 7) (c.tenants[i]).cells := fun L W hW => at_tn hr.cf L hW hA2 hlt2
  generalize ps[i] = p at *
  generalize c.tenants[i] = d at *
  generalize bkN c ps i = l at *
  obtain ⟨p1, p2⟩ := p
  simp only at hin
  have row : ∀ (l : List Int), l.length = c.cells.length → ∀ (q : Nat) (hq : q < l.length) L W, Sep r [] L W → ∀ {k}, At L k (.sl 3 1 (.slice (some ⟨g5, 0, none⟩) c.cells.length c.cells.length) (l.map ztC)) → W.rangeAt g5 (0 + q * 1) (ztC l[q]) := fun l hl q hq L W hW k ha => by
    have h3 := (hW.slrows ha).elem (q := q) (by omega) (by simpa using hq)
    simpa using h3
  have fin : ∀ (l1 : List Int), addP (addP l p1 d.load) p2 d.shadow = l1 → bkN c ps (i + 1) = l1 := fun l1 h => hsucc.trans h
  obtain ⟨l1, hl1⟩ : ∃ l1, addP l p1 d.load = l1 := ⟨_, rfl⟩
  have hlen1 : l1.length = c.cells.length := by rw [← hl1, addP_len, hbl]
  have hB1 : LB l1 (131072 * i + 65536) := by rw [← hl1]; exact addP_bd hbB (by omega) p1
  have hneg1 : p1 < 0 → l1 = l := fun h => hl1.symm.trans (addP_neg h)
  obtain ⟨zA, zc, kA, kc, tA, tc, vA, vc, rA, rc, oA, oc⟩ := a
  simp only at hA2
  subst hA2
  repeat' (first|refine K ?_|(refine Sh.sa hS ?_;clear hS;intro w hS)|(refine K3 ?_;clear hS;intro g w hS hge)|(refine KB ?_ ?_<;>intro hb<;>(try simp only [JJ] at hb)<;>(try exact JX))|fail)
  · rename Nat => g7
    obtain ⟨q1, rfl⟩ := Int.eq_ofNat_of_zero_le (show 0 ≤ p1 by omega)
    have hq1 : q1 < l.length := by omega
    have hy := hbB _ (List.getElem_mem hq1)
    have hrow := row l hbl q1 hq1
    have hadd : l1 = l.set q1 (l[q1] + d.load) := by
      rw [← hl1]
      unfold addP
      rw [if_pos (by omega)]
      simp [List.getD_eq_getElem?_getD, hq1]
    generalize l[q1] = y at *
    refine D.startS (Lr := (.blk g7 92 (plR ((q1 : Int), p2)) :: .blk g 84 (pbC c _ mk hd) :: F)) (hS.sb) 14 15 (by kernel_rfl) rfl ?_
    replace hS := hS.drew
    refine Sh.dp 0 1 ?_
    refine Sh.dp 1 3 ?_
    refine Sh.dp 5 35 ?_
    refine Sh.dp 6 99 ?_
    refine Sh.dp 8 355 ?_
    refine Sh.dl 2 359 ?_
    first | refine D.ixn 3 367 rfl D.wantedN (by kernel_rfl) rfl rfl rfl (by omega) ?_ | refine D.ix 3 367 rfl D.wantedN (by kernel_rfl) rfl rfl rfl (by omega) ?_ | refine D.ia 3 367 rfl D.wantedN (by kernel_rfl) rfl rfl rfl (by omega) ?_
    refine Sh.dl 7 495 ?_
    first | refine D.ixn 9 1007 rfl D.wantedN (by kernel_rfl) rfl rfl rfl (by omega) ?_ | refine D.ix 9 1007 rfl D.wantedN (by kernel_rfl) rfl rfl rfl (by omega) ?_ | refine D.ia 9 1007 rfl D.wantedN (by kernel_rfl) rfl rfl rfl (by omega) ?_
    refine Sh.dp 10 2031 ?_
    refine D.ldE 11 4079 rfl D.wantedN (by kernel_rfl) rfl (hrt [_, _]) rfl ?_
    refine D.ef 4 4095 ?_
    refine Z.ldR rfl (hrow _ _ hS AtF) rfl ?_
    refine HMs ?_
    first | refine D.sum 12 8191 rfl D.wantedN (by kernel_rfl) rfl (by constructor <;> omega) ?_ | refine D.sumW 12 8191 rfl D.wantedN (by kernel_rfl) rfl ?_
    first | refine D.ixn 13 16383 rfl D.wantedN (by kernel_rfl) rfl rfl rfl (by omega) ?_ | refine D.ix 13 16383 rfl D.wantedN (by kernel_rfl) rfl rfl rfl (by omega) ?_ | refine D.ia 13 16383 rfl D.wantedN (by kernel_rfl) rfl rfl rfl (by omega) ?_
    refine D.ef 14 32767 ?_
    refine Z.stF (sz := 1) (j := 0) (y + d.load) hS rfl AtF hq1 rfl rfl rfl (by omega) rfl ?_
    clear hS; intro w hS
    rw [← hadd] at hS
    refine ⟨HM.last (by kernel_rfl), ?_⟩
    refine D.done (by kernel_rfl) ?_
    repeat' (first|refine K ?_|(refine Sh.sa hS ?_;clear hS;intro w hS)|(refine K3 ?_;clear hS;intro g w hS hge)|(refine KB ?_ ?_<;>intro hb<;>(try simp only [JJ] at hb)<;>(try exact JX))|fail)
    · obtain ⟨q2, rfl⟩ := Int.eq_ofNat_of_zero_le (show 0 ≤ p2 by omega)
      have hq2 : q2 < l1.length := by omega
      have hy2 := hB1 _ (List.getElem_mem hq2)
      have hrow2 := row l1 hlen1 q2 hq2
      have hadd2 : addP l1 (q2 : Nat) d.shadow = l1.set q2 (l1[q2] + d.shadow) := by
        unfold addP
        rw [if_pos (by omega)]
        simp [List.getD_eq_getElem?_getD, hq2]
      generalize l1[q2] = y2 at *
      refine D.startS (Lr := (.blk g7 92 (plR ((q1 : Int), (q2 : Int))) :: .blk g 84 (pbC c _ mk hd) :: F)) (hS.sb) 14 15 (by kernel_rfl) rfl ?_
      replace hS := hS.drew
      refine Sh.dp 0 1 ?_
      refine Sh.dp 1 3 ?_
      refine Sh.dp 5 35 ?_
      refine Sh.dp 6 99 ?_
      refine Sh.dp 8 355 ?_
      refine Sh.dl 2 359 ?_
      first | refine D.ixn 3 367 rfl D.wantedN (by kernel_rfl) rfl rfl rfl (by omega) ?_ | refine D.ix 3 367 rfl D.wantedN (by kernel_rfl) rfl rfl rfl (by omega) ?_ | refine D.ia 3 367 rfl D.wantedN (by kernel_rfl) rfl rfl rfl (by omega) ?_
      refine Sh.dl 7 495 ?_
      first | refine D.ixn 9 1007 rfl D.wantedN (by kernel_rfl) rfl rfl rfl (by omega) ?_ | refine D.ix 9 1007 rfl D.wantedN (by kernel_rfl) rfl rfl rfl (by omega) ?_ | refine D.ia 9 1007 rfl D.wantedN (by kernel_rfl) rfl rfl rfl (by omega) ?_
      refine Sh.dp 10 2031 ?_
      refine D.ldE 11 4079 rfl D.wantedN (by kernel_rfl) rfl (hrt [_, _]) rfl ?_
      refine D.ef 4 4095 ?_
      refine Z.ldR rfl (hrow2 _ _ hS AtF) rfl ?_
      refine HMs ?_
      first | refine D.sum 12 8191 rfl D.wantedN (by kernel_rfl) rfl (by constructor <;> omega) ?_ | refine D.sumW 12 8191 rfl D.wantedN (by kernel_rfl) rfl ?_
      first | refine D.ixn 13 16383 rfl D.wantedN (by kernel_rfl) rfl rfl rfl (by omega) ?_ | refine D.ix 13 16383 rfl D.wantedN (by kernel_rfl) rfl rfl rfl (by omega) ?_ | refine D.ia 13 16383 rfl D.wantedN (by kernel_rfl) rfl rfl rfl (by omega) ?_
      refine D.ef 14 32767 ?_
      refine Z.stF (sz := 1) (j := 0) (y2 + d.shadow) hS rfl AtF hq2 rfl rfl rfl (by omega) rfl ?_
      clear hS; intro w hS
      rw [← hadd2] at hS
      refine ⟨HM.last (by kernel_rfl), ?_⟩
      refine D.done (by kernel_rfl) ?_
      repeat' (first|refine K ?_|(refine Sh.sa hS ?_;clear hS;intro w hS)|(refine K3 ?_;clear hS;intro g w hS hge)|(refine KB ?_ ?_<;>intro hb<;>(try simp only [JJ] at hb)<;>(try exact JX))|fail)
      refine Sh.again (ps.length - (i + 1)) [(19, .int .i64 (i + 1 : Nat))] ?_
      refine ⟨i + 1, rfl, by omega, rfl, ?_⟩
      rw [fin _ rfl, hl1]
      exact hS.sb
    · refine Sh.again (ps.length - (i + 1)) [(19, .int .i64 (i + 1 : Nat))] ?_
      refine ⟨i + 1, rfl, by omega, rfl, ?_⟩
      rw [fin _ rfl, hl1, addP_neg (by omega)]
      exact hS.sb
  · rename Nat => g7
    obtain rfl := hneg1 (by omega)
    obtain ⟨q2, rfl⟩ := Int.eq_ofNat_of_zero_le (show 0 ≤ p2 by omega)
    have hq2 : q2 < l1.length := by omega
    have hy2 := hB1 _ (List.getElem_mem hq2)
    have hrow2 := row l1 hlen1 q2 hq2
    have hadd2 : addP l1 (q2 : Nat) d.shadow = l1.set q2 (l1[q2] + d.shadow) := by
      unfold addP
      rw [if_pos (by omega)]
      simp [List.getD_eq_getElem?_getD, hq2]
    generalize l1[q2] = y2 at *
    refine D.startS (Lr := (.blk g7 92 (plR (p1, (q2 : Int))) :: .blk g 84 (pbC c _ mk hd) :: F)) (hS.sb) 14 15 (by kernel_rfl) rfl ?_
    replace hS := hS.drew
    refine Sh.dp 0 1 ?_
    refine Sh.dp 1 3 ?_
    refine Sh.dp 5 35 ?_
    refine Sh.dp 6 99 ?_
    refine Sh.dp 8 355 ?_
    refine Sh.dl 2 359 ?_
    first | refine D.ixn 3 367 rfl D.wantedN (by kernel_rfl) rfl rfl rfl (by omega) ?_ | refine D.ix 3 367 rfl D.wantedN (by kernel_rfl) rfl rfl rfl (by omega) ?_ | refine D.ia 3 367 rfl D.wantedN (by kernel_rfl) rfl rfl rfl (by omega) ?_
    refine Sh.dl 7 495 ?_
    first | refine D.ixn 9 1007 rfl D.wantedN (by kernel_rfl) rfl rfl rfl (by omega) ?_ | refine D.ix 9 1007 rfl D.wantedN (by kernel_rfl) rfl rfl rfl (by omega) ?_ | refine D.ia 9 1007 rfl D.wantedN (by kernel_rfl) rfl rfl rfl (by omega) ?_
    refine Sh.dp 10 2031 ?_
    refine D.ldE 11 4079 rfl D.wantedN (by kernel_rfl) rfl (hrt [_, _]) rfl ?_
    refine D.ef 4 4095 ?_
    refine Z.ldR rfl (hrow2 _ _ hS AtF) rfl ?_
    refine HMs ?_
    first | refine D.sum 12 8191 rfl D.wantedN (by kernel_rfl) rfl (by constructor <;> omega) ?_ | refine D.sumW 12 8191 rfl D.wantedN (by kernel_rfl) rfl ?_
    first | refine D.ixn 13 16383 rfl D.wantedN (by kernel_rfl) rfl rfl rfl (by omega) ?_ | refine D.ix 13 16383 rfl D.wantedN (by kernel_rfl) rfl rfl rfl (by omega) ?_ | refine D.ia 13 16383 rfl D.wantedN (by kernel_rfl) rfl rfl rfl (by omega) ?_
    refine D.ef 14 32767 ?_
    refine Z.stF (sz := 1) (j := 0) (y2 + d.shadow) hS rfl AtF hq2 rfl rfl rfl (by omega) rfl ?_
    clear hS; intro w hS
    rw [← hadd2] at hS
    refine ⟨HM.last (by kernel_rfl), ?_⟩
    refine D.done (by kernel_rfl) ?_
    repeat' (first|refine K ?_|(refine Sh.sa hS ?_;clear hS;intro w hS)|(refine K3 ?_;clear hS;intro g w hS hge)|(refine KB ?_ ?_<;>intro hb<;>(try simp only [JJ] at hb)<;>(try exact JX))|fail)
    refine Sh.again (ps.length - (i + 1)) [(19, .int .i64 (i + 1 : Nat))] ?_
    refine ⟨i + 1, rfl, by omega, rfl, ?_⟩
    rw [fin _ rfl, hl1]
    exact hS.sb
  · obtain rfl := hneg1 (by omega)
    refine Sh.again (ps.length - (i + 1)) [(19, .int .i64 (i + 1 : Nat))] ?_
    refine ⟨i + 1, rfl, by omega, rfl, ?_⟩
    rw [fin _ rfl, hl1, addP_neg (by omega)]
    exact hS.sb
structure Br where
  rule : Int
  tenant : Int
  other : Int
  cell : Int
  region : Int
def Br.cells (b : Br) : List Value := [.int .i64 b.rule, .int .i64 b.tenant, .int .i64 b.other, .int .i64 b.cell, .int .i64 b.region]
def cOk (f : Nat → Nat → Bool) (i : Nat) (x : Int) : Prop := x = -1 ∨ f i x.toNat = false
set_option maxHeartbeats 8000000 in
theorem reach_z (rl : Int) (f : Nat → Nat → Bool) (FC : FuncId) [HasF Tryz.prog FC] (caps : List Value) (ps : List (Int × Int)) (v : Value) (n : Nat) (r : World) (F : List Res) (w : World) (hS : Sep r [] F w) (hp : Reads r F 2 v (ps.map plR)) (hl : ps.length ≤ 100) (hin : ∀ p, p ∈ ps → (-1 ≤ p.1 ∧ p.1 < n) ∧ (-1 ≤ p.2 ∧ p.2 < n))
    (hf : ∀ (L : List Res) (w : World) (i x : Nat), i < ps.length → x < n → Sep r [] (L ++ F) w → Calls Tryz.prog FC (.int .i64 i :: .int .i64 x :: caps).toArray w fun e w' => e = .returned (.bool (f i x)) ∧ Sep r [] (L ++ F) w') :
    Calls Tryz.prog 380 #[.int .i64 rl, v, .func (.func FC) #[] caps.toArray] w fun e w' => ∃ (A : Option Addr) (cap : Nat) (bs : List Br), e = .returned (.slice A bs.length cap) ∧ (bs.length ≤ 2 * ps.length ∧ (bs = [] → ∀ i (h : i < ps.length), cOk f i ps[i].1 ∧ cOk f i ps[i].2)) ∧ Sep r [] (.sl 360 5 (.slice A bs.length cap) (bs.map Br.cells) :: F) w' := by
  obtain ⟨Ap, cp, rfl, hcap⟩ := (hp [] w hS).mform
  refine Z.enter Tryz.func380 Tryz.ntmps380 rfl rfl ?_
  repeat' (first|refine K ?_|(refine Sh.sa hS ?_;clear hS;intro w hS)|(refine K3 ?_;clear hS;intro g w hS hge)|(refine KB ?_ ?_<;>intro hb<;>(try simp only [JJ] at hb)<;>(try exact JX))|fail)
  replace hS := Z.nilsl hS 360 5 none
  refine Z.lpS [7, 8, 9, 11, 14, 15, 16, 17, 18, 19, 20, 21, 22, 23, 24, 25, 26, 27, 28, 29, 30, 31, 32, 33, 34, 35, 36, 37, 38, 39, 40, 41, 42, 43, 44, 45] (fun m w z => ∃ (i : Nat) (A : Option Addr) (cap : Nat) (bs : List Br), z = [(7, .slice A bs.length cap), (14, .int .i64 i)] ∧ i ≤ ps.length ∧ (bs.length ≤ 2 * i ∧ (bs = [] → ∀ q (h : q < ps.length), q < i → cOk f q ps[q].1 ∧ cOk f q ps[q].2)) ∧ m = ps.length - i ∧ Sep r [] (.sl 360 5 (.slice A bs.length cap) (bs.map Br.cells) :: F) w) _ [(7, .slice none 0 0), (14, .int .i64 (0 : Nat))] TrF ⟨0, none, 0, [], rfl, by omega, ⟨by simp, fun _ q _ h => absurd h (by omega)⟩, rfl, hS⟩ ?_
  clear hS
  rintro m f0 w _ ⟨i, A, cap, bs, rfl, hi, ⟨hbl, hbs⟩, rfl, hS⟩
  by_cases hlt : i < ps.length
  rotate_left
  · repeat' (first|refine K ?_|(refine Sh.sa hS ?_;clear hS;intro w hS)|(refine K3 ?_;clear hS;intro g w hS hge)|(refine KB ?_ ?_<;>intro hb<;>(try simp only [JJ] at hb)<;>(try exact JX))|fail)
    refine Dnt Tryz.results380 ?_
    exact ⟨A, cap, bs, rfl, ⟨by omega, fun h q hq => hbs h q hq (by omega)⟩, hS.sb⟩
  obtain ⟨gb, o, rfl, _, hra⟩ := (hp [_] w hS).mat (by omega) (q := i) (by simpa using hlt)
  have hra2 : w.rangeAt gb (o + i * 2) (plR ps[i]) := by simpa using hra
  clear hra
  have hi2 := hin _ (List.getElem_mem hlt)
  have hstep : ∀ bs' : List Br, (bs' = [] → bs = [] ∧ cOk f i ps[i].1 ∧ cOk f i ps[i].2) → bs' = [] → ∀ q (h : q < ps.length), q < i + 1 → cOk f q ps[q].1 ∧ cOk f q ps[q].2 := fun bs' h1 h2 q hq hq2 => by
    obtain ⟨h3, h4⟩ := h1 h2
    by_cases e : q = i
    · subst e
      exact h4
    · exact hbs h3 q hq (by omega)
  generalize ps[i] = p at *
  obtain ⟨p1, p2⟩ := p
  simp only at hi2 hstep
  repeat' (first|refine K ?_|(refine Sh.sa hS ?_;clear hS;intro w hS)|(refine K3 ?_;clear hS;intro g w hS hge)|(refine KB ?_ ?_<;>intro hb<;>(try simp only [JJ] at hb)<;>(try exact JX))|fail)
  rename_i g9 _ _ _
  rename Nat => gl
  replace hS := mk_sl (sz := 1) (n := 2) (rows := [p1, p2].map ztC) hS rfl (by omega) (by decide) (zt_ok _) rfl
  refine Z.lpS [7, 11, 25, 26, 27, 28, 29, 30, 31, 32, 33, 34, 35, 36, 37, 38, 39, 40, 41, 42, 43, 44] (fun m w z => ∃ (j : Nat) (A : Option Addr) (cap : Nat) (bt : List Br), z = [(7, .slice A bt.length cap), (25, .int .i64 j)] ∧ j ≤ 2 ∧ (bt.length ≤ bs.length + j ∧ (bt = [] → bs = [] ∧ ∀ x, x ∈ [p1, p2].take j → cOk f i x)) ∧ m = 2 - j ∧ Sep r [] (.sl 360 5 (.slice A bt.length cap) (bt.map Br.cells) :: .sl 3 1 (.slice (some ⟨gl, 0, none⟩) 2 2) ([p1, p2].map ztC) :: .blk g9 92 (plR (p1, p2)) :: F) w) _ [(7, .slice A bs.length cap), (25, .int .i64 (0 : Nat))] TrF ⟨0, A, cap, bs, rfl, by omega, ⟨by omega, fun h => ⟨h, by simp⟩⟩, rfl, hS.sb⟩ ?_
  clear hS
  rintro m f1 w _ ⟨j, A, cap, bt, rfl, hj, ⟨htl, hts⟩, rfl, hS⟩
  by_cases hj2 : j < 2
  rotate_left
  · obtain rfl : j = 2 := by omega
    repeat' (first|refine K ?_|(refine Sh.sa hS ?_;clear hS;intro w hS)|(refine K3 ?_;clear hS;intro g w hS hge)|(refine KB ?_ ?_<;>intro hb<;>(try simp only [JJ] at hb)<;>(try exact JX))|fail)
    refine Sh.again (ps.length - (i + 1)) [(7, .slice A bt.length cap), (14, .int .i64 (i + 1 : Nat))] ?_
    exact ⟨i + 1, A, cap, bt, rfl, by omega, ⟨by omega, hstep bt fun h => by
      obtain ⟨h1, h2⟩ := hts h
      exact ⟨h1, h2 p1 (by simp), h2 p2 (by simp)⟩⟩, rfl, hS.sb⟩
  have hjl : j < [p1, p2].length := by simpa using hj2
  have hra3 : w.rangeAt gl (0 + j * 1) (ztC [p1, p2][j]) := by
    have h3 := (hS.slrows (.next .here)).elem (q := j) (by omega) (by simpa using hjl)
    simpa using h3
  have hx : (-1 ≤ [p1, p2][j] ∧ [p1, p2][j] < n) := by
    rcases (by omega : j = 0 ∨ j = 1) with rfl | rfl
    · exact hi2.1
    · exact hi2.2
  have hsn : ∀ bt' : List Br, (bt' = [] → bt = [] ∧ cOk f i [p1, p2][j]) → bt' = [] → bs = [] ∧ ∀ x, x ∈ [p1, p2].take (j + 1) → cOk f i x := fun bt' h1 h2 => by
    obtain ⟨h3, h4⟩ := h1 h2
    obtain ⟨h5, h6⟩ := hts h3
    refine ⟨h5, fun x hx => ?_⟩
    rw [List.take_succ_eq_append_getElem hjl, List.mem_append] at hx
    rcases hx with hx | hx
    · exact h6 x hx
    · simp only [List.mem_singleton] at hx
      subst hx
      exact h4
  generalize [p1, p2][j] = x at *
  repeat' (first|refine K ?_|(refine Sh.sa hS ?_;clear hS;intro w hS)|(refine K3 ?_;clear hS;intro g w hS hge)|(refine KB ?_ ?_<;>intro hb<;>(try simp only [JJ] at hb)<;>(try exact JX))|fail)
  · obtain ⟨x, rfl⟩ := Int.eq_ofNat_of_zero_le (show 0 ≤ x by omega)
    refine Z.eff (Z.clf (caps := caps) rfl (hf [_, _, _] w i x hlt (by omega) hS) rfl ?_) rfl
    clear hS
    rintro e w ⟨rfl, hS⟩
    refine ⟨_, rfl, ?_⟩
    repeat' (first|refine K ?_|(refine Sh.sa hS ?_;clear hS;intro w hS)|(refine K3 ?_;clear hS;intro g w hS hge)|(refine KB ?_ ?_<;>intro hb<;>(try simp only [JJ] at hb)<;>(try exact JX))|fail)
    · refine Z.eff (Z.apm (fc := Br.cells) (l := bt) (l' := [(⟨rl, i, -1, x, -1⟩ : Br)]) hS rfl rfl rfl AtF (hS.lit1 AtF rfl rfl) LnF LnF ?_) rfl
      clear hS; intro A' c' w hS
      rw [← List.length_append] at hS ⊢
      repeat' (first|refine K ?_|(refine Sh.sa hS ?_;clear hS;intro w hS)|(refine K3 ?_;clear hS;intro g w hS hge)|(refine KB ?_ ?_<;>intro hb<;>(try simp only [JJ] at hb)<;>(try exact JX))|fail)
      refine Sh.again (2 - (j + 1)) [(7, .slice A' (bt ++ [(⟨rl, i, -1, x, -1⟩ : Br)]).length c'), (25, .int .i64 (j + 1 : Nat))] ?_
      exact ⟨j + 1, A', c', _, rfl, by omega, ⟨by simp; omega, fun h => by simp at h⟩, rfl, hS.sb⟩
    · refine Sh.again (2 - (j + 1)) [(7, .slice A bt.length cap), (25, .int .i64 (j + 1 : Nat))] ?_
      exact ⟨j + 1, A, cap, bt, rfl, by omega, ⟨by omega, hsn bt fun h => ⟨h, .inr (by simpa using hb)⟩⟩, rfl, hS.sb⟩
  · refine Sh.again (2 - (j + 1)) [(7, .slice A bt.length cap), (25, .int .i64 (j + 1 : Nat))] ?_
    exact ⟨j + 1, A, cap, bt, rfl, by omega, ⟨by omega, hsn bt fun h => ⟨h, .inl (by omega)⟩⟩, rfl, hS.sb⟩
def pOk (f : Nat → Nat → Bool) (i j : Nat) (x y : Int) : Prop := x = -1 ∨ y = -1 ∨ f i j = false
set_option maxHeartbeats 8000000 in
theorem rpairs_z (rl : Int) (f : Nat → Nat → Bool) (FC : FuncId) [HasF Tryz.prog FC] (caps : List Value) (ps : List (Int × Int)) (v : Value) (r : World) (F : List Res) (w : World) (hS : Sep r [] F w) (hp : Reads r F 2 v (ps.map plR)) (hl : ps.length ≤ 100)
    (hf : ∀ (L : List Res) (w : World) (i j : Nat) (hi : i < ps.length) (hj : j < ps.length), ps[i].1 ≠ -1 → ps[j].1 ≠ -1 → Sep r [] (L ++ F) w → Calls Tryz.prog FC (.int .i64 i :: .int .i64 j :: caps).toArray w fun e w' => e = .returned (.bool (f i j)) ∧ Sep r [] (L ++ F) w') :
    Calls Tryz.prog 384 #[.int .i64 rl, v, .func (.func FC) #[] caps.toArray] w fun e w' => ∃ (A : Option Addr) (cap : Nat) (bs : List Br), e = .returned (.slice A bs.length cap) ∧ (bs.length ≤ 100 * ps.length ∧ (bs = [] → ∀ i (h : i < ps.length), ∀ j (hj : j < i), pOk f i j ps[i].1 ps[j].1)) ∧ Sep r [] (.sl 360 5 (.slice A bs.length cap) (bs.map Br.cells) :: F) w' := by
  obtain ⟨Ap, cp, rfl, hcap⟩ := (hp [] w hS).mform
  refine Z.enter Tryz.func384 Tryz.ntmps384 rfl rfl ?_
  repeat' (first|refine K ?_|(refine Sh.sa hS ?_;clear hS;intro w hS)|(refine K3 ?_;clear hS;intro g w hS hge)|(refine KB ?_ ?_<;>intro hb<;>(try simp only [JJ] at hb)<;>(try exact JX))|fail)
  replace hS := Z.nilsl hS 360 5 none
  refine Z.lpS [7, 8, 9, 12, 13, 14, 15, 16, 17, 18, 19, 20, 21, 22, 23, 24, 25, 26, 27, 28, 29, 30, 31, 32, 33, 34, 35, 36, 37, 38, 39, 40, 41, 42, 43, 44, 45, 46, 47, 48, 49, 50, 51, 52] (fun m w z => ∃ (i : Nat) (A : Option Addr) (cap : Nat) (bs : List Br), z = [(7, .slice A bs.length cap), (12, .int .i64 i)] ∧ i ≤ ps.length ∧ (bs.length ≤ 100 * i ∧ (bs = [] → ∀ q (h : q < ps.length), q < i → ∀ j (hj : j < q), pOk f q j ps[q].1 ps[j].1)) ∧ m = ps.length - i ∧ Sep r [] (.sl 360 5 (.slice A bs.length cap) (bs.map Br.cells) :: F) w) _ [(7, .slice none 0 0), (12, .int .i64 (0 : Nat))] TrF ⟨0, none, 0, [], rfl, by omega, ⟨by simp, fun _ q _ h => absurd h (by omega)⟩, rfl, hS⟩ ?_
  clear hS
  rintro m f0 w _ ⟨i, A, cap, bs, rfl, hi, ⟨hbl, hbs⟩, rfl, hS⟩
  by_cases hlt : i < ps.length
  rotate_left
  · repeat' (first|refine K ?_|(refine Sh.sa hS ?_;clear hS;intro w hS)|(refine K3 ?_;clear hS;intro g w hS hge)|(refine KB ?_ ?_<;>intro hb<;>(try simp only [JJ] at hb)<;>(try exact JX))|fail)
    refine Dnt Tryz.results384 ?_
    exact ⟨A, cap, bs, rfl, ⟨by omega, fun h q hq => hbs h q hq (by omega)⟩, hS.sb⟩
  obtain ⟨gb, o, rfl, _, _⟩ := (hp [_] w hS).mat (by omega) (q := i) (by simpa using hlt)
  have rows : ∀ L W, Sep r [] (L ++ F) W → ∀ q (hq : q < ps.length), W.rangeAt gb (o + q * 2) (plR ps[q]) := fun L W hW q hq => by
    have h3 := (hp L W hW).elem (q := q) (by omega) (by simpa using hq)
    simpa using h3
  repeat' (first|refine K ?_|(refine Sh.sa hS ?_;clear hS;intro w hS)|(refine K3 ?_;clear hS;intro g w hS hge)|(refine KB ?_ ?_<;>intro hb<;>(try simp only [JJ] at hb)<;>(try exact JX))|fail)
  refine Z.lpS [7, 9, 16, 17, 18, 19, 20, 21, 22, 23, 24, 25, 26, 27, 28, 29, 30, 31, 32, 33, 34, 35, 36, 37, 38, 39, 40, 41, 42, 43, 44, 45, 46, 47, 48, 49, 50, 51] (fun m w z => ∃ (j : Nat) (A : Option Addr) (cap : Nat) (bt : List Br), z = [(7, .slice A bt.length cap), (16, .int .i64 j)] ∧ j ≤ i ∧ (bt.length ≤ bs.length + j ∧ (bt = [] → bs = [] ∧ ∀ q (hq : q < i), q < j → pOk f i q ps[i].1 ps[q].1)) ∧ m = i - j ∧ Sep r [] (.sl 360 5 (.slice A bt.length cap) (bt.map Br.cells) :: F) w) _ [(7, .slice A bs.length cap), (16, .int .i64 (0 : Nat))] TrF ⟨0, A, cap, bs, rfl, by omega, ⟨by omega, fun h => ⟨h, fun q _ h => absurd h (by omega)⟩⟩, rfl, hS.sb⟩ ?_
  clear hS
  rintro m f1 w _ ⟨j, A, cap, bt, rfl, hj, ⟨htl, hts⟩, rfl, hS⟩
  by_cases hj2 : j < i
  rotate_left
  · obtain rfl : j = i := by omega
    repeat' (first|refine K ?_|(refine Sh.sa hS ?_;clear hS;intro w hS)|(refine K3 ?_;clear hS;intro g w hS hge)|(refine KB ?_ ?_<;>intro hb<;>(try simp only [JJ] at hb)<;>(try exact JX))|fail)
    refine Sh.again (ps.length - (j + 1)) [(7, .slice A bt.length cap), (12, .int .i64 (j + 1 : Nat))] ?_
    exact ⟨j + 1, A, cap, bt, rfl, by omega, ⟨by omega, fun h q hq hq2 => by
      obtain ⟨h1, h2⟩ := hts h
      by_cases e : q = j
      · subst e
        exact fun k hk => h2 k hk hk
      · exact hbs h1 q hq (by omega)⟩, rfl, hS.sb⟩
  have hra1 := rows [_] w hS i hlt
  have hra2 := rows [_] w hS j (by omega)
  have hf' := hf [.sl 360 5 (.slice A bt.length cap) (bt.map Br.cells)] w i j hlt (by omega)
  have hsn : ∀ bt' : List Br, (bt' = [] → bt = [] ∧ pOk f i j ps[i].1 ps[j].1) → bt' = [] → bs = [] ∧ ∀ q (hq : q < i), q < j + 1 → pOk f i q ps[i].1 ps[q].1 := fun bt' h1 h2 => by
    obtain ⟨h3, h4⟩ := h1 h2
    obtain ⟨h5, h6⟩ := hts h3
    refine ⟨h5, fun q hq hq2 => ?_⟩
    by_cases e : q = j
    · subst e
      exact h4
    · exact h6 q hq (by omega)
  have hw1 : ∀ W, Sep r [] (.sl 360 5 (.slice A bt.length cap) (bt.map Br.cells) :: F) W → W.rangeAt gb (o + j * 2) (plR ps[j]) := fun W hW => rows [_] W hW j (by omega)
  generalize ps[i] = p at *
  generalize ps[j] = p' at *
  repeat' (first|refine K ?_|(refine Sh.sa hS ?_;clear hS;intro w hS)|(refine K3 ?_;clear hS;intro g w hS hge)|(refine KB ?_ ?_<;>intro hb<;>(try simp only [JJ] at hb)<;>(try exact JX))|fail)
  · refine Z.eff (Z.clf (caps := caps) rfl (hf' (by omega) (by omega) hS) rfl ?_) rfl
    clear hS
    rintro e w ⟨rfl, hS⟩
    refine ⟨_, rfl, ?_⟩
    simp only [List.cons_append, List.nil_append] at hS
    have hra3 := hw1 w hS
    repeat' (first|refine K ?_|(refine Sh.sa hS ?_;clear hS;intro w hS)|(refine K3 ?_;clear hS;intro g w hS hge)|(refine KB ?_ ?_<;>intro hb<;>(try simp only [JJ] at hb)<;>(try exact JX))|fail)
    · refine Z.eff (Z.apm (fc := Br.cells) (l := bt) (l' := [(⟨rl, i, j, p'.1, -1⟩ : Br)]) hS rfl rfl rfl AtF (hS.lit1 AtF rfl rfl) LnF LnF ?_) rfl
      clear hS; intro A' c' w hS
      rw [← List.length_append] at hS ⊢
      repeat' (first|refine K ?_|(refine Sh.sa hS ?_;clear hS;intro w hS)|(refine K3 ?_;clear hS;intro g w hS hge)|(refine KB ?_ ?_<;>intro hb<;>(try simp only [JJ] at hb)<;>(try exact JX))|fail)
      refine Sh.again (i - (j + 1)) [(7, .slice A' (bt ++ [(⟨rl, i, j, p'.1, -1⟩ : Br)]).length c'), (16, .int .i64 (j + 1 : Nat))] ?_
      exact ⟨j + 1, A', c', _, rfl, by omega, ⟨by simp; omega, fun h => by simp at h⟩, rfl, hS.sb⟩
    · refine Sh.again (i - (j + 1)) [(7, .slice A bt.length cap), (16, .int .i64 (j + 1 : Nat))] ?_
      exact ⟨j + 1, A, cap, bt, rfl, by omega, ⟨by omega, hsn bt fun h => ⟨h, .inr (.inr (by simpa using hb))⟩⟩, rfl, hS.sb⟩
  · refine Sh.again (i - (j + 1)) [(7, .slice A bt.length cap), (16, .int .i64 (j + 1 : Nat))] ?_
    exact ⟨j + 1, A, cap, bt, rfl, by omega, ⟨by omega, hsn bt fun h => ⟨h, .inr (.inl (by omega))⟩⟩, rfl, hS.sb⟩
  · refine Sh.again (i - (j + 1)) [(7, .slice A bt.length cap), (16, .int .i64 (j + 1 : Nat))] ?_
    exact ⟨j + 1, A, cap, bt, rfl, by omega, ⟨by omega, hsn bt fun h => ⟨h, .inl (by omega)⟩⟩, rfl, hS.sb⟩
end Go.Proofs.YtfmnjbhncnldmaaGreat
