import Derived.Test.YtfmnjbhncnldmaaGreatP13
import Derived.Test.YtfmnjbhncnldmaaGreatP44
set_option linter.unusedSimpArgs false
set_option linter.unusedVariables false
namespace Go.Proofs.YtfmnjbhncnldmaaGreat
open Go.RowKit
attribute [local irreducible] Res.blk Res.sl Res.all Res.ex Res.pure Res.star
set_option maxHeartbeats 2000000 in
theorem ldhome_z (c : Cfg) (a : CAd) (t : TS) (y0 : Int) (r : World) (F : List Res) (w : World) (hS : Sep r [] F w) (hr : CfR r F c a) (hv : CfgV c) :
    Calls Tryz.prog 95 #[c.val a, .agg t.cells.toArray, .int .i64 y0] w fun e w' => e = .returned (.bool (decide (homeP c y0 t))) ∧ Sep r [] F w' := by
  have he : decide (homeP c y0 t) = ((t.placed && !t.shed) && decide (0 ≤ y0) && decide (regOf c t.home = y0)) := by
    by_cases h1 : t.placed = true <;> by_cases h2 : t.shed = true <;> simp [homeP, h1, h2]
  rw [he]
  refine Z.enter Tryz.func95 Tryz.ntmps95 rfl rfl ?_
  repeat' (first|refine K ?_|(refine Sh.sa hS ?_;clear hS;intro w hS)|(refine K3 ?_;clear hS;intro g w hS hge)|(refine KB ?_ ?_<;>intro hb<;>(try simp only [JJ] at hb)<;>(try exact JX))|fail)
  refine Z.eff (Z.cl (ldactive_z t _ _ _ hS) rfl ?_) rfl
  clear hS
  rintro e w ⟨rfl, hS⟩
  refine ⟨_, rfl, ?_⟩
  cases hac : (t.placed && !t.shed)
  · repeat' (first|refine K ?_|(refine Sh.sa hS ?_;clear hS;intro w hS)|(refine K3 ?_;clear hS;intro g w hS hge)|(refine KB ?_ ?_<;>intro hb<;>(try simp only [JJ] at hb)<;>(try exact JX))|fail)
    refine Dnt Tryz.results95 ?_
    exact ⟨rfl, hS.sb⟩
  by_cases hg : 0 ≤ y0
  rotate_left
  · repeat' (first|refine K ?_|(refine Sh.sa hS ?_;clear hS;intro w hS)|(refine K3 ?_;clear hS;intro g w hS hge)|(refine KB ?_ ?_<;>intro hb<;>(try simp only [JJ] at hb)<;>(try exact JX))|fail)
    refine Dnt Tryz.results95 ?_
    exact ⟨by simp [Z.packR, hg], hS.sb⟩
  repeat' (first|refine K ?_|(refine Sh.sa hS ?_;clear hS;intro w hS)|(refine K3 ?_;clear hS;intro g w hS hge)|(refine KB ?_ ?_<;>intro hb<;>(try simp only [JJ] at hb)<;>(try exact JX))|fail)
  refine Z.eff (Z.cl (pregion_z c a t.home _ _ _ hS ((hr.cons _).cons _) hv.ok) rfl ?_) rfl
  clear hS
  rintro e w ⟨rfl, hS⟩
  refine ⟨_, rfl, ?_⟩
  repeat' (first|refine K ?_|(refine Sh.sa hS ?_;clear hS;intro w hS)|(refine K3 ?_;clear hS;intro g w hS hge)|(refine KB ?_ ?_<;>intro hb<;>(try simp only [JJ] at hb)<;>(try exact JX))|fail)
  refine Dnt Tryz.results95 ?_
  exact ⟨by simp [Z.packR, hg], hS.sb⟩
theorem regOf_pos {c : Cfg} {k : Int} (h : 0 ≤ regOf c k) : 0 ≤ k ∧ k < c.cells.length := by
  unfold regOf at h
  split at h
  · assumption
  · omega
instance (c : Cfg) (s : Sta) (y0 : Int) (t : TS) : Decidable (rdyP c s y0 t) := by unfold rdyP; infer_instance
set_option maxHeartbeats 8000000 in
theorem ldready_z (c : Cfg) (a : CAd) (s : Sta) (b : SAd) (t : TS) (y0 : Int) (r : World) (F : List Res) (w : World) (hS : Sep r [] F w) (hr : CfR r F c a) (hq : StC r F s c b) (hv : CfgV c) (hs : s.ok c) :
    Calls Tryz.prog 96 #[c.val a, s.vc c b, .agg t.cells.toArray, .int .i64 y0] w fun e w' => e = .returned (.bool (decide (rdyP c s y0 t))) ∧ Sep r [] F w' := by
  have hk := hv.ok.k
  have hkl := hs.kl
  have hrg := hv.ok.r
  have hrb := regOf_bd hv t.standby
  refine Z.enter Tryz.func96 Tryz.ntmps96 rfl rfl ?_
  repeat' (first|refine K ?_|(refine Sh.sa hS ?_;clear hS;intro w hS)|(refine K3 ?_;clear hS;intro g w hS hge)|(refine KB ?_ ?_<;>intro hb<;>(try simp only [JJ] at hb)<;>(try exact JX))|fail)
  rename_i gc _ _ gs _ _
  rename Nat => gt
  refine Z.eff (Z.cl (pregion_z c a t.standby _ _ _ hS (((hr.cons _).cons _).cons _) hv.ok) rfl ?_) rfl
  clear hS
  rintro e w ⟨rfl, hS⟩
  refine ⟨_, rfl, ?_⟩
  have hpos := regOf_pos (c := c) (k := t.standby)
  by_cases h1 : 0 ≤ regOf c t.standby
  rotate_left
  · have e1 : decide (rdyP c s y0 t) = false := decide_eq_false fun h => h1 h.1
    rw [e1]
    clear e1
    repeat' (first|refine K ?_|(refine Sh.sa hS ?_;clear hS;intro w hS)|(refine K3 ?_;clear hS;intro g w hS hge)|(refine KB ?_ ?_<;>intro hb<;>(try simp only [JJ] at hb)<;>(try exact JX))|fail)
    refine Dnt Tryz.results96 ?_
    exact ⟨rfl, hS.sb⟩
  replace hpos := hpos h1
  by_cases h2 : regOf c t.standby = y0
  · have e1 : decide (rdyP c s y0 t) = false := decide_eq_false fun h => h.2.1 h2
    rw [e1]
    clear e1
    repeat' (first|refine K ?_|(refine Sh.sa hS ?_;clear hS;intro w hS)|(refine K3 ?_;clear hS;intro g w hS hge)|(refine KB ?_ ?_<;>intro hb<;>(try simp only [JJ] at hb)<;>(try exact JX))|fail)
    refine Dnt Tryz.results96 ?_
    exact ⟨rfl, hS.sb⟩
  obtain ⟨gb, o, hA, hra⟩ := reads_cp hq hs [_, _, _] hS hpos
  have hlt : t.standby < s.cells.length := by omega
  have e0 : decide (rdyP c s y0 t) = (decide ((celP s t.standby).mode = 1) && decide ((celP s t.standby).running = (celP s t.standby).wanted) && decide (bitB s.evac (regOf c t.standby) = false)) := by
    by_cases k1 : (celP s t.standby).mode = 1 <;> by_cases k2 : (celP s t.standby).running = (celP s t.standby).wanted <;> simp [rdyP, h1, h2, hlt, k1, k2]
  rw [e0]
  clear e0
  generalize regOf c t.standby = q at *
  generalize celP s t.standby = x at *
  obtain ⟨sA, sc, qA, qc⟩ := b
  simp only at hA
  subst hA
  by_cases k1 : x.mode = 1
  rotate_left
  · repeat' (first|refine K ?_|(refine Sh.sa hS ?_;clear hS;intro w hS)|(refine K3 ?_;clear hS;intro g w hS hge)|(refine KB ?_ ?_<;>intro hb<;>(try simp only [JJ] at hb)<;>(try exact JX))|fail)
    refine Dnt Tryz.results96 ?_
    exact ⟨by simp [Z.packR, k1], hS.sb⟩
  by_cases k2 : x.running = x.wanted
  rotate_left
  · repeat' (first|refine K ?_|(refine Sh.sa hS ?_;clear hS;intro w hS)|(refine K3 ?_;clear hS;intro g w hS hge)|(refine KB ?_ ?_<;>intro hb<;>(try simp only [JJ] at hb)<;>(try exact JX))|fail)
    refine Dnt Tryz.results96 ?_
    exact ⟨by simp [Z.packR, k1, k2], hS.sb⟩
  have hu := u64_pos q
  repeat' (first|refine K ?_|(refine Sh.sa hS ?_;clear hS;intro w hS)|(refine K3 ?_;clear hS;intro g w hS hge)|(refine KB ?_ ?_<;>intro hb<;>(try simp only [JJ] at hb)<;>(try exact JX))|fail)
  refine Dnt Tryz.results96 ?_
  refine ⟨?_, hS.sb⟩
  show Ending.returned (.bool (decide (bitZ .i64 (· &&& ·) (s.evac.fdiv (2 ^ min (IntKind.u64.wrap q).toNat IntKind.i64.bits)) 1 = 0))) = _
  rw [bit_and1, u64_in h1 (by omega), shr_min (by omega)]
  have h5 : s.evac.fdiv (2 ^ q.toNat) % 2 = 0 ∨ s.evac.fdiv (2 ^ q.toNat) % 2 = 1 := by omega
  rcases h5 with h5 | h5
  · simp [bitB, h5, k1, k2]
  · simp [bitB, h5, k1, k2]
theorem exLN_ok {c : Cfg} (hv : CfgV c) (s : Sta) (y0 : Int) : ∀ i : Nat, (exLN c s y0 i).length = c.cells.length ∧ LB (exLN c s y0 i) (65536 * i)
  | 0 => ⟨by simp [exLN], fun x hx => by
      simp [exLN] at hx
      omega⟩
  | i + 1 => by
    obtain ⟨h1, h2⟩ := exLN_ok hv s y0 i
    by_cases h : i < c.tenants.length ∧ i < s.tenants.length
    · rw [exLN_succ h.1 h.2]
      have ht := hv.tn _ (List.getElem_mem h.1)
      unfold exL
      split
      · refine ⟨by rw [addP_len, h1], ?_⟩
        exact (addP_bd h2 (M := 65536) (n := c.tenants[i].load - c.tenants[i].shadow) (by omega) _).le (by omega)
      · exact ⟨h1, h2.le (by omega)⟩
    · have e : exLN c s y0 (i + 1) = exLN c s y0 i := by
        unfold exLN
        rw [List.take_of_length_le (by simp; omega), List.take_of_length_le (by simp; omega)]
      rw [e]
      exact ⟨h1, h2.le (by omega)⟩
set_option maxHeartbeats 8000000 in
theorem ldextra_z (c : Cfg) (a : CAd) (s : Sta) (b : SAd) (y0 : Int) (r : World) (F : List Res) (w : World) (hS : Sep r [] F w) (hr : CfR r F c a) (hq : StC r F s c b) (hv : CfgV c) (hs : s.ok c) :
    Calls Tryz.prog 93 #[c.val a, s.vc c b, .int .i64 y0] w fun e w' => ∃ (g5 : Nat), e = .returned (.slice (some ⟨g5, 0, .none⟩) c.cells.length c.cells.length) ∧ Sep r [] (.sl 3 1 (.slice (some ⟨g5, 0, .none⟩) c.cells.length c.cells.length) ((exLN c s y0 c.tenants.length).map ztC) :: F) w' := by
  have hk := hv.ok.k
  have htl := hv.ok.t
  have hstl := hs.tl
  refine Z.enter Tryz.func93 Tryz.ntmps93 rfl rfl ?_
  repeat' (first|refine K ?_|(refine Sh.sa hS ?_;clear hS;intro w hS)|(refine K3 ?_;clear hS;intro g w hS hge)|(refine KB ?_ ?_<;>intro hb<;>(try simp only [JJ] at hb)<;>(try exact JX))|fail)
  rename_i gc _ _
  rename Nat => g3
  refine Z.eff (Z.mks (l := c.cells.length) (c := c.cells.length) hS rfl rfl rfl (Nat.le_refl _) (by show 8 * c.cells.length ≤ 281474976710656; omega) (by unfold maxLen; omega) ?_) rfl
  clear hS; intro g5 w hS _
  replace hS := mk_sl (n := c.cells.length) (rows := (List.replicate c.cells.length (0 : Int)).map ztC) hS (by simp) (by omega) (by unfold maxLen; omega) (zt_ok _) (zerosL_int _)
  repeat' (first|refine K ?_|(refine Sh.sa hS ?_;clear hS;intro w hS)|(refine K3 ?_;clear hS;intro g w hS hge)|(refine KB ?_ ?_<;>intro hb<;>(try simp only [JJ] at hb)<;>(try exact JX))|fail)
  refine Z.eff (Z.cl (ldcount_z c a s b _ _ _ hS) rfl ?_) rfl
  clear hS
  rintro e w ⟨rfl, hS⟩
  refine ⟨_, rfl, ?_⟩
  repeat' (first|refine K ?_|(refine Sh.sa hS ?_;clear hS;intro w hS)|(refine K3 ?_;clear hS;intro g w hS hge)|(refine KB ?_ ?_<;>intro hb<;>(try simp only [JJ] at hb)<;>(try exact JX))|fail)
  refine Z.lpS [8, 9, 10, 18, 19, 20, 21, 22, 23, 24, 25, 26, 27, 28, 29, 30, 31, 32, 33, 34, 35, 36, 37, 38, 39, 40, 41, 42, 43, 44, 45, 46, 47, 48, 49, 50, 51, 52] (fun m w z => ∃ (i : Nat), z = [(18, .int .i64 i)] ∧ i ≤ c.tenants.length ∧ m = c.tenants.length - i ∧ Sep r [] (.sl 3 1 (.slice (some ⟨g5, 0, .none⟩) c.cells.length c.cells.length) ((exLN c s y0 i).map ztC) :: .blk g3 69 (s.cc c b) :: .blk gc 55 (c.cl a) :: F) w) _ [(18, .int .i64 (0 : Nat))] TrF ⟨0, rfl, by omega, rfl, hS⟩ ?_
  clear hS
  rintro m f0 w _ ⟨i, rfl, hi, rfl, hS⟩
  by_cases hlt : i < c.tenants.length
  rotate_left
  · obtain rfl : i = c.tenants.length := by omega
    repeat' (first|refine K ?_|(refine Sh.sa hS ?_;clear hS;intro w hS)|(refine K3 ?_;clear hS;intro g w hS hge)|(refine KB ?_ ?_<;>intro hb<;>(try simp only [JJ] at hb)<;>(try exact JX))|fail)
    refine Dnt Tryz.results93 ?_
    exact ⟨g5, rfl, hS.sb⟩
  have hlt2 : i < s.tenants.length := by omega
  obtain ⟨hl0, hb0⟩ := exLN_ok hv s y0 i
  have hsucc := exLN_succ (g := y0) hlt hlt2
  obtain ⟨gb, o, hA, _⟩ := reads_ts (hq.str hs) [_, _, _] hS hlt2
  obtain ⟨gd, o2, hA2, _⟩ := reads_tn hr [_, _, _] hS hlt
  have hdB := hv.tn _ (List.getElem_mem hlt)
  generalize exLN c s y0 i = l at *
  have hra1 : ∀ W, Sep r [] (.sl 3 1 (.slice (some ⟨g5, 0, .none⟩) c.cells.length c.cells.length) (l.map ztC) :: .blk g3 69 (s.cc c b) :: .blk gc 55 (c.cl a) :: F) W → W.rangeAt gb (o + i * 12) (s.tenants[i]).cells := fun W hW => at_ts (hq.str hs) [_, _, _] hW hA hlt2
  have hra2 : ∀ W, Sep r [] (.sl 3 1 (.slice (some ⟨g5, 0, .none⟩) c.cells.length c.cells.length) (l.map ztC) :: .blk g3 69 (s.cc c b) :: .blk gc 55 (c.cl a) :: F) W → W.rangeAt gd (o2 + i * 7) (c.tenants[i]).cells := fun W hW => at_tn hr [_, _, _] hW hA2 hlt
  have hho := fun (t : TS) (L : List Res) (W : World) (hW : Sep r [] (L ++ F) W) => ldhome_z c a t y0 r (L ++ F) W hW (hr.app L) hv
  have hap := fun (x y : Int) (L : List Res) (W : World) (hW : Sep r [] (L ++ F) W) => napart_z c a x y r (L ++ F) W hW (hr.app L) hv.ok
  generalize s.tenants[i] = x at *
  generalize c.tenants[i] = d at *
  obtain ⟨zA, zc, kA, kc, tA, tc, vA, vc, rA, rc, oA, oc⟩ := a
  obtain ⟨sA, sc, qA, qc⟩ := b
  simp only at hA hA2
  subst hA hA2
  repeat' (first|refine K ?_|(refine Sh.sa hS ?_;clear hS;intro w hS)|(refine K3 ?_;clear hS;intro g w hS hge)|(refine KB ?_ ?_<;>intro hb<;>(try simp only [JJ] at hb)<;>(try exact JX))|fail)
  refine Z.cut [9, 10, 21, 22, 23, 24, 25, 26, 27, 28, 29, 30] (fun w z => ∃ g9 g10, z = [(9, .pointer (some ⟨g9, 0, .none⟩)), (10, .pointer (some ⟨g10, 0, .none⟩))] ∧ Sep r [] (.blk g10 183 x.cells :: .blk g9 170 d.cells :: .sl 3 1 (.slice (some ⟨g5, 0, .none⟩) c.cells.length c.cells.length) (l.map ztC) :: .blk g3 69 (s.cc c ⟨some ⟨gb, o, none⟩, sc, qA, qc⟩) :: .blk gc 55 (c.cl ⟨zA, zc, kA, kc, some ⟨gd, o2, none⟩, tc, vA, vc, rA, rc, oA, oc⟩) :: F) w) ?_ ?_
  · refine D.startS hS 13 14 (by kernel_rfl) rfl ?_
    replace hS := hS.drew
    refine Sh.dp 0 1 ?_
    refine Sh.dp 2 5 ?_
    refine Sh.dp 5 37 ?_
    refine Sh.dp 7 165 ?_
    refine Sh.dl 1 167 ?_
    first | refine D.ixn 3 175 rfl D.wantedN (by kernel_rfl) rfl rfl rfl (by omega) ?_ | refine D.ix 3 175 rfl D.wantedN (by kernel_rfl) rfl rfl rfl (by omega) ?_ | refine D.ia 3 175 rfl D.wantedN (by kernel_rfl) rfl rfl rfl (by omega) ?_
    refine D.ldR 4 191 rfl D.wantedN (by kernel_rfl) rfl hra2 rfl ?_
    refine Sh.dl 6 255 ?_
    first | refine D.ixn 8 511 rfl D.wantedN (by kernel_rfl) rfl rfl rfl (by omega) ?_ | refine D.ix 8 511 rfl D.wantedN (by kernel_rfl) rfl rfl rfl (by omega) ?_ | refine D.ia 8 511 rfl D.wantedN (by kernel_rfl) rfl rfl rfl (by omega) ?_
    refine D.ldR 9 1023 rfl D.wantedN (by kernel_rfl) rfl hra1 rfl ?_
    refine D.each [10, 11] (by kernel_rfl) rfl ?_
    refine D.econs 10 2047 rfl D.wantedN (by kernel_rfl) (fun _ _ h => h) ?_ ?_
    · refine Z.al hS ?_
      clear hS; intro g w hS hge
      refine HMs ?_
      refine D.ef 11 4095 ?_
      refine Z.al hS ?_
      clear hS; intro g w hS hge
      refine HMs ?_
      refine D.ef 12 8191 ?_
      refine Z.st hS rfl AtF rfl rfl ?_
      clear hS; intro w hS
      refine HMs ?_
      refine D.ef 13 16383 ?_
      refine Z.st hS rfl AtF rfl rfl ?_
      clear hS; intro w hS
      refine ⟨HM.last (by kernel_rfl), ?_⟩
      refine D.done (by kernel_rfl) ?_
      refine Sh.cut [(9, _), (10, _)] ?_
      exact ⟨_, _, rfl, hS.sb⟩
    refine D.econs 11 3071 rfl D.wantedN (by kernel_rfl) (fun _ _ h => h) ?_ ?_
    · refine Z.al hS ?_
      clear hS; intro g w hS hge
      refine HMs ?_
      refine D.ef 10 4095 ?_
      refine Z.al hS ?_
      clear hS; intro g w hS hge
      refine HMs ?_
      refine D.ef 12 8191 ?_
      refine Z.st hS rfl AtF rfl rfl ?_
      clear hS; intro w hS
      refine HMs ?_
      refine D.ef 13 16383 ?_
      refine Z.st hS rfl AtF rfl rfl ?_
      clear hS; intro w hS
      refine ⟨HM.last (by kernel_rfl), ?_⟩
      refine D.done (by kernel_rfl) ?_
      refine Sh.cut [(9, _), (10, _)] ?_
      exact ⟨_, _, rfl, hS.sb⟩
    exact D.enil
  clear hS
  rintro f0 w _ ⟨g9, g10, rfl, hS⟩
  unfold exL at hsucc
  repeat' (first|refine K ?_|(refine Sh.sa hS ?_;clear hS;intro w hS)|(refine K3 ?_;clear hS;intro g w hS hge)|(refine KB ?_ ?_<;>intro hb<;>(try simp only [JJ] at hb)<;>(try exact JX))|fail)
  refine Z.eff (Z.cl (hho x [_, _, _, _, _] _ hS) rfl ?_) rfl
  clear hS
  rintro e w ⟨rfl, hS⟩
  refine ⟨_, rfl, ?_⟩
  by_cases hh : homeP c y0 x
  rotate_left
  · rw [decide_eq_false hh]
    repeat' (first|refine K ?_|(refine Sh.sa hS ?_;clear hS;intro w hS)|(refine K3 ?_;clear hS;intro g w hS hge)|(refine KB ?_ ?_<;>intro hb<;>(try simp only [JJ] at hb)<;>(try exact JX))|fail)
    refine Sh.again (c.tenants.length - (i + 1)) [(18, .int .i64 (i + 1 : Nat))] ?_
    exact ⟨i + 1, rfl, by omega, rfl, by rw [hsucc, if_neg (fun h => hh h.1)]; exact hS.sb⟩
  rw [decide_eq_true hh]
  repeat' (first|refine K ?_|(refine Sh.sa hS ?_;clear hS;intro w hS)|(refine K3 ?_;clear hS;intro g w hS hge)|(refine KB ?_ ?_<;>intro hb<;>(try simp only [JJ] at hb)<;>(try exact JX))|fail)
  refine Z.eff (Z.cl (hap x.home x.standby [_, _, _, _, _] _ hS) rfl ?_) rfl
  clear hS
  rintro e w ⟨rfl, hS⟩
  refine ⟨_, rfl, ?_⟩
  cases ha2 : apartP c x.home x.standby
  · repeat' (first|refine K ?_|(refine Sh.sa hS ?_;clear hS;intro w hS)|(refine K3 ?_;clear hS;intro g w hS hge)|(refine KB ?_ ?_<;>intro hb<;>(try simp only [JJ] at hb)<;>(try exact JX))|fail)
    refine Sh.again (c.tenants.length - (i + 1)) [(18, .int .i64 (i + 1 : Nat))] ?_
    exact ⟨i + 1, rfl, by omega, rfl, by rw [hsucc, if_neg (fun h => by rw [ha2] at h; exact absurd h.2 (by decide))]; exact hS.sb⟩
  rw [if_pos ⟨hh, ha2⟩] at hsucc
  repeat' (first|refine K ?_|(refine Sh.sa hS ?_;clear hS;intro w hS)|(refine K3 ?_;clear hS;intro g w hS hge)|(refine KB ?_ ?_<;>intro hb<;>(try simp only [JJ] at hb)<;>(try exact JX))|fail)
  replace hS := hS.fo (R := .sl 3 1 (.slice (some ⟨g5, 0, .none⟩) c.cells.length c.cells.length) _)
  refine Z.eff (Z.cl (ldadd_z g5 l _ _ _ _ _ _ _ hS hl0 hb0 (by omega) (by omega)) rfl ?_) rfl
  clear hS
  rintro e w ⟨rfl, hS⟩
  refine ⟨_, rfl, ?_⟩
  repeat' (first|refine K ?_|(refine Sh.sa hS ?_;clear hS;intro w hS)|(refine K3 ?_;clear hS;intro g w hS hge)|(refine KB ?_ ?_<;>intro hb<;>(try simp only [JJ] at hb)<;>(try exact JX))|fail)
  refine Sh.again (c.tenants.length - (i + 1)) [(18, .int .i64 (i + 1 : Nat))] ?_
  exact ⟨i + 1, rfl, by omega, rfl, by rw [hsucc]; exact hS.sb⟩
def hkP (c : Cfg) (s : Sta) (y0 : Int) (k : Nat) : Prop := ∀ h : k < c.cells.length, regOf c k ≠ y0 → (bookP c s).getD k 0 + (exLN c s y0 c.tenants.length).getD k 0 ≤ c.cells[k].cap
set_option maxHeartbeats 16000000 in
theorem ldheadroom_z (c : Cfg) (a : CAd) (s : Sta) (b : SAd) (y0 : Int) (r : World) (F : List Res) (w : World) (hS : Sep r [] F w) (hr : CfR r F c a) (hq : StC r F s c b) (hv : CfgV c) (hs : s.ok c) (hg : 0 ≤ y0 ∧ y0 < c.regions) :
    Calls Tryz.prog 34 #[c.val a, s.vc c b, .int .i64 y0] w fun e w' => ∃ z : Bool, e = .returned (.bool z) ∧ (z = true ↔ HeadP c s y0) ∧ Sep r [] F w' := by
  have hk := hv.ok.k
  have htl := hv.ok.t
  have hstl := hs.tl
  obtain ⟨hbl, hbb⟩ := bookP_ok hv s
  obtain ⟨hxl, hxb⟩ := exLN_ok hv s y0 c.tenants.length
  refine Z.enter Tryz.func34 Tryz.ntmps34 rfl rfl ?_
  repeat' (first|refine K ?_|(refine Sh.sa hS ?_;clear hS;intro w hS)|(refine K3 ?_;clear hS;intro g w hS hge)|(refine KB ?_ ?_<;>intro hb<;>(try simp only [JJ] at hb)<;>(try exact JX))|fail)
  rename_i gc _ _ _
  rename Nat => g3
  refine Z.cut [7, 8, 21, 22, 23, 24, 25, 26, 27] (fun w z => ∃ g7 g8, z = [(7, .slice (some ⟨g7, 0, .none⟩) c.cells.length c.cells.length), (8, .slice (some ⟨g8, 0, .none⟩) c.cells.length c.cells.length)] ∧ Sep r [] (.sl 3 1 (.slice (some ⟨g7, 0, .none⟩) c.cells.length c.cells.length) ((bookP c s).map ztC) :: .sl 3 1 (.slice (some ⟨g8, 0, .none⟩) c.cells.length c.cells.length) ((exLN c s y0 c.tenants.length).map ztC) :: .blk g3 69 (s.cc c b) :: .blk gc 55 (c.cl a) :: F) w) ?_ ?_
  · refine D.startS (Lr := (.blk g3 69 (s.cc c b) :: .blk gc 55 (c.cl a) :: F)) (hS.sb) 9 9 (by kernel_rfl) rfl ?_
    replace hS := hS.drew
    refine Sh.dp 5 32 ?_
    refine Sh.dl 0 33 ?_
    refine Sh.dl 1 35 ?_
    refine Sh.dl 3 43 ?_
    refine Sh.dl 4 59 ?_
    refine D.ef 2 63 ?_
    refine Z.cl (ldbooked_z c a s b _ _ _ hS (hr.app [_, _]) (hq.ap [_, _]) hv hs) rfl ?_
    clear hS
    rintro e w ⟨g7, rfl, hS⟩
    refine ⟨_, rfl, ?_⟩
    refine HMs ?_
    refine D.ef 6 127 ?_
    refine Z.cl (ldextra_z c a s b y0 _ _ _ hS (hr.app [_, _, _]) (hq.ap [_, _, _]) hv hs) rfl ?_
    clear hS
    rintro e w ⟨g8, rfl, hS⟩
    refine ⟨_, rfl, ?_⟩
    refine HMs ?_
    refine Sh.dp 7 255 ?_
    refine Sh.dp 8 511 ?_
    refine D.done (by kernel_rfl) ?_
    refine Sh.cut [(7, _), (8, _)] ?_
    exact ⟨g7, g8, rfl, hS.sb⟩
  clear hS
  rintro f0 w _ ⟨g7, g8, rfl, hS⟩
  repeat' (first|refine K ?_|(refine Sh.sa hS ?_;clear hS;intro w hS)|(refine K3 ?_;clear hS;intro g w hS hge)|(refine KB ?_ ?_<;>intro hb<;>(try simp only [JJ] at hb)<;>(try exact JX))|fail)
  refine Z.lpS [6, 9, 10, 31, 32, 33, 34, 35, 36, 37, 38, 39, 40, 41, 42, 43, 44, 45, 46, 47, 48, 49, 50, 51, 52, 53, 54, 55] (fun m w z => ∃ (i : Nat), z = [(31, .int .i64 i)] ∧ i ≤ c.cells.length ∧ (∀ k, k < i → hkP c s y0 k) ∧ m = c.cells.length - i ∧ Sep r [] (.sl 3 1 (.slice (some ⟨g7, 0, .none⟩) c.cells.length c.cells.length) ((bookP c s).map ztC) :: .sl 3 1 (.slice (some ⟨g8, 0, .none⟩) c.cells.length c.cells.length) ((exLN c s y0 c.tenants.length).map ztC) :: .blk g3 69 (s.cc c b) :: .blk gc 55 (c.cl a) :: F) w) _ [(31, .int .i64 (0 : Nat))] TrF ⟨0, rfl, by omega, fun k h => absurd h (by omega), rfl, hS⟩ ?_
  clear hS
  rintro m f1 w _ ⟨i, rfl, hi, hks, rfl, hS⟩
  by_cases hlt : i < c.cells.length
  · have hib : i < (bookP c s).length := by omega
    have hix : i < (exLN c s y0 c.tenants.length).length := by omega
    obtain ⟨gk, o2, hA2, hra1⟩ := reads_kn hr [_, _, _, _] hS hlt
    have hrb : ∀ L W, Sep r [] L W → ∀ {k}, At L k (.sl 3 1 (.slice (some ⟨g7, 0, .none⟩) c.cells.length c.cells.length) ((bookP c s).map ztC)) → W.rangeAt g7 (0 + i * 1) (ztC (bookP c s)[i]) := fun L W hW k ha => by
      have h3 := (hW.slrows ha).elem (q := i) (by omega) (by simpa using hib)
      simpa using h3
    have hrx : ∀ L W, Sep r [] L W → ∀ {k}, At L k (.sl 3 1 (.slice (some ⟨g8, 0, .none⟩) c.cells.length c.cells.length) ((exLN c s y0 c.tenants.length).map ztC)) → W.rangeAt g8 (0 + i * 1) (ztC (exLN c s y0 c.tenants.length)[i]) := fun L W hW k ha => by
      have h3 := (hW.slrows ha).elem (q := i) (by omega) (by simpa using hix)
      simpa using h3
    have hreg := fun (k : Int) (L : List Res) (W : World) (hW : Sep r [] (L ++ F) W) => pregion_z c a k r (L ++ F) W hW (hr.app L) hv.ok
    have hkp : hkP c s y0 i ↔ (regOf c i ≠ y0 → (bookP c s)[i] + (exLN c s y0 c.tenants.length)[i] ≤ c.cells[i].cap) := by
      unfold hkP
      simp only [List.getD_eq_getElem?_getD, List.getElem?_eq_getElem hib, List.getElem?_eq_getElem hix, Option.getD_some]
      exact ⟨fun h => h hlt, fun h _ => h⟩
    have hy1 := hbb _ (List.getElem_mem hib)
    have hy2 := hxb _ (List.getElem_mem hix)
    have hkc := hv.kc _ (List.getElem_mem hlt)
    have hnx : hkP c s y0 i → ∀ k, k < i + 1 → hkP c s y0 k := fun h k hk => by
      by_cases e : k = i
      · subst e
        exact h
      · exact hks k (by omega)
    generalize h7 : (bookP c s)[i] = y1 at *
    generalize h8 : (exLN c s y0 c.tenants.length)[i] = y2 at *
    generalize c.cells[i] = y at *
    obtain ⟨zA, zc, kA, kc, tA, tc, vA, vc, rA, rc, oA, oc⟩ := a
    simp only at hA2
    subst hA2
    obtain ⟨u1, u2⟩ := y
    simp only at hkp hkc
    repeat' (first|refine K ?_|(refine Sh.sa hS ?_;clear hS;intro w hS)|(refine K3 ?_;clear hS;intro g w hS hge)|(refine KB ?_ ?_<;>intro hb<;>(try simp only [JJ] at hb)<;>(try exact JX))|fail)
    rename Nat => g10
    by_cases hne : regOf c i = y0
    · refine D.startS (Lr := (.blk g10 168 (⟨u1, u2⟩ : Cl).cells :: .sl 3 1 (.slice (some ⟨g7, 0, .none⟩) c.cells.length c.cells.length) ((bookP c s).map ztC) :: .sl 3 1 (.slice (some ⟨g8, 0, .none⟩) c.cells.length c.cells.length) ((exLN c s y0 c.tenants.length).map ztC) :: .blk g3 69 (s.cc c b) :: .blk gc 55 (c.cl _) :: F)) (hS.sb) 19 19 (by kernel_rfl) rfl ?_
      replace hS := hS.drew
      refine Sh.dp 1 2 ?_
      refine Sh.dp 3 10 ?_
      refine Sh.dl 0 11 ?_
      refine D.ef 2 15 ?_
      refine Z.cl (hreg i [_, _, _, _, _] _ hS) rfl ?_
      clear hS
      rintro e w ⟨rfl, hS⟩
      refine ⟨_, rfl, ?_⟩
      refine HMs ?_
      first | refine D.pr 4 31 rfl D.wantedN (by kernel_rfl) rfl ?_ | refine D.pl 4 31 rfl D.wantedN (by kernel_rfl) (R.nea rfl rfl rfl rfl) ?_
      refine Sh.dp 5 63 ?_
      refine D.slot 41 rfl NoF (fun hb => ?_)
      (try simp only [JJ] at hb)
      refine D.skF 6 127 rfl (by kernel_rfl) rfl rfl ?_
      refine D.skF 7 255 rfl (by kernel_rfl) rfl rfl ?_
      refine D.skF 8 511 rfl (by kernel_rfl) rfl rfl ?_
      refine D.skF 9 1023 rfl (by kernel_rfl) rfl rfl ?_
      refine D.skF 10 2047 rfl (by kernel_rfl) rfl rfl ?_
      refine D.skF 11 4095 rfl (by kernel_rfl) rfl rfl ?_
      refine D.skF 12 8191 rfl (by kernel_rfl) rfl rfl ?_
      refine D.skF 13 16383 rfl (by kernel_rfl) rfl rfl ?_
      refine D.skF 14 32767 rfl (by kernel_rfl) rfl rfl ?_
      refine D.skF 15 65535 rfl (by kernel_rfl) rfl rfl ?_
      refine D.skF 16 131071 rfl (by kernel_rfl) rfl rfl ?_
      refine D.skF 17 262143 rfl (by kernel_rfl) rfl rfl ?_
      refine Sh.dp 18 524287 ?_
      refine D.done (by kernel_rfl) ?_
      repeat' (first|refine K ?_|(refine Sh.sa hS ?_;clear hS;intro w hS)|(refine K3 ?_;clear hS;intro g w hS hge)|(refine KB ?_ ?_<;>intro hb<;>(try simp only [JJ] at hb)<;>(try exact JX))|fail)
      refine Sh.again (c.cells.length - (i + 1)) [(31, .int .i64 (i + 1 : Nat))] ?_
      exact ⟨i + 1, rfl, by omega, hnx (hkp.2 fun h => absurd hne h), rfl, hS.sb⟩
    refine Z.cut [36, 37, 38, 39, 40, 41, 42, 43, 44, 45, 46, 47, 48, 49, 50, 51, 52, 53, 54] (fun w z => z = [(54, .bool (decide (u2 < y1 + y2)))] ∧ Sep r [] (.sl 3 1 (.slice (some ⟨g7, 0, .none⟩) c.cells.length c.cells.length) ((bookP c s).map ztC) :: .sl 3 1 (.slice (some ⟨g8, 0, .none⟩) c.cells.length c.cells.length) ((exLN c s y0 c.tenants.length).map ztC) :: .blk g3 69 (s.cc c b) :: .blk gc 55 (c.cl ⟨zA, zc, some ⟨gk, o2, none⟩, kc, tA, tc, vA, vc, rA, rc, oA, oc⟩) :: F) w) ?_ ?_
    · refine D.startS (Lr := (.blk g10 168 (⟨u1, u2⟩ : Cl).cells :: .sl 3 1 (.slice (some ⟨g7, 0, .none⟩) c.cells.length c.cells.length) ((bookP c s).map ztC) :: .sl 3 1 (.slice (some ⟨g8, 0, .none⟩) c.cells.length c.cells.length) ((exLN c s y0 c.tenants.length).map ztC) :: .blk g3 69 (s.cc c b) :: .blk gc 55 (c.cl _) :: F)) (hS.sb) 19 19 (by kernel_rfl) rfl ?_
      replace hS := hS.drew
      refine Sh.dp 1 2 ?_
      refine Sh.dp 3 10 ?_
      refine Sh.dl 0 11 ?_
      refine D.ef 2 15 ?_
      refine Z.cl (hreg i [_, _, _, _, _] _ hS) rfl ?_
      clear hS
      rintro e w ⟨rfl, hS⟩
      refine ⟨_, rfl, ?_⟩
      refine HMs ?_
      first | refine D.pr 4 31 rfl D.wantedN (by kernel_rfl) rfl ?_ | refine D.pl 4 31 rfl D.wantedN (by kernel_rfl) (R.nea rfl rfl rfl rfl) ?_
      refine Sh.dp 5 63 ?_
      refine D.slot 41 rfl (fun hb => ?_) NoF
      (try simp only [JJ] at hb)
      refine Sh.dp 6 127 ?_
      refine Sh.dp 7 255 ?_
      first | refine D.ixn 8 511 rfl (D.wantedT rfl rfl) (by kernel_rfl) rfl rfl rfl (by omega) ?_ | refine D.ix 8 511 rfl (D.wantedT rfl rfl) (by kernel_rfl) rfl rfl rfl (by omega) ?_ | refine D.ia 8 511 rfl (D.wantedT rfl rfl) (by kernel_rfl) rfl rfl rfl (by omega) ?_
      refine Sh.dp 10 1535 ?_
      refine Sh.dp 11 3583 ?_
      first | refine D.ixn 12 7679 rfl (D.wantedT rfl rfl) (by kernel_rfl) rfl rfl rfl (by omega) ?_ | refine D.ix 12 7679 rfl (D.wantedT rfl rfl) (by kernel_rfl) rfl rfl rfl (by omega) ?_ | refine D.ia 12 7679 rfl (D.wantedT rfl rfl) (by kernel_rfl) rfl rfl rfl (by omega) ?_
      refine Sh.dp 15 40447 ?_
      refine D.ldR 9 40959 rfl (D.wantedT rfl rfl) (by kernel_rfl) rfl (fun W hW => hrb _ W hW (.next .here)) rfl ?_
      refine D.ldR 13 49151 rfl (D.wantedT rfl rfl) (by kernel_rfl) rfl (fun W hW => hrx _ W hW (.next (.next .here))) rfl ?_
      first | refine D.sum 14 65535 rfl (D.wantedT rfl rfl) (by kernel_rfl) rfl (by constructor <;> omega) ?_ | refine D.sumW 14 65535 rfl (D.wantedT rfl rfl) (by kernel_rfl) rfl ?_
      refine Sh.dl 16 131071 ?_
      refine Sh.dp 17 262143 ?_
      refine Sh.dp 18 524287 ?_
      refine D.done (by kernel_rfl) ?_
      refine Sh.cut [(54, _)] ?_
      exact ⟨by simp [Z.packR], hS.sb⟩
    clear hS
    rintro f2 w _ ⟨rfl, hS⟩
    by_cases hgt : u2 < y1 + y2
    · repeat' (first|refine K ?_|(refine Sh.sa hS ?_;clear hS;intro w hS)|(refine K3 ?_;clear hS;intro g w hS hge)|(refine KB ?_ ?_<;>intro hb<;>(try simp only [JJ] at hb)<;>(try exact JX))|fail)
      refine Dnt Tryz.results34 ?_
      refine ⟨false, rfl, ⟨(fun h => by cases h), fun h => ?_⟩, hS.sb⟩
      have := hkp.1 (fun hk2 hn => h.1 i hk2 hn) hne
      omega
    · repeat' (first|refine K ?_|(refine Sh.sa hS ?_;clear hS;intro w hS)|(refine K3 ?_;clear hS;intro g w hS hge)|(refine KB ?_ ?_<;>intro hb<;>(try simp only [JJ] at hb)<;>(try exact JX))|fail)
      refine Sh.again (c.cells.length - (i + 1)) [(31, .int .i64 (i + 1 : Nat))] ?_
      exact ⟨i + 1, rfl, by omega, hnx (hkp.2 fun _ => by omega), rfl, hS.sb⟩
  obtain rfl : i = c.cells.length := by omega
  repeat' (first|refine K ?_|(refine Sh.sa hS ?_;clear hS;intro w hS)|(refine K3 ?_;clear hS;intro g w hS hge)|(refine KB ?_ ?_<;>intro hb<;>(try simp only [JJ] at hb)<;>(try exact JX))|fail)
  refine Z.eff (Z.cl (ldcount_z c a s b _ _ _ hS) rfl ?_) rfl
  clear hS
  rintro e w ⟨rfl, hS⟩
  refine ⟨_, rfl, ?_⟩
  repeat' (first|refine K ?_|(refine Sh.sa hS ?_;clear hS;intro w hS)|(refine K3 ?_;clear hS;intro g w hS hge)|(refine KB ?_ ?_<;>intro hb<;>(try simp only [JJ] at hb)<;>(try exact JX))|fail)
  refine Z.lpS [6, 11, 12, 59, 60, 61, 62, 63, 64, 65, 66, 67, 68, 69, 70, 71, 72, 73, 74, 75, 76, 77, 78, 79] (fun m w z => ∃ (i : Nat), z = [(59, .int .i64 i)] ∧ i ≤ c.tenants.length ∧ (∀ k, k < i → homeP c y0 (tenP s (k : Nat)) → rdyP c s y0 (tenP s (k : Nat))) ∧ m = c.tenants.length - i ∧ Sep r [] (.sl 3 1 (.slice (some ⟨g7, 0, .none⟩) c.cells.length c.cells.length) ((bookP c s).map ztC) :: .sl 3 1 (.slice (some ⟨g8, 0, .none⟩) c.cells.length c.cells.length) ((exLN c s y0 c.tenants.length).map ztC) :: .blk g3 69 (s.cc c b) :: .blk gc 55 (c.cl a) :: F) w) _ [(59, .int .i64 (0 : Nat))] TrF ⟨0, rfl, by omega, fun k h => absurd h (by omega), rfl, hS⟩ ?_
  clear hS
  rintro m f3 w _ ⟨i, rfl, hi, hts, rfl, hS⟩
  by_cases hlt2 : i < c.tenants.length
  rotate_left
  · repeat' (first|refine K ?_|(refine Sh.sa hS ?_;clear hS;intro w hS)|(refine K3 ?_;clear hS;intro g w hS hge)|(refine KB ?_ ?_<;>intro hb<;>(try simp only [JJ] at hb)<;>(try exact JX))|fail)
    refine Dnt Tryz.results34 ?_
    exact ⟨true, rfl, ⟨fun _ => ⟨fun k hk => hks k hk hk, fun k hk => hts k (by omega)⟩, fun _ => rfl⟩, hS.sb⟩
  obtain ⟨gb, o, hA, hra⟩ := reads_tp hq hs [_, _, _, _] hS (k := (i : Nat)) (by omega)
  rw [Int.toNat_natCast] at hra
  have hho := fun (t : TS) (L : List Res) (W : World) (hW : Sep r [] (L ++ F) W) => ldhome_z c a t y0 r (L ++ F) W hW (hr.app L) hv
  have hrd := fun (t : TS) (L : List Res) (W : World) (hW : Sep r [] (L ++ F) W) => ldready_z c a s b t y0 r (L ++ F) W hW (hr.app L) (hq.ap L) hv hs
  have hnx : (homeP c y0 (tenP s (i : Nat)) → rdyP c s y0 (tenP s (i : Nat))) → ∀ k, k < i + 1 → homeP c y0 (tenP s (k : Nat)) → rdyP c s y0 (tenP s (k : Nat)) := fun h k hk => by
    by_cases e : k = i
    · subst e
      exact h
    · exact hts k (by omega)
  have hno : homeP c y0 (tenP s (i : Nat)) → ¬ rdyP c s y0 (tenP s (i : Nat)) → ¬ HeadP c s y0 := fun h1 h2 h => h2 (h.2 i hlt2 h1)
  generalize tenP s (i : Nat) = x at *
  obtain ⟨sA, sc, qA, qc⟩ := b
  simp only at hA
  subst hA
  repeat' (first|refine K ?_|(refine Sh.sa hS ?_;clear hS;intro w hS)|(refine K3 ?_;clear hS;intro g w hS hge)|(refine KB ?_ ?_<;>intro hb<;>(try simp only [JJ] at hb)<;>(try exact JX))|fail)
  refine Z.eff (Z.cl (hho x [_, _, _, _, _] _ hS) rfl ?_) rfl
  clear hS
  rintro e w ⟨rfl, hS⟩
  refine ⟨_, rfl, ?_⟩
  by_cases hh : homeP c y0 x
  rotate_left
  · rw [decide_eq_false hh]
    repeat' (first|refine K ?_|(refine Sh.sa hS ?_;clear hS;intro w hS)|(refine K3 ?_;clear hS;intro g w hS hge)|(refine KB ?_ ?_<;>intro hb<;>(try simp only [JJ] at hb)<;>(try exact JX))|fail)
    refine Sh.again (c.tenants.length - (i + 1)) [(59, .int .i64 (i + 1 : Nat))] ?_
    exact ⟨i + 1, rfl, by omega, hnx fun h => absurd h hh, rfl, hS.sb⟩
  rw [decide_eq_true hh]
  repeat' (first|refine K ?_|(refine Sh.sa hS ?_;clear hS;intro w hS)|(refine K3 ?_;clear hS;intro g w hS hge)|(refine KB ?_ ?_<;>intro hb<;>(try simp only [JJ] at hb)<;>(try exact JX))|fail)
  refine Z.eff (Z.cl (hrd x [_, _, _, _, _] _ hS) rfl ?_) rfl
  clear hS
  rintro e w ⟨rfl, hS⟩
  refine ⟨_, rfl, ?_⟩
  by_cases hy : rdyP c s y0 x
  · rw [decide_eq_true hy]
    repeat' (first|refine K ?_|(refine Sh.sa hS ?_;clear hS;intro w hS)|(refine K3 ?_;clear hS;intro g w hS hge)|(refine KB ?_ ?_<;>intro hb<;>(try simp only [JJ] at hb)<;>(try exact JX))|fail)
    refine Sh.again (c.tenants.length - (i + 1)) [(59, .int .i64 (i + 1 : Nat))] ?_
    exact ⟨i + 1, rfl, by omega, hnx fun _ => hy, rfl, hS.sb⟩
  · rw [decide_eq_false hy]
    repeat' (first|refine K ?_|(refine Sh.sa hS ?_;clear hS;intro w hS)|(refine K3 ?_;clear hS;intro g w hS hge)|(refine KB ?_ ?_<;>intro hb<;>(try simp only [JJ] at hb)<;>(try exact JX))|fail)
    refine Dnt Tryz.results34 ?_
    exact ⟨false, rfl, ⟨(fun h => by cases h), fun h => absurd h (hno hh hy)⟩, hS.sb⟩
set_option maxHeartbeats 4000000 in
theorem twithin_z (c : Cfg) (a : CAd) (s : Sta) (b : SAd) (r : World) (F : List Res) (w : World) (hS : Sep r [] F w) (hr : CfR r F c a) (hq : StC r F s c b) (hv : CfgV c) (hs : s.ok c) (hok : ∀ k (h : k < c.cells.length), (bookP c s).getD k 0 ≤ c.cells[k].cap) :
    Calls Tryz.prog 31 #[c.val a, s.vc c b] w fun e w' => e = .returned (.bool true) ∧ Sep r [] F w' := by
  have hk := hv.ok.k
  obtain ⟨hbl, hbb⟩ := bookP_ok hv s
  refine Z.enter Tryz.func31 Tryz.ntmps31 rfl rfl ?_
  repeat' (first|refine K ?_|(refine Sh.sa hS ?_;clear hS;intro w hS)|(refine K3 ?_;clear hS;intro g w hS hge)|(refine KB ?_ ?_<;>intro hb<;>(try simp only [JJ] at hb)<;>(try exact JX))|fail)
  rename_i gc _ _
  rename Nat => g3
  refine Z.eff (Z.cl (ldbooked_z c a s b _ _ _ hS (hr.app [_, _]) (hq.ap [_, _]) hv hs) rfl ?_) rfl
  clear hS
  rintro e w ⟨g7, rfl, hS⟩
  refine ⟨_, rfl, ?_⟩
  repeat' (first|refine K ?_|(refine Sh.sa hS ?_;clear hS;intro w hS)|(refine K3 ?_;clear hS;intro g w hS hge)|(refine KB ?_ ?_<;>intro hb<;>(try simp only [JJ] at hb)<;>(try exact JX))|fail)
  refine Z.lpS [4, 6, 16, 17, 18, 19, 20, 21, 22, 23, 24, 25, 26, 27, 28, 29, 30, 31, 32] (fun m w z => ∃ (i : Nat), z = [(6, .int .i64 i)] ∧ i ≤ c.cells.length ∧ m = c.cells.length - i ∧ Sep r [] (.sl 3 1 (.slice (some ⟨g7, 0, .none⟩) c.cells.length c.cells.length) ((bookP c s).map ztC) :: .blk g3 69 (s.cc c b) :: .blk gc 55 (c.cl a) :: F) w) _ [(6, .int .i64 (0 : Nat))] TrF ⟨0, rfl, by omega, rfl, hS⟩ ?_
  clear hS
  rintro m f1 w _ ⟨i, rfl, hi, rfl, hS⟩
  by_cases hlt : i < c.cells.length
  rotate_left
  · repeat' (first|refine K ?_|(refine Sh.sa hS ?_;clear hS;intro w hS)|(refine K3 ?_;clear hS;intro g w hS hge)|(refine KB ?_ ?_<;>intro hb<;>(try simp only [JJ] at hb)<;>(try exact JX))|fail)
    refine Dnt Tryz.results31 ?_
    exact ⟨rfl, hS.sb⟩
  have hib : i < (bookP c s).length := by omega
  obtain ⟨gk, o2, hA2, _⟩ := reads_kn hr [_, _, _] hS hlt
  have hrk : ∀ L W, Sep r [] (L ++ F) W → W.rangeAt gk (o2 + i * 2) (c.cells[i]).cells := fun L W hW => at_kn hr L hW hA2 hlt
  have hrb : ∀ L W, Sep r [] L W → ∀ {k}, At L k (.sl 3 1 (.slice (some ⟨g7, 0, .none⟩) c.cells.length c.cells.length) ((bookP c s).map ztC)) → W.rangeAt g7 (0 + i * 1) (ztC (bookP c s)[i]) := fun L W hW k ha => by
    have h3 := (hW.slrows ha).elem (q := i) (by omega) (by simpa using hib)
    simpa using h3
  have hle : (bookP c s)[i] ≤ c.cells[i].cap := by
    have := hok i hlt
    simpa [List.getD_eq_getElem?_getD, hib] using this
  generalize h7 : (bookP c s)[i] = y1 at *
  generalize c.cells[i] = y at *
  obtain ⟨zA, zc, kA, kc, tA, tc, vA, vc, rA, rc, oA, oc⟩ := a
  simp only at hA2
  subst hA2
  obtain ⟨u1, u2⟩ := y
  simp only at hle
  repeat' (first|refine K ?_|(refine Sh.sa hS ?_;clear hS;intro w hS)|(refine K3 ?_;clear hS;intro g w hS hge)|(refine KB ?_ ?_<;>intro hb<;>(try simp only [JJ] at hb)<;>(try exact JX))|fail)
  refine D.startS (Lr := (.sl 3 1 (.slice (some ⟨g7, 0, .none⟩) c.cells.length c.cells.length) ((bookP c s).map ztC) :: .blk g3 69 (s.cc c b) :: .blk gc 55 (c.cl _) :: F)) (hS.sb) 11 11 (by kernel_rfl) rfl ?_
  replace hS := hS.drew
  refine Sh.dp 0 1 ?_
  refine Sh.dp 1 3 ?_
  first | refine D.ixn 2 7 rfl D.wantedN (by kernel_rfl) rfl rfl rfl (by omega) ?_ | refine D.ix 2 7 rfl D.wantedN (by kernel_rfl) rfl rfl rfl (by omega) ?_ | refine D.ia 2 7 rfl D.wantedN (by kernel_rfl) rfl rfl rfl (by omega) ?_
  refine Sh.dp 4 23 ?_
  refine Sh.dp 6 87 ?_
  refine D.ldR 3 95 rfl D.wantedN (by kernel_rfl) rfl (fun W hW => hrb _ W hW .here) rfl ?_
  refine Sh.dl 5 127 ?_
  first | refine D.ixn 7 255 rfl D.wantedN (by kernel_rfl) rfl rfl rfl (by omega) ?_ | refine D.ix 7 255 rfl D.wantedN (by kernel_rfl) rfl rfl rfl (by omega) ?_ | refine D.ia 7 255 rfl D.wantedN (by kernel_rfl) rfl rfl rfl (by omega) ?_
  refine Sh.dp 8 511 ?_
  refine D.ldE 9 1023 rfl D.wantedN (by kernel_rfl) rfl (hrk [_, _, _]) rfl ?_
  refine Sh.dp 10 2047 ?_
  refine D.done (by kernel_rfl) ?_
  repeat' (first|refine K ?_|(refine Sh.sa hS ?_;clear hS;intro w hS)|(refine K3 ?_;clear hS;intro g w hS hge)|(refine KB ?_ ?_<;>intro hb<;>(try simp only [JJ] at hb)<;>(try exact JX))|fail)
  refine Sh.again (c.cells.length - (i + 1)) [(6, .int .i64 (i + 1 : Nat))] ?_
  exact ⟨i + 1, rfl, by omega, rfl, hS.sb⟩
end Go.Proofs.YtfmnjbhncnldmaaGreat
