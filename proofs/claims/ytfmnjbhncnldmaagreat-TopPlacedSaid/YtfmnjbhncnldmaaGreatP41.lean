import Derived.Test.YtfmnjbhncnldmaaGreatP20
import Derived.Test.YtfmnjbhncnldmaaGreatP30
import Derived.Test.YtfmnjbhncnldmaaGreatP38
import Derived.Test.YtfmnjbhncnldmaaGreatP40
set_option linter.unusedSimpArgs false
set_option linter.unusedVariables false
namespace Go.Proofs.YtfmnjbhncnldmaaGreat
open Go.RowKit
attribute [local irreducible] Res.blk Res.sl Res.all Res.ex Res.pure Res.star
set_option maxHeartbeats 4000000 in
theorem tord1_z (gc i j : Nat) (c : Cfg) (a : CAd) (r : World) (F : List Res) (w : World) (hS : Sep r [] F w) {k : List Res} (ha : At F k (.blk gc 55 (c.cl a))) (hr : CfR r F c a) (hi : i < c.tenants.length) (hj : j < c.tenants.length) :
    Calls Tryz.prog 318 #[.int .i64 i, .int .i64 j, .pointer (some ⟨gc, 0, none⟩)] w fun e w' => ∃ z : Int, e = .returned (.int .i64 z) ∧ Sep r [] F w' := by
  obtain ⟨gb, o, hA, _⟩ := reads_tn hr [] hS hi
  have hra1 : ∀ W, Sep r [] F W → W.rangeAt gb (o + i * 7) (c.tenants[i]).cells := fun W hW => at_tn hr [] hW hA hi
  have hra2 : ∀ W, Sep r [] F W → W.rangeAt gb (o + j * 7) (c.tenants[j]).cells := fun W hW => at_tn hr [] hW hA hj
  generalize c.tenants[i] = x at *
  generalize c.tenants[j] = y at *
  have hb : ∀ W, Sep r [] F W → Blk W gc 55 (c.cl a).toArray := fun W hW => hW.blk ha
  obtain ⟨zA, zc, kA, kc, tA, tc, vA, vc, rA, rc, oA, oc⟩ := a
  simp only at hA
  subst hA
  refine Z.enter Tryz.func318 Tryz.ntmps318 rfl rfl ?_
  repeat' (first|refine K ?_|(refine Sh.sa hS ?_;clear hS;intro w hS)|(refine K3 ?_;clear hS;intro g w hS hge)|(refine KB ?_ ?_<;>intro hb<;>(try simp only [JJ] at hb)<;>(try exact JX))|fail)
  refine Z.cut [6, 7, 8, 9, 10, 11, 12, 13, 14, 15, 16, 17] (fun w z => ∃ g6 g7, z = [(6, .pointer (some ⟨g6, 0, .none⟩)), (7, .pointer (some ⟨g7, 0, .none⟩))] ∧ Sep r [] (.blk g6 170 x.cells :: .blk g7 170 y.cells :: F) w) ?_ ?_
  · refine D.startS hS 13 14 (by kernel_rfl) rfl ?_
    replace hS := hS.drew
    refine Sh.dp 0 1 ?_
    refine Sh.dp 2 5 ?_
    refine Sh.dp 5 37 ?_
    refine Sh.dp 7 165 ?_
    refine D.ld 1 167 rfl D.wantedN (by kernel_rfl) rfl hb rfl ?_
    first | refine D.ixn 3 175 rfl D.wantedN (by kernel_rfl) rfl rfl rfl (by omega) ?_ | refine D.ix 3 175 rfl D.wantedN (by kernel_rfl) rfl rfl rfl (by omega) ?_ | refine D.ia 3 175 rfl D.wantedN (by kernel_rfl) rfl rfl rfl (by omega) ?_
    refine D.ldR 4 191 rfl D.wantedN (by kernel_rfl) rfl hra1 rfl ?_
    refine D.ld 6 255 rfl D.wantedN (by kernel_rfl) rfl hb rfl ?_
    first | refine D.ixn 8 511 rfl D.wantedN (by kernel_rfl) rfl rfl rfl (by omega) ?_ | refine D.ix 8 511 rfl D.wantedN (by kernel_rfl) rfl rfl rfl (by omega) ?_ | refine D.ia 8 511 rfl D.wantedN (by kernel_rfl) rfl rfl rfl (by omega) ?_
    refine D.ldR 9 1023 rfl D.wantedN (by kernel_rfl) rfl hra2 rfl ?_
    refine D.each [10, 11] (by kernel_rfl) rfl ?_
    refine D.econs 10 2047 rfl D.wantedN (by kernel_rfl) (fun _ _ h => h) ?_ ?_
    · refine Z.al hS ?_
      clear hS; intro g w hS hge
      refine HMs ?_
      refine D.ef 11 4095 ?_
      refine Z.al hS ?_
      clear hS; intro g w hS hge
      refine HMs ?_
      refine D.ef 12 8191 ?_
      refine Z.st hS rfl AtF rfl rfl ?_
      clear hS; intro w hS
      refine HMs ?_
      refine D.ef 13 16383 ?_
      refine Z.st hS rfl AtF rfl rfl ?_
      clear hS; intro w hS
      refine ⟨HM.last (by kernel_rfl), ?_⟩
      refine D.done (by kernel_rfl) ?_
      refine Sh.cut [(6, _), (7, _)] ?_
      exact ⟨_, _, rfl, hS.sb⟩
    refine D.econs 11 3071 rfl D.wantedN (by kernel_rfl) (fun _ _ h => h) ?_ ?_
    · refine Z.al hS ?_
      clear hS; intro g w hS hge
      refine HMs ?_
      refine D.ef 10 4095 ?_
      refine Z.al hS ?_
      clear hS; intro g w hS hge
      refine HMs ?_
      refine D.ef 12 8191 ?_
      refine Z.st hS rfl AtF rfl rfl ?_
      clear hS; intro w hS
      refine HMs ?_
      refine D.ef 13 16383 ?_
      refine Z.st hS rfl AtF rfl rfl ?_
      clear hS; intro w hS
      refine ⟨HM.last (by kernel_rfl), ?_⟩
      refine D.done (by kernel_rfl) ?_
      refine Sh.cut [(6, _), (7, _)] ?_
      exact ⟨_, _, rfl, hS.sb⟩
    exact D.enil
  clear hS
  rintro f0 w _ ⟨g6, g7, rfl, hS⟩
  repeat' (first|refine K ?_|(refine Sh.sa hS ?_;clear hS;intro w hS)|(refine K3 ?_;clear hS;intro g w hS hge)|(refine KB ?_ ?_<;>intro hb<;>(try simp only [JJ] at hb)<;>(try exact JX))|fail)
  refine D.startS (Lr := [.blk g6 170 x.cells, .blk g7 170 y.cells]) (hS.sb) 16 16 (by kernel_rfl) rfl ?_
  replace hS := hS.drew
  refine Sh.dp 0 1 ?_
  refine Sh.dp 2 5 ?_
  refine Sh.dp 5 37 ?_
  refine Sh.dp 7 165 ?_
  refine Sh.dp 10 1189 ?_
  refine Sh.dp 11 3237 ?_
  refine Sh.dl 1 3239 ?_
  refine Sh.dl 3 3247 ?_
  refine Sh.dl 6 3311 ?_
  refine Sh.dl 8 3567 ?_
  refine D.ef 4 3583 ?_
  refine Z.cl (ci3_z _ _ _ _ _ hS) rfl ?_
  clear hS
  rintro e w ⟨rfl, hS⟩
  refine ⟨_, rfl, ?_⟩
  refine HMs ?_
  refine D.ef 9 4095 ?_
  refine Z.cl (ci3_z _ _ _ _ _ hS) rfl ?_
  clear hS
  rintro e w ⟨rfl, hS⟩
  refine ⟨_, rfl, ?_⟩
  refine HMs ?_
  refine D.ef 12 8191 ?_
  refine Z.cl (ci3_z _ _ _ _ _ hS) rfl ?_
  clear hS
  rintro e w ⟨rfl, hS⟩
  refine ⟨_, rfl, ?_⟩
  refine HMs ?_
  refine D.ef 13 16383 ?_
  refine Z.bs hS rfl rfl rfl ?_
  clear hS; intro g w hS hge
  refine HMs ?_
  refine D.ef 14 32767 ?_
  replace hS := mk_sl (sz := 1) (n := 3) (rows := [ci3 y.prio x.prio, ci3 y.load x.load, ci3 i j].map intC) hS rfl (by omega) (by decide) (fun row hr => by obtain ⟨z, _, rfl⟩ := List.mem_map.1 hr; exact ⟨rfl, by simp [intC, Value.oneCell']⟩) rfl
  refine Z.cl (orL_z _ _ _ _ _ hS (Reads.of_at AtF) (by simp)) rfl ?_
  clear hS
  rintro e w ⟨rfl, hS⟩
  refine ⟨_, rfl, ?_⟩
  refine HMs ?_
  refine Sh.dp 15 65535 ?_
  refine D.done (by kernel_rfl) ?_
  repeat' (first|refine K ?_|(refine Sh.sa hS ?_;clear hS;intro w hS)|(refine K3 ?_;clear hS;intro g w hS hge)|(refine KB ?_ ?_<;>intro hb<;>(try simp only [JJ] at hb)<;>(try exact JX))|fail)
  refine Dnt Tryz.results318 ?_
  exact ⟨_, rfl, hS.sb⟩
set_option maxHeartbeats 8000000 in
theorem insI_z (gs gc n cap : Nat) (l : List Int) (c : Cfg) (a : CAd) (r : World) (F : List Res) (w : World) (hS : Sep r [] (.sl 3 1 (.slice (some ⟨gs, 0, none⟩) n cap) (l.map ztC) :: .blk gc 55 (c.cl a) :: F) w) (hr : CfR r F c a) (hln : l.length = n) (hn : n ≤ 1000) (hlt : ∀ x, x ∈ l → 0 ≤ x ∧ x < c.tenants.length) :
    Calls Tryz.prog 415 #[.slice (some ⟨gs, 0, none⟩) n cap, .int .i64 0, .int .i64 n, .func (.func 318) #[] #[.pointer (some ⟨gc, 0, none⟩)]] w fun e w' => ∃ l' : List Int, e = .returned (.tuple #[]) ∧ l'.Perm l ∧ Sep r [] (.sl 3 1 (.slice (some ⟨gs, 0, none⟩) n cap) (l'.map ztC) :: .blk gc 55 (c.cl a) :: F) w' := by
  refine Z.enter Tryz.func415 Tryz.ntmps415 rfl rfl ?_
  repeat' (first|refine K ?_|(refine Sh.sa hS ?_;clear hS;intro w hS)|(refine K3 ?_;clear hS;intro g w hS hge)|(refine KB ?_ ?_<;>intro hb<;>(try simp only [JJ] at hb)<;>(try exact JX))|fail)
  refine Z.lpS [8, 9, 12, 13, 14, 15, 16, 17, 18, 19, 20, 21, 22, 23, 24, 25, 26, 27, 28, 29, 30, 31, 32, 33, 34, 35, 36, 37, 38, 39, 40, 41, 42, 43, 44, 45, 46, 47, 48, 49, 50, 51, 52] (fun m w z => ∃ (i : Nat) (l' : List Int), z = [(8, .int .i64 i)] ∧ (1 ≤ i ∧ i ≤ n + 1) ∧ l'.Perm l ∧ m = n + 1 - i ∧ Sep r [] (.sl 3 1 (.slice (some ⟨gs, 0, none⟩) n cap) (l'.map ztC) :: .blk gc 55 (c.cl a) :: F) w) _ [(8, .int .i64 (1 : Nat))] TrF ⟨1, l, rfl, by omega, List.Perm.refl _, rfl, hS⟩ ?_
  clear hS
  rintro m f0 w _ ⟨i, l', rfl, hi, hp, rfl, hS⟩
  by_cases hlt2 : i < n
  rotate_left
  · repeat' (first|refine K ?_|(refine Sh.sa hS ?_;clear hS;intro w hS)|(refine K3 ?_;clear hS;intro g w hS hge)|(refine KB ?_ ?_<;>intro hb<;>(try simp only [JJ] at hb)<;>(try exact JX))|fail)
    refine Dn Tryz.results415 ?_
    exact ⟨l', rfl, hp, hS⟩
  repeat' (first|refine K ?_|(refine Sh.sa hS ?_;clear hS;intro w hS)|(refine K3 ?_;clear hS;intro g w hS hge)|(refine KB ?_ ?_<;>intro hb<;>(try simp only [JJ] at hb)<;>(try exact JX))|fail)
  refine Z.lpS [9, 18, 19, 20, 21, 22, 23, 24, 25, 26, 27, 28, 29, 30, 31, 32, 33, 34, 35, 36, 37, 38, 39, 40, 41, 42, 43, 44, 45, 46, 47, 48, 49, 50, 51, 52] (fun m w z => ∃ (j : Nat) (l' : List Int), z = [(9, .int .i64 j)] ∧ (j ≤ i) ∧ l'.Perm l ∧ m = j ∧ Sep r [] (.sl 3 1 (.slice (some ⟨gs, 0, none⟩) n cap) (l'.map ztC) :: .blk gc 55 (c.cl a) :: F) w) _ [(9, .int .i64 (i : Nat))] TrF ⟨i, l', rfl, Nat.le_refl _, hp, rfl, hS⟩ ?_
  clear hS hp l'
  rintro m f1 w _ ⟨j, l', rfl, hj, hp, hm, hS⟩
  subst m
  repeat' (first|refine K ?_|(refine Sh.sa hS ?_;clear hS;intro w hS)|(refine K3 ?_;clear hS;intro g w hS hge)|(refine KB ?_ ?_<;>intro hb<;>(try simp only [JJ] at hb)<;>(try exact JX))|fail)
  have hl' : l'.length = n := hp.length_eq.trans hln
  have hin : ∀ q (h : q < l'.length), 0 ≤ l'[q] ∧ l'[q] < c.tenants.length := fun q h => hlt _ (hp.mem_iff.1 (List.getElem_mem h))
  by_cases hj0 : 0 < j
  rotate_left
  · obtain rfl : j = 0 := by omega
    refine D.startS hS 17 17 (by kernel_rfl) rfl ?_
    replace hS := hS.drew
    refine Sh.dp 0 1 ?_
    refine Sh.dp 1 3 ?_
    refine Sh.dp 2 7 ?_
    refine Sh.dp 3 15 ?_
    refine D.slot 21 rfl NoF (fun hb => ?_)
    (try simp only [JJ] at hb)
    refine D.skF 4 31 rfl (by kernel_rfl) rfl rfl ?_
    refine D.skF 5 63 rfl (by kernel_rfl) rfl rfl ?_
    refine D.skF 6 127 rfl (by kernel_rfl) rfl rfl ?_
    refine D.skF 7 255 rfl (by kernel_rfl) rfl rfl ?_
    refine D.skF 8 511 rfl (by kernel_rfl) rfl rfl ?_
    refine D.skF 9 1023 rfl (by kernel_rfl) rfl rfl ?_
    refine D.skF 10 2047 rfl (by kernel_rfl) rfl rfl ?_
    refine D.skF 11 4095 rfl (by kernel_rfl) rfl rfl ?_
    refine D.skF 12 8191 rfl (by kernel_rfl) rfl rfl ?_
    refine D.skF 13 16383 rfl (by kernel_rfl) rfl rfl ?_
    refine D.skF 14 32767 rfl (by kernel_rfl) rfl rfl ?_
    refine D.skF 15 65535 rfl (by kernel_rfl) rfl rfl ?_
    refine Sh.dp 16 131071 ?_
    refine D.done (by kernel_rfl) ?_
    repeat' (first|refine K ?_|(refine Sh.sa hS ?_;clear hS;intro w hS)|(refine K3 ?_;clear hS;intro g w hS hge)|(refine KB ?_ ?_<;>intro hb<;>(try simp only [JJ] at hb)<;>(try exact JX))|fail)
    refine Sh.again (n + 1 - (i + 1)) [(8, .int .i64 (i + 1 : Nat))] ?_
    exact ⟨i + 1, l', rfl, by omega, hp, rfl, hS⟩
  have hj1 : j < l'.length := by omega
  have hj2 : j - 1 < l'.length := by omega
  have hra1 : ∀ W, Sep r [] (.sl 3 1 (.slice (some ⟨gs, 0, none⟩) n cap) (l'.map ztC) :: .blk gc 55 (c.cl a) :: F) W → W.rangeAt gs (0 + j * 1) (ztC l'[j]) := fun W hW => by
    have h3 := (hW.slrows .here).elem (q := j) (by omega) (by simpa using hj1)
    simpa using h3
  have hra2 : ∀ W, Sep r [] (.sl 3 1 (.slice (some ⟨gs, 0, none⟩) n cap) (l'.map ztC) :: .blk gc 55 (c.cl a) :: F) W → W.rangeAt gs (0 + (j - 1) * 1) (ztC l'[j - 1]) := fun W hW => by
    have h3 := (hW.slrows .here).elem (q := j - 1) (by omega) (by simpa using hj2)
    simpa using h3
  obtain ⟨x1, hx1⟩ := Int.eq_ofNat_of_zero_le (hin j hj1).1
  obtain ⟨x2, hx2⟩ := Int.eq_ofNat_of_zero_le (hin (j - 1) hj2).1
  have hb1 := (hin j hj1).2
  have hb2 := (hin (j - 1) hj2).2
  have hperm := (List.set_set_perm hj1 hj2).trans hp
  generalize l'[j] = y1 at *
  generalize l'[j - 1] = y2 at *
  subst hx1 hx2
  have hjc : ((j : Nat) : Int) - 1 = ((j - 1 : Nat) : Int) := by omega
  have htn : (((j : Nat) : Int) - 1).toNat = j - 1 := by omega
  rw [← htn] at hra2
  refine Z.cut [18, 19, 20, 21, 22, 23, 24, 25, 26, 27, 28, 29, 30, 31, 32, 33, 34] (fun w z => ∃ b, z = [(34, .bool b)] ∧ Sep r [] (.sl 3 1 (.slice (some ⟨gs, 0, none⟩) n cap) (l'.map ztC) :: .blk gc 55 (c.cl a) :: F) w) ?_ ?_
  · refine D.startS hS 17 17 (by kernel_rfl) rfl ?_
    replace hS := hS.drew
    refine Sh.dp 0 1 ?_
    refine Sh.dp 1 3 ?_
    refine Sh.dp 2 7 ?_
    refine Sh.dp 3 15 ?_
    refine D.slot 21 rfl (fun hb => ?_) NoF
    (try simp only [JJ] at hb)
    refine Sh.dp 4 31 ?_
    refine Sh.dp 5 63 ?_
    refine Sh.dp 6 127 ?_
    first | refine D.ixn 7 255 rfl (D.wantedT rfl rfl) (by kernel_rfl) rfl rfl rfl (by omega) ?_ | refine D.ix 7 255 rfl (D.wantedT rfl rfl) (by kernel_rfl) rfl rfl rfl (by omega) ?_ | refine D.ia 7 255 rfl (D.wantedT rfl rfl) (by kernel_rfl) rfl rfl rfl (by omega) ?_
    refine Sh.dp 9 767 ?_
    refine Sh.dp 10 1791 ?_
    first | refine D.sum 11 3839 rfl (D.wantedT rfl rfl) (by kernel_rfl) rfl (by constructor <;> omega) ?_ | refine D.sumW 11 3839 rfl (D.wantedT rfl rfl) (by kernel_rfl) rfl ?_
    first | refine D.ixn 12 7935 rfl (D.wantedT rfl rfl) (by kernel_rfl) rfl rfl rfl (by omega) ?_ | refine D.ix 12 7935 rfl (D.wantedT rfl rfl) (by kernel_rfl) rfl rfl rfl (by omega) ?_ | refine D.ia 12 7935 rfl (D.wantedT rfl rfl) (by kernel_rfl) rfl rfl rfl (by omega) ?_
    refine D.ldR 8 8191 rfl (D.wantedT rfl rfl) (by kernel_rfl) rfl hra1 rfl ?_
    refine D.ldR 13 16383 rfl (D.wantedT rfl rfl) (by kernel_rfl) rfl hra2 rfl ?_
    refine D.eff 14 32767 rfl (D.wantedT rfl rfl) (by kernel_rfl) (by kernel_rfl) (fun _ _ h => h) ?_
    refine WE.guard ?_
    refine Z.clf (caps := [.pointer (some ⟨gc, 0, none⟩)]) rfl (tord1_z gc x1 x2 c a _ _ _ hS (.next .here) ((hr.cons _).cons _) (by omega) (by omega)) rfl ?_
    clear hS; rintro e w ⟨z, rfl, hS⟩
    refine ⟨_, rfl, ?_⟩
    refine HMs ?_
    refine Sh.dp 15 65535 ?_
    refine Sh.dp 16 131071 ?_
    refine D.done (by kernel_rfl) ?_
    refine Sh.cut [(34, _)] ?_
    exact ⟨_, rfl, hS⟩
  clear hS
  rintro f2 w _ ⟨b, rfl, hS⟩
  cases b
  · repeat' (first|refine K ?_|(refine Sh.sa hS ?_;clear hS;intro w hS)|(refine K3 ?_;clear hS;intro g w hS hge)|(refine KB ?_ ?_<;>intro hb<;>(try simp only [JJ] at hb)<;>(try exact JX))|fail)
    refine Sh.again (n + 1 - (i + 1)) [(8, .int .i64 (i + 1 : Nat))] ?_
    exact ⟨i + 1, l', rfl, by omega, hp, rfl, hS⟩
  · repeat' (first|refine K ?_|(refine Sh.sa hS ?_;clear hS;intro w hS)|(refine K3 ?_;clear hS;intro g w hS hge)|(refine KB ?_ ?_<;>intro hb<;>(try simp only [JJ] at hb)<;>(try exact JX))|fail)
    refine D.startS (Lr := [.blk gc 55 (c.cl a)]) (hS.sb) 17 18 (by kernel_rfl) rfl ?_
    replace hS := hS.drew
    refine Sh.dp 0 1 ?_
    refine Sh.dp 1 3 ?_
    refine Sh.dp 2 7 ?_
    refine Sh.dp 3 15 ?_
    first | refine D.sum 4 31 rfl D.wantedN (by kernel_rfl) rfl (by constructor <;> omega) ?_ | refine D.sumW 4 31 rfl D.wantedN (by kernel_rfl) rfl ?_
    refine Sh.dp 5 63 ?_
    refine Sh.dp 6 127 ?_
    first | refine D.sum 7 255 rfl D.wantedN (by kernel_rfl) rfl (by constructor <;> omega) ?_ | refine D.sumW 7 255 rfl D.wantedN (by kernel_rfl) rfl ?_
    first | refine D.ixn 8 511 rfl D.wantedN (by kernel_rfl) rfl rfl rfl (by omega) ?_ | refine D.ix 8 511 rfl D.wantedN (by kernel_rfl) rfl rfl rfl (by omega) ?_ | refine D.ia 8 511 rfl D.wantedN (by kernel_rfl) rfl rfl rfl (by omega) ?_
    refine Sh.dp 10 1535 ?_
    refine Sh.dp 11 3583 ?_
    first | refine D.ixn 12 7679 rfl D.wantedN (by kernel_rfl) rfl rfl rfl (by omega) ?_ | refine D.ix 12 7679 rfl D.wantedN (by kernel_rfl) rfl rfl rfl (by omega) ?_ | refine D.ia 12 7679 rfl D.wantedN (by kernel_rfl) rfl rfl rfl (by omega) ?_
    refine D.each [9, 13] (by kernel_rfl) rfl ?_
    refine D.econs 9 8191 rfl D.wantedN (by kernel_rfl) (fun _ _ h => h) ?_ ?_
    · refine Z.ldR rfl (hra2 _ hS) rfl ?_
      refine HMs ?_
      refine D.ef 13 16383 ?_
      refine Z.ldR rfl (hra1 _ hS) rfl ?_
      refine HMs ?_
      first | refine D.ixn 14 32767 rfl D.wantedN (by kernel_rfl) rfl rfl rfl (by omega) ?_ | refine D.ix 14 32767 rfl D.wantedN (by kernel_rfl) rfl rfl rfl (by omega) ?_ | refine D.ia 14 32767 rfl D.wantedN (by kernel_rfl) rfl rfl rfl (by omega) ?_
      refine D.ef 15 65535 ?_
      refine Z.stF (sz := 1) (j := 0) (x2 : Int) hS rfl .here hj1 rfl rfl rfl (by omega) rfl ?_
      clear hS; intro w hS
      refine HMs ?_
      first | refine D.ixn 16 131071 rfl D.wantedN (by kernel_rfl) rfl rfl rfl (by omega) ?_ | refine D.ix 16 131071 rfl D.wantedN (by kernel_rfl) rfl rfl rfl (by omega) ?_ | refine D.ia 16 131071 rfl D.wantedN (by kernel_rfl) rfl rfl rfl (by omega) ?_
      refine D.ef 17 262143 ?_
      refine Z.stF (sz := 1) (j := 0) (x1 : Int) hS rfl .here (by rw [htn]; simpa using hj2) rfl rfl rfl (by omega) rfl ?_
      clear hS; intro w hS
      rw [htn] at hS
      refine ⟨HM.last (by kernel_rfl), ?_⟩
      refine D.done (by kernel_rfl) ?_
      repeat' (first|refine K ?_|(refine Sh.sa hS ?_;clear hS;intro w hS)|(refine K3 ?_;clear hS;intro g w hS hge)|(refine KB ?_ ?_<;>intro hb<;>(try simp only [JJ] at hb)<;>(try exact JX))|fail)
      refine Sh.again (j - 1) [(9, .int .i64 ((j : Int) - 1))] ?_
      exact ⟨j - 1, _, by rw [hjc], by omega, hperm, rfl, hS⟩
    refine D.econs 13 15871 rfl D.wantedN (by kernel_rfl) (fun _ _ h => h) ?_ ?_
    · refine Z.ldR rfl (hra1 _ hS) rfl ?_
      refine HMs ?_
      refine D.ef 9 16383 ?_
      refine Z.ldR rfl (hra2 _ hS) rfl ?_
      refine HMs ?_
      first | refine D.ixn 14 32767 rfl D.wantedN (by kernel_rfl) rfl rfl rfl (by omega) ?_ | refine D.ix 14 32767 rfl D.wantedN (by kernel_rfl) rfl rfl rfl (by omega) ?_ | refine D.ia 14 32767 rfl D.wantedN (by kernel_rfl) rfl rfl rfl (by omega) ?_
      refine D.ef 15 65535 ?_
      refine Z.stF (sz := 1) (j := 0) (x2 : Int) hS rfl .here hj1 rfl rfl rfl (by omega) rfl ?_
      clear hS; intro w hS
      refine HMs ?_
      first | refine D.ixn 16 131071 rfl D.wantedN (by kernel_rfl) rfl rfl rfl (by omega) ?_ | refine D.ix 16 131071 rfl D.wantedN (by kernel_rfl) rfl rfl rfl (by omega) ?_ | refine D.ia 16 131071 rfl D.wantedN (by kernel_rfl) rfl rfl rfl (by omega) ?_
      refine D.ef 17 262143 ?_
      refine Z.stF (sz := 1) (j := 0) (x1 : Int) hS rfl .here (by rw [htn]; simpa using hj2) rfl rfl rfl (by omega) rfl ?_
      clear hS; intro w hS
      rw [htn] at hS
      refine ⟨HM.last (by kernel_rfl), ?_⟩
      refine D.done (by kernel_rfl) ?_
      repeat' (first|refine K ?_|(refine Sh.sa hS ?_;clear hS;intro w hS)|(refine K3 ?_;clear hS;intro g w hS hge)|(refine KB ?_ ?_<;>intro hb<;>(try simp only [JJ] at hb)<;>(try exact JX))|fail)
      refine Sh.again (j - 1) [(9, .int .i64 ((j : Int) - 1))] ?_
      exact ⟨j - 1, _, by rw [hjc], by omega, hperm, rfl, hS⟩
    exact D.enil
theorem insA_z (A : Option Addr) (gc n cap : Nat) (l : List Int) (c : Cfg) (a : CAd) (r : World) (F : List Res) (w : World) (hS : Sep r [] (.sl 3 1 (.slice A n cap) (l.map ztC) :: .blk gc 55 (c.cl a) :: F) w) (hr : CfR r F c a) (hln : l.length = n) (hn : n ≤ 1000) (hlt : ∀ x, x ∈ l → 0 ≤ x ∧ x < c.tenants.length) :
    Calls Tryz.prog 415 #[.slice A n cap, .int .i64 0, .int .i64 n, .func (.func 318) #[] #[.pointer (some ⟨gc, 0, none⟩)]] w fun e w' => ∃ l' : List Int, e = .returned (.tuple #[]) ∧ l'.Perm l ∧ Sep r [] (.sl 3 1 (.slice A n cap) (l'.map ztC) :: .blk gc 55 (c.cl a) :: F) w' := by
  by_cases h0 : 0 < n
  · obtain ⟨gs, rfl⟩ := Z.Sep_slform hS (e := 3) (sz := 1) (A := A) (n0 := n) (c := cap) (rows := l.map ztC) AtF (by simp; omega)
    exact insI_z gs gc n cap l c a r F w hS hr hln hn hlt
  · obtain rfl : n = 0 := by omega
    refine Z.enter Tryz.func415 Tryz.ntmps415 rfl rfl ?_
    repeat' (first|refine K ?_|(refine Sh.sa hS ?_;clear hS;intro w hS)|(refine K3 ?_;clear hS;intro g w hS hge)|(refine KB ?_ ?_<;>intro hb<;>(try simp only [JJ] at hb)<;>(try exact JX))|fail)
    refine Z.lpS [8, 9, 12, 13, 14, 15, 16, 17, 18, 19, 20, 21, 22, 23, 24, 25, 26, 27, 28, 29, 30, 31, 32, 33, 34, 35, 36, 37, 38, 39, 40, 41, 42, 43, 44, 45, 46, 47, 48, 49, 50, 51, 52] (fun m w z => z = [(8, .int .i64 1)] ∧ Sep r [] (.sl 3 1 (.slice A (0 : Nat) cap) (l.map ztC) :: .blk gc 55 (c.cl a) :: F) w) 0 [(8, .int .i64 1)] TrF ⟨rfl, hS⟩ ?_
    clear hS
    rintro m f0 w _ ⟨rfl, hS⟩
    repeat' (first|refine K ?_|(refine Sh.sa hS ?_;clear hS;intro w hS)|(refine K3 ?_;clear hS;intro g w hS hge)|(refine KB ?_ ?_<;>intro hb<;>(try simp only [JJ] at hb)<;>(try exact JX))|fail)
    refine Dn Tryz.results415 ?_
    exact ⟨l, rfl, List.Perm.refl _, hS⟩
set_option maxHeartbeats 2000000 in
theorem pdqI_z (A : Option Addr) (gc n cap : Nat) (l : List Int) (k : Int) (c : Cfg) (a : CAd) (r : World) (F : List Res) (w : World) (hS : Sep r [] (.sl 3 1 (.slice A n cap) (l.map ztC) :: .blk gc 55 (c.cl a) :: F) w) (hr : CfR r F c a) (hln : l.length = n) (hn : n ≤ 12) (hlt : ∀ x, x ∈ l → 0 ≤ x ∧ x < c.tenants.length) :
    Calls Tryz.prog 378 #[.slice A n cap, .int .i64 0, .int .i64 n, .int .i64 k, .func (.func 318) #[] #[.pointer (some ⟨gc, 0, none⟩)]] w fun e w' => ∃ l' : List Int, e = .returned (.tuple #[]) ∧ l'.Perm l ∧ Sep r [] (.sl 3 1 (.slice A n cap) (l'.map ztC) :: .blk gc 55 (c.cl a) :: F) w' := by
  refine Z.enter Tryz.func378 Tryz.ntmps378 rfl rfl ?_
  repeat' (first|refine K ?_|(refine Sh.sa hS ?_;clear hS;intro w hS)|(refine K3 ?_;clear hS;intro g w hS hge)|(refine KB ?_ ?_<;>intro hb<;>(try simp only [JJ] at hb)<;>(try exact JX))|fail)
  refine Z.lpS [1, 2, 3, 10, 11, 12, 13, 14, 15, 16, 17, 18, 19, 20, 21, 22, 23, 24, 25, 26, 27, 28, 29, 30, 31, 32, 33, 34, 35, 36, 37, 38, 39, 40, 41, 42, 43, 44, 45, 46, 47, 48, 49, 50, 51, 52, 53, 54, 55, 56, 57, 58, 59, 60, 61, 62, 63, 64, 65, 66, 67, 68, 69, 70, 71, 72, 73, 74, 75, 76, 77, 78, 79, 80, 81, 82, 83, 84, 85, 86, 87, 88, 89, 90, 91, 92, 93, 94, 95, 96, 97, 98, 99, 100, 101, 102, 103, 104, 105, 106, 107, 108, 109, 110, 111, 112, 113, 114, 115, 116, 117, 118, 119, 120, 121, 122, 123, 124, 125, 126, 127, 128, 129, 130, 131, 132, 133, 134, 135, 136, 137, 138, 139, 140, 141, 142, 143, 144, 145, 146, 147] (fun m w z => z = [(1, .int .i64 0), (2, .int .i64 n)] ∧ Sep r [] (.sl 3 1 (.slice A n cap) (l.map ztC) :: .blk gc 55 (c.cl a) :: F) w) 0 [(1, .int .i64 0), (2, .int .i64 n)] TrF ⟨rfl, hS⟩ ?_
  clear hS
  rintro m f0 w _ ⟨rfl, hS⟩
  repeat' (first|refine K ?_|(refine Sh.sa hS ?_;clear hS;intro w hS)|(refine K3 ?_;clear hS;intro g w hS hge)|(refine KB ?_ ?_<;>intro hb<;>(try simp only [JJ] at hb)<;>(try exact JX))|fail)
  refine Z.eff (Z.cl (insA_z A gc n cap l c a _ _ _ hS hr hln (by omega) hlt) rfl ?_) rfl
  clear hS
  rintro e w ⟨l', rfl, hp, hS⟩
  refine ⟨_, rfl, ?_⟩
  repeat' (first|refine K ?_|(refine Sh.sa hS ?_;clear hS;intro w hS)|(refine K3 ?_;clear hS;intro g w hS hge)|(refine KB ?_ ?_<;>intro hb<;>(try simp only [JJ] at hb)<;>(try exact JX))|fail)
  refine Dn Tryz.results378 ?_
  exact ⟨l', rfl, hp, hS⟩
theorem tlen64_z (n : Nat) (hn : n ≤ 5) (r : World) (F : List Res) (w : World) (hS : Sep r [] F w) : Calls Tryz.prog 250 #[.int .u64 n] w fun y w' => ∃ k : Int, y = .returned (.int .i64 k) ∧ Sep r [] F w' := by
  rcases (by omega : n = 0 ∨ n = 1 ∨ n = 2 ∨ n = 3 ∨ n = 4 ∨ n = 5) with rfl | rfl | rfl | rfl | rfl | rfl
  all_goals
    refine Z.enter Tryz.func250 Tryz.ntmps250 rfl rfl ?_
    repeat' (first|refine K ?_|(refine Sh.sa hS ?_;clear hS;intro w hS)|(refine K3 ?_;clear hS;intro g w hS hge)|(refine KB ?_ ?_<;>intro hb<;>(try simp only [JJ] at hb)<;>(try exact JX))|fail)
    first | refine IXS8 (j := 0) Tryz.underlying9 (of_decide_eq_true (by kernel_rfl)) rfl rfl ?_ | refine IXS8 (j := 1) Tryz.underlying9 (of_decide_eq_true (by kernel_rfl)) rfl rfl ?_ | refine IXS8 (j := 2) Tryz.underlying9 (of_decide_eq_true (by kernel_rfl)) rfl rfl ?_ | refine IXS8 (j := 3) Tryz.underlying9 (of_decide_eq_true (by kernel_rfl)) rfl rfl ?_ | refine IXS8 (j := 4) Tryz.underlying9 (of_decide_eq_true (by kernel_rfl)) rfl rfl ?_ | refine IXS8 (j := 5) Tryz.underlying9 (of_decide_eq_true (by kernel_rfl)) rfl rfl ?_
    repeat' (first|refine Kw ?_|(refine Sh.sa hS ?_;clear hS;intro w hS)|(refine K3 ?_;clear hS;intro g w hS hge)|(refine KB ?_ ?_<;>intro hb<;>(try simp only [JJ] at hb)<;>(try exact JX))|fail)
    refine Dnt Tryz.results250 ?_
    exact ⟨_, rfl, hS⟩
theorem tlen_z (n : Nat) (hn : n ≤ 5) (r : World) (F : List Res) (w : World) (hS : Sep r [] F w) : Calls Tryz.prog 155 #[.int .u64 n] w fun y w' => ∃ k : Int, y = .returned (.int .i64 k) ∧ Sep r [] F w' := by
  refine Z.enter Tryz.func155 Tryz.ntmps155 rfl rfl ?_
  repeat' (first|refine K ?_|(refine Sh.sa hS ?_;clear hS;intro w hS)|(refine K3 ?_;clear hS;intro g w hS hge)|(refine KB ?_ ?_<;>intro hb<;>(try simp only [JJ] at hb)<;>(try exact JX))|fail)
  refine Z.eff (Z.cl (tlen64_z n hn _ _ _ hS) rfl ?_) rfl
  clear hS
  rintro e w ⟨k, rfl, hS⟩
  refine ⟨_, rfl, ?_⟩
  repeat' (first|refine K ?_|(refine Sh.sa hS ?_;clear hS;intro w hS)|(refine K3 ?_;clear hS;intro g w hS hge)|(refine KB ?_ ?_<;>intro hb<;>(try simp only [JJ] at hb)<;>(try exact JX))|fail)
  refine Dnt Tryz.results155 ?_
  exact ⟨_, rfl, hS⟩
theorem sortI_z (A : Option Addr) (gc n cap : Nat) (l : List Int) (c : Cfg) (a : CAd) (r : World) (F : List Res) (w : World) (hS : Sep r [] (.sl 3 1 (.slice A n cap) (l.map ztC) :: .blk gc 55 (c.cl a) :: F) w) (hr : CfR r F c a) (hln : l.length = n) (hn : n ≤ 5) (hlt : ∀ x, x ∈ l → 0 ≤ x ∧ x < c.tenants.length) :
    Calls Tryz.prog 317 #[.slice A n cap, .func (.func 318) #[] #[.pointer (some ⟨gc, 0, none⟩)]] w fun e w' => ∃ l' : List Int, e = .returned (.tuple #[]) ∧ l'.Perm l ∧ Sep r [] (.sl 3 1 (.slice A n cap) (l'.map ztC) :: .blk gc 55 (c.cl a) :: F) w' := by
  have hu : IntKind.u64.wrap (n : Int) = n := by
    simp [IntKind.wrap, IntKind.signed, IntKind.bits]
    omega
  refine Z.enter Tryz.func317 Tryz.ntmps317 rfl rfl ?_
  repeat' (first|refine K ?_|(refine Sh.sa hS ?_;clear hS;intro w hS)|(refine K3 ?_;clear hS;intro g w hS hge)|(refine KB ?_ ?_<;>intro hb<;>(try simp only [JJ] at hb)<;>(try exact JX))|fail)
  rw [hu]
  refine Z.eff (Z.cl (tlen_z n hn _ _ _ hS) rfl ?_) rfl
  clear hS
  rintro e w ⟨k, rfl, hS⟩
  refine ⟨_, rfl, ?_⟩
  repeat' (first|refine K ?_|(refine Sh.sa hS ?_;clear hS;intro w hS)|(refine K3 ?_;clear hS;intro g w hS hge)|(refine KB ?_ ?_<;>intro hb<;>(try simp only [JJ] at hb)<;>(try exact JX))|fail)
  refine Z.eff (Z.cl (pdqI_z A gc n cap l k c a _ _ _ hS hr hln (by omega) hlt) rfl ?_) rfl
  clear hS
  rintro e w ⟨l', rfl, hp, hS⟩
  refine ⟨_, rfl, ?_⟩
  repeat' (first|refine K ?_|(refine Sh.sa hS ?_;clear hS;intro w hS)|(refine K3 ?_;clear hS;intro g w hS hge)|(refine KB ?_ ?_<;>intro hb<;>(try simp only [JJ] at hb)<;>(try exact JX))|fail)
  refine Dn Tryz.results317 ?_
  exact ⟨l', rfl, hp, hS⟩
theorem range_snoc (i : Nat) : (List.range (i + 1)).map Int.ofNat = (List.range i).map Int.ofNat ++ [(i : Int)] := by
  rw [List.range_succ, List.map_append]
  rfl
set_option maxHeartbeats 4000000 in
theorem torder_z (c : Cfg) (a : CAd) (r : World) (F : List Res) (w : World) (hS : Sep r [] F w) (hr : CfR r F c a) (hn : c.tenants.length ≤ 5) :
    Calls Tryz.prog 254 #[c.val a] w fun e w' => ∃ (A : Option Addr) (cap : Nat) (l : List Int), e = .returned (.slice A c.tenants.length cap) ∧ l.Perm ((List.range c.tenants.length).map Int.ofNat) ∧ Sep r [] (.sl 3 1 (.slice A c.tenants.length cap) (l.map ztC) :: F) w' := by
  refine Z.enter Tryz.func254 Tryz.ntmps254 rfl rfl ?_
  repeat' (first|refine K ?_|(refine Sh.sa hS ?_;clear hS;intro w hS)|(refine K3 ?_;clear hS;intro g w hS hge)|(refine KB ?_ ?_<;>intro hb<;>(try simp only [JJ] at hb)<;>(try exact JX))|fail)
  rename Nat => gc
  refine Z.eff (Z.mks (l := 0) (c := c.tenants.length) hS rfl rfl rfl (Nat.zero_le _) (by show 8 * c.tenants.length ≤ 281474976710656; omega) (by unfold maxLen; omega) ?_) rfl
  clear hS; intro gs w hS _
  replace hS := mk_sl0 (sz := 1) (c := c.tenants.length) hS (by unfold maxLen; omega) (by rw [zerosL_ln]; rfl)
  repeat' (first|refine K ?_|(refine Sh.sa hS ?_;clear hS;intro w hS)|(refine K3 ?_;clear hS;intro g w hS hge)|(refine KB ?_ ?_<;>intro hb<;>(try simp only [JJ] at hb)<;>(try exact JX))|fail)
  refine Z.lpS [3, 4, 12, 13, 14, 15, 16, 17, 18, 19] (fun m w z => ∃ (i : Nat) (A : Option Addr) (cap : Nat), z = [(3, .slice A i cap), (12, .int .i64 i)] ∧ i ≤ c.tenants.length ∧ m = c.tenants.length - i ∧ Sep r [] (.sl 3 1 (.slice A i cap) (((List.range i).map Int.ofNat).map ztC) :: .blk gc 55 (c.cl a) :: F) w) _ [(3, .slice (some ⟨gs, 0, none⟩) 0 c.tenants.length), (12, .int .i64 (0 : Nat))] TrF ⟨0, _, _, rfl, by omega, rfl, hS⟩ ?_
  clear hS
  rintro m f0 w _ ⟨i, A, cap, rfl, hi, rfl, hS⟩
  by_cases hlt : i < c.tenants.length
  · repeat' (first|refine K ?_|(refine Sh.sa hS ?_;clear hS;intro w hS)|(refine K3 ?_;clear hS;intro g w hS hge)|(refine KB ?_ ?_<;>intro hb<;>(try simp only [JJ] at hb)<;>(try exact JX))|fail)
    refine Z.eff (Z.apm (fc := ztC) (l := ((List.range i).map Int.ofNat)) (l' := [(i : Int)]) hS rfl rfl rfl AtF (hS.lit1 AtF rfl rfl) (by simp; omega) (by simp; unfold maxLen; omega) ?_) rfl
    clear hS; intro A' c' w hS
    have e1 : ((List.range i).map Int.ofNat).length + [(i : Int)].length = i + 1 := by simp
    rw [← range_snoc] at hS
    rw [e1] at hS ⊢
    repeat' (first|refine K ?_|(refine Sh.sa hS ?_;clear hS;intro w hS)|(refine K3 ?_;clear hS;intro g w hS hge)|(refine KB ?_ ?_<;>intro hb<;>(try simp only [JJ] at hb)<;>(try exact JX))|fail)
    refine Sh.again (c.tenants.length - (i + 1)) [(3, .slice A' (i + 1 : Nat) c'), (12, .int .i64 (i + 1 : Nat))] ?_
    exact ⟨i + 1, A', c', rfl, by omega, rfl, hS.sb⟩
  · obtain rfl : i = c.tenants.length := by omega
    repeat' (first|refine K ?_|(refine Sh.sa hS ?_;clear hS;intro w hS)|(refine K3 ?_;clear hS;intro g w hS hge)|(refine KB ?_ ?_<;>intro hb<;>(try simp only [JJ] at hb)<;>(try exact JX))|fail)
    refine Z.eff (Z.cl (sortI_z A gc c.tenants.length cap ((List.range c.tenants.length).map Int.ofNat) c a _ _ _ hS hr (by simp) hn (fun x hx => by obtain ⟨q, hq, rfl⟩ := List.mem_map.1 hx; have := List.mem_range.1 hq; exact ⟨Int.natCast_nonneg q, Int.ofNat_lt.2 this⟩)) rfl ?_) rfl
    clear hS
    rintro e w ⟨l', rfl, hp, hS⟩
    refine ⟨_, rfl, ?_⟩
    repeat' (first|refine K ?_|(refine Sh.sa hS ?_;clear hS;intro w hS)|(refine K3 ?_;clear hS;intro g w hS hge)|(refine KB ?_ ?_<;>intro hb<;>(try simp only [JJ] at hb)<;>(try exact JX))|fail)
    refine Dnt Tryz.results254 ?_
    exact ⟨A, cap, l', rfl, hp, hS.sb⟩
end Go.Proofs.YtfmnjbhncnldmaaGreat
