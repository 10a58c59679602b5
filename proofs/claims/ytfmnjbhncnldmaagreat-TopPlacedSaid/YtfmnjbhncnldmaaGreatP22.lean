import Derived.Test.YtfmnjbhncnldmaaGreatP11
import Derived.Test.YtfmnjbhncnldmaaGreatP21
set_option linter.unusedSimpArgs false
set_option linter.unusedVariables false
namespace Go.Proofs.YtfmnjbhncnldmaaGreat
open Go.RowKit
attribute [local irreducible] Res.blk Res.sl Res.all Res.ex Res.pure Res.star
theorem rhas_z (s i : Int) (r : World) (F : List Res) (w : World) (hS : Sep r [] F w) :
    Calls Tryz.prog 382 #[.int .i64 s, .int .i64 i] w fun e w' => e = .returned (.bool (hasB s i)) ∧ Sep r [] F w' := by
  by_cases h : 0 ≤ i ∧ i < 64
  · refine Z.enter Tryz.func382 Tryz.ntmps382 rfl rfl ?_
    repeat' (first|refine K ?_|(refine Sh.sa hS ?_;clear hS;intro w hS)|(refine K3 ?_;clear hS;intro g w hS hge)|(refine KB ?_ ?_<;>intro hb<;>(try simp only [JJ] at hb)<;>(try exact JX))|fail)
    refine Dnt Tryz.results382 ?_
    refine ⟨?_, hS⟩
    show Ending.returned (.bool (decide (bitZ .i64 (· &&& ·) (s.fdiv (2 ^ min i.toNat IntKind.i64.bits)) 1 = 1))) = _
    rw [bit_and1, shr_min h.2]
    simp [hasB, bitB, h]
  · have e : hasB s i = false := by unfold hasB; rw [decide_eq_false h]; rfl
    rw [e]
    refine Z.enter Tryz.func382 Tryz.ntmps382 rfl rfl ?_
    repeat' (first|refine K ?_|(refine Sh.sa hS ?_;clear hS;intro w hS)|(refine K3 ?_;clear hS;intro g w hS hge)|(refine KB ?_ ?_<;>intro hb<;>(try simp only [JJ] at hb)<;>(try exact JX))|fail)
    all_goals
      refine Dnt Tryz.results382 ?_
      exact ⟨rfl, hS⟩
theorem bhas_z (s i : Int) (r : World) (F : List Res) (w : World) (hS : Sep r [] F w) :
    Calls Tryz.prog 389 #[.int .i64 s, .int .i64 i] w fun e w' => e = .returned (.bool (hasB s i)) ∧ Sep r [] F w' := by
  by_cases h : 0 ≤ i ∧ i < 64
  · refine Z.enter Tryz.func389 Tryz.ntmps389 rfl rfl ?_
    repeat' (first|refine K ?_|(refine Sh.sa hS ?_;clear hS;intro w hS)|(refine K3 ?_;clear hS;intro g w hS hge)|(refine KB ?_ ?_<;>intro hb<;>(try simp only [JJ] at hb)<;>(try exact JX))|fail)
    refine Dnt Tryz.results389 ?_
    refine ⟨?_, hS⟩
    show Ending.returned (.bool (decide (bitZ .i64 (· &&& ·) (s.fdiv (2 ^ min i.toNat IntKind.i64.bits)) 1 = 1))) = _
    rw [bit_and1, shr_min h.2]
    simp [hasB, bitB, h]
  · have e : hasB s i = false := by unfold hasB; rw [decide_eq_false h]; rfl
    rw [e]
    refine Z.enter Tryz.func389 Tryz.ntmps389 rfl rfl ?_
    repeat' (first|refine K ?_|(refine Sh.sa hS ?_;clear hS;intro w hS)|(refine K3 ?_;clear hS;intro g w hS hge)|(refine KB ?_ ?_<;>intro hb<;>(try simp only [JJ] at hb)<;>(try exact JX))|fail)
    all_goals
      refine Dnt Tryz.results389 ?_
      exact ⟨rfl, hS⟩
theorem rusable1_z (g : Nat) (c : Cfg) (a : CAd) (mk : Int) (hd : Bool) (i x : Int) (r : World) (F : List Res) (w : World) (hS : Sep r [] F w) {k : List Res} (ha : At F k (.blk g 84 (pbC c a mk hd))) :
    Calls Tryz.prog 381 #[.int .i64 i, .int .i64 x, .pointer (some ⟨g, 0, none⟩)] w fun e w' => e = .returned (.bool (!hasB mk x)) ∧ Sep r [] F w' := by
  refine Z.enter Tryz.func381 Tryz.ntmps381 rfl rfl ?_
  repeat' (first|refine K ?_|(refine Sh.sa hS ?_;clear hS;intro w hS)|(refine K3 ?_;clear hS;intro g w hS hge)|(refine KB ?_ ?_<;>intro hb<;>(try simp only [JJ] at hb)<;>(try exact JX))|fail)
  refine Z.eff (Z.ld hS rfl ha rfl ?_) rfl
  repeat' (first|refine K ?_|(refine Sh.sa hS ?_;clear hS;intro w hS)|(refine K3 ?_;clear hS;intro g w hS hge)|(refine KB ?_ ?_<;>intro hb<;>(try simp only [JJ] at hb)<;>(try exact JX))|fail)
  refine Z.eff (Z.cl (rhas_z mk x _ _ _ hS) rfl ?_) rfl
  clear hS
  rintro e w ⟨rfl, hS⟩
  refine ⟨_, rfl, ?_⟩
  repeat' (first|refine K ?_|(refine Sh.sa hS ?_;clear hS;intro w hS)|(refine K3 ?_;clear hS;intro g w hS hge)|(refine KB ?_ ?_<;>intro hb<;>(try simp only [JJ] at hb)<;>(try exact JX))|fail)
  refine Dnt Tryz.results381 ?_
  exact ⟨rfl, hS⟩
theorem rallowed1_z (g : Nat) (c : Cfg) (a : CAd) (mk : Int) (hd : Bool) (i x : Int) (r : World) (F : List Res) (w : World) (hS : Sep r [] F w) {k : List Res} (ha : At F k (.blk g 84 (pbC c a mk hd))) (hr : CfR r F c a) (hv : CfgV c) :
    Calls Tryz.prog 383 #[.int .i64 i, .int .i64 x, .pointer (some ⟨g, 0, none⟩)] w fun e w' => e = .returned (.bool (!mayP c i x)) ∧ Sep r [] F w' := by
  refine Z.enter Tryz.func383 Tryz.ntmps383 rfl rfl ?_
  repeat' (first|refine K ?_|(refine Sh.sa hS ?_;clear hS;intro w hS)|(refine K3 ?_;clear hS;intro g w hS hge)|(refine KB ?_ ?_<;>intro hb<;>(try simp only [JJ] at hb)<;>(try exact JX))|fail)
  refine Z.eff (Z.ld hS rfl ha rfl ?_) rfl
  repeat' (first|refine K ?_|(refine Sh.sa hS ?_;clear hS;intro w hS)|(refine K3 ?_;clear hS;intro g w hS hge)|(refine KB ?_ ?_<;>intro hb<;>(try simp only [JJ] at hb)<;>(try exact JX))|fail)
  refine Z.eff (Z.cl (nmay_z c a i x _ _ _ hS hr hv) rfl ?_) rfl
  clear hS
  rintro e w ⟨rfl, hS⟩
  refine ⟨_, rfl, ?_⟩
  repeat' (first|refine K ?_|(refine Sh.sa hS ?_;clear hS;intro w hS)|(refine K3 ?_;clear hS;intro g w hS hge)|(refine KB ?_ ?_<;>intro hb<;>(try simp only [JJ] at hb)<;>(try exact JX))|fail)
  refine Dnt Tryz.results383 ?_
  exact ⟨rfl, hS⟩
def noisyB (c : Cfg) (ps : List (Int × Int)) (i j : Nat) : Bool := (c.tenants.getD i ⟨0, 0, 0, 0, 0, 0, false⟩).noisy && (c.tenants.getD j ⟨0, 0, 0, 0, 0, 0, false⟩).noisy && decide ((ps.getD i (0, 0)).1 = (ps.getD j (0, 0)).1)
set_option maxHeartbeats 4000000 in
theorem rnoisy1_z (g g3 n cap : Nat) (A : Option Addr) (c : Cfg) (a : CAd) (mk : Int) (hd : Bool) (ps : List (Int × Int)) (i j : Nat) (r : World) (F : List Res) (w : World) (hS : Sep r [] F w) {k k3 : List Res} (ha : At F k (.blk g 84 (pbC c a mk hd))) (h3 : At F k3 (.blk g3 85 [.slice A n cap])) (hr : CfR r F c a) (hp : Reads r F 2 (.slice A n cap) (ps.map plR)) (hi : i < ps.length) (hj : j < ps.length) (hl : ps.length = c.tenants.length) :
    Calls Tryz.prog 386 #[.int .i64 i, .int .i64 j, .pointer (some ⟨g, 0, none⟩), .pointer (some ⟨g3, 0, none⟩)] w fun e w' => e = .returned (.bool (noisyB c ps i j)) ∧ Sep r [] F w' := by
  have hn : n = ps.length := by
    have := (hp [] w hS).mform
    obtain ⟨A', c', h, _⟩ := this
    simp only [Value.slice.injEq, List.length_map] at h
    exact h.2.1
  obtain ⟨gb, o, hA, _⟩ := reads_tn hr [] hS (show i < c.tenants.length by omega)
  have hi2 : i < c.tenants.length := by omega
  have hj2 : j < c.tenants.length := by omega
  have ht1 : ∀ W, Sep r [] F W → W.rangeAt gb (o + i * 7) (c.tenants[i]).cells := fun W hW => at_tn hr [] hW hA hi2
  have ht2 : ∀ W, Sep r [] F W → W.rangeAt gb (o + j * 7) (c.tenants[j]).cells := fun W hW => at_tn hr [] hW hA hj2
  obtain ⟨gp, op, rfl, _, _⟩ := (hp [] w hS).mat (by omega) (q := i) (by simpa using hi)
  have hp1 : ∀ W, Sep r [] F W → W.rangeAt gp (op + i * 2) (plR ps[i]) := fun W hW => by
    have h3 := (hp [] W hW).elem (q := i) (by omega) (by simpa using hi)
    simpa using h3
  have hp2 : ∀ W, Sep r [] F W → W.rangeAt gp (op + j * 2) (plR ps[j]) := fun W hW => by
    have h3 := (hp [] W hW).elem (q := j) (by omega) (by simpa using hj)
    simpa using h3
  have e1 : c.tenants.getD i ⟨0, 0, 0, 0, 0, 0, false⟩ = c.tenants[i] := by simp [List.getD_eq_getElem?_getD, hi2]
  have e2 : c.tenants.getD j ⟨0, 0, 0, 0, 0, 0, false⟩ = c.tenants[j] := by simp [List.getD_eq_getElem?_getD, hj2]
  have e3 : ps.getD i (0, 0) = ps[i] := by simp [List.getD_eq_getElem?_getD, hi]
  have e4 : ps.getD j (0, 0) = ps[j] := by simp [List.getD_eq_getElem?_getD, hj]
  unfold noisyB
  rw [e1, e2, e3, e4]
  clear e1 e2 e3 e4
  have hbk : ∀ W, Sep r [] F W → Blk W g 84 (pbC c a mk hd).toArray := fun W hW => hW.blk ha
  have hbk3 : ∀ W, Sep r [] F W → Blk W g3 85 #[.slice (some ⟨gp, op, none⟩) n cap] := fun W hW => hW.blk h3
  subst hn
  generalize c.tenants[i] = x at *
  generalize c.tenants[j] = y at *
  generalize ps[i] = p at *
  generalize ps[j] = q at *
  obtain ⟨zA, zc, kA, kc, tA, tc, vA, vc, rA, rc, oA, oc⟩ := a
  simp only at hA
  subst hA
  obtain ⟨x1, x2, x3, x4, x5, x6, x7⟩ := x
  obtain ⟨y1, y2, y3, y4, y5, y6, y7⟩ := y
  refine Z.enter Tryz.func386 Tryz.ntmps386 rfl rfl ?_
  repeat' (first|refine K ?_|(refine Sh.sa hS ?_;clear hS;intro w hS)|(refine K3 ?_;clear hS;intro g w hS hge)|(refine KB ?_ ?_<;>intro hb<;>(try simp only [JJ] at hb)<;>(try exact JX))|fail)
  cases x7
  · refine D.startS hS 30 30 (by kernel_rfl) rfl ?_
    replace hS := hS.drew
    refine Sh.dp 0 1 ?_
    refine Sh.dp 1 3 ?_
    refine Sh.dp 3 11 ?_
    refine D.ld 2 15 rfl D.wantedN (by kernel_rfl) rfl hbk rfl ?_
    first | refine D.ixn 4 31 rfl D.wantedN (by kernel_rfl) rfl rfl rfl (by omega) ?_ | refine D.ix 4 31 rfl D.wantedN (by kernel_rfl) rfl rfl rfl (by omega) ?_ | refine D.ia 4 31 rfl D.wantedN (by kernel_rfl) rfl rfl rfl (by omega) ?_
    refine Sh.dp 5 63 ?_
    refine D.ldE 6 127 rfl D.wantedN (by kernel_rfl) rfl ht1 rfl ?_
    refine Sh.dp 7 255 ?_
    refine D.slot 14 rfl NoF (fun hb => ?_)
    (try simp only [JJ] at hb)
    refine D.skF 8 511 rfl (by kernel_rfl) rfl rfl ?_
    refine D.skF 9 1023 rfl (by kernel_rfl) rfl rfl ?_
    refine D.skF 10 2047 rfl (by kernel_rfl) rfl rfl ?_
    refine D.skF 11 4095 rfl (by kernel_rfl) rfl rfl ?_
    refine D.skF 12 8191 rfl (by kernel_rfl) rfl rfl ?_
    refine D.skF 13 16383 rfl (by kernel_rfl) rfl rfl ?_
    refine D.skF 14 32767 rfl (by kernel_rfl) rfl rfl ?_
    refine Sh.dp 15 65535 ?_
    refine Sh.dp 16 131071 ?_
    refine D.slot 23 rfl NoF (fun hb => ?_)
    (try simp only [JJ] at hb)
    refine D.skF 17 262143 rfl (by kernel_rfl) rfl rfl ?_
    refine D.skF 18 524287 rfl (by kernel_rfl) rfl rfl ?_
    refine D.skF 19 1048575 rfl (by kernel_rfl) rfl rfl ?_
    refine D.skF 20 2097151 rfl (by kernel_rfl) rfl rfl ?_
    refine D.skF 21 4194303 rfl (by kernel_rfl) rfl rfl ?_
    refine D.skF 22 8388607 rfl (by kernel_rfl) rfl rfl ?_
    refine D.skF 23 16777215 rfl (by kernel_rfl) rfl rfl ?_
    refine D.skF 24 33554431 rfl (by kernel_rfl) rfl rfl ?_
    refine D.skF 25 67108863 rfl (by kernel_rfl) rfl rfl ?_
    refine D.skF 26 134217727 rfl (by kernel_rfl) rfl rfl ?_
    refine D.skF 27 268435455 rfl (by kernel_rfl) rfl rfl ?_
    refine Sh.dp 28 536870911 ?_
    refine Sh.dp 29 1073741823 ?_
    refine D.done (by kernel_rfl) ?_
    repeat' (first|refine K ?_|(refine Sh.sa hS ?_;clear hS;intro w hS)|(refine K3 ?_;clear hS;intro g w hS hge)|(refine KB ?_ ?_<;>intro hb<;>(try simp only [JJ] at hb)<;>(try exact JX))|fail)
    refine Dnt Tryz.results386 ?_
    exact ⟨rfl, hS⟩
  cases y7
  · refine D.startS hS 30 30 (by kernel_rfl) rfl ?_
    replace hS := hS.drew
    refine Sh.dp 0 1 ?_
    refine Sh.dp 1 3 ?_
    refine Sh.dp 3 11 ?_
    refine D.ld 2 15 rfl D.wantedN (by kernel_rfl) rfl hbk rfl ?_
    first | refine D.ixn 4 31 rfl D.wantedN (by kernel_rfl) rfl rfl rfl (by omega) ?_ | refine D.ix 4 31 rfl D.wantedN (by kernel_rfl) rfl rfl rfl (by omega) ?_ | refine D.ia 4 31 rfl D.wantedN (by kernel_rfl) rfl rfl rfl (by omega) ?_
    refine Sh.dp 5 63 ?_
    refine D.ldE 6 127 rfl D.wantedN (by kernel_rfl) rfl ht1 rfl ?_
    refine Sh.dp 7 255 ?_
    refine D.slot 14 rfl (fun hb => ?_) NoF
    (try simp only [JJ] at hb)
    refine Sh.dp 8 511 ?_
    refine Sh.dp 9 1023 ?_
    refine Sh.dp 11 3071 ?_
    refine D.ld 10 4095 rfl (D.wantedT rfl rfl) (by kernel_rfl) rfl hbk rfl ?_
    first | refine D.ixn 12 8191 rfl (D.wantedT rfl rfl) (by kernel_rfl) rfl rfl rfl (by omega) ?_ | refine D.ix 12 8191 rfl (D.wantedT rfl rfl) (by kernel_rfl) rfl rfl rfl (by omega) ?_ | refine D.ia 12 8191 rfl (D.wantedT rfl rfl) (by kernel_rfl) rfl rfl rfl (by omega) ?_
    refine Sh.dp 13 16383 ?_
    refine D.ldE 14 32767 rfl (D.wantedT rfl rfl) (by kernel_rfl) rfl ht2 rfl ?_
    refine Sh.dp 15 65535 ?_
    refine Sh.dp 16 131071 ?_
    refine D.slot 23 rfl NoF (fun hb => ?_)
    (try simp only [JJ] at hb)
    refine D.skF 17 262143 rfl (by kernel_rfl) rfl rfl ?_
    refine D.skF 18 524287 rfl (by kernel_rfl) rfl rfl ?_
    refine D.skF 19 1048575 rfl (by kernel_rfl) rfl rfl ?_
    refine D.skF 20 2097151 rfl (by kernel_rfl) rfl rfl ?_
    refine D.skF 21 4194303 rfl (by kernel_rfl) rfl rfl ?_
    refine D.skF 22 8388607 rfl (by kernel_rfl) rfl rfl ?_
    refine D.skF 23 16777215 rfl (by kernel_rfl) rfl rfl ?_
    refine D.skF 24 33554431 rfl (by kernel_rfl) rfl rfl ?_
    refine D.skF 25 67108863 rfl (by kernel_rfl) rfl rfl ?_
    refine D.skF 26 134217727 rfl (by kernel_rfl) rfl rfl ?_
    refine D.skF 27 268435455 rfl (by kernel_rfl) rfl rfl ?_
    refine Sh.dp 28 536870911 ?_
    refine Sh.dp 29 1073741823 ?_
    refine D.done (by kernel_rfl) ?_
    repeat' (first|refine K ?_|(refine Sh.sa hS ?_;clear hS;intro w hS)|(refine K3 ?_;clear hS;intro g w hS hge)|(refine KB ?_ ?_<;>intro hb<;>(try simp only [JJ] at hb)<;>(try exact JX))|fail)
    refine Dnt Tryz.results386 ?_
    exact ⟨rfl, hS⟩
  · refine D.startS hS 30 30 (by kernel_rfl) rfl ?_
    replace hS := hS.drew
    refine Sh.dp 0 1 ?_
    refine Sh.dp 1 3 ?_
    refine Sh.dp 3 11 ?_
    refine D.ld 2 15 rfl D.wantedN (by kernel_rfl) rfl hbk rfl ?_
    first | refine D.ixn 4 31 rfl D.wantedN (by kernel_rfl) rfl rfl rfl (by omega) ?_ | refine D.ix 4 31 rfl D.wantedN (by kernel_rfl) rfl rfl rfl (by omega) ?_ | refine D.ia 4 31 rfl D.wantedN (by kernel_rfl) rfl rfl rfl (by omega) ?_
    refine Sh.dp 5 63 ?_
    refine D.ldE 6 127 rfl D.wantedN (by kernel_rfl) rfl ht1 rfl ?_
    refine Sh.dp 7 255 ?_
    refine D.slot 14 rfl (fun hb => ?_) NoF
    (try simp only [JJ] at hb)
    refine Sh.dp 8 511 ?_
    refine Sh.dp 9 1023 ?_
    refine Sh.dp 11 3071 ?_
    refine D.ld 10 4095 rfl (D.wantedT rfl rfl) (by kernel_rfl) rfl hbk rfl ?_
    first | refine D.ixn 12 8191 rfl (D.wantedT rfl rfl) (by kernel_rfl) rfl rfl rfl (by omega) ?_ | refine D.ix 12 8191 rfl (D.wantedT rfl rfl) (by kernel_rfl) rfl rfl rfl (by omega) ?_ | refine D.ia 12 8191 rfl (D.wantedT rfl rfl) (by kernel_rfl) rfl rfl rfl (by omega) ?_
    refine Sh.dp 13 16383 ?_
    refine D.ldE 14 32767 rfl (D.wantedT rfl rfl) (by kernel_rfl) rfl ht2 rfl ?_
    refine Sh.dp 15 65535 ?_
    refine Sh.dp 16 131071 ?_
    refine D.slot 23 rfl (fun hb => ?_) NoF
    (try simp only [JJ] at hb)
    refine Sh.dp 18 393215 ?_
    refine Sh.dp 23 8781823 ?_
    refine D.ld 17 8912895 rfl (D.wantedT rfl rfl) (by kernel_rfl) rfl hbk3 rfl ?_
    first | refine D.ixn 19 9437183 rfl (D.wantedT rfl rfl) (by kernel_rfl) rfl rfl rfl (by omega) ?_ | refine D.ix 19 9437183 rfl (D.wantedT rfl rfl) (by kernel_rfl) rfl rfl rfl (by omega) ?_ | refine D.ia 19 9437183 rfl (D.wantedT rfl rfl) (by kernel_rfl) rfl rfl rfl (by omega) ?_
    refine Sh.dp 20 10485759 ?_
    refine D.ldE 21 12582911 rfl (D.wantedT rfl rfl) (by kernel_rfl) rfl hp1 rfl ?_
    refine D.ld 22 16777215 rfl (D.wantedT rfl rfl) (by kernel_rfl) rfl hbk3 rfl ?_
    first | refine D.ixn 24 33554431 rfl (D.wantedT rfl rfl) (by kernel_rfl) rfl rfl rfl (by omega) ?_ | refine D.ix 24 33554431 rfl (D.wantedT rfl rfl) (by kernel_rfl) rfl rfl rfl (by omega) ?_ | refine D.ia 24 33554431 rfl (D.wantedT rfl rfl) (by kernel_rfl) rfl rfl rfl (by omega) ?_
    refine Sh.dp 25 67108863 ?_
    refine D.ldE 26 134217727 rfl (D.wantedT rfl rfl) (by kernel_rfl) rfl hp2 rfl ?_
    first | refine D.pr 27 268435455 rfl (D.wantedT rfl rfl) (by kernel_rfl) rfl ?_ | refine D.pl 27 268435455 rfl (D.wantedT rfl rfl) (by kernel_rfl) (R.eqa rfl rfl rfl rfl) ?_
    refine Sh.dp 28 536870911 ?_
    refine Sh.dp 29 1073741823 ?_
    refine D.done (by kernel_rfl) ?_
    repeat' (first|refine K ?_|(refine Sh.sa hS ?_;clear hS;intro w hS)|(refine K3 ?_;clear hS;intro g w hS hge)|(refine KB ?_ ?_<;>intro hb<;>(try simp only [JJ] at hb)<;>(try exact JX))|fail)
    refine Dnt Tryz.results386 ?_
    exact ⟨rfl, hS⟩
def groupB (c : Cfg) (ps : List (Int × Int)) (i j : Nat) : Bool := decide (0 < (c.tenants.getD i ⟨0, 0, 0, 0, 0, 0, false⟩).group ∧ (c.tenants.getD i ⟨0, 0, 0, 0, 0, 0, false⟩).group = (c.tenants.getD j ⟨0, 0, 0, 0, 0, 0, false⟩).group) && decide (zoneOf c (ps.getD i (0, 0)).1 = zoneOf c (ps.getD j (0, 0)).1)
set_option maxHeartbeats 4000000 in
theorem rgroup1_z (g g3 n cap : Nat) (A : Option Addr) (c : Cfg) (a : CAd) (mk : Int) (hd : Bool) (ps : List (Int × Int)) (i j : Nat) (r : World) (F : List Res) (w : World) (hS : Sep r [] F w) {k k3 : List Res} (ha : At F k (.blk g 84 (pbC c a mk hd))) (h3 : At F k3 (.blk g3 85 [.slice A n cap])) (hr : CfR r F c a) (hv : CfgV c) (hp : Reads r F 2 (.slice A n cap) (ps.map plR)) (hi : i < ps.length) (hj : j < ps.length) (hl : ps.length = c.tenants.length) :
    Calls Tryz.prog 385 #[.int .i64 i, .int .i64 j, .pointer (some ⟨g, 0, none⟩), .pointer (some ⟨g3, 0, none⟩)] w fun e w' => e = .returned (.bool (groupB c ps i j)) ∧ Sep r [] F w' := by
  have hn : n = ps.length := by
    have := (hp [] w hS).mform
    obtain ⟨A', c', h, _⟩ := this
    simp only [Value.slice.injEq, List.length_map] at h
    exact h.2.1
  obtain ⟨gb, o, hA, _⟩ := reads_tn hr [] hS (show i < c.tenants.length by omega)
  have hi2 : i < c.tenants.length := by omega
  have hj2 : j < c.tenants.length := by omega
  have ht1 : ∀ W, Sep r [] F W → W.rangeAt gb (o + i * 7) (c.tenants[i]).cells := fun W hW => at_tn hr [] hW hA hi2
  have ht2 : ∀ W, Sep r [] F W → W.rangeAt gb (o + j * 7) (c.tenants[j]).cells := fun W hW => at_tn hr [] hW hA hj2
  obtain ⟨gp, op, rfl, _, _⟩ := (hp [] w hS).mat (by omega) (q := i) (by simpa using hi)
  have hp1 : ∀ W, Sep r [] F W → W.rangeAt gp (op + i * 2) (plR ps[i]) := fun W hW => by
    have h3 := (hp [] W hW).elem (q := i) (by omega) (by simpa using hi)
    simpa using h3
  have hp2 : ∀ W, Sep r [] F W → W.rangeAt gp (op + j * 2) (plR ps[j]) := fun W hW => by
    have h3 := (hp [] W hW).elem (q := j) (by omega) (by simpa using hj)
    simpa using h3
  have e1 : c.tenants.getD i ⟨0, 0, 0, 0, 0, 0, false⟩ = c.tenants[i] := by simp [List.getD_eq_getElem?_getD, hi2]
  have e2 : c.tenants.getD j ⟨0, 0, 0, 0, 0, 0, false⟩ = c.tenants[j] := by simp [List.getD_eq_getElem?_getD, hj2]
  have e3 : ps.getD i (0, 0) = ps[i] := by simp [List.getD_eq_getElem?_getD, hi]
  have e4 : ps.getD j (0, 0) = ps[j] := by simp [List.getD_eq_getElem?_getD, hj]
  unfold groupB
  rw [e1, e2, e3, e4]
  clear e1 e2 e3 e4
  have hbk : ∀ W, Sep r [] F W → Blk W g 84 (pbC c a mk hd).toArray := fun W hW => hW.blk ha
  have hbk3 : ∀ W, Sep r [] F W → Blk W g3 85 #[.slice (some ⟨gp, op, none⟩) n cap] := fun W hW => hW.blk h3
  subst hn
  generalize c.tenants[i] = x at *
  generalize c.tenants[j] = y at *
  generalize ps[i] = p at *
  generalize ps[j] = q at *
  have hz := fun (k : Int) (W : World) (hW : Sep r [] F W) => pzone_z c a k r F W hW hr hv.ok
  obtain ⟨zA, zc, kA, kc, tA, tc, vA, vc, rA, rc, oA, oc⟩ := a
  simp only at hA
  subst hA
  obtain ⟨x1, x2, x3, x4, x5, x6, x7⟩ := x
  obtain ⟨y1, y2, y3, y4, y5, y6, y7⟩ := y
  refine Z.enter Tryz.func385 Tryz.ntmps385 rfl rfl ?_
  repeat' (first|refine K ?_|(refine Sh.sa hS ?_;clear hS;intro w hS)|(refine K3 ?_;clear hS;intro g w hS hge)|(refine KB ?_ ?_<;>intro hb<;>(try simp only [JJ] at hb)<;>(try exact JX))|fail)
  refine Z.eff (Z.ld hS rfl ha rfl ?_) rfl
  repeat' (first|refine K ?_|(refine Sh.sa hS ?_;clear hS;intro w hS)|(refine K3 ?_;clear hS;intro g w hS hge)|(refine KB ?_ ?_<;>intro hb<;>(try simp only [JJ] at hb)<;>(try exact JX))|fail)
  by_cases h0 : 0 < x6
  rotate_left
  · refine D.startS hS 33 33 (by kernel_rfl) rfl ?_
    replace hS := hS.drew
    refine Sh.dp 0 1 ?_
    refine Sh.dp 1 3 ?_
    refine Sh.dp 2 7 ?_
    refine D.slot 17 rfl NoF (fun hb => ?_)
    (try simp only [JJ] at hb)
    refine D.skF 3 15 rfl (by kernel_rfl) rfl rfl ?_
    refine D.skF 4 31 rfl (by kernel_rfl) rfl rfl ?_
    refine D.skF 5 63 rfl (by kernel_rfl) rfl rfl ?_
    refine D.skF 6 127 rfl (by kernel_rfl) rfl rfl ?_
    refine D.skF 7 255 rfl (by kernel_rfl) rfl rfl ?_
    refine D.skF 8 511 rfl (by kernel_rfl) rfl rfl ?_
    refine D.skF 9 1023 rfl (by kernel_rfl) rfl rfl ?_
    refine D.skF 10 2047 rfl (by kernel_rfl) rfl rfl ?_
    refine D.skF 11 4095 rfl (by kernel_rfl) rfl rfl ?_
    refine Sh.dp 12 8191 ?_
    refine Sh.dp 13 16383 ?_
    refine D.slot 28 rfl NoF (fun hb => ?_)
    (try simp only [JJ] at hb)
    refine D.skF 14 32767 rfl (by kernel_rfl) rfl rfl ?_
    refine D.skF 15 65535 rfl (by kernel_rfl) rfl rfl ?_
    refine D.skF 16 131071 rfl (by kernel_rfl) rfl rfl ?_
    refine D.skF 17 262143 rfl (by kernel_rfl) rfl rfl ?_
    refine D.skF 18 524287 rfl (by kernel_rfl) rfl rfl ?_
    refine D.skF 19 1048575 rfl (by kernel_rfl) rfl rfl ?_
    refine D.skF 20 2097151 rfl (by kernel_rfl) rfl rfl ?_
    refine D.skF 21 4194303 rfl (by kernel_rfl) rfl rfl ?_
    refine D.skF 22 8388607 rfl (by kernel_rfl) rfl rfl ?_
    refine D.skF 23 16777215 rfl (by kernel_rfl) rfl rfl ?_
    refine D.skF 24 33554431 rfl (by kernel_rfl) rfl rfl ?_
    refine D.skF 25 67108863 rfl (by kernel_rfl) rfl rfl ?_
    refine D.skF 26 134217727 rfl (by kernel_rfl) rfl rfl ?_
    refine D.skF 27 268435455 rfl (by kernel_rfl) rfl rfl ?_
    refine D.skF 28 536870911 rfl (by kernel_rfl) rfl rfl ?_
    refine D.skF 29 1073741823 rfl (by kernel_rfl) rfl rfl ?_
    refine D.skF 30 2147483647 rfl (by kernel_rfl) rfl rfl ?_
    refine Sh.dp 31 4294967295 ?_
    refine Sh.dp 32 8589934591 ?_
    refine D.done (by kernel_rfl) ?_
    repeat' (first|refine K ?_|(refine Sh.sa hS ?_;clear hS;intro w hS)|(refine K3 ?_;clear hS;intro g w hS hge)|(refine KB ?_ ?_<;>intro hb<;>(try simp only [JJ] at hb)<;>(try exact JX))|fail)
    refine Dnt Tryz.results385 ?_
    exact ⟨by simp [Z.packR, h0], hS⟩
  by_cases h1 : x6 = y6
  rotate_left
  · refine D.startS hS 33 33 (by kernel_rfl) rfl ?_
    replace hS := hS.drew
    refine Sh.dp 0 1 ?_
    refine Sh.dp 1 3 ?_
    refine Sh.dp 2 7 ?_
    refine D.slot 17 rfl (fun hb => ?_) NoF
    (try simp only [JJ] at hb)
    refine Sh.dp 3 15 ?_
    refine Sh.dp 4 31 ?_
    refine Sh.dp 5 63 ?_
    refine Sh.dp 7 191 ?_
    refine D.ld 6 255 rfl (D.wantedT rfl rfl) (by kernel_rfl) rfl hbk rfl ?_
    first | refine D.ixn 8 511 rfl (D.wantedT rfl rfl) (by kernel_rfl) rfl rfl rfl (by omega) ?_ | refine D.ix 8 511 rfl (D.wantedT rfl rfl) (by kernel_rfl) rfl rfl rfl (by omega) ?_ | refine D.ia 8 511 rfl (D.wantedT rfl rfl) (by kernel_rfl) rfl rfl rfl (by omega) ?_
    refine Sh.dp 9 1023 ?_
    refine D.ldE 10 2047 rfl (D.wantedT rfl rfl) (by kernel_rfl) rfl ht2 rfl ?_
    first | refine D.pr 11 4095 rfl (D.wantedT rfl rfl) (by kernel_rfl) rfl ?_ | refine D.pl 11 4095 rfl (D.wantedT rfl rfl) (by kernel_rfl) (R.eqa rfl rfl rfl rfl) ?_
    refine Sh.dp 12 8191 ?_
    refine Sh.dp 13 16383 ?_
    refine D.slot 28 rfl NoF (fun hb => ?_)
    (try simp only [JJ] at hb)
    refine D.skF 14 32767 rfl (by kernel_rfl) rfl rfl ?_
    refine D.skF 15 65535 rfl (by kernel_rfl) rfl rfl ?_
    refine D.skF 16 131071 rfl (by kernel_rfl) rfl rfl ?_
    refine D.skF 17 262143 rfl (by kernel_rfl) rfl rfl ?_
    refine D.skF 18 524287 rfl (by kernel_rfl) rfl rfl ?_
    refine D.skF 19 1048575 rfl (by kernel_rfl) rfl rfl ?_
    refine D.skF 20 2097151 rfl (by kernel_rfl) rfl rfl ?_
    refine D.skF 21 4194303 rfl (by kernel_rfl) rfl rfl ?_
    refine D.skF 22 8388607 rfl (by kernel_rfl) rfl rfl ?_
    refine D.skF 23 16777215 rfl (by kernel_rfl) rfl rfl ?_
    refine D.skF 24 33554431 rfl (by kernel_rfl) rfl rfl ?_
    refine D.skF 25 67108863 rfl (by kernel_rfl) rfl rfl ?_
    refine D.skF 26 134217727 rfl (by kernel_rfl) rfl rfl ?_
    refine D.skF 27 268435455 rfl (by kernel_rfl) rfl rfl ?_
    refine D.skF 28 536870911 rfl (by kernel_rfl) rfl rfl ?_
    refine D.skF 29 1073741823 rfl (by kernel_rfl) rfl rfl ?_
    refine D.skF 30 2147483647 rfl (by kernel_rfl) rfl rfl ?_
    refine Sh.dp 31 4294967295 ?_
    refine Sh.dp 32 8589934591 ?_
    refine D.done (by kernel_rfl) ?_
    repeat' (first|refine K ?_|(refine Sh.sa hS ?_;clear hS;intro w hS)|(refine K3 ?_;clear hS;intro g w hS hge)|(refine KB ?_ ?_<;>intro hb<;>(try simp only [JJ] at hb)<;>(try exact JX))|fail)
    refine Dnt Tryz.results385 ?_
    exact ⟨by simp [Z.packR, h0, h1], hS⟩
  · refine D.startS hS 33 33 (by kernel_rfl) rfl ?_
    replace hS := hS.drew
    refine Sh.dp 0 1 ?_
    refine Sh.dp 1 3 ?_
    refine Sh.dp 2 7 ?_
    refine D.slot 17 rfl (fun hb => ?_) NoF
    (try simp only [JJ] at hb)
    refine Sh.dp 3 15 ?_
    refine Sh.dp 4 31 ?_
    refine Sh.dp 5 63 ?_
    refine Sh.dp 7 191 ?_
    refine D.ld 6 255 rfl (D.wantedT rfl rfl) (by kernel_rfl) rfl hbk rfl ?_
    first | refine D.ixn 8 511 rfl (D.wantedT rfl rfl) (by kernel_rfl) rfl rfl rfl (by omega) ?_ | refine D.ix 8 511 rfl (D.wantedT rfl rfl) (by kernel_rfl) rfl rfl rfl (by omega) ?_ | refine D.ia 8 511 rfl (D.wantedT rfl rfl) (by kernel_rfl) rfl rfl rfl (by omega) ?_
    refine Sh.dp 9 1023 ?_
    refine D.ldE 10 2047 rfl (D.wantedT rfl rfl) (by kernel_rfl) rfl ht2 rfl ?_
    first | refine D.pr 11 4095 rfl (D.wantedT rfl rfl) (by kernel_rfl) rfl ?_ | refine D.pl 11 4095 rfl (D.wantedT rfl rfl) (by kernel_rfl) (R.eqa rfl rfl rfl rfl) ?_
    refine Sh.dp 12 8191 ?_
    refine Sh.dp 13 16383 ?_
    refine D.slot 28 rfl (fun hb => ?_) NoF
    (try simp only [JJ] at hb)
    refine Sh.dp 14 32767 ?_
    refine Sh.dp 17 163839 ?_
    refine Sh.dp 22 4358143 ?_
    refine Sh.dp 25 37912575 ?_
    refine D.ld 15 37945343 rfl (D.wantedT rfl rfl) (by kernel_rfl) rfl hbk rfl ?_
    refine D.ld 16 38010879 rfl (D.wantedT rfl rfl) (by kernel_rfl) rfl hbk3 rfl ?_
    first | refine D.ixn 18 38273023 rfl (D.wantedT rfl rfl) (by kernel_rfl) rfl rfl rfl (by omega) ?_ | refine D.ix 18 38273023 rfl (D.wantedT rfl rfl) (by kernel_rfl) rfl rfl rfl (by omega) ?_ | refine D.ia 18 38273023 rfl (D.wantedT rfl rfl) (by kernel_rfl) rfl rfl rfl (by omega) ?_
    refine Sh.dp 19 38797311 ?_
    refine D.ldE 20 39845887 rfl (D.wantedT rfl rfl) (by kernel_rfl) rfl hp1 rfl ?_
    refine D.ld 23 48234495 rfl (D.wantedT rfl rfl) (by kernel_rfl) rfl hbk rfl ?_
    refine D.ld 24 65011711 rfl (D.wantedT rfl rfl) (by kernel_rfl) rfl hbk3 rfl ?_
    first | refine D.ixn 26 132120575 rfl (D.wantedT rfl rfl) (by kernel_rfl) rfl rfl rfl (by omega) ?_ | refine D.ix 26 132120575 rfl (D.wantedT rfl rfl) (by kernel_rfl) rfl rfl rfl (by omega) ?_ | refine D.ia 26 132120575 rfl (D.wantedT rfl rfl) (by kernel_rfl) rfl rfl rfl (by omega) ?_
    refine Sh.dp 27 266338303 ?_
    refine D.ldE 28 534773759 rfl (D.wantedT rfl rfl) (by kernel_rfl) rfl hp2 rfl ?_
    refine D.eff 21 536870911 rfl (D.wantedT rfl rfl) (by kernel_rfl) (by kernel_rfl) (fun _ _ h => h) ?_
    refine WE.guard ?_
    refine Z.cl (hz p.1 _ hS) rfl ?_
    clear hS
    rintro e w ⟨rfl, hS⟩
    refine ⟨_, rfl, ?_⟩
    refine HMs ?_
    refine D.eff 29 1073741823 rfl (D.wantedT rfl rfl) (by kernel_rfl) (by kernel_rfl) (fun _ _ h => h) ?_
    refine WE.guard ?_
    refine Z.cl (hz q.1 _ hS) rfl ?_
    clear hS
    rintro e w ⟨rfl, hS⟩
    refine ⟨_, rfl, ?_⟩
    refine HMs ?_
    first | refine D.pr 30 2147483647 rfl (D.wantedT rfl rfl) (by kernel_rfl) rfl ?_ | refine D.pl 30 2147483647 rfl (D.wantedT rfl rfl) (by kernel_rfl) (R.eqa rfl rfl rfl rfl) ?_
    refine Sh.dp 31 4294967295 ?_
    refine Sh.dp 32 8589934591 ?_
    refine D.done (by kernel_rfl) ?_
    repeat' (first|refine K ?_|(refine Sh.sa hS ?_;clear hS;intro w hS)|(refine K3 ?_;clear hS;intro g w hS hge)|(refine KB ?_ ?_<;>intro hb<;>(try simp only [JJ] at hb)<;>(try exact JX))|fail)
    refine Dnt Tryz.results385 ?_
    exact ⟨by subst h1; simp [Z.packR, h0], hS⟩
end Go.Proofs.YtfmnjbhncnldmaaGreat
