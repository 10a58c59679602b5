import Derived.Test.YtfmnjbhncnldmaaGreatP19
set_option linter.unusedSimpArgs false
set_option linter.unusedVariables false
namespace Go.Proofs.YtfmnjbhncnldmaaGreat
open Go.RowKit
attribute [local irreducible] Res.blk Res.sl Res.all Res.ex Res.pure Res.star
def CAd.zero : CAd := ⟨none, 0, none, 0, none, 0, none, 0, none, 0, none, 0⟩
theorem pow_bd {x : Int} (h : 1 ≤ x ∧ x ≤ 3) : 2 ≤ IntKind.i64.wrap (1 * 2 ^ min (IntKind.u64.wrap x).toNat IntKind.i64.bits) ∧ IntKind.i64.wrap (1 * 2 ^ min (IntKind.u64.wrap x).toNat IntKind.i64.bits) ≤ 8 := by
  rcases (by omega : x = 1 ∨ x = 2 ∨ x = 3) with rfl | rfl | rfl <;> decide
theorem pow_bd2 {x : Int} (h : 1 ≤ x ∧ x ≤ 3) : 1 ≤ IntKind.i64.wrap (IntKind.i64.wrap (1 * 2 ^ min (IntKind.u64.wrap x).toNat IntKind.i64.bits) - 1) ∧ IntKind.i64.wrap (IntKind.i64.wrap (1 * 2 ^ min (IntKind.u64.wrap x).toNat IntKind.i64.bits) - 1) ≤ 7 := by
  rcases (by omega : x = 1 ∨ x = 2 ∨ x = 3) with rfl | rfl | rfl <;> decide
theorem u64_pos (x : Int) : 0 ≤ IntKind.u64.wrap x := by
  simp [IntKind.wrap, IntKind.signed, IntKind.bits]
  omega
def Cfg.none : Cfg := ⟨0, [], [], [], [], [], [], 0, 0, 0⟩
theorem pow_v {x : Int} (h : 1 ≤ x ∧ x ≤ 3) : IntKind.i64.wrap (IntKind.i64.wrap (1 * 2 ^ min (IntKind.u64.wrap x).toNat IntKind.i64.bits) - 1) = 2 ^ x.toNat - 1 := by
  rcases (by omega : x = 1 ∨ x = 2 ∨ x = 3) with rfl | rfl | rfl <;> decide
structure ClP (n : Nat) (x : Cl) : Prop where
  z : 0 ≤ x.zone ∧ x.zone < n
  c : 10 ≤ x.cap ∧ x.cap ≤ 40
structure TnP (rg : Int) (x : Tn) : Prop where
  l : 1 ≤ x.load ∧ x.load ≤ 12
  s : 0 ≤ x.shadow ∧ x.shadow ≤ x.load
  p : 0 ≤ x.prio ∧ x.prio ≤ 3
  g : -1 ≤ x.lag ∧ x.lag ≤ 3
  a : 1 ≤ x.allowed ∧ x.allowed ≤ 2 ^ rg.toNat - 1
  o : 0 ≤ x.group ∧ x.group ≤ 2
structure VsP (x : Vs) : Prop where
  l : 0 ≤ x.low ∧ x.low ≤ x.high
  h : x.high ≤ 30
theorem all_snoc1 {α : Type} {P : α → Prop} {l : List α} {y : α} (h : ∀ x, x ∈ l → P x) (hy : P y) : ∀ x, x ∈ l ++ [y] → P x := fun x hx => by
  rcases List.mem_append.1 hx with hx | hx
  · exact h x hx
  · rw [List.mem_singleton] at hx
    exact hx ▸ hy
structure CfgM (c : Cfg) : Prop where
  v : CfgV c
  r : c.regions ≤ 3
  z : c.zones.length ≤ 6
  k : c.cells.length ≤ 7
  t : c.tenants.length ≤ 5
  kc : ∀ x, x ∈ c.cells → 10 ≤ x.cap ∧ x.cap ≤ 40
  tl : ∀ x, x ∈ c.tenants → x.load ≤ 12
  b : c.blast ≤ 3
set_option maxHeartbeats 16000000 in
theorem mconfigv_z (A : Option Addr) (l : List Int) (cap : Nat) (r : World) (F : List Res) (w : World) (hS : Sep r [] F w) (hrd : Reads r F 1 (.slice A l.length cap) (l.map ztC)) (hl : l.length ≤ 1000) :
    Calls Tryz.prog 18 #[.slice A l.length cap] w fun e w' => ∃ (c : Cfg) (a : CAd), e = .returned (c.val a) ∧ CfgM c ∧ Sep r [] (CfO c a :: F) w' := by
  refine Z.enter Tryz.func18 Tryz.ntmps18 rfl rfl ?_
  repeat' (first|refine K ?_|(refine Sh.sa hS ?_;clear hS;intro w hS)|(refine K3 ?_;clear hS;intro g w hS hge)|(refine KB ?_ ?_<;>intro hb<;>(try simp only [JJ] at hb)<;>(try exact JX))|fail)
  rename Nat => gr
  refine Z.eff (Z.cl (mnew_z A l.length cap _ _ _ hS) rfl ?_) rfl
  clear hS
  rintro e w ⟨gt, rfl, hS⟩
  refine ⟨_, rfl, ?_⟩
  repeat' (first|refine K ?_|(refine Sh.sa hS ?_;clear hS;intro w hS)|(refine K3 ?_;clear hS;intro g w hS hge)|(refine KB ?_ ?_<;>intro hb<;>(try simp only [JJ] at hb)<;>(try exact JX))|fail)
  replace hS := hS.fo (R := TpM gt A l.length cap 0 _)
  refine Z.eff (Z.cl (mnext_z gt A l cap _ 5 _ _ _ hS HRf hl (by omega) (by omega) (by omega)) rfl ?_) rfl
  clear hS
  rintro e w ⟨z1, rfl, hz1, hS⟩
  refine ⟨_, rfl, ?_⟩
  repeat' (first|refine K ?_|(refine Sh.sa hS ?_;clear hS;intro w hS)|(refine K3 ?_;clear hS;intro g w hS hge)|(refine KB ?_ ?_<;>intro hb<;>(try simp only [JJ] at hb)<;>(try exact JX))|fail)
  refine Z.eff (Z.cl (between_z (z1 + 1) 1 3 _ _ _ hS (by omega) (by omega) (by omega)) rfl ?_) rfl
  clear hS
  rintro e w ⟨rg, rfl, hrg, hS⟩
  refine ⟨_, rfl, ?_⟩
  repeat' (first|refine K ?_|(refine Sh.sa hS ?_;clear hS;intro w hS)|(refine K3 ?_;clear hS;intro g w hS hge)|(refine KB ?_ ?_<;>intro hb<;>(try simp only [JJ] at hb)<;>(try exact JX))|fail)
  replace hS := hS.fo (R := TpM gt A l.length cap 0 _)
  refine Z.eff (Z.cl (mrange_z gt A l cap _ 1 3 _ _ _ hS HRf hl (by omega) (by omega) (by omega) (by omega)) rfl ?_) rfl
  clear hS
  rintro e w ⟨bl, rfl, hbl, hS⟩
  refine ⟨_, rfl, ?_⟩
  repeat' (first|refine K ?_|(refine Sh.sa hS ?_;clear hS;intro w hS)|(refine K3 ?_;clear hS;intro g w hS hge)|(refine KB ?_ ?_<;>intro hb<;>(try simp only [JJ] at hb)<;>(try exact JX))|fail)
  replace hS := hS.fo (R := TpM gt A l.length cap 0 _)
  refine Z.eff (Z.cl (mrange_z gt A l cap _ 2 12 _ _ _ hS HRf hl (by omega) (by omega) (by omega) (by omega)) rfl ?_) rfl
  clear hS
  rintro e w ⟨ls, rfl, hls, hS⟩
  refine ⟨_, rfl, ?_⟩
  repeat' (first|refine K ?_|(refine Sh.sa hS ?_;clear hS;intro w hS)|(refine K3 ?_;clear hS;intro g w hS hge)|(refine KB ?_ ?_<;>intro hb<;>(try simp only [JJ] at hb)<;>(try exact JX))|fail)
  replace hS := hS.fo (R := TpM gt A l.length cap 0 _)
  refine Z.eff (Z.cl (mnext_z gt A l cap _ 9 _ _ _ hS HRf hl (by omega) (by omega) (by omega)) rfl ?_) rfl
  clear hS
  rintro e w ⟨bk, rfl, hbk, hS⟩
  refine ⟨_, rfl, ?_⟩
  repeat' (first|refine K ?_|(refine Sh.sa hS ?_;clear hS;intro w hS)|(refine K3 ?_;clear hS;intro g w hS hge)|(refine KB ?_ ?_<;>intro hb<;>(try simp only [JJ] at hb)<;>(try exact JX))|fail)
  rename Nat => g4
  have hM := pow_bd hrg
  have hM2 := pow_bd2 hrg
  have hu := u64_pos rg
  replace hS := hS.fo (R := TpM gt A l.length cap 0 _)
  replace hS := hS.TpM_le (B' := 10 + ((0 : Nat) : Int)) (by omega)
  replace hS := Z.nilsl hS 166 1 none
  refine Z.lpS [5, 27, 28, 29, 30, 31, 32, 33, 34, 35, 36, 37, 38, 39, 40, 41, 42, 43, 44, 45, 46, 47, 48, 49, 50] (fun m w z => ∃ (i : Nat) (zs : List Int) (zA : Option Addr) (zc : Nat), z = [(5, .int .i64 i)] ∧ (zs.length = i ∧ ∀ z, z ∈ zs → 0 ≤ z ∧ z < rg) ∧ i ≤ 6 ∧ m = 7 - i ∧ Sep r [] (TpM gt A l.length cap 0 (10 + (i : Int)) :: .sl 166 1 (.slice zA zs.length zc) (zs.map ztC) :: .blk g4 55 (((⟨rg, zs, [], [], [], [], [], bl, ls, bk⟩ : Cfg)).cl (⟨zA, zc, none, 0, none, 0, none, 0, none, 0, none, 0⟩ : CAd)) :: .blk gr 55 (Cfg.none.cl CAd.zero) :: F) w) _ [(5, .int .i64 (0 : Nat))] TrF ⟨0, [], none, 0, rfl, ⟨rfl, by simp⟩, by omega, rfl, hS.sb⟩ ?_
  clear hS
  rintro m f0 w _ ⟨i, zs, zA, zc, rfl, ⟨hzl, hzv⟩, hi, rfl, hS⟩
  refine Z.seq ?_
  refine Z.seq ?_
  refine Z.cut [27, 28, 29, 30, 31, 32, 33, 34, 35, 36, 37, 38] (fun w z => ∃ b : Bool, z = [(38, .bool b)] ∧ (b = true → i < 6) ∧ (b = false → rg ≤ i) ∧ Sep r [] (TpM gt A l.length cap 0 (11 + (i : Int)) :: .sl 166 1 (.slice zA zs.length zc) (zs.map ztC) :: .blk g4 55 (((⟨rg, zs, [], [], [], [], [], bl, ls, bk⟩ : Cfg)).cl (⟨zA, zc, none, 0, none, 0, none, 0, none, 0, none, 0⟩ : CAd)) :: .blk gr 55 (Cfg.none.cl CAd.zero) :: F) w) ?_ ?_
  · repeat' (first|refine K ?_|(refine Sh.sa hS ?_;clear hS;intro w hS)|(refine K3 ?_;clear hS;intro g w hS hge)|(refine KB ?_ ?_<;>intro hb<;>(try simp only [JJ] at hb)<;>(try exact JX))|fail)
    · refine Sh.cut [(38, _)] ?_
      exact ⟨_, rfl, (fun h => by first | omega | (simp at h; done) | (simp at h; omega)), (fun h => by first | omega | (simp at h; done) | (simp at h; omega)), (hS.fo (R := TpM gt A l.length cap 0 _)).TpM_le (by omega)⟩
    · replace hS := hS.fo (R := TpM gt A l.length cap 0 _)
      refine Z.eff (Z.cl (myes_z gt A l cap _ _ _ _ _ hS HRf hl (by omega) (by omega) (by omega)) rfl ?_) rfl
      clear hS
      rintro e w ⟨b1, rfl, hS⟩
      refine ⟨_, rfl, ?_⟩
      cases b1
      · repeat' (first|refine K ?_|(refine Sh.sa hS ?_;clear hS;intro w hS)|(refine K3 ?_;clear hS;intro g w hS hge)|(refine KB ?_ ?_<;>intro hb<;>(try simp only [JJ] at hb)<;>(try exact JX))|fail)
        refine Sh.cut [(38, _)] ?_
        exact ⟨_, rfl, (fun h => by first | omega | (simp at h; done) | (simp at h; omega)), (fun h => by first | omega | (simp at h; done) | (simp at h; omega)), (hS.fo (R := TpM gt A l.length cap 0 _)).TpM_le (by omega)⟩
      · repeat' (first|refine K ?_|(refine Sh.sa hS ?_;clear hS;intro w hS)|(refine K3 ?_;clear hS;intro g w hS hge)|(refine KB ?_ ?_<;>intro hb<;>(try simp only [JJ] at hb)<;>(try exact JX))|fail)
        refine Sh.cut [(38, _)] ?_
        exact ⟨_, rfl, (fun h => by first | omega | (simp at h; done) | (simp at h; omega)), (fun h => by first | omega | (simp at h; done) | (simp at h; omega)), (hS.fo (R := TpM gt A l.length cap 0 _)).TpM_le (by omega)⟩
  clear hS
  rintro f0 w _ ⟨b, rfl, hb1, hb2, hS⟩
  cases b
  case true =>
    have hi6 := hb1 rfl
    have ht1 := Int.tmod_lt_of_pos (i : Int) (show 0 < rg by omega)
    have ht2 := Int.tmod_nonneg rg (show 0 ≤ (i : Int) by omega)
    repeat' (first|refine K ?_|(refine Sh.sa hS ?_;clear hS;intro w hS)|(refine K3 ?_;clear hS;intro g w hS hge)|(refine KB ?_ ?_<;>intro hb<;>(try simp only [JJ] at hb)<;>(try exact JX))|fail)
    refine D.startS (Lr := [.blk g4 55 (((⟨rg, zs, [], [], [], [], [], bl, ls, bk⟩ : Cfg)).cl (⟨zA, zc, none, 0, none, 0, none, 0, none, 0, none, 0⟩ : CAd))]) (hS.sb) 10 11 (by kernel_rfl) rfl ?_
    replace hS := hS.drew
    refine Sh.dp 0 1 ?_
    refine Sh.dp 2 5 ?_
    refine Sh.dp 3 13 ?_
    refine Sh.dl 1 15 ?_
    refine Sh.dl 4 31 ?_
    refine D.pl 5 63 rfl D.wantedN (by kernel_rfl) (R.iquo (b := rg) rfl rfl rfl (by omega)) ?_
    first | refine D.bu 6 127 rfl D.wantedN (by kernel_rfl) rfl rfl ?_ | refine D.buA 6 127 rfl D.wantedN (by kernel_rfl) rfl rfl ?_
    refine D.ef 7 255 ?_
    refine Z.bs hS rfl rfl rfl ?_
    clear hS; intro g w hS hge
    refine HMs ?_
    refine D.ef 8 511 ?_
    refine Z.apm (l' := [(i : Int).tmod rg]) hS rfl rfl rfl AtF (hS.lit1 AtF rfl rfl) LnF LnF ?_
    clear hS; intro A' c' w hS
    rw [← List.length_append] at hS ⊢
    refine HMs ?_
    refine Sh.dp 9 1023 ?_
    refine D.ef 10 2047 ?_
    refine Z.st hS rfl AtF rfl rfl ?_
    clear hS; intro w hS
    refine ⟨HM.last (by kernel_rfl), ?_⟩
    refine D.done (by kernel_rfl) ?_
    repeat' (first|refine K ?_|(refine Sh.sa hS ?_;clear hS;intro w hS)|(refine K3 ?_;clear hS;intro g w hS hge)|(refine KB ?_ ?_<;>intro hb<;>(try simp only [JJ] at hb)<;>(try exact JX))|fail)
    refine Sh.again (7 - (i + 1)) [(5, .int .i64 (i + 1 : Nat))] ?_
    exact ⟨i + 1, zs ++ [(i : Int).tmod rg], A', c', rfl, ⟨by simp; omega, all_snoc1 hzv ⟨ht2, ht1⟩⟩, by omega, rfl, ((hS.fo (R := TpM gt A l.length cap 0 _)).TpM_le (B' := 10 + ((i + 1 : Nat) : Int)) (by omega)).sub SuF⟩
  have hzr := hb2 rfl
  repeat' (first|refine K ?_|(refine Sh.sa hS ?_;clear hS;intro w hS)|(refine K3 ?_;clear hS;intro g w hS hge)|(refine KB ?_ ?_<;>intro hb<;>(try simp only [JJ] at hb)<;>(try exact JX))|fail)
  have hz0 : 1 ≤ zs.length ∧ zs.length ≤ 6 := by omega
  replace hS := hS.fo (R := TpM gt A l.length cap 0 _)
  replace hS := hS.TpM_le (B' := 30 + 3 * ((0 : Nat) : Int)) (by omega)
  clear hb1 hb2 hzl hzr hi
  replace hS := Z.nilsl hS 168 2 none
  refine Z.lpS [6, 51, 52, 53, 54, 55, 56, 57, 58, 59, 60, 61, 62, 63, 64, 65, 66, 67, 68, 69, 70, 71, 72, 73, 74, 75, 76, 77, 78, 79] (fun m w z => ∃ (i : Nat) (ks : List Cl) (kA : Option Addr) (kc : Nat), z = [(6, .int .i64 i)] ∧ (ks.length = i ∧ ∀ x, x ∈ ks → ClP zs.length x) ∧ i ≤ 7 ∧ m = 8 - i ∧ Sep r [] (TpM gt A l.length cap 0 (30 + 3 * (i : Int)) :: .sl 168 2 (.slice kA ks.length kc) (ks.map Cl.cells) :: .sl 166 1 (.slice zA zs.length zc) (zs.map ztC) :: .blk g4 55 (((⟨rg, zs, ks, [], [], [], [], bl, ls, bk⟩ : Cfg)).cl (⟨zA, zc, kA, kc, none, 0, none, 0, none, 0, none, 0⟩ : CAd)) :: .blk gr 55 (Cfg.none.cl CAd.zero) :: F) w) _ [(6, .int .i64 (0 : Nat))] TrF ⟨0, [], none, 0, rfl, ⟨rfl, by simp⟩, by omega, rfl, hS.sb⟩ ?_
  clear hS
  rintro m f0 w _ ⟨i, ks, kA, kc, rfl, ⟨hkl, hkz⟩, hi, rfl, hS⟩
  refine Z.seq ?_
  refine Z.seq ?_
  refine Z.cut [51, 52, 53, 54, 55, 56, 57, 58, 59, 60, 61, 62, 63] (fun w z => ∃ b : Bool, z = [(63, .bool b)] ∧ (b = true → i < 7) ∧ (b = false → zs.length ≤ i) ∧ Sep r [] (TpM gt A l.length cap 0 (31 + 3 * (i : Int)) :: .sl 168 2 (.slice kA ks.length kc) (ks.map Cl.cells) :: .sl 166 1 (.slice zA zs.length zc) (zs.map ztC) :: .blk g4 55 (((⟨rg, zs, ks, [], [], [], [], bl, ls, bk⟩ : Cfg)).cl (⟨zA, zc, kA, kc, none, 0, none, 0, none, 0, none, 0⟩ : CAd)) :: .blk gr 55 (Cfg.none.cl CAd.zero) :: F) w) ?_ ?_
  · repeat' (first|refine K ?_|(refine Sh.sa hS ?_;clear hS;intro w hS)|(refine K3 ?_;clear hS;intro g w hS hge)|(refine KB ?_ ?_<;>intro hb<;>(try simp only [JJ] at hb)<;>(try exact JX))|fail)
    · refine Sh.cut [(63, _)] ?_
      exact ⟨_, rfl, (fun h => by first | omega | (simp at h; done) | (simp at h; omega)), (fun h => by first | omega | (simp at h; done) | (simp at h; omega)), (hS.fo (R := TpM gt A l.length cap 0 _)).TpM_le (by omega)⟩
    · replace hS := hS.fo (R := TpM gt A l.length cap 0 _)
      refine Z.eff (Z.cl (myes_z gt A l cap _ _ _ _ _ hS HRf hl (by omega) (by omega) (by omega)) rfl ?_) rfl
      clear hS
      rintro e w ⟨b1, rfl, hS⟩
      refine ⟨_, rfl, ?_⟩
      cases b1
      · repeat' (first|refine K ?_|(refine Sh.sa hS ?_;clear hS;intro w hS)|(refine K3 ?_;clear hS;intro g w hS hge)|(refine KB ?_ ?_<;>intro hb<;>(try simp only [JJ] at hb)<;>(try exact JX))|fail)
        refine Sh.cut [(63, _)] ?_
        exact ⟨_, rfl, (fun h => by first | omega | (simp at h; done) | (simp at h; omega)), (fun h => by first | omega | (simp at h; done) | (simp at h; omega)), (hS.fo (R := TpM gt A l.length cap 0 _)).TpM_le (by omega)⟩
      · repeat' (first|refine K ?_|(refine Sh.sa hS ?_;clear hS;intro w hS)|(refine K3 ?_;clear hS;intro g w hS hge)|(refine KB ?_ ?_<;>intro hb<;>(try simp only [JJ] at hb)<;>(try exact JX))|fail)
        refine Sh.cut [(63, _)] ?_
        exact ⟨_, rfl, (fun h => by first | omega | (simp at h; done) | (simp at h; omega)), (fun h => by first | omega | (simp at h; done) | (simp at h; omega)), (hS.fo (R := TpM gt A l.length cap 0 _)).TpM_le (by omega)⟩
  clear hS
  rintro f0 w _ ⟨b, rfl, hb1, hb2, hS⟩
  cases b
  case true =>
    have hi6 := hb1 rfl
    have ht1 := Int.tmod_lt_of_pos (i : Int) (show 0 < (zs.length : Int) by omega)
    have ht2 := Int.tmod_nonneg (zs.length : Int) (show 0 ≤ (i : Int) by omega)
    repeat' (first|refine K ?_|(refine Sh.sa hS ?_;clear hS;intro w hS)|(refine K3 ?_;clear hS;intro g w hS hge)|(refine KB ?_ ?_<;>intro hb<;>(try simp only [JJ] at hb)<;>(try exact JX))|fail)
    refine D.startS (Lr := [.blk g4 55 (((⟨rg, zs, ks, [], [], [], [], bl, ls, bk⟩ : Cfg)).cl (⟨zA, zc, kA, kc, none, 0, none, 0, none, 0, none, 0⟩ : CAd))]) (hS.sb) 14 15 (by kernel_rfl) rfl ?_
    replace hS := hS.drew
    refine Sh.dp 0 1 ?_
    refine Sh.dp 2 5 ?_
    refine Sh.dp 3 13 ?_
    refine Sh.dp 7 141 ?_
    refine Sh.dl 1 143 ?_
    refine Sh.dl 4 159 ?_
    refine Sh.dp 5 191 ?_
    refine D.pl 6 255 rfl D.wantedN (by kernel_rfl) (R.iquo (b := (zs.length : Int)) rfl rfl rfl (by omega)) ?_
    refine D.ef 8 511 ?_
    replace hS := hS.fo (R := TpM gt A l.length cap 0 _)
    refine Z.cl (mrange_z gt A l cap _ 1 4 _ _ _ hS HRf hl (by omega) (by omega) (by omega) (by omega)) rfl ?_
    clear hS
    rintro e w ⟨cp, rfl, hcp, hS⟩
    refine ⟨_, rfl, ?_⟩
    refine HMs ?_
    first | refine D.sum 9 1023 rfl D.wantedN (by kernel_rfl) rfl (by constructor <;> omega) ?_ | refine D.sumW 9 1023 rfl D.wantedN (by kernel_rfl) rfl ?_
    first | refine D.bu 10 2047 rfl D.wantedN (by kernel_rfl) rfl rfl ?_ | refine D.buA 10 2047 rfl D.wantedN (by kernel_rfl) rfl rfl ?_
    refine D.ef 11 4095 ?_
    refine Z.bs hS rfl rfl rfl ?_
    clear hS; intro g w hS hge
    refine HMs ?_
    refine D.ef 12 8191 ?_
    refine Z.apm (l' := [(⟨(i : Int).tmod zs.length, cp * 10⟩ : Cl)]) hS rfl rfl rfl AtF (hS.lit1 AtF rfl rfl) LnF LnF ?_
    clear hS; intro A' c' w hS
    rw [← List.length_append] at hS ⊢
    refine HMs ?_
    refine Sh.dp 13 16383 ?_
    refine D.ef 14 32767 ?_
    refine Z.st hS rfl AtF rfl rfl ?_
    clear hS; intro w hS
    refine ⟨HM.last (by kernel_rfl), ?_⟩
    refine D.done (by kernel_rfl) ?_
    repeat' (first|refine K ?_|(refine Sh.sa hS ?_;clear hS;intro w hS)|(refine K3 ?_;clear hS;intro g w hS hge)|(refine KB ?_ ?_<;>intro hb<;>(try simp only [JJ] at hb)<;>(try exact JX))|fail)
    refine Sh.again (8 - (i + 1)) [(6, .int .i64 (i + 1 : Nat))] ?_
    exact ⟨i + 1, ks ++ [⟨(i : Int).tmod zs.length, cp * 10⟩], A', c', rfl, ⟨by simp; omega, all_snoc1 hkz ⟨⟨ht2, ht1⟩, by show 10 ≤ cp * 10 ∧ cp * 10 ≤ 40; omega⟩⟩, by omega, rfl, ((hS.fo (R := TpM gt A l.length cap 0 _)).TpM_le (B' := 30 + 3 * ((i + 1 : Nat) : Int)) (by omega)).sub SuF⟩
  have hkr := hb2 rfl
  have hk0 : 1 ≤ ks.length ∧ ks.length ≤ 7 := by omega
  repeat' (first|refine K ?_|(refine Sh.sa hS ?_;clear hS;intro w hS)|(refine K3 ?_;clear hS;intro g w hS hge)|(refine KB ?_ ?_<;>intro hb<;>(try simp only [JJ] at hb)<;>(try exact JX))|fail)
  replace hS := hS.fo (R := TpM gt A l.length cap 0 _)
  refine Z.eff (Z.cl (mnext_z gt A l cap _ 6 _ _ _ hS HRf hl (by omega) (by omega) (by omega)) rfl ?_) rfl
  clear hS
  rintro e w ⟨j, rfl, hj, hS⟩
  refine ⟨_, rfl, ?_⟩
  repeat' (first|refine K ?_|(refine Sh.sa hS ?_;clear hS;intro w hS)|(refine K3 ?_;clear hS;intro g w hS hge)|(refine KB ?_ ?_<;>intro hb<;>(try simp only [JJ] at hb)<;>(try exact JX))|fail)
  replace hS := hS.fo (R := TpM gt A l.length cap 0 _)
  replace hS := hS.TpM_le (B' := 60 + 10 * ((0 : Nat) : Int)) (by omega)
  clear hb1 hb2 hkl hkr hi
  replace hS := Z.nilsl hS 170 7 none
  refine Z.lpS [7, 8, 9, 82, 83, 84, 85, 86, 87, 88, 89, 90, 91, 92, 93, 94, 95, 96, 97, 98, 99, 100, 101, 102, 103, 104, 105, 106, 107, 108, 109, 110, 111, 112, 113, 114, 115, 116, 117, 118, 119, 120, 121, 122] (fun m w z => ∃ (j : Int) (ts : List Tn) (tA : Option Addr) (tc : Nat), z = [(7, .int .i64 j)] ∧ 0 ≤ j ∧ (ts.length + j ≤ 5 ∧ ∀ x, x ∈ ts → TnP rg x) ∧ m = j.toNat ∧ Sep r [] (TpM gt A l.length cap 0 (60 + 10 * (ts.length : Int)) :: .sl 170 7 (.slice tA ts.length tc) (ts.map Tn.cells) :: .sl 168 2 (.slice kA ks.length kc) (ks.map Cl.cells) :: .sl 166 1 (.slice zA zs.length zc) (zs.map ztC) :: .blk g4 55 (((⟨rg, zs, ks, ts, [], [], [], bl, ls, bk⟩ : Cfg)).cl (⟨zA, zc, kA, kc, tA, tc, none, 0, none, 0, none, 0⟩ : CAd)) :: .blk gr 55 (Cfg.none.cl CAd.zero) :: F) w) _ [(7, .int .i64 j)] TrF ⟨j, [], none, 0, rfl, by omega, ⟨by simp; omega, by simp⟩, rfl, hS.sb⟩ ?_
  clear hS
  rintro m f0 w _ ⟨j, ts, tA, tc, rfl, hj, ⟨htj, htv⟩, rfl, hS⟩
  by_cases hj0 : 0 < j
  · repeat' (first|refine K ?_|(refine Sh.sa hS ?_;clear hS;intro w hS)|(refine K3 ?_;clear hS;intro g w hS hge)|(refine KB ?_ ?_<;>intro hb<;>(try simp only [JJ] at hb)<;>(try exact JX))|fail)
    replace hS := hS.fo (R := TpM gt A l.length cap 0 _)
    refine Z.eff (Z.cl (mrange_z gt A l cap _ 1 12 _ _ _ hS HRf hl (by omega) (by omega) (by omega) (by omega)) rfl ?_) rfl
    clear hS
    rintro e w ⟨n1, rfl, hn1, hS⟩
    refine ⟨_, rfl, ?_⟩
    repeat' (first|refine K ?_|(refine Sh.sa hS ?_;clear hS;intro w hS)|(refine K3 ?_;clear hS;intro g w hS hge)|(refine KB ?_ ?_<;>intro hb<;>(try simp only [JJ] at hb)<;>(try exact JX))|fail)
    refine Z.cut [9, 88, 89, 90, 91, 92, 93, 94, 95, 96, 97, 98, 99, 100, 101, 102, 103, 104, 105, 106] (fun w z => ∃ (g9 : Nat) (x : Tn), z = [(9, .pointer (some ⟨g9, 0, .none⟩))] ∧ TnP rg x ∧ Sep r [] (TpM gt A l.length cap 0 (66 + 10 * (ts.length : Int)) :: .blk g9 170 x.cells :: .sl 170 7 (.slice tA ts.length tc) (ts.map Tn.cells) :: .sl 168 2 (.slice kA ks.length kc) (ks.map Cl.cells) :: .sl 166 1 (.slice zA zs.length zc) (zs.map ztC) :: .blk g4 55 (((⟨rg, zs, ks, ts, [], [], [], bl, ls, bk⟩ : Cfg)).cl (⟨zA, zc, kA, kc, tA, tc, none, 0, none, 0, none, 0⟩ : CAd)) :: .blk gr 55 (Cfg.none.cl CAd.zero) :: F) w) ?_ ?_
    · refine D.startS (Lr := [.blk g4 55 (((⟨rg, zs, ks, ts, [], [], [], bl, ls, bk⟩ : Cfg)).cl (⟨zA, zc, kA, kc, tA, tc, none, 0, none, 0, none, 0⟩ : CAd))]) (hS.sb) 20 21 (by kernel_rfl) rfl ?_
      replace hS := hS.drew
      refine Sh.dp 0 1 ?_
      refine Sh.dp 1 3 ?_
      refine Sh.dp 2 7 ?_
      first | refine D.sum 3 15 rfl D.wantedN (by kernel_rfl) rfl (by constructor <;> omega) ?_ | refine D.sumW 3 15 rfl D.wantedN (by kernel_rfl) rfl ?_
      refine Sh.dp 5 47 ?_
      refine Sh.dp 7 175 ?_
      refine Sh.dp 9 687 ?_
      refine Sh.dp 14 17071 ?_
      refine Sh.dp 16 82607 ?_
      refine Sh.dl 10 83631 ?_
      refine D.pl 11 85679 rfl D.wantedN (by kernel_rfl) (R.icv rfl) ?_
      refine D.pl 12 89775 rfl D.wantedN (by kernel_rfl) (R.ish rfl rfl rfl hu) ?_
      refine D.sumW 13 97967 rfl D.wantedN (by kernel_rfl) rfl ?_
      refine D.each [4, 19] (by kernel_rfl) rfl ?_
      refine D.econs 4 97983 rfl D.wantedN (by kernel_rfl) (fun _ _ h => h) ?_ ?_
      · replace hS := hS.fo (R := TpM gt A l.length cap 0 _)
        refine Z.cl (mnext_z gt A l cap _ (n1 + 1) _ _ _ hS HRf hl (by omega) (by omega) (by omega)) rfl ?_
        clear hS
        rintro e w ⟨n2, rfl, hn2, hS⟩
        refine ⟨_, rfl, ?_⟩
        refine HMs ?_
        refine D.each [6, 19] (by kernel_rfl) rfl ?_
        refine D.econs 6 98047 rfl D.wantedN (by kernel_rfl) (fun _ _ h => h) ?_ ?_
        · replace hS := hS.fo (R := TpM gt A l.length cap 0 _)
          refine Z.cl (mnext_z gt A l cap _ 4 _ _ _ hS HRf hl (by omega) (by omega) (by omega)) rfl ?_
          clear hS
          rintro e w ⟨n3, rfl, hn3, hS⟩
          refine ⟨_, rfl, ?_⟩
          refine HMs ?_
          refine D.each [8, 19] (by kernel_rfl) rfl ?_
          refine D.econs 8 98303 rfl D.wantedN (by kernel_rfl) (fun _ _ h => h) ?_ ?_
          · replace hS := hS.fo (R := TpM gt A l.length cap 0 _)
            refine Z.cl (mrange_z gt A l cap _ (-1) 3 _ _ _ hS HRf hl (by omega) (by omega) (by omega) (by omega)) rfl ?_
            clear hS
            rintro e w ⟨n4, rfl, hn4, hS⟩
            refine ⟨_, rfl, ?_⟩
            refine HMs ?_
            refine D.each [15, 19] (by kernel_rfl) rfl ?_
            refine D.econs 15 131071 rfl D.wantedN (by kernel_rfl) (fun _ _ h => h) ?_ ?_
            · replace hS := hS.fo (R := TpM gt A l.length cap 0 _)
              refine Z.cl (mnext_z gt A l cap _ 3 _ _ _ hS HRf hl (by omega) (by omega) (by omega)) rfl ?_
              clear hS
              rintro e w ⟨n5, rfl, hn5, hS⟩
              refine ⟨_, rfl, ?_⟩
              refine HMs ?_
              refine D.each [17, 19] (by kernel_rfl) rfl ?_
              refine D.econs 17 262143 rfl D.wantedN (by kernel_rfl) (fun _ _ h => h) ?_ ?_
              · replace hS := hS.fo (R := TpM gt A l.length cap 0 _)
                refine Z.cl (myes_z gt A l cap _ 4 _ _ _ hS HRf hl (by omega) (by omega) (by omega)) rfl ?_
                clear hS
                rintro e w ⟨b6, rfl, hS⟩
                refine ⟨_, rfl, ?_⟩
                refine HMs ?_
                first | refine D.bu 18 524287 rfl D.wantedN (by kernel_rfl) rfl rfl ?_ | refine D.buA 18 524287 rfl D.wantedN (by kernel_rfl) rfl rfl ?_
                refine D.ef 19 1048575 ?_
                refine Z.al hS ?_
                clear hS; intro g w hS hge
                refine HMs ?_
                refine D.ef 20 2097151 ?_
                refine Z.st hS rfl AtF rfl rfl ?_
                clear hS; intro w hS
                refine ⟨HM.last (by kernel_rfl), ?_⟩
                refine D.done (by kernel_rfl) ?_
                refine Sh.cut [(9, _)] ?_
                exact ⟨_, ⟨n1, n2, n3, n4, IntKind.i64.wrap (IntKind.i64.wrap (1 * 2 ^ min (IntKind.u64.wrap rg).toNat IntKind.i64.bits) - 1), n5, b6⟩, rfl, ⟨hn1, by show 0 ≤ n2 ∧ n2 ≤ n1; omega, by show 0 ≤ n3 ∧ n3 ≤ 3; omega, hn4, ⟨hM2.1, Int.le_of_eq (pow_v hrg)⟩, by show 0 ≤ n5 ∧ n5 ≤ 2; omega⟩, ((hS.fo (R := TpM gt A l.length cap 0 _)).TpM_le (B' := 66 + 10 * (ts.length : Int)) (by omega)).sub SuF⟩
              refine D.econs 19 655359 rfl D.wantedN (by kernel_rfl) (fun _ _ h => h) ?_ ?_
              · refine Z.al hS ?_
                clear hS; intro g w hS hge
                refine HMs ?_
                refine D.ef 17 786431 ?_
                replace hS := hS.fo (R := TpM gt A l.length cap 0 _)
                refine Z.cl (myes_z gt A l cap _ 4 _ _ _ hS HRf hl (by omega) (by omega) (by omega)) rfl ?_
                clear hS
                rintro e w ⟨b6, rfl, hS⟩
                refine ⟨_, rfl, ?_⟩
                refine HMs ?_
                first | refine D.bu 18 1048575 rfl D.wantedN (by kernel_rfl) rfl rfl ?_ | refine D.buA 18 1048575 rfl D.wantedN (by kernel_rfl) rfl rfl ?_
                refine D.ef 20 2097151 ?_
                refine Z.st hS rfl AtF rfl rfl ?_
                clear hS; intro w hS
                refine ⟨HM.last (by kernel_rfl), ?_⟩
                refine D.done (by kernel_rfl) ?_
                refine Sh.cut [(9, _)] ?_
                exact ⟨_, ⟨n1, n2, n3, n4, IntKind.i64.wrap (IntKind.i64.wrap (1 * 2 ^ min (IntKind.u64.wrap rg).toNat IntKind.i64.bits) - 1), n5, b6⟩, rfl, ⟨hn1, by show 0 ≤ n2 ∧ n2 ≤ n1; omega, by show 0 ≤ n3 ∧ n3 ≤ 3; omega, hn4, ⟨hM2.1, Int.le_of_eq (pow_v hrg)⟩, by show 0 ≤ n5 ∧ n5 ≤ 2; omega⟩, ((hS.fo (R := TpM gt A l.length cap 0 _)).TpM_le (B' := 66 + 10 * (ts.length : Int)) (by omega)).sub SuF⟩
              exact D.enil
            refine D.econs 19 622591 rfl D.wantedN (by kernel_rfl) (fun _ _ h => h) ?_ ?_
            · refine Z.al hS ?_
              clear hS; intro g w hS hge
              refine HMs ?_
              refine D.ef 15 655359 ?_
              replace hS := hS.fo (R := TpM gt A l.length cap 0 _)
              refine Z.cl (mnext_z gt A l cap _ 3 _ _ _ hS HRf hl (by omega) (by omega) (by omega)) rfl ?_
              clear hS
              rintro e w ⟨n5, rfl, hn5, hS⟩
              refine ⟨_, rfl, ?_⟩
              refine HMs ?_
              refine D.ef 17 786431 ?_
              replace hS := hS.fo (R := TpM gt A l.length cap 0 _)
              refine Z.cl (myes_z gt A l cap _ 4 _ _ _ hS HRf hl (by omega) (by omega) (by omega)) rfl ?_
              clear hS
              rintro e w ⟨b6, rfl, hS⟩
              refine ⟨_, rfl, ?_⟩
              refine HMs ?_
              first | refine D.bu 18 1048575 rfl D.wantedN (by kernel_rfl) rfl rfl ?_ | refine D.buA 18 1048575 rfl D.wantedN (by kernel_rfl) rfl rfl ?_
              refine D.ef 20 2097151 ?_
              refine Z.st hS rfl AtF rfl rfl ?_
              clear hS; intro w hS
              refine ⟨HM.last (by kernel_rfl), ?_⟩
              refine D.done (by kernel_rfl) ?_
              refine Sh.cut [(9, _)] ?_
              exact ⟨_, ⟨n1, n2, n3, n4, IntKind.i64.wrap (IntKind.i64.wrap (1 * 2 ^ min (IntKind.u64.wrap rg).toNat IntKind.i64.bits) - 1), n5, b6⟩, rfl, ⟨hn1, by show 0 ≤ n2 ∧ n2 ≤ n1; omega, by show 0 ≤ n3 ∧ n3 ≤ 3; omega, hn4, ⟨hM2.1, Int.le_of_eq (pow_v hrg)⟩, by show 0 ≤ n5 ∧ n5 ≤ 2; omega⟩, ((hS.fo (R := TpM gt A l.length cap 0 _)).TpM_le (B' := 66 + 10 * (ts.length : Int)) (by omega)).sub SuF⟩
            exact D.enil
          refine D.econs 19 622335 rfl D.wantedN (by kernel_rfl) (fun _ _ h => h) ?_ ?_
          · refine Z.al hS ?_
            clear hS; intro g w hS hge
            refine HMs ?_
            refine D.ef 8 622591 ?_
            replace hS := hS.fo (R := TpM gt A l.length cap 0 _)
            refine Z.cl (mrange_z gt A l cap _ (-1) 3 _ _ _ hS HRf hl (by omega) (by omega) (by omega) (by omega)) rfl ?_
            clear hS
            rintro e w ⟨n4, rfl, hn4, hS⟩
            refine ⟨_, rfl, ?_⟩
            refine HMs ?_
            refine D.ef 15 655359 ?_
            replace hS := hS.fo (R := TpM gt A l.length cap 0 _)
            refine Z.cl (mnext_z gt A l cap _ 3 _ _ _ hS HRf hl (by omega) (by omega) (by omega)) rfl ?_
            clear hS
            rintro e w ⟨n5, rfl, hn5, hS⟩
            refine ⟨_, rfl, ?_⟩
            refine HMs ?_
            refine D.ef 17 786431 ?_
            replace hS := hS.fo (R := TpM gt A l.length cap 0 _)
            refine Z.cl (myes_z gt A l cap _ 4 _ _ _ hS HRf hl (by omega) (by omega) (by omega)) rfl ?_
            clear hS
            rintro e w ⟨b6, rfl, hS⟩
            refine ⟨_, rfl, ?_⟩
            refine HMs ?_
            first | refine D.bu 18 1048575 rfl D.wantedN (by kernel_rfl) rfl rfl ?_ | refine D.buA 18 1048575 rfl D.wantedN (by kernel_rfl) rfl rfl ?_
            refine D.ef 20 2097151 ?_
            refine Z.st hS rfl AtF rfl rfl ?_
            clear hS; intro w hS
            refine ⟨HM.last (by kernel_rfl), ?_⟩
            refine D.done (by kernel_rfl) ?_
            refine Sh.cut [(9, _)] ?_
            exact ⟨_, ⟨n1, n2, n3, n4, IntKind.i64.wrap (IntKind.i64.wrap (1 * 2 ^ min (IntKind.u64.wrap rg).toNat IntKind.i64.bits) - 1), n5, b6⟩, rfl, ⟨hn1, by show 0 ≤ n2 ∧ n2 ≤ n1; omega, by show 0 ≤ n3 ∧ n3 ≤ 3; omega, hn4, ⟨hM2.1, Int.le_of_eq (pow_v hrg)⟩, by show 0 ≤ n5 ∧ n5 ≤ 2; omega⟩, ((hS.fo (R := TpM gt A l.length cap 0 _)).TpM_le (B' := 66 + 10 * (ts.length : Int)) (by omega)).sub SuF⟩
          exact D.enil
        refine D.econs 19 622271 rfl D.wantedN (by kernel_rfl) (fun _ _ h => h) ?_ ?_
        · refine Z.al hS ?_
          clear hS; intro g w hS hge
          refine HMs ?_
          refine D.ef 6 622335 ?_
          replace hS := hS.fo (R := TpM gt A l.length cap 0 _)
          refine Z.cl (mnext_z gt A l cap _ 4 _ _ _ hS HRf hl (by omega) (by omega) (by omega)) rfl ?_
          clear hS
          rintro e w ⟨n3, rfl, hn3, hS⟩
          refine ⟨_, rfl, ?_⟩
          refine HMs ?_
          refine D.ef 8 622591 ?_
          replace hS := hS.fo (R := TpM gt A l.length cap 0 _)
          refine Z.cl (mrange_z gt A l cap _ (-1) 3 _ _ _ hS HRf hl (by omega) (by omega) (by omega) (by omega)) rfl ?_
          clear hS
          rintro e w ⟨n4, rfl, hn4, hS⟩
          refine ⟨_, rfl, ?_⟩
          refine HMs ?_
          refine D.ef 15 655359 ?_
          replace hS := hS.fo (R := TpM gt A l.length cap 0 _)
          refine Z.cl (mnext_z gt A l cap _ 3 _ _ _ hS HRf hl (by omega) (by omega) (by omega)) rfl ?_
          clear hS
          rintro e w ⟨n5, rfl, hn5, hS⟩
          refine ⟨_, rfl, ?_⟩
          refine HMs ?_
          refine D.ef 17 786431 ?_
          replace hS := hS.fo (R := TpM gt A l.length cap 0 _)
          refine Z.cl (myes_z gt A l cap _ 4 _ _ _ hS HRf hl (by omega) (by omega) (by omega)) rfl ?_
          clear hS
          rintro e w ⟨b6, rfl, hS⟩
          refine ⟨_, rfl, ?_⟩
          refine HMs ?_
          first | refine D.bu 18 1048575 rfl D.wantedN (by kernel_rfl) rfl rfl ?_ | refine D.buA 18 1048575 rfl D.wantedN (by kernel_rfl) rfl rfl ?_
          refine D.ef 20 2097151 ?_
          refine Z.st hS rfl AtF rfl rfl ?_
          clear hS; intro w hS
          refine ⟨HM.last (by kernel_rfl), ?_⟩
          refine D.done (by kernel_rfl) ?_
          refine Sh.cut [(9, _)] ?_
          exact ⟨_, ⟨n1, n2, n3, n4, IntKind.i64.wrap (IntKind.i64.wrap (1 * 2 ^ min (IntKind.u64.wrap rg).toNat IntKind.i64.bits) - 1), n5, b6⟩, rfl, ⟨hn1, by show 0 ≤ n2 ∧ n2 ≤ n1; omega, by show 0 ≤ n3 ∧ n3 ≤ 3; omega, hn4, ⟨hM2.1, Int.le_of_eq (pow_v hrg)⟩, by show 0 ≤ n5 ∧ n5 ≤ 2; omega⟩, ((hS.fo (R := TpM gt A l.length cap 0 _)).TpM_le (B' := 66 + 10 * (ts.length : Int)) (by omega)).sub SuF⟩
        exact D.enil
      refine D.econs 19 622255 rfl D.wantedN (by kernel_rfl) (fun _ _ h => h) ?_ ?_
      · refine Z.al hS ?_
        clear hS; intro g w hS hge
        refine HMs ?_
        refine D.ef 4 622271 ?_
        replace hS := hS.fo (R := TpM gt A l.length cap 0 _)
        refine Z.cl (mnext_z gt A l cap _ (n1 + 1) _ _ _ hS HRf hl (by omega) (by omega) (by omega)) rfl ?_
        clear hS
        rintro e w ⟨n2, rfl, hn2, hS⟩
        refine ⟨_, rfl, ?_⟩
        refine HMs ?_
        refine D.ef 6 622335 ?_
        replace hS := hS.fo (R := TpM gt A l.length cap 0 _)
        refine Z.cl (mnext_z gt A l cap _ 4 _ _ _ hS HRf hl (by omega) (by omega) (by omega)) rfl ?_
        clear hS
        rintro e w ⟨n3, rfl, hn3, hS⟩
        refine ⟨_, rfl, ?_⟩
        refine HMs ?_
        refine D.ef 8 622591 ?_
        replace hS := hS.fo (R := TpM gt A l.length cap 0 _)
        refine Z.cl (mrange_z gt A l cap _ (-1) 3 _ _ _ hS HRf hl (by omega) (by omega) (by omega) (by omega)) rfl ?_
        clear hS
        rintro e w ⟨n4, rfl, hn4, hS⟩
        refine ⟨_, rfl, ?_⟩
        refine HMs ?_
        refine D.ef 15 655359 ?_
        replace hS := hS.fo (R := TpM gt A l.length cap 0 _)
        refine Z.cl (mnext_z gt A l cap _ 3 _ _ _ hS HRf hl (by omega) (by omega) (by omega)) rfl ?_
        clear hS
        rintro e w ⟨n5, rfl, hn5, hS⟩
        refine ⟨_, rfl, ?_⟩
        refine HMs ?_
        refine D.ef 17 786431 ?_
        replace hS := hS.fo (R := TpM gt A l.length cap 0 _)
        refine Z.cl (myes_z gt A l cap _ 4 _ _ _ hS HRf hl (by omega) (by omega) (by omega)) rfl ?_
        clear hS
        rintro e w ⟨b6, rfl, hS⟩
        refine ⟨_, rfl, ?_⟩
        refine HMs ?_
        first | refine D.bu 18 1048575 rfl D.wantedN (by kernel_rfl) rfl rfl ?_ | refine D.buA 18 1048575 rfl D.wantedN (by kernel_rfl) rfl rfl ?_
        refine D.ef 20 2097151 ?_
        refine Z.st hS rfl AtF rfl rfl ?_
        clear hS; intro w hS
        refine ⟨HM.last (by kernel_rfl), ?_⟩
        refine D.done (by kernel_rfl) ?_
        refine Sh.cut [(9, _)] ?_
        exact ⟨_, ⟨n1, n2, n3, n4, IntKind.i64.wrap (IntKind.i64.wrap (1 * 2 ^ min (IntKind.u64.wrap rg).toNat IntKind.i64.bits) - 1), n5, b6⟩, rfl, ⟨hn1, by show 0 ≤ n2 ∧ n2 ≤ n1; omega, by show 0 ≤ n3 ∧ n3 ≤ 3; omega, hn4, ⟨hM2.1, Int.le_of_eq (pow_v hrg)⟩, by show 0 ≤ n5 ∧ n5 ≤ 2; omega⟩, ((hS.fo (R := TpM gt A l.length cap 0 _)).TpM_le (B' := 66 + 10 * (ts.length : Int)) (by omega)).sub SuF⟩
      exact D.enil
    clear hS
    rintro f0 w _ ⟨g9, x, rfl, hx, hS⟩
    refine Z.seq ?_
    refine Z.cut [107, 108, 109, 110, 111, 112, 113, 114, 115, 116] (fun w z => ∃ (x : Tn), z = [] ∧ TnP rg x ∧ Sep r [] (TpM gt A l.length cap 0 (68 + 10 * (ts.length : Int)) :: .blk g9 170 x.cells :: .sl 170 7 (.slice tA ts.length tc) (ts.map Tn.cells) :: .sl 168 2 (.slice kA ks.length kc) (ks.map Cl.cells) :: .sl 166 1 (.slice zA zs.length zc) (zs.map ztC) :: .blk g4 55 (((⟨rg, zs, ks, ts, [], [], [], bl, ls, bk⟩ : Cfg)).cl (⟨zA, zc, kA, kc, tA, tc, none, 0, none, 0, none, 0⟩ : CAd)) :: .blk gr 55 (Cfg.none.cl CAd.zero) :: F) w) ?_ ?_
    · repeat' (first|refine K ?_|(refine Sh.sa hS ?_;clear hS;intro w hS)|(refine K3 ?_;clear hS;intro g w hS hge)|(refine KB ?_ ?_<;>intro hb<;>(try simp only [JJ] at hb)<;>(try exact JX))|fail)
      replace hS := hS.fo (R := TpM gt A l.length cap 0 _)
      refine Z.eff (Z.cl (myes_z gt A l cap _ 4 _ _ _ hS HRf hl (by omega) (by omega) (by omega)) rfl ?_) rfl
      clear hS
      rintro e w ⟨b7, rfl, hS⟩
      refine ⟨_, rfl, ?_⟩
      cases b7
      · repeat' (first|refine K ?_|(refine Sh.sa hS ?_;clear hS;intro w hS)|(refine K3 ?_;clear hS;intro g w hS hge)|(refine KB ?_ ?_<;>intro hb<;>(try simp only [JJ] at hb)<;>(try exact JX))|fail)
        refine Sh.cut [] ?_
        exact ⟨x, rfl, hx, ((hS.fo (R := TpM gt A l.length cap 0 _)).TpM_le (B' := 68 + 10 * (ts.length : Int)) (by omega)).sub SuF⟩
      · repeat' (first|refine Kw ?_|(refine Sh.sa hS ?_;clear hS;intro w hS)|(refine K3 ?_;clear hS;intro g w hS hge)|(refine KB ?_ ?_<;>intro hb<;>(try simp only [JJ] at hb)<;>(try exact JX))|fail)
        replace hS := hS.fo (R := TpM gt A l.length cap 0 _)
        refine Z.eff (Z.cl (mrange_z gt A l cap _ 1 (IntKind.i64.wrap (IntKind.i64.wrap (1 * 2 ^ min (IntKind.u64.wrap rg).toNat IntKind.i64.bits) - 1)) _ _ _ hS HRf hl (by omega) (by omega) (by omega) (by omega)) rfl ?_) rfl
        clear hS
        rintro e w ⟨al, rfl, hal, hS⟩
        refine ⟨_, rfl, ?_⟩
        repeat' (first|refine K ?_|(refine Sh.sa hS ?_;clear hS;intro w hS)|(refine K3 ?_;clear hS;intro g w hS hge)|(refine KB ?_ ?_<;>intro hb<;>(try simp only [JJ] at hb)<;>(try exact JX))|fail)
        refine Sh.cut [] ?_
        exact ⟨{ x with allowed := al }, rfl, ⟨hx.l, hx.s, hx.p, hx.g, by rw [pow_v hrg] at hal; exact hal, hx.o⟩, ((hS.fo (R := TpM gt A l.length cap 0 _)).TpM_le (B' := 68 + 10 * (ts.length : Int)) (by omega)).sub SuF⟩
    clear hS
    rintro f0 w _ ⟨x, rfl, hx, hS⟩
    repeat' (first|refine K ?_|(refine Sh.sa hS ?_;clear hS;intro w hS)|(refine K3 ?_;clear hS;intro g w hS hge)|(refine KB ?_ ?_<;>intro hb<;>(try simp only [JJ] at hb)<;>(try exact JX))|fail)
    refine Z.eff (Z.apm (l' := [x]) hS rfl rfl rfl AtF (hS.lit1 AtF rfl rfl) LnF LnF ?_) rfl
    clear hS; intro A' c' w hS
    rw [← List.length_append] at hS ⊢
    repeat' (first|refine K ?_|(refine Sh.sa hS ?_;clear hS;intro w hS)|(refine K3 ?_;clear hS;intro g w hS hge)|(refine KB ?_ ?_<;>intro hb<;>(try simp only [JJ] at hb)<;>(try exact JX))|fail)
    refine Sh.again ((j - 1).toNat) [(7, .int .i64 (j - 1))] ?_
    exact ⟨j - 1, ts ++ [x], A', c', rfl, by omega, ⟨by simp; omega, all_snoc1 htv hx⟩, rfl, ((hS.fo (R := TpM gt A l.length cap 0 _)).TpM_le (B' := 60 + 10 * ((ts ++ [x]).length : Int)) (by simp; omega)).sub SuF⟩
  have ht0 : ts.length ≤ 5 := by omega
  repeat' (first|refine K ?_|(refine Sh.sa hS ?_;clear hS;intro w hS)|(refine K3 ?_;clear hS;intro g w hS hge)|(refine KB ?_ ?_<;>intro hb<;>(try simp only [JJ] at hb)<;>(try exact JX))|fail)
  replace hS := hS.fo (R := TpM gt A l.length cap 0 _)
  refine Z.eff (Z.cl (mnext_z gt A l cap _ 3 _ _ _ hS HRf hl (by omega) (by omega) (by omega)) rfl ?_) rfl
  clear hS
  rintro e w ⟨v0, rfl, hv0, hS⟩
  refine ⟨_, rfl, ?_⟩
  repeat' (first|refine K ?_|(refine Sh.sa hS ?_;clear hS;intro w hS)|(refine K3 ?_;clear hS;intro g w hS hge)|(refine KB ?_ ?_<;>intro hb<;>(try simp only [JJ] at hb)<;>(try exact JX))|fail)
  rename Nat => gv
  replace hS := hS.fo (R := .blk gv _ _)
  replace hS := mk_sl (sz := 2) (n := 1) (rows := [(⟨0, v0⟩ : Vs)].map Vs.cells) hS rfl (by omega) (by decide) (by intro row hrow; simp at hrow; subst hrow; exact ⟨rfl, by simp [Vs.cells, Value.oneCell']⟩) rfl
  repeat' (first|refine K ?_|(refine Sh.sa hS ?_;clear hS;intro w hS)|(refine K3 ?_;clear hS;intro g w hS hge)|(refine KB ?_ ?_<;>intro hb<;>(try simp only [JJ] at hb)<;>(try exact JX))|fail)
  replace hS := hS.fo (R := TpM gt A l.length cap 0 _)
  refine Z.eff (Z.cl (mnext_z gt A l cap _ 3 _ _ _ hS HRf hl (by omega) (by omega) (by omega)) rfl ?_) rfl
  clear hS
  rintro e w ⟨j, rfl, hj, hS⟩
  refine ⟨_, rfl, ?_⟩
  repeat' (first|refine K ?_|(refine Sh.sa hS ?_;clear hS;intro w hS)|(refine K3 ?_;clear hS;intro g w hS hge)|(refine KB ?_ ?_<;>intro hb<;>(try simp only [JJ] at hb)<;>(try exact JX))|fail)
  replace hS := hS.fo (R := TpM gt A l.length cap 0 _)
  replace hS := hS.TpM_le (B' := 120 + 3 * ((1 : Nat) : Int)) (by omega)
  refine Z.lpS [10, 11, 130, 131, 132, 133, 134, 135, 136, 137, 138, 139, 140, 141, 142, 143, 144, 145, 146] (fun m w z => ∃ (j : Int) (vs : List Vs) (vA : Option Addr) (vc : Nat), z = [(10, .int .i64 j)] ∧ 0 ≤ j ∧ (vs.length + j ≤ 4 ∧ (∀ x, x ∈ vs → VsP x) ∧ ∃ h t, vs = ⟨0, h⟩ :: t) ∧ 1 ≤ vs.length ∧ m = j.toNat ∧ Sep r [] (TpM gt A l.length cap 0 (120 + 3 * (vs.length : Int)) :: .sl 172 2 (.slice vA vs.length vc) (vs.map Vs.cells) :: .sl 170 7 (.slice tA ts.length tc) (ts.map Tn.cells) :: .sl 168 2 (.slice kA ks.length kc) (ks.map Cl.cells) :: .sl 166 1 (.slice zA zs.length zc) (zs.map ztC) :: .blk g4 55 (((⟨rg, zs, ks, ts, vs, [], [], bl, ls, bk⟩ : Cfg)).cl (⟨zA, zc, kA, kc, tA, tc, vA, vc, none, 0, none, 0⟩ : CAd)) :: .blk gr 55 (Cfg.none.cl CAd.zero) :: F) w) _ [(10, .int .i64 j)] TrF ⟨j, [⟨0, v0⟩], some ⟨gv, 0, .none⟩, 1, rfl, by omega, ⟨by simp; omega, fun x hx => (by rw [List.mem_singleton] at hx; subst hx; exact ⟨⟨Int.le_refl 0, hv0.1⟩, by show v0 ≤ 30; omega⟩), v0, [], rfl⟩, by simp, rfl, hS.sb⟩ ?_
  clear hS
  rintro m f0 w _ ⟨j, vs, vA, vc, rfl, hj, ⟨hvj, hvv, hvh⟩, hv1, rfl, hS⟩
  by_cases hj0 : 0 < j
  · repeat' (first|refine K ?_|(refine Sh.sa hS ?_;clear hS;intro w hS)|(refine K3 ?_;clear hS;intro g w hS hge)|(refine KB ?_ ?_<;>intro hb<;>(try simp only [JJ] at hb)<;>(try exact JX))|fail)
    replace hS := hS.fo (R := TpM gt A l.length cap 0 _)
    refine Z.eff (Z.cl (mnext_z gt A l cap _ 2 _ _ _ hS HRf hl (by omega) (by omega) (by omega)) rfl ?_) rfl
    clear hS
    rintro e w ⟨n1, rfl, hn1, hS⟩
    refine ⟨_, rfl, ?_⟩
    repeat' (first|refine K ?_|(refine Sh.sa hS ?_;clear hS;intro w hS)|(refine K3 ?_;clear hS;intro g w hS hge)|(refine KB ?_ ?_<;>intro hb<;>(try simp only [JJ] at hb)<;>(try exact JX))|fail)
    refine D.startS (Lr := [.blk g4 55 (((⟨rg, zs, ks, ts, vs, [], [], bl, ls, bk⟩ : Cfg)).cl (⟨zA, zc, kA, kc, tA, tc, vA, vc, none, 0, none, 0⟩ : CAd))]) (hS.sb) 11 12 (by kernel_rfl) rfl ?_
    replace hS := hS.drew
    refine Sh.dp 0 1 ?_
    refine Sh.dp 2 5 ?_
    refine Sh.dp 3 13 ?_
    refine Sh.dp 4 29 ?_
    refine Sh.dl 1 31 ?_
    refine D.ef 5 63 ?_
    replace hS := hS.fo (R := TpM gt A l.length cap 0 _)
    refine Z.cl (mnext_z gt A l cap _ 3 _ _ _ hS HRf hl (by omega) (by omega) (by omega)) rfl ?_
    clear hS
    rintro e w ⟨n2, rfl, hn2, hS⟩
    refine ⟨_, rfl, ?_⟩
    refine HMs ?_
    first | refine D.sum 6 127 rfl D.wantedN (by kernel_rfl) rfl (by constructor <;> omega) ?_ | refine D.sumW 6 127 rfl D.wantedN (by kernel_rfl) rfl ?_
    first | refine D.bu 7 255 rfl D.wantedN (by kernel_rfl) rfl rfl ?_ | refine D.buA 7 255 rfl D.wantedN (by kernel_rfl) rfl rfl ?_
    refine D.ef 8 511 ?_
    refine Z.bs hS rfl rfl rfl ?_
    clear hS; intro g w hS hge
    refine HMs ?_
    refine D.ef 9 1023 ?_
    refine Z.apm (l' := [(⟨n1, n1 + n2⟩ : Vs)]) hS rfl rfl rfl AtF (hS.lit1 AtF rfl rfl) LnF LnF ?_
    clear hS; intro A' c' w hS
    rw [← List.length_append] at hS ⊢
    refine HMs ?_
    refine Sh.dp 10 2047 ?_
    refine D.ef 11 4095 ?_
    refine Z.st hS rfl AtF rfl rfl ?_
    clear hS; intro w hS
    refine ⟨HM.last (by kernel_rfl), ?_⟩
    refine D.done (by kernel_rfl) ?_
    repeat' (first|refine K ?_|(refine Sh.sa hS ?_;clear hS;intro w hS)|(refine K3 ?_;clear hS;intro g w hS hge)|(refine KB ?_ ?_<;>intro hb<;>(try simp only [JJ] at hb)<;>(try exact JX))|fail)
    refine Sh.again ((j - 1).toNat) [(10, .int .i64 (j - 1))] ?_
    exact ⟨j - 1, vs ++ [(⟨n1, n1 + n2⟩ : Vs)], A', c', rfl, by omega, ⟨by simp; omega, all_snoc1 hvv ⟨by show 0 ≤ n1 ∧ n1 ≤ n1 + n2; omega, by show n1 + n2 ≤ 30; omega⟩, by obtain ⟨h, t, rfl⟩ := hvh; exact ⟨h, t ++ [⟨n1, n1 + n2⟩], rfl⟩⟩, by simp, rfl, ((hS.fo (R := TpM gt A l.length cap 0 _)).TpM_le (B' := 120 + 3 * ((vs ++ [(⟨n1, n1 + n2⟩ : Vs)]).length : Int)) (by simp; omega)).sub SuF⟩
  have hv0 : 1 ≤ vs.length ∧ vs.length ≤ 4 := by omega
  repeat' (first|refine K ?_|(refine Sh.sa hS ?_;clear hS;intro w hS)|(refine K3 ?_;clear hS;intro g w hS hge)|(refine KB ?_ ?_<;>intro hb<;>(try simp only [JJ] at hb)<;>(try exact JX))|fail)
  replace hS := hS.fo (R := TpM gt A l.length cap 0 _)
  refine Z.eff (Z.cl (mnext_z gt A l cap _ 2 _ _ _ hS HRf hl (by omega) (by omega) (by omega)) rfl ?_) rfl
  clear hS
  rintro e w ⟨q, rfl, hq, hS⟩
  refine ⟨_, rfl, ?_⟩
  repeat' (first|refine K ?_|(refine Sh.sa hS ?_;clear hS;intro w hS)|(refine K3 ?_;clear hS;intro g w hS hge)|(refine KB ?_ ?_<;>intro hb<;>(try simp only [JJ] at hb)<;>(try exact JX))|fail)
  replace hS := Z.nilsl hS 3 1 none
  replace hS := hS.fo (R := TpM gt A l.length cap 0 _)
  replace hS := hS.TpM_le (B' := 140 + 2 * ((0 : Nat) : Int)) (by omega)
  refine Z.lpS [12, 151, 152, 153, 154, 155, 156, 157, 158, 159, 160, 161, 162, 163, 164] (fun m w z => ∃ (j : Int) (rs : List Int) (rA : Option Addr) (rc : Nat), z = [(12, .int .i64 j)] ∧ 0 ≤ j ∧ (rs.length + j = 2 * q + 1 ∧ ∀ z, z ∈ rs → 0 ≤ z ∧ z < zs.length) ∧ 0 ≤ rs.length ∧ m = j.toNat ∧ Sep r [] (TpM gt A l.length cap 0 (140 + 2 * (rs.length : Int)) :: .sl 3 1 (.slice rA rs.length rc) (rs.map ztC) :: .sl 172 2 (.slice vA vs.length vc) (vs.map Vs.cells) :: .sl 170 7 (.slice tA ts.length tc) (ts.map Tn.cells) :: .sl 168 2 (.slice kA ks.length kc) (ks.map Cl.cells) :: .sl 166 1 (.slice zA zs.length zc) (zs.map ztC) :: .blk g4 55 (((⟨rg, zs, ks, ts, vs, rs, [], bl, ls, bk⟩ : Cfg)).cl (⟨zA, zc, kA, kc, tA, tc, vA, vc, rA, rc, none, 0⟩ : CAd)) :: .blk gr 55 (Cfg.none.cl CAd.zero) :: F) w) _ [(12, .int .i64 (2 * q + 1))] TrF ⟨(2 * q + 1), [], none, 0, rfl, by omega, ⟨by simp, by simp⟩, by simp, rfl, hS.sb⟩ ?_
  clear hS
  rintro m f0 w _ ⟨j, rs, rA, rc, rfl, hj, ⟨hvj, hrv⟩, hv1, rfl, hS⟩
  by_cases hj0 : 0 < j
  · repeat' (first|refine K ?_|(refine Sh.sa hS ?_;clear hS;intro w hS)|(refine K3 ?_;clear hS;intro g w hS hge)|(refine KB ?_ ?_<;>intro hb<;>(try simp only [JJ] at hb)<;>(try exact JX))|fail)
    refine D.startS (Lr := [.blk g4 55 (((⟨rg, zs, ks, ts, vs, rs, [], bl, ls, bk⟩ : Cfg)).cl (⟨zA, zc, kA, kc, tA, tc, vA, vc, rA, rc, none, 0⟩ : CAd))]) (hS.sb) 10 11 (by kernel_rfl) rfl ?_
    replace hS := hS.drew
    refine Sh.dp 0 1 ?_
    refine Sh.dp 2 5 ?_
    refine Sh.dp 3 13 ?_
    refine Sh.dl 1 15 ?_
    refine Sh.dl 4 31 ?_
    refine Sh.dp 5 63 ?_
    refine D.ef 6 127 ?_
    replace hS := hS.fo (R := TpM gt A l.length cap 0 _)
    refine Z.cl (mnext_z gt A l cap _ (zs.length : Int) _ _ _ hS HRf hl (by omega) (by omega) (by omega)) rfl ?_
    clear hS
    rintro e w ⟨n1, rfl, hn1, hS⟩
    refine ⟨_, rfl, ?_⟩
    refine HMs ?_
    refine D.ef 7 255 ?_
    refine Z.bs hS rfl rfl rfl ?_
    clear hS; intro g w hS hge
    refine HMs ?_
    refine D.ef 8 511 ?_
    refine Z.apm (l' := [n1]) hS rfl rfl rfl AtF (hS.lit1 AtF rfl rfl) LnF LnF ?_
    clear hS; intro A' c' w hS
    rw [← List.length_append] at hS ⊢
    refine HMs ?_
    refine Sh.dp 9 1023 ?_
    refine D.ef 10 2047 ?_
    refine Z.st hS rfl AtF rfl rfl ?_
    clear hS; intro w hS
    refine ⟨HM.last (by kernel_rfl), ?_⟩
    refine D.done (by kernel_rfl) ?_
    repeat' (first|refine K ?_|(refine Sh.sa hS ?_;clear hS;intro w hS)|(refine K3 ?_;clear hS;intro g w hS hge)|(refine KB ?_ ?_<;>intro hb<;>(try simp only [JJ] at hb)<;>(try exact JX))|fail)
    refine Sh.again ((j - 1).toNat) [(12, .int .i64 (j - 1))] ?_
    exact ⟨j - 1, rs ++ [n1], A', c', rfl, by omega, ⟨by simp; omega, all_snoc1 hrv hn1⟩, by simp, rfl, ((hS.fo (R := TpM gt A l.length cap 0 _)).TpM_le (B' := 140 + 2 * ((rs ++ [n1]).length : Int)) (by simp; omega)).sub SuF⟩
  have hr0 : rs.length = 1 ∨ rs.length = 3 := by omega
  repeat' (first|refine K ?_|(refine Sh.sa hS ?_;clear hS;intro w hS)|(refine K3 ?_;clear hS;intro g w hS hge)|(refine KB ?_ ?_<;>intro hb<;>(try simp only [JJ] at hb)<;>(try exact JX))|fail)
  replace hS := hS.fo (R := TpM gt A l.length cap 0 _)
  refine Z.eff (Z.cl (mrange_z gt A l cap _ 1 4 _ _ _ hS HRf hl (by omega) (by omega) (by omega) (by omega)) rfl ?_) rfl
  clear hS
  rintro e w ⟨q2, rfl, hq2, hS⟩
  refine ⟨_, rfl, ?_⟩
  repeat' (first|refine K ?_|(refine Sh.sa hS ?_;clear hS;intro w hS)|(refine K3 ?_;clear hS;intro g w hS hge)|(refine KB ?_ ?_<;>intro hb<;>(try simp only [JJ] at hb)<;>(try exact JX))|fail)
  replace hS := Z.nilsl hS 3 1 none
  replace hS := hS.fo (R := TpM gt A l.length cap 0 _)
  replace hS := hS.TpM_le (B' := 160 + 2 * ((0 : Nat) : Int)) (by omega)
  refine Z.lpS [13, 167, 168, 169, 170, 171, 172, 173, 174, 175, 176, 177, 178, 179, 180] (fun m w z => ∃ (j : Int) (os : List Int) (oA : Option Addr) (oc : Nat), z = [(13, .int .i64 j)] ∧ 0 ≤ j ∧ (os.length + j = q2 ∧ ∀ z, z ∈ os → 0 ≤ z ∧ z < zs.length) ∧ 0 ≤ os.length ∧ m = j.toNat ∧ Sep r [] (TpM gt A l.length cap 0 (160 + 2 * (os.length : Int)) :: .sl 3 1 (.slice oA os.length oc) (os.map ztC) :: .sl 3 1 (.slice rA rs.length rc) (rs.map ztC) :: .sl 172 2 (.slice vA vs.length vc) (vs.map Vs.cells) :: .sl 170 7 (.slice tA ts.length tc) (ts.map Tn.cells) :: .sl 168 2 (.slice kA ks.length kc) (ks.map Cl.cells) :: .sl 166 1 (.slice zA zs.length zc) (zs.map ztC) :: .blk g4 55 (((⟨rg, zs, ks, ts, vs, rs, os, bl, ls, bk⟩ : Cfg)).cl (⟨zA, zc, kA, kc, tA, tc, vA, vc, rA, rc, oA, oc⟩ : CAd)) :: .blk gr 55 (Cfg.none.cl CAd.zero) :: F) w) _ [(13, .int .i64 q2)] TrF ⟨q2, [], none, 0, rfl, by omega, ⟨by simp, by simp⟩, by simp, rfl, hS.sb⟩ ?_
  clear hS
  rintro m f0 w _ ⟨j, os, oA, oc, rfl, hj, ⟨hvj, hov⟩, hv1, rfl, hS⟩
  by_cases hj0 : 0 < j
  · repeat' (first|refine K ?_|(refine Sh.sa hS ?_;clear hS;intro w hS)|(refine K3 ?_;clear hS;intro g w hS hge)|(refine KB ?_ ?_<;>intro hb<;>(try simp only [JJ] at hb)<;>(try exact JX))|fail)
    refine D.startS (Lr := [.blk g4 55 (((⟨rg, zs, ks, ts, vs, rs, os, bl, ls, bk⟩ : Cfg)).cl (⟨zA, zc, kA, kc, tA, tc, vA, vc, rA, rc, oA, oc⟩ : CAd))]) (hS.sb) 10 11 (by kernel_rfl) rfl ?_
    replace hS := hS.drew
    refine Sh.dp 0 1 ?_
    refine Sh.dp 2 5 ?_
    refine Sh.dp 3 13 ?_
    refine Sh.dl 1 15 ?_
    refine Sh.dl 4 31 ?_
    refine Sh.dp 5 63 ?_
    refine D.ef 6 127 ?_
    replace hS := hS.fo (R := TpM gt A l.length cap 0 _)
    refine Z.cl (mnext_z gt A l cap _ (zs.length : Int) _ _ _ hS HRf hl (by omega) (by omega) (by omega)) rfl ?_
    clear hS
    rintro e w ⟨n1, rfl, hn1, hS⟩
    refine ⟨_, rfl, ?_⟩
    refine HMs ?_
    refine D.ef 7 255 ?_
    refine Z.bs hS rfl rfl rfl ?_
    clear hS; intro g w hS hge
    refine HMs ?_
    refine D.ef 8 511 ?_
    refine Z.apm (l' := [n1]) hS rfl rfl rfl AtF (hS.lit1 AtF rfl rfl) LnF LnF ?_
    clear hS; intro A' c' w hS
    rw [← List.length_append] at hS ⊢
    refine HMs ?_
    refine Sh.dp 9 1023 ?_
    refine D.ef 10 2047 ?_
    refine Z.st hS rfl AtF rfl rfl ?_
    clear hS; intro w hS
    refine ⟨HM.last (by kernel_rfl), ?_⟩
    refine D.done (by kernel_rfl) ?_
    repeat' (first|refine K ?_|(refine Sh.sa hS ?_;clear hS;intro w hS)|(refine K3 ?_;clear hS;intro g w hS hge)|(refine KB ?_ ?_<;>intro hb<;>(try simp only [JJ] at hb)<;>(try exact JX))|fail)
    refine Sh.again ((j - 1).toNat) [(13, .int .i64 (j - 1))] ?_
    exact ⟨j - 1, os ++ [n1], A', c', rfl, by omega, ⟨by simp; omega, all_snoc1 hov hn1⟩, by simp, rfl, ((hS.fo (R := TpM gt A l.length cap 0 _)).TpM_le (B' := 160 + 2 * ((os ++ [n1]).length : Int)) (by simp; omega)).sub SuF⟩
  have ho0 : 1 ≤ os.length ∧ os.length ≤ 4 := by omega
  repeat' (first|refine K ?_|(refine Sh.sa hS ?_;clear hS;intro w hS)|(refine K3 ?_;clear hS;intro g w hS hge)|(refine KB ?_ ?_<;>intro hb<;>(try simp only [JJ] at hb)<;>(try exact JX))|fail)
  refine Dnc Tryz.results18 ?_
  have hv : CfgV (⟨rg, zs, ks, ts, vs, rs, os, bl, ls, bk⟩ : Cfg) := by
    refine ⟨⟨by simp; omega, by simp; omega, by simp; omega, by simp; omega, by simp; omega, by simp; omega, by simp; omega, by simp; omega, fun x hx => (hkz x hx).z⟩, hzv, fun x hx => ?_, ?_, ?_, hrv, hov, fun i h => ?_, fun t ht => ?_⟩
    · have := (hkz x hx).c
      omega
    · show 1 ≤ rs.length ∧ rs.length ≤ 5 ∧ rs.length % 2 = 1
      omega
    · show 1 ≤ os.length ∧ os.length ≤ 9
      omega
    · have h1 := hvv _ (List.getElem_mem h)
      refine ⟨h1.l.1, h1.l.2, h1.h, fun h0 => ?_⟩
      subst h0
      obtain ⟨a, t, rfl⟩ := hvh
      rfl
    · have h1 := htv t ht
      have h2 := h1.l
      have h3 := h1.p
      have h4 := h1.g
      have h5 := h1.o
      exact ⟨by omega, h1.s, by omega, by omega, h1.a, by omega⟩
  exact ⟨(⟨rg, zs, ks, ts, vs, rs, os, bl, ls, bk⟩ : Cfg), (⟨zA, zc, kA, kc, tA, tc, vA, vc, rA, rc, oA, oc⟩ : CAd), rfl, ⟨hv, hrg.2, by show zs.length ≤ 6; omega, by show ks.length ≤ 7; omega, by show ts.length ≤ 5; omega, fun x hx => (hkz x hx).c, fun x hx => (htv x hx).l.2, hbl.2⟩, Sep.all_open.2 (hS.sb)⟩
end Go.Proofs.YtfmnjbhncnldmaaGreat
