/-
  Entries from a tape: grants.
-/
import Derived.Test.YtmgpionlfemhdaaGreatNUr
namespace Go.Proofs.YtmgpionlfemhdaaGreat
open Go.RowKit
set_option linter.unusedSimpArgs false
set_option linter.unusedVariables false
attribute [local irreducible] Res.blk Res.sl Res.all Res.ex Res.pure Res.star

def En.zero : En := ⟨0, 0, 0, 0, 0, 0, 0, 0, 0⟩
theorem none_z (kd tk : Int) (r : World) (F : List Res) (w : World) (hS : Sep r [] F w) :
    Calls Tryz.prog 113 #[.int .i64 kd, .int .i64 tk] w fun e w' => e = .returned (⟨kd, tk, -1, -1, -1, 0, 0, 0, 0⟩ : En).val ∧ Sep r [] F w' := by
  refine Z.enter Tryz.func113 Tryz.ntmps113 rfl rfl ?_
  repeat' (first|refine K ?_|(refine Sh.sa hS ?_;clear hS;intro w hS)|(refine K3 ?_;clear hS;intro g w hS hge)|((first|refine GS ?_ ?_|refine VB ?_ ?_)<;>intro hb<;>(try simp only [J1,J2,J3,J4,J5,J6] at hb)<;>(try (exfalso;first|omega|exact hb trivial))))
  refine Dnc Tryz.results113 ?_
  exact ⟨rfl, hS.sb⟩
theorem pick_z {lo : Int} (gt : Nat) (A : Option Addr) (l : List Int) (cap : Nat) (B : Int) (v : Option Addr) (p : List Int) (pc : Nat) (n : Nat) (r : World) (F : List Res) (w : World) (hS : Sep r [] (TpM gt A l.length cap lo B :: F) w) (hrd : Reads r F 1 (.slice A l.length cap) (l.map ztC)) (hl : l.length ≤ 1000) (hB : B ≤ 10000) (hp : Reads r F 1 (.slice v p.length pc) (p.map ztC)) (hpl : p.length ≤ 1000) (hpb : ∀ x, x ∈ p → 0 ≤ x ∧ x < n) :
    Calls Tryz.prog 114 #[.pointer (some ⟨gt, 0, .none⟩), .slice v p.length pc] w fun e w' => ∃ z, e = .returned (.int .i64 z) ∧ (-1 ≤ z ∧ z < n) ∧ Sep r [] (TpM gt A l.length cap lo (B + 1) :: F) w' := by
  refine Z.enter Tryz.func114 Tryz.ntmps114 rfl rfl ?_
  repeat' (first|refine K ?_|(refine Sh.sa hS ?_;clear hS;intro w hS)|(refine K3 ?_;clear hS;intro g w hS hge)|((first|refine GS ?_ ?_|refine VB ?_ ?_)<;>intro hb<;>(try simp only [J1,J2,J3,J4,J5,J6] at hb)<;>(try (exfalso;first|omega|exact hb trivial))))
  · refine Dnt Tryz.results114 ?_
    exact ⟨-1, rfl, by omega, hS.TpM_le (by omega)⟩
  have hl0 : 0 < p.length := by omega
  refine Z.eff (Z.cl (mnext_z gt A l cap B p.length _ _ _ hS hrd hl (by omega) (by omega) (by omega)) rfl ?_) rfl
  clear hS
  rintro e w ⟨z, rfl, hz, hS⟩
  refine ⟨_, rfl, ?_⟩
  have hzl : z.toNat < p.length := by omega
  obtain ⟨gb, o, hAe, _, hra⟩ := (hp [_] _ hS).mat (by omega) (q := z.toNat) (by simpa using hzl)
  subst hAe
  have hra' : w.rangeAt gb (o + z.toNat * 1) (ztC p[z.toNat]) := by simpa using hra
  have hm := hpb _ (List.getElem_mem hzl)
  generalize p[z.toNat] = y at *
  repeat' (first|refine K ?_|(refine Sh.sa hS ?_;clear hS;intro w hS)|(refine K3 ?_;clear hS;intro g w hS hge)|((first|refine GS ?_ ?_|refine VB ?_ ?_)<;>intro hb<;>(try simp only [J1,J2,J3,J4,J5,J6] at hb)<;>(try (exfalso;first|omega|exact hb trivial))))
  refine Dnt Tryz.results114 ?_
  exact ⟨y, rfl, by omega, hS⟩
set_option maxHeartbeats 8000000 in
theorem mgrant_z {lo : Int} (gt : Nat) (A : Option Addr) (l : List Int) (cap : Nat) (B : Int) (c : Cfg) (a : CAd) (s : Sta) (b : SAd) (q : Nat) (kd tk ce ot ep fr un nn : Int) (r : World) (F : List Res) (w : World) (hS : Sep r [] (TpM gt A l.length cap lo B :: F) w) (hrd : Reads r F 1 (.slice A l.length cap) (l.map ztC)) (hl : l.length ≤ 1000) (hB : B ≤ 10000) (hr : CfR r F c a) (hs : s.ok c) (hq : StC r F s c b) (ho : c.ok) (hq1 : q < c.tenants.length) (hp : ∀ h : q < s.tenants.length, s.tenants[q].placed = true) :
    Calls Tryz.prog 117 #[.pointer (some ⟨gt, 0, .none⟩), c.val a, s.vc c b, ((⟨kd, tk, (q : Nat), ce, ot, ep, fr, un, nn⟩ : En)).val] w fun ee w' => ∃ e : En, ee = .returned e.val ∧ Sep r [] (TpM gt A l.length cap lo (B + 20) :: F) w' := by
  have hlb := ho.l
  have hq2 : q < s.tenants.length := by rw [hs.tl]; exact hq1
  obtain ⟨x, hx⟩ : ∃ x, s.tenants[q]'hq2 = x := ⟨_, rfl⟩
  have hxo : TOk c.cells.length x := by rw [← hx]; exact hs.t _ (List.getElem_mem hq2)
  have hxp : 0 ≤ x.home := hxo.ph (by rw [← hx]; exact hp hq2)
  have hxh := hxo.h
  have hxs := hxo.s
  have hxt := hxo.t
  obtain ⟨gb, o, hA, _⟩ := reads_ts (hq.str hs) [_] hS hq2
  have hcl := ho.k
  obtain ⟨gk, o2, hA2, _⟩ := reads_ks (hq.str hs) [_] hS (k := 0) (by rw [hs.kl]; omega)
  have hat : ∀ W L, Sep r [] (L ++ F) W → W.rangeAt gb (o + q * 12) x.cells := fun W L hW => by
    have h := at_ts (hq.str hs) L hW hA hq2
    rw [hx] at h
    exact h
  have hak : ∀ W L (k : Nat) (hk : k < s.cells.length), Sep r [] (L ++ F) W → W.rangeAt gk (o2 + k * 4) (s.cells[k]).cells := fun W L k hk hW => at_ks (hq.str hs) L hW hA2 hk
  obtain ⟨tA, tc, kA, kc⟩ := b
  simp only at hA hA2
  subst hA hA2
  refine Z.enter Tryz.func117 Tryz.ntmps117 rfl rfl ?_
  repeat' (first|refine K ?_|(refine Sh.sa hS ?_;clear hS;intro w hS)|(refine K3 ?_;clear hS;intro g w hS hge)|((first|refine GS ?_ ?_|refine VB ?_ ?_)<;>intro hb<;>(try simp only [J1,J2,J3,J4,J5,J6] at hb)<;>(try (exfalso;first|omega|exact hb trivial))))
  rename_i gc _ _ gs _ _ g7 _ _
  rename Nat => gr
  have hrt := hat _ [_, _, _, _, _] hS
  repeat' (first|refine Kn ?_|(refine Sh.sa hS ?_;clear hS;intro w hS)|(refine K3 ?_;clear hS;intro g w hS hge)|((first|refine GS ?_ ?_|refine VB ?_ ?_)<;>intro hb<;>(try simp only [J1,J2,J3,J4,J5,J6] at hb)<;>(try (exfalso;first|omega|exact hb trivial))))
  rename Nat => g9
  refine Z.thN ?_
  repeat' (first|refine Kn ?_|(refine Sh.sa hS ?_;clear hS;intro w hS)|(refine K3 ?_;clear hS;intro g w hS hge)|((first|refine GS ?_ ?_|refine VB ?_ ?_)<;>intro hb<;>(try simp only [J1,J2,J3,J4,J5,J6] at hb)<;>(try (exfalso;first|omega|exact hb trivial))))
  refine Z.thN ?_
  obtain ⟨e, he, hec, hS⟩ : ∃ e : En, e = (⟨kd, tk, (q : Nat), x.home, ot, ep, fr, un, nn⟩ : En) ∧ (0 ≤ e.cell ∧ e.cell < c.cells.length) ∧ Sep r [] (TpM gt A l.length cap lo B :: .blk g9 56 x.cells :: .blk gr 100 En.zero.cells :: .blk g7 100 e.cells :: .blk gs 34 (s.cc c (⟨some ⟨gb, o, none⟩, tc, some ⟨gk, o2, none⟩, kc⟩ : SAd)) :: .blk gc 30 (c.cl a) :: F) w := ⟨_, rfl, ⟨hxp, hxh.2⟩, hS.sb⟩
  clear he
  refine Z.seq ?_
  refine Z.cut [19, 20, 21, 22, 23, 24, 25, 26, 27, 28, 29, 30, 31, 32, 33, 34, 35, 36, 37, 38, 39, 40, 41, 42] (fun w z => ∃ e : En, z = [] ∧ (0 ≤ e.cell ∧ e.cell < c.cells.length) ∧ Sep r [] (TpM gt A l.length cap lo (B + 3) :: .blk g9 56 x.cells :: .blk gr 100 En.zero.cells :: .blk g7 100 e.cells :: .blk gs 34 (s.cc c (⟨some ⟨gb, o, none⟩, tc, some ⟨gk, o2, none⟩, kc⟩ : SAd)) :: .blk gc 30 (c.cl a) :: F) w) ?_ ?_
  · repeat' (first|refine K ?_|(refine Sh.sa hS ?_;clear hS;intro w hS)|(refine K3 ?_;clear hS;intro g w hS hge)|((first|refine GS ?_ ?_|refine VB ?_ ?_)<;>intro hb<;>(try simp only [J1,J2,J3,J4,J5,J6] at hb)<;>(try (exfalso;first|omega|exact hb trivial))))
    · replace hS := hS.fo (R := TpM gt A l.length cap lo _)
      refine Z.eff (Z.cl (myes_z gt A l cap _ 2 _ _ _ hS (hrd.app [_, _, _, _, _]) hl (by omega) (by omega) (by omega)) rfl ?_) rfl
      clear hS
      rintro e w ⟨b1, rfl, hS⟩
      refine ⟨_, rfl, ?_⟩
      repeat' (first|refine K ?_|(refine Sh.sa hS ?_;clear hS;intro w hS)|(refine K3 ?_;clear hS;intro g w hS hge)|((first|refine GS ?_ ?_|refine VB ?_ ?_)<;>intro hb<;>(try simp only [J1,J2,J3,J4,J5,J6] at hb)<;>(try (exfalso;first|omega|exact hb trivial))))
      · replace hS := hS.fo (R := TpM gt A l.length cap lo _)
        replace hS := hS.TpM_le (B' := B + 3) (by omega)
        refine Sh.cut [] ?_
        exact ⟨{ e with cell := x.target }, rfl, (by (try dsimp only); omega), hS.sb⟩
      · replace hS := hS.fo (R := TpM gt A l.length cap lo _)
        refine Z.eff (Z.cl (myes_z gt A l cap _ 5 _ _ _ hS (hrd.app [_, _, _, _, _]) hl (by omega) (by omega) (by omega)) rfl ?_) rfl
        clear hS
        rintro e w ⟨b2, rfl, hS⟩
        refine ⟨_, rfl, ?_⟩
        repeat' (first|refine K ?_|(refine Sh.sa hS ?_;clear hS;intro w hS)|(refine K3 ?_;clear hS;intro g w hS hge)|((first|refine GS ?_ ?_|refine VB ?_ ?_)<;>intro hb<;>(try simp only [J1,J2,J3,J4,J5,J6] at hb)<;>(try (exfalso;first|omega|exact hb trivial))))
        · replace hS := hS.fo (R := TpM gt A l.length cap lo _)
          replace hS := hS.TpM_le (B' := B + 3) (by omega)
          refine Sh.cut [] ?_
          exact ⟨{ e with cell := x.standby }, rfl, (by (try dsimp only); omega), hS.sb⟩
        · replace hS := hS.fo (R := TpM gt A l.length cap lo _)
          replace hS := hS.TpM_le (B' := B + 3) (by omega)
          refine Sh.cut [] ?_
          exact ⟨{ e with cell := x.standby }, rfl, (by (try dsimp only); omega), hS.sb⟩
        · replace hS := hS.fo (R := TpM gt A l.length cap lo _)
          replace hS := hS.TpM_le (B' := B + 3) (by omega)
          refine Sh.cut [] ?_
          exact ⟨e, rfl, (by (try dsimp only); omega), hS.sb⟩
      · replace hS := hS.fo (R := TpM gt A l.length cap lo _)
        replace hS := hS.TpM_le (B' := B + 3) (by omega)
        refine Sh.cut [] ?_
        exact ⟨e, rfl, (by (try dsimp only); omega), hS.sb⟩
    · replace hS := hS.fo (R := TpM gt A l.length cap lo _)
      refine Z.eff (Z.cl (myes_z gt A l cap _ 5 _ _ _ hS (hrd.app [_, _, _, _, _]) hl (by omega) (by omega) (by omega)) rfl ?_) rfl
      clear hS
      rintro e w ⟨b2, rfl, hS⟩
      refine ⟨_, rfl, ?_⟩
      repeat' (first|refine K ?_|(refine Sh.sa hS ?_;clear hS;intro w hS)|(refine K3 ?_;clear hS;intro g w hS hge)|((first|refine GS ?_ ?_|refine VB ?_ ?_)<;>intro hb<;>(try simp only [J1,J2,J3,J4,J5,J6] at hb)<;>(try (exfalso;first|omega|exact hb trivial))))
      · replace hS := hS.fo (R := TpM gt A l.length cap lo _)
        replace hS := hS.TpM_le (B' := B + 3) (by omega)
        refine Sh.cut [] ?_
        exact ⟨{ e with cell := x.standby }, rfl, (by (try dsimp only); omega), hS.sb⟩
      · replace hS := hS.fo (R := TpM gt A l.length cap lo _)
        replace hS := hS.TpM_le (B' := B + 3) (by omega)
        refine Sh.cut [] ?_
        exact ⟨{ e with cell := x.standby }, rfl, (by (try dsimp only); omega), hS.sb⟩
      · replace hS := hS.fo (R := TpM gt A l.length cap lo _)
        replace hS := hS.TpM_le (B' := B + 3) (by omega)
        refine Sh.cut [] ?_
        exact ⟨e, rfl, (by (try dsimp only); omega), hS.sb⟩
    · replace hS := hS.fo (R := TpM gt A l.length cap lo _)
      replace hS := hS.TpM_le (B' := B + 3) (by omega)
      refine Sh.cut [] ?_
      exact ⟨e, rfl, (by (try dsimp only); omega), hS.sb⟩
  clear hS hec
  rintro f0 w _ ⟨e, rfl, hec, hS⟩
  repeat' (first|refine Kn ?_|(refine Sh.sa hS ?_;clear hS;intro w hS)|(refine K3 ?_;clear hS;intro g w hS hge)|((first|refine GS ?_ ?_|refine VB ?_ ?_)<;>intro hb<;>(try simp only [J1,J2,J3,J4,J5,J6] at hb)<;>(try (exfalso;first|omega|exact hb trivial))))
  replace hS := hS.fo (R := TpM gt A l.length cap lo _)
  obtain ⟨e, hec, hS⟩ : ∃ e1 : En, (0 ≤ e1.cell ∧ e1.cell < c.cells.length) ∧ Sep r [] (TpM gt A l.length cap lo (B + 3) :: .blk g9 56 x.cells :: .blk gr 100 En.zero.cells :: .blk g7 100 e1.cells :: .blk gs 34 (s.cc c (⟨some ⟨gb, o, none⟩, tc, some ⟨gk, o2, none⟩, kc⟩ : SAd)) :: .blk gc 30 (c.cl a) :: F) w := ⟨{ e with epoch := x.epoch }, (by (try dsimp only); omega), hS.sb⟩
  refine Z.thN ?_
  refine Z.seq ?_
  refine Z.cut [46, 47, 48, 49, 50, 51, 52, 53, 54, 55, 56, 57, 58, 59, 60, 61, 62, 63] (fun w z => ∃ e : En, z = [] ∧ (0 ≤ e.cell ∧ e.cell < c.cells.length) ∧ Sep r [] (TpM gt A l.length cap lo (B + 4) :: .blk g9 56 x.cells :: .blk gr 100 En.zero.cells :: .blk g7 100 e.cells :: .blk gs 34 (s.cc c (⟨some ⟨gb, o, none⟩, tc, some ⟨gk, o2, none⟩, kc⟩ : SAd)) :: .blk gc 30 (c.cl a) :: F) w) ?_ ?_
  · repeat' (first|refine Kw ?_|(refine Sh.sa hS ?_;clear hS;intro w hS)|(refine K3 ?_;clear hS;intro g w hS hge)|((first|refine GS ?_ ?_|refine VB ?_ ?_)<;>intro hb<;>(try simp only [J1,J2,J3,J4,J5,J6] at hb)<;>(try (exfalso;first|omega|exact hb trivial))))
    · replace hS := hS.fo (R := TpM gt A l.length cap lo _)
      replace hS := hS.TpM_le (B' := B + 4) (by omega)
      refine Sh.cut [] ?_
      exact ⟨{ e with epoch := IntKind.i64.wrap (x.epoch + 1) }, rfl, (by (try dsimp only); omega), hS.sb⟩
    · replace hS := hS.fo (R := TpM gt A l.length cap lo _)
      replace hS := hS.TpM_le (B' := B + 4) (by omega)
      refine Sh.cut [] ?_
      exact ⟨{ e with epoch := x.epoch + 1 }, rfl, (by (try dsimp only); omega), hS.sb⟩
    · replace hS := hS.fo (R := TpM gt A l.length cap lo _)
      refine Z.eff (Z.cl (myes_z gt A l cap _ 4 _ _ _ hS (hrd.app [_, _, _, _, _]) hl (by omega) (by omega) (by omega)) rfl ?_) rfl
      clear hS
      rintro e w ⟨b1, rfl, hS⟩
      refine ⟨_, rfl, ?_⟩
      repeat' (first|refine Kw ?_|(refine Sh.sa hS ?_;clear hS;intro w hS)|(refine K3 ?_;clear hS;intro g w hS hge)|((first|refine GS ?_ ?_|refine VB ?_ ?_)<;>intro hb<;>(try simp only [J1,J2,J3,J4,J5,J6] at hb)<;>(try (exfalso;first|omega|exact hb trivial))))
      · replace hS := hS.fo (R := TpM gt A l.length cap lo _)
        replace hS := hS.TpM_le (B' := B + 4) (by omega)
        refine Sh.cut [] ?_
        exact ⟨{ e with epoch := IntKind.i64.wrap (x.epoch + 1) }, rfl, (by (try dsimp only); omega), hS.sb⟩
      · replace hS := hS.fo (R := TpM gt A l.length cap lo _)
        replace hS := hS.TpM_le (B' := B + 4) (by omega)
        refine Sh.cut [] ?_
        exact ⟨e, rfl, (by (try dsimp only); omega), hS.sb⟩
  clear hS hec
  rintro f0 w _ ⟨e, rfl, hec, hS⟩
  refine Z.seq ?_
  refine Z.cut [64, 65, 66, 67, 68, 69, 70, 71, 72, 73, 74, 75, 76, 77, 78, 79, 80] (fun w z => ∃ e : En, z = [] ∧ (0 ≤ e.cell ∧ e.cell < c.cells.length) ∧ Sep r [] (TpM gt A l.length cap lo (B + 5) :: .blk g9 56 x.cells :: .blk gr 100 En.zero.cells :: .blk g7 100 e.cells :: .blk gs 34 (s.cc c (⟨some ⟨gb, o, none⟩, tc, some ⟨gk, o2, none⟩, kc⟩ : SAd)) :: .blk gc 30 (c.cl a) :: F) w) ?_ ?_
  · repeat' (first|refine K ?_|(refine Sh.sa hS ?_;clear hS;intro w hS)|(refine K3 ?_;clear hS;intro g w hS hge)|((first|refine GS ?_ ?_|refine VB ?_ ?_)<;>intro hb<;>(try simp only [J1,J2,J3,J4,J5,J6] at hb)<;>(try (exfalso;first|omega|exact hb trivial))))
    · replace hS := hS.fo (R := TpM gt A l.length cap lo _)
      refine Z.eff (Z.cl (mnext_z gt A l cap _ 4 _ _ _ hS (hrd.app [_, _, _, _, _]) hl (by omega) (by omega) (by omega)) rfl ?_) rfl
      clear hS
      rintro e w ⟨z1, rfl, hz1, hS⟩
      refine ⟨_, rfl, ?_⟩
      repeat' (first|refine K ?_|(refine Sh.sa hS ?_;clear hS;intro w hS)|(refine K3 ?_;clear hS;intro g w hS hge)|((first|refine GS ?_ ?_|refine VB ?_ ?_)<;>intro hb<;>(try simp only [J1,J2,J3,J4,J5,J6] at hb)<;>(try (exfalso;first|omega|exact hb trivial))))
      · replace hS := hS.fo (R := TpM gt A l.length cap lo _)
        replace hS := hS.TpM_le (B' := B + 5) (by omega)
        refine Sh.cut [] ?_
        exact ⟨{ e with tick := max e.tick x.w.until_ }, rfl, (by (try dsimp only); omega), hS.sb⟩
      · replace hS := hS.fo (R := TpM gt A l.length cap lo _)
        replace hS := hS.TpM_le (B' := B + 5) (by omega)
        refine Sh.cut [] ?_
        exact ⟨e, rfl, (by (try dsimp only); omega), hS.sb⟩
    · replace hS := hS.fo (R := TpM gt A l.length cap lo _)
      replace hS := hS.TpM_le (B' := B + 5) (by omega)
      refine Sh.cut [] ?_
      exact ⟨e, rfl, (by (try dsimp only); omega), hS.sb⟩
  clear hS hec
  rintro f0 w _ ⟨e, rfl, hec, hS⟩
  repeat' (first|refine Kn ?_|(refine Sh.sa hS ?_;clear hS;intro w hS)|(refine K3 ?_;clear hS;intro g w hS hge)|((first|refine GS ?_ ?_|refine VB ?_ ?_)<;>intro hb<;>(try simp only [J1,J2,J3,J4,J5,J6] at hb)<;>(try (exfalso;first|omega|exact hb trivial))))
  replace hS := hS.fo (R := TpM gt A l.length cap lo _)
  obtain ⟨e, hec, hS⟩ : ∃ e1 : En, (0 ≤ e1.cell ∧ e1.cell < c.cells.length) ∧ Sep r [] (TpM gt A l.length cap lo (B + 5) :: .blk g9 56 x.cells :: .blk gr 100 En.zero.cells :: .blk g7 100 e1.cells :: .blk gs 34 (s.cc c (⟨some ⟨gb, o, none⟩, tc, some ⟨gk, o2, none⟩, kc⟩ : SAd)) :: .blk gc 30 (c.cl a) :: F) w := ⟨{ e with from_ := max e.tick x.w.until_ }, (by (try dsimp only); omega), hS.sb⟩
  refine Z.thN ?_
  refine Z.seq ?_
  refine Z.cut [88, 89, 90, 91, 92, 93, 94, 95] (fun w z => ∃ e : En, z = [] ∧ (0 ≤ e.cell ∧ e.cell < c.cells.length) ∧ Sep r [] (TpM gt A l.length cap lo (B + 7) :: .blk g9 56 x.cells :: .blk gr 100 En.zero.cells :: .blk g7 100 e.cells :: .blk gs 34 (s.cc c (⟨some ⟨gb, o, none⟩, tc, some ⟨gk, o2, none⟩, kc⟩ : SAd)) :: .blk gc 30 (c.cl a) :: F) w) ?_ ?_
  · repeat' (first|refine K ?_|(refine Sh.sa hS ?_;clear hS;intro w hS)|(refine K3 ?_;clear hS;intro g w hS hge)|((first|refine GS ?_ ?_|refine VB ?_ ?_)<;>intro hb<;>(try simp only [J1,J2,J3,J4,J5,J6] at hb)<;>(try (exfalso;first|omega|exact hb trivial))))
    replace hS := hS.fo (R := TpM gt A l.length cap lo _)
    refine Z.eff (Z.cl (myes_z gt A l cap _ 5 _ _ _ hS (hrd.app [_, _, _, _, _]) hl (by omega) (by omega) (by omega)) rfl ?_) rfl
    clear hS
    rintro e w ⟨b1, rfl, hS⟩
    refine ⟨_, rfl, ?_⟩
    repeat' (first|refine K ?_|(refine Sh.sa hS ?_;clear hS;intro w hS)|(refine K3 ?_;clear hS;intro g w hS hge)|((first|refine GS ?_ ?_|refine VB ?_ ?_)<;>intro hb<;>(try simp only [J1,J2,J3,J4,J5,J6] at hb)<;>(try (exfalso;first|omega|exact hb trivial))))
    · refine D.startS (Lr := [.blk g7 100 e.cells]) (hS.sb) 6 7 (by kernel_rfl) rfl ?_
      replace hS := hS.drew
      refine Sh.dp 0 1 ?_
      refine Sh.dp 2 5 ?_
      refine Sh.dl 1 7 ?_
      refine D.eff 3 15 rfl D.wantedN (by kernel_rfl) (by kernel_rfl) (fun _ _ h => h) ?_
      replace hS := hS.fo (R := TpM gt A l.length cap lo _)
      refine Z.cl (mnext_z gt A l cap _ 3 _ _ _ hS (hrd.app [_, _, _, _, _]) hl (by omega) (by omega) (by omega)) rfl ?_
      clear hS
      rintro e w ⟨z1, rfl, hz1, hS⟩
      refine ⟨_, rfl, ?_⟩
      refine ⟨HM.s (hS.sb), ?_⟩
      refine D.sumW 4 31 rfl D.wantedN (by kernel_rfl) rfl ?_
      refine Sh.dp 5 63 ?_
      refine D.eff 6 127 rfl D.wantedN (by kernel_rfl) (by kernel_rfl) (fun _ _ h => h) ?_
      refine Z.st hS rfl (by repeat (first | exact At.here | apply At.next)) rfl rfl ?_
      clear hS; intro w hS
      refine ⟨HM.last (by kernel_rfl), ?_⟩
      refine D.done (by kernel_rfl) ?_
      repeat' (first|refine K ?_|(refine Sh.sa hS ?_;clear hS;intro w hS)|(refine K3 ?_;clear hS;intro g w hS hge)|((first|refine GS ?_ ?_|refine VB ?_ ?_)<;>intro hb<;>(try simp only [J1,J2,J3,J4,J5,J6] at hb)<;>(try (exfalso;first|omega|exact hb trivial))))
      replace hS := hS.fo (R := TpM gt A l.length cap lo _)
      replace hS := hS.TpM_le (B' := B + 7) (by omega)
      refine Sh.cut [] ?_
      exact ⟨{ e with from_ := IntKind.i64.wrap (e.from_ + z1) }, rfl, (by (try dsimp only); omega), hS.sb⟩
    · replace hS := hS.fo (R := TpM gt A l.length cap lo _)
      replace hS := hS.TpM_le (B' := B + 7) (by omega)
      refine Sh.cut [] ?_
      exact ⟨e, rfl, (by (try dsimp only); omega), hS.sb⟩
  clear hS hec
  rintro f0 w _ ⟨e, rfl, hec, hS⟩
  repeat' (first|refine K ?_|(refine Sh.sa hS ?_;clear hS;intro w hS)|(refine K3 ?_;clear hS;intro g w hS hge)|((first|refine GS ?_ ?_|refine VB ?_ ?_)<;>intro hb<;>(try simp only [J1,J2,J3,J4,J5,J6] at hb)<;>(try (exfalso;first|omega|exact hb trivial))))
  refine D.startS (Lr := [.blk g7 100 e.cells, .blk gc 30 (c.cl a)]) (hS.sb) 8 9 (by kernel_rfl) rfl ?_
  replace hS := hS.drew
  refine Sh.dp 0 1 ?_
  refine Sh.dp 2 5 ?_
  refine Sh.dp 3 13 ?_
  refine Sh.dl 1 15 ?_
  refine Sh.dl 4 31 ?_
  refine D.eff 5 63 rfl D.wantedN (by kernel_rfl) (by kernel_rfl) (fun _ _ h => h) ?_
  replace hS := hS.fo (R := TpM gt A l.length cap lo _)
  refine Z.cl (mrange_z gt A l cap _ 1 _ _ _ _ hS (hrd.app [_, _, _, _, _]) hl (by omega) (by omega) (by omega) (by omega)) rfl ?_
  clear hS
  rintro e w ⟨z1, rfl, hz1, hS⟩
  refine ⟨_, rfl, ?_⟩
  refine ⟨HM.s (hS.sb), ?_⟩
  refine D.sumW 6 127 rfl D.wantedN (by kernel_rfl) rfl ?_
  refine Sh.dp 7 255 ?_
  refine D.eff 8 511 rfl D.wantedN (by kernel_rfl) (by kernel_rfl) (fun _ _ h => h) ?_
  refine Z.st hS rfl (by repeat (first | exact At.here | apply At.next)) rfl rfl ?_
  clear hS; intro w hS
  refine ⟨HM.last (by kernel_rfl), ?_⟩
  refine D.done (by kernel_rfl) ?_
  repeat' (first|refine Kn ?_|(refine Sh.sa hS ?_;clear hS;intro w hS)|(refine K3 ?_;clear hS;intro g w hS hge)|((first|refine GS ?_ ?_|refine VB ?_ ?_)<;>intro hb<;>(try simp only [J1,J2,J3,J4,J5,J6] at hb)<;>(try (exfalso;first|omega|exact hb trivial))))
  replace hS := hS.fo (R := TpM gt A l.length cap lo _)
  replace hS := hS.TpM_le (B' := B + 9) (by omega)
  obtain ⟨e, hec, hS⟩ : ∃ e1 : En, (0 ≤ e1.cell ∧ e1.cell < c.cells.length) ∧ Sep r [] (TpM gt A l.length cap lo (B + 9) :: .blk g9 56 x.cells :: .blk gr 100 En.zero.cells :: .blk g7 100 e1.cells :: .blk gs 34 (s.cc c (⟨some ⟨gb, o, none⟩, tc, some ⟨gk, o2, none⟩, kc⟩ : SAd)) :: .blk gc 30 (c.cl a) :: F) w := ⟨{ e with until_ := IntKind.i64.wrap (e.from_ + z1) }, (by (try dsimp only); omega), hS.sb⟩
  refine Z.thN ?_
  have hkk : e.cell.toNat < s.cells.length := by rw [hs.kl]; omega
  have hrk := hak _ [_, _, _, _, _, _] e.cell.toNat hkk hS
  generalize s.cells[e.cell.toNat] = y at *
  repeat' (first|refine Kn ?_|(refine Sh.sa hS ?_;clear hS;intro w hS)|(refine K3 ?_;clear hS;intro g w hS hge)|((first|refine GS ?_ ?_|refine VB ?_ ?_)<;>intro hb<;>(try simp only [J1,J2,J3,J4,J5,J6] at hb)<;>(try (exfalso;first|omega|exact hb trivial))))
  replace hS := hS.fo (R := TpM gt A l.length cap lo _)
  obtain ⟨e, hec, hS⟩ : ∃ e1 : En, (0 ≤ e1.cell ∧ e1.cell < c.cells.length) ∧ Sep r [] (TpM gt A l.length cap lo (B + 9) :: .blk g9 56 x.cells :: .blk gr 100 En.zero.cells :: .blk g7 100 e1.cells :: .blk gs 34 (s.cc c (⟨some ⟨gb, o, none⟩, tc, some ⟨gk, o2, none⟩, kc⟩ : SAd)) :: .blk gc 30 (c.cl a) :: F) w := ⟨{ e with n := y.running }, (by (try dsimp only); omega), hS.sb⟩
  refine Z.thN ?_
  refine Z.seq ?_
  refine Z.cut [112, 113, 114, 115, 116, 117, 118, 119, 120, 121, 122, 123, 124, 125, 126, 127] (fun w z => ∃ e : En, z = [] ∧ (0 ≤ e.cell ∧ e.cell < c.cells.length) ∧ Sep r [] (TpM gt A l.length cap lo (B + 12) :: .blk g9 56 x.cells :: .blk gr 100 En.zero.cells :: .blk g7 100 e.cells :: .blk gs 34 (s.cc c (⟨some ⟨gb, o, none⟩, tc, some ⟨gk, o2, none⟩, kc⟩ : SAd)) :: .blk gc 30 (c.cl a) :: F) w) ?_ ?_
  · repeat' (first|refine K ?_|(refine Sh.sa hS ?_;clear hS;intro w hS)|(refine K3 ?_;clear hS;intro g w hS hge)|((first|refine GS ?_ ?_|refine VB ?_ ?_)<;>intro hb<;>(try simp only [J1,J2,J3,J4,J5,J6] at hb)<;>(try (exfalso;first|omega|exact hb trivial))))
    replace hS := hS.fo (R := TpM gt A l.length cap lo _)
    refine Z.eff (Z.cl (myes_z gt A l cap _ 15 _ _ _ hS (hrd.app [_, _, _, _, _]) hl (by omega) (by omega) (by omega)) rfl ?_) rfl
    clear hS
    rintro e w ⟨b1, rfl, hS⟩
    refine ⟨_, rfl, ?_⟩
    repeat' (first|refine K ?_|(refine Sh.sa hS ?_;clear hS;intro w hS)|(refine K3 ?_;clear hS;intro g w hS hge)|((first|refine GS ?_ ?_|refine VB ?_ ?_)<;>intro hb<;>(try simp only [J1,J2,J3,J4,J5,J6] at hb)<;>(try (exfalso;first|omega|exact hb trivial))))
    · refine D.startS (Lr := [.blk g7 100 e.cells]) (hS.sb) 9 12 (by kernel_rfl) rfl ?_
      replace hS := hS.drew
      refine Sh.dp 0 1 ?_
      refine Sh.dp 3 9 ?_
      refine Sh.dp 5 41 ?_
      refine Sh.dl 1 43 ?_
      refine D.sumW 2 47 rfl D.wantedN (by kernel_rfl) rfl ?_
      refine Sh.dl 4 63 ?_
      refine Sh.dp 8 319 ?_
      refine D.eff 6 383 rfl D.wantedN (by kernel_rfl) (by kernel_rfl) (fun _ _ h => h) ?_
      replace hS := hS.fo (R := TpM gt A l.length cap lo _)
      refine Z.cl (mnext_z gt A l cap _ 30 _ _ _ hS (hrd.app [_, _, _, _, _]) hl (by omega) (by omega) (by omega)) rfl ?_
      clear hS
      rintro e w ⟨z2, rfl, hz2, hS⟩
      refine ⟨_, rfl, ?_⟩
      refine ⟨HM.s (hS.sb), ?_⟩
      refine D.sumW 7 511 rfl D.wantedN (by kernel_rfl) rfl ?_
      refine D.eff 9 1023 rfl D.wantedN (by kernel_rfl) (by kernel_rfl) (fun _ _ h => h) ?_
      refine Z.st hS rfl (by repeat (first | exact At.here | apply At.next)) rfl rfl ?_
      clear hS; intro w hS
      refine ⟨HM.last (by kernel_rfl), ?_⟩
      refine Sh.dp 10 2047 ?_
      refine D.eff 11 4095 rfl D.wantedN (by kernel_rfl) (by kernel_rfl) (fun _ _ h => h) ?_
      refine Z.st hS rfl (by repeat (first | exact At.here | apply At.next)) rfl rfl ?_
      clear hS; intro w hS
      refine ⟨HM.last (by kernel_rfl), ?_⟩
      refine D.done (by kernel_rfl) ?_
      repeat' (first|refine K ?_|(refine Sh.sa hS ?_;clear hS;intro w hS)|(refine K3 ?_;clear hS;intro g w hS hge)|((first|refine GS ?_ ?_|refine VB ?_ ?_)<;>intro hb<;>(try simp only [J1,J2,J3,J4,J5,J6] at hb)<;>(try (exfalso;first|omega|exact hb trivial))))
      replace hS := hS.fo (R := TpM gt A l.length cap lo _)
      replace hS := hS.TpM_le (B' := B + 12) (by omega)
      refine Sh.cut [] ?_
      exact ⟨{ e with from_ := max 0 (IntKind.i64.wrap (e.from_ - 1)), until_ := IntKind.i64.wrap (e.until_ + z2) }, rfl, (by (try dsimp only); omega), hS.sb⟩
    · replace hS := hS.fo (R := TpM gt A l.length cap lo _)
      replace hS := hS.TpM_le (B' := B + 12) (by omega)
      refine Sh.cut [] ?_
      exact ⟨e, rfl, (by (try dsimp only); omega), hS.sb⟩
  clear hS hec
  rintro f0 w _ ⟨e, rfl, hec, hS⟩
  repeat' (first|refine K ?_|(refine Sh.sa hS ?_;clear hS;intro w hS)|(refine K3 ?_;clear hS;intro g w hS hge)|((first|refine GS ?_ ?_|refine VB ?_ ?_)<;>intro hb<;>(try simp only [J1,J2,J3,J4,J5,J6] at hb)<;>(try (exfalso;first|omega|exact hb trivial))))
  refine Dnc Tryz.results117 ?_
  exact ⟨e, rfl, ((hS.fo (R := TpM gt A l.length cap lo _)).TpM_le (B' := B + 20) (by omega)).sub (by repeat (first | exact Sub.rest | exact Sub.nil | exact .skip .rest | exact .skip (.skip .rest) | exact .skip (.skip (.skip .rest)) | apply Sub.keep | refine Sub.cons (by repeat (first | exact At.here | apply At.next)) ?_ | apply Sub.skip))⟩
end Go.Proofs.YtmgpionlfemhdaaGreat
