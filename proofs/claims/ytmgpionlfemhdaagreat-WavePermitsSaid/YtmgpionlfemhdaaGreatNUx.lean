/-
  Packed configurations from a tape.
-/
import Derived.Test.YtmgpionlfemhdaaGreatNUw
namespace Go.Proofs.YtmgpionlfemhdaaGreat
open Go.RowKit
set_option linter.unusedSimpArgs false
set_option linter.unusedVariables false
attribute [local irreducible] Res.blk Res.sl Res.all Res.ex Res.pure Res.star

theorem pow_bp {x : Int} (h : 2 ≤ x ∧ x ≤ 3) : 2 ≤ IntKind.i64.wrap (1 * 2 ^ min (IntKind.u64.wrap x).toNat IntKind.i64.bits) ∧ IntKind.i64.wrap (1 * 2 ^ min (IntKind.u64.wrap x).toNat IntKind.i64.bits) ≤ 8 := by
  rcases (by omega : x = 2 ∨ x = 3) with rfl | rfl <;> decide
theorem getD_snoc0 {α : Type} (l : List α) (x d : α) (P : α → Prop) (h : P (l.getD 0 d)) (h' : l = [] → P x) : P ((l ++ [x]).getD 0 d) := by
  cases l with
  | nil => exact h' rfl
  | cons a l => exact h
set_option maxHeartbeats 16000000 in
theorem pconfig_z (gt : Nat) (A : Option Addr) (l : List Int) (cap : Nat) (r : World) (F : List Res) (w : World) (hS : Sep r [] (TpL gt A l.length cap :: F) w) (hrd : Reads r F 1 (.slice A l.length cap) (l.map ztC)) (hl : l.length ≤ 1000) :
    Calls Tryz.prog 56 #[.pointer (some ⟨gt, 0, .none⟩)] w fun e w' => ∃ (c : Cfg) (a : CAd), e = .returned (c.val a) ∧ (c.ok ∧ (2 ≤ c.regions ∧ c.regions ≤ 3) ∧ regOf c 0 = 0 ∧ 2 ≤ c.tenants.length ∧ c.lease ≤ 8) ∧ Sep r [] (TpL gt A l.length cap :: CO c a :: F) w' := by
  refine Z.enter Tryz.func56 Tryz.ntmps56 rfl rfl ?_
  repeat' (first|refine K ?_|(refine Sh.sa hS ?_;clear hS;intro w hS)|(refine K3 ?_;clear hS;intro g w hS hge)|((first|refine GS ?_ ?_|refine VB ?_ ?_)<;>intro hb<;>(try simp only [J1,J2,J3,J4,J5,J6] at hb)<;>(try (exfalso;first|omega|exact hb trivial))))
  rename Nat => gr
  replace hS := hS.fo (R := TpL gt A l.length cap)
  refine Z.eff (Z.cl (range_z gt A l cap 2 3 _ _ _ hS (by first | exact hrd.app [_, _] | exact hrd.app [_, _, _] | exact hrd.app [_, _, _, _] | exact hrd.app [_, _, _, _, _] | exact hrd.app [_, _, _, _, _, _] | exact hrd.app [_, _, _, _, _, _, _] | exact hrd.app [_, _, _, _, _, _, _, _] | exact hrd.app [_, _, _, _, _, _, _, _, _] | exact hrd.cons _) hl (by omega) (by omega) (by omega)) rfl ?_) rfl
  clear hS
  rintro e w ⟨rg, rfl, hrg, hS⟩
  refine ⟨_, rfl, ?_⟩
  repeat' (first|refine K ?_|(refine Sh.sa hS ?_;clear hS;intro w hS)|(refine K3 ?_;clear hS;intro g w hS hge)|((first|refine GS ?_ ?_|refine VB ?_ ?_)<;>intro hb<;>(try simp only [J1,J2,J3,J4,J5,J6] at hb)<;>(try (exfalso;first|omega|exact hb trivial))))
  replace hS := hS.fo (R := TpL gt A l.length cap)
  refine Z.eff (Z.cl (range_z gt A l cap 1 2 _ _ _ hS (by first | exact hrd.app [_, _] | exact hrd.app [_, _, _] | exact hrd.app [_, _, _, _] | exact hrd.app [_, _, _, _, _] | exact hrd.app [_, _, _, _, _, _] | exact hrd.app [_, _, _, _, _, _, _] | exact hrd.app [_, _, _, _, _, _, _, _] | exact hrd.app [_, _, _, _, _, _, _, _, _] | exact hrd.cons _) hl (by omega) (by omega) (by omega)) rfl ?_) rfl
  clear hS
  rintro e w ⟨bl, rfl, hbl, hS⟩
  refine ⟨_, rfl, ?_⟩
  repeat' (first|refine K ?_|(refine Sh.sa hS ?_;clear hS;intro w hS)|(refine K3 ?_;clear hS;intro g w hS hge)|((first|refine GS ?_ ?_|refine VB ?_ ?_)<;>intro hb<;>(try simp only [J1,J2,J3,J4,J5,J6] at hb)<;>(try (exfalso;first|omega|exact hb trivial))))
  replace hS := hS.fo (R := TpL gt A l.length cap)
  refine Z.eff (Z.cl (range_z gt A l cap 2 8 _ _ _ hS (by first | exact hrd.app [_, _] | exact hrd.app [_, _, _] | exact hrd.app [_, _, _, _] | exact hrd.app [_, _, _, _, _] | exact hrd.app [_, _, _, _, _, _] | exact hrd.app [_, _, _, _, _, _, _] | exact hrd.app [_, _, _, _, _, _, _, _] | exact hrd.app [_, _, _, _, _, _, _, _, _] | exact hrd.cons _) hl (by omega) (by omega) (by omega)) rfl ?_) rfl
  clear hS
  rintro e w ⟨ls, rfl, hls, hS⟩
  refine ⟨_, rfl, ?_⟩
  repeat' (first|refine K ?_|(refine Sh.sa hS ?_;clear hS;intro w hS)|(refine K3 ?_;clear hS;intro g w hS hge)|((first|refine GS ?_ ?_|refine VB ?_ ?_)<;>intro hb<;>(try simp only [J1,J2,J3,J4,J5,J6] at hb)<;>(try (exfalso;first|omega|exact hb trivial))))
  replace hS := hS.fo (R := TpL gt A l.length cap)
  refine Z.eff (Z.cl (next_z gt A l cap 5 _ _ _ hS (by first | exact hrd.app [_, _] | exact hrd.app [_, _, _] | exact hrd.app [_, _, _, _] | exact hrd.app [_, _, _, _, _] | exact hrd.app [_, _, _, _, _, _] | exact hrd.app [_, _, _, _, _, _, _] | exact hrd.app [_, _, _, _, _, _, _, _] | exact hrd.app [_, _, _, _, _, _, _, _, _] | exact hrd.cons _) hl (by omega) (by omega)) rfl ?_) rfl
  clear hS
  rintro e w ⟨bk, rfl, hbk, hS⟩
  refine ⟨_, rfl, ?_⟩
  repeat' (first|refine K ?_|(refine Sh.sa hS ?_;clear hS;intro w hS)|(refine K3 ?_;clear hS;intro g w hS hge)|((first|refine GS ?_ ?_|refine VB ?_ ?_)<;>intro hb<;>(try simp only [J1,J2,J3,J4,J5,J6] at hb)<;>(try (exfalso;first|omega|exact hb trivial))))
  replace hS := hS.fo (R := TpL gt A l.length cap)
  refine Z.eff (Z.cl (next_z gt A l cap 2 _ _ _ hS (by first | exact hrd.app [_, _] | exact hrd.app [_, _, _] | exact hrd.app [_, _, _, _] | exact hrd.app [_, _, _, _, _] | exact hrd.app [_, _, _, _, _, _] | exact hrd.app [_, _, _, _, _, _, _] | exact hrd.app [_, _, _, _, _, _, _, _] | exact hrd.app [_, _, _, _, _, _, _, _, _] | exact hrd.cons _) hl (by omega) (by omega)) rfl ?_) rfl
  clear hS
  rintro e w ⟨v1, rfl, hv1, hS⟩
  refine ⟨_, rfl, ?_⟩
  repeat' (first|refine K ?_|(refine Sh.sa hS ?_;clear hS;intro w hS)|(refine K3 ?_;clear hS;intro g w hS hge)|((first|refine GS ?_ ?_|refine VB ?_ ?_)<;>intro hb<;>(try simp only [J1,J2,J3,J4,J5,J6] at hb)<;>(try (exfalso;first|omega|exact hb trivial))))
  replace hS := hS.fo (R := TpL gt A l.length cap)
  refine Z.eff (Z.cl (next_z gt A l cap 2 _ _ _ hS (by first | exact hrd.app [_, _] | exact hrd.app [_, _, _] | exact hrd.app [_, _, _, _] | exact hrd.app [_, _, _, _, _] | exact hrd.app [_, _, _, _, _, _] | exact hrd.app [_, _, _, _, _, _, _] | exact hrd.app [_, _, _, _, _, _, _, _] | exact hrd.app [_, _, _, _, _, _, _, _, _] | exact hrd.cons _) hl (by omega) (by omega)) rfl ?_) rfl
  clear hS
  rintro e w ⟨v2, rfl, hv2, hS⟩
  refine ⟨_, rfl, ?_⟩
  repeat' (first|refine K ?_|(refine Sh.sa hS ?_;clear hS;intro w hS)|(refine K3 ?_;clear hS;intro g w hS hge)|((first|refine GS ?_ ?_|refine VB ?_ ?_)<;>intro hb<;>(try simp only [J1,J2,J3,J4,J5,J6] at hb)<;>(try (exfalso;first|omega|exact hb trivial))))
  rename_i gv _ _ go _ _ _
  rename Nat => g4
  have hM := pow_bp hrg
  have hu := u64_pos rg
  replace hS := hS.fo (R := .blk gv _ _)
  replace hS := mk_sl (sz := 2) (n := 3) (rows := ([⟨0, 2⟩, ⟨0, 1 + v1⟩, ⟨v2, 2⟩] : List Vs).map Vs.cells) hS rfl (by omega) (by decide) (by intro row hrow; simp at hrow; rcases hrow with rfl | rfl | rfl <;> exact ⟨rfl, by simp [Vs.cells, Value.oneCell']⟩) rfl
  replace hS := hS.fo (R := .blk go _ _)
  replace hS := mk_sl (sz := 1) (n := 1) (rows := [(0 : Int)].map ztC) hS rfl (by omega) (by decide) (zt_ok _) rfl
  replace hS := Z.nilsl hS 90 1 none
  replace hS := Z.nilsl hS 63 2 none
  refine Z.lpS [4, 5, 27, 28, 29, 30, 31, 32, 33, 34, 35, 36, 37, 38, 39, 40, 41, 42, 43, 44, 45, 46, 47, 48, 49, 50, 51, 52, 53, 54] (fun m w z => ∃ (i : Nat) (zs : List Int) (zA : Option Addr) (zc : Nat) (ks : List Cl) (kA : Option Addr) (kc : Nat), z = [(4, .int .i64 i)] ∧ (zs.length = i ∧ i ≤ ks.length ∧ ks.length ≤ 2 * i ∧ zs.getD 0 0 = 0 ∧ (ks.getD 0 ⟨0, 0⟩).zone = 0 ∧ ∀ x, x ∈ ks → 0 ≤ x.zone ∧ x.zone < zs.length) ∧ i ≤ rg ∧ m = rg.toNat - i ∧ Sep r [] (TpL gt A l.length cap :: .sl 63 2 (.slice kA ks.length kc) (ks.map Cl.cells) :: .sl 90 1 (.slice zA zs.length zc) (zs.map ztC) :: .blk g4 30 (((⟨rg, zs, ks, [], ([⟨0, 2⟩, ⟨0, 1 + v1⟩, ⟨v2, 2⟩] : List Vs), [], [0], bl, ls, bk⟩ : Cfg)).cl (⟨zA, zc, kA, kc, none, 0, some ⟨gv, 0, .none⟩, 3, none, 0, some ⟨go, 0, .none⟩, 1⟩ : CAd)) :: .sl 3 1 (.slice (some ⟨go, 0, .none⟩) 1 1) ([(0 : Int)].map ztC) :: .sl 95 2 (.slice (some ⟨gv, 0, .none⟩) 3 3) (([⟨0, 2⟩, ⟨0, 1 + v1⟩, ⟨v2, 2⟩] : List Vs).map Vs.cells) :: .blk gr 30 (Cfg.none.cl CAd.zero) :: F) w) _ [(4, .int .i64 (0 : Nat))] (by repeat (first | exact trivial | refine ⟨rfl, ?_⟩)) ⟨0, [], none, 0, [], none, 0, rfl, ⟨rfl, by simp, by simp, rfl, rfl, by simp⟩, by omega, rfl, hS.sb⟩ ?_
  clear hS
  rintro m f0 w _ ⟨i, zs, zA, zc, ks, kA, kc, rfl, ⟨hzl, hkl1, hkl2, hz0, hk0, hkz⟩, hi, rfl, hS⟩
  by_cases hir : (i : Int) < rg
  · repeat' (first|refine K ?_|(refine Sh.sa hS ?_;clear hS;intro w hS)|(refine K3 ?_;clear hS;intro g w hS hge)|((first|refine GS ?_ ?_|refine VB ?_ ?_)<;>intro hb<;>(try simp only [J1,J2,J3,J4,J5,J6] at hb)<;>(try (exfalso;first|omega|exact hb trivial))))
    refine Z.eff (Z.apm (l' := [(i : Int)]) hS rfl rfl rfl (by repeat (first | exact At.here | apply At.next)) (hS.lit1 (by repeat (first | exact At.here | apply At.next)) rfl rfl) (by (try simp only [maxLen, List.length_take, List.length_drop, List.length_append, List.length_cons, List.length_nil, List.length_map]); omega) (by (try simp only [maxLen, List.length_take, List.length_drop, List.length_append, List.length_cons, List.length_nil, List.length_map]); omega) ?_) rfl
    clear hS; intro A' c' w hS
    rw [← List.length_append] at hS ⊢
    repeat' (first|refine K ?_|(refine Sh.sa hS ?_;clear hS;intro w hS)|(refine K3 ?_;clear hS;intro g w hS hge)|((first|refine GS ?_ ?_|refine VB ?_ ?_)<;>intro hb<;>(try simp only [J1,J2,J3,J4,J5,J6] at hb)<;>(try (exfalso;first|omega|exact hb trivial))))
    replace hS := hS.fo (R := TpL gt A l.length cap)
    refine Z.eff (Z.cl (range_z gt A l cap 1 2 _ _ _ hS (by first | exact hrd.app [_, _] | exact hrd.app [_, _, _] | exact hrd.app [_, _, _, _] | exact hrd.app [_, _, _, _, _] | exact hrd.app [_, _, _, _, _, _] | exact hrd.app [_, _, _, _, _, _, _] | exact hrd.app [_, _, _, _, _, _, _, _] | exact hrd.app [_, _, _, _, _, _, _, _, _] | exact hrd.cons _) hl (by omega) (by omega) (by omega)) rfl ?_) rfl
    clear hS
    rintro e w ⟨j, rfl, hj, hS⟩
    refine ⟨_, rfl, ?_⟩
    repeat' (first|refine K ?_|(refine Sh.sa hS ?_;clear hS;intro w hS)|(refine K3 ?_;clear hS;intro g w hS hge)|((first|refine GS ?_ ?_|refine VB ?_ ?_)<;>intro hb<;>(try simp only [J1,J2,J3,J4,J5,J6] at hb)<;>(try (exfalso;first|omega|exact hb trivial))))
    have hz1 : (zs ++ [(i : Int)]).getD 0 0 = 0 := getD_snoc0 zs (i : Int) 0 (fun x => x = 0) hz0 (fun e => by subst e; simp at hzl; omega)
    have hkz1 : ∀ x, x ∈ ks → 0 ≤ x.zone ∧ x.zone < (zs ++ [(i : Int)]).length := fun x hx => by have := hkz x hx; simp; omega
    have hz2 : (zs ++ [(i : Int)]).length = i + 1 := by simp; omega
    generalize zs ++ [(i : Int)] = zs1 at *
    clear hkz hz0 hzl
    refine Z.lpS [5, 42, 43, 44, 45, 46, 47, 48, 49, 50, 51, 52, 53, 54] (fun m w z => ∃ (j : Int) (ks : List Cl) (kA : Option Addr) (kc : Nat), z = [(5, .int .i64 j)] ∧ 0 ≤ j ∧ (i ≤ ks.length ∧ i + 1 ≤ ks.length + j ∧ ks.length + j ≤ 2 * (i + 1) ∧ (ks.getD 0 ⟨0, 0⟩).zone = 0 ∧ ∀ x, x ∈ ks → 0 ≤ x.zone ∧ x.zone < zs1.length) ∧ m = j.toNat ∧ Sep r [] (TpL gt A l.length cap :: (.sl 63 2 (.slice kA ks.length kc) (ks.map Cl.cells) :: .sl 90 1 (.slice A' zs1.length c') (zs1.map ztC) :: .blk g4 30 ((⟨rg, zs1, ks, [], ([⟨0, 2⟩, ⟨0, 1 + v1⟩, ⟨v2, 2⟩] : List Vs), [], [0], bl, ls, bk⟩ : Cfg).cl (⟨A', c', kA, kc, none, 0, some ⟨gv, 0, .none⟩, 3, none, 0, some ⟨go, 0, .none⟩, 1⟩ : CAd)) :: .sl 3 1 (.slice (some ⟨go, 0, .none⟩) 1 1) ([(0 : Int)].map ztC) :: .sl 95 2 (.slice (some ⟨gv, 0, .none⟩) 3 3) (([⟨0, 2⟩, ⟨0, 1 + v1⟩, ⟨v2, 2⟩] : List Vs).map Vs.cells) :: .blk gr 30 (Cfg.none.cl CAd.zero) :: F)) w) _ [(5, .int .i64 j)] (by repeat (first | exact trivial | refine ⟨rfl, ?_⟩)) ⟨j, ks, kA, kc, rfl, by omega, ⟨by omega, by omega, by omega, hk0, hkz1⟩, rfl, hS.sb⟩ ?_
    clear hS hkz1 hkl1 hkl2 hk0 hj
    rintro m f0 w _ ⟨j, ks, kA, kc, rfl, hj, ⟨hk1, hk2, hk3, hk0, hkz⟩, rfl, hS⟩
    by_cases hj0 : 0 < j
    · repeat' (first|refine K ?_|(refine Sh.sa hS ?_;clear hS;intro w hS)|(refine K3 ?_;clear hS;intro g w hS hge)|((first|refine GS ?_ ?_|refine VB ?_ ?_)<;>intro hb<;>(try simp only [J1,J2,J3,J4,J5,J6] at hb)<;>(try (exfalso;first|omega|exact hb trivial))))
      refine D.startS (Lr := [.blk g4 30 ((⟨rg, zs1, ks, [], ([⟨0, 2⟩, ⟨0, 1 + v1⟩, ⟨v2, 2⟩] : List Vs), [], [0], bl, ls, bk⟩ : Cfg).cl (⟨A', c', kA, kc, none, 0, some ⟨gv, 0, .none⟩, 3, none, 0, some ⟨go, 0, .none⟩, 1⟩ : CAd))]) (hS.sb) 9 10 (by kernel_rfl) rfl ?_
      replace hS := hS.drew
      refine Sh.dp 0 1 ?_
      refine Sh.dp 2 5 ?_
      refine Sh.dp 3 13 ?_
      refine Sh.dl 1 15 ?_
      refine D.eff 4 31 rfl D.wantedN (by kernel_rfl) (by kernel_rfl) (fun _ _ h => h) ?_
      replace hS := hS.fo (R := TpL gt A l.length cap)
      refine Z.cl (range_z gt A l cap 8 30 _ _ _ hS (by first | exact hrd.app [_, _] | exact hrd.app [_, _, _] | exact hrd.app [_, _, _, _] | exact hrd.app [_, _, _, _, _] | exact hrd.app [_, _, _, _, _, _] | exact hrd.app [_, _, _, _, _, _, _] | exact hrd.app [_, _, _, _, _, _, _, _] | exact hrd.app [_, _, _, _, _, _, _, _, _] | exact hrd.cons _) hl (by omega) (by omega) (by omega)) rfl ?_
      clear hS
      rintro e w ⟨cp, rfl, hcp, hS⟩
      refine ⟨_, rfl, ?_⟩
      refine ⟨HM.s (hS.sb), ?_⟩
      first | refine D.bu 5 63 rfl D.wantedN (by kernel_rfl) rfl rfl ?_ | refine D.buA 5 63 rfl D.wantedN (by kernel_rfl) rfl rfl ?_
      refine D.eff 6 127 rfl D.wantedN (by kernel_rfl) (by kernel_rfl) (fun _ _ h => h) ?_
      refine Z.bs hS rfl rfl rfl ?_
      clear hS; intro g w hS hge
      refine ⟨HM.s (hS.sb), ?_⟩
      refine D.eff 7 255 rfl D.wantedN (by kernel_rfl) (by kernel_rfl) (fun _ _ h => h) ?_
      refine Z.apm (l' := [(⟨(i : Int), cp⟩ : Cl)]) hS rfl rfl rfl (by repeat (first | exact At.here | apply At.next)) (hS.lit1 (by repeat (first | exact At.here | apply At.next)) rfl rfl) (by (try simp only [maxLen, List.length_take, List.length_drop, List.length_append, List.length_cons, List.length_nil, List.length_map]); omega) (by (try simp only [maxLen, List.length_take, List.length_drop, List.length_append, List.length_cons, List.length_nil, List.length_map]); omega) ?_
      clear hS; intro A2 c2 w hS
      rw [← List.length_append] at hS ⊢
      refine ⟨HM.s (hS.sb), ?_⟩
      refine Sh.dp 8 511 ?_
      refine D.eff 9 1023 rfl D.wantedN (by kernel_rfl) (by kernel_rfl) (fun _ _ h => h) ?_
      refine Z.st hS rfl (by repeat (first | exact At.here | apply At.next)) rfl rfl ?_
      clear hS; intro w hS
      refine ⟨HM.last (by kernel_rfl), ?_⟩
      refine D.done (by kernel_rfl) ?_
      repeat' (first|refine K ?_|(refine Sh.sa hS ?_;clear hS;intro w hS)|(refine K3 ?_;clear hS;intro g w hS hge)|((first|refine GS ?_ ?_|refine VB ?_ ?_)<;>intro hb<;>(try simp only [J1,J2,J3,J4,J5,J6] at hb)<;>(try (exfalso;first|omega|exact hb trivial))))
      refine Sh.again ((j - 1).toNat) [(5, .int .i64 (j - 1))] ?_
      refine ⟨j - 1, ks ++ [⟨(i : Int), cp⟩], A2, c2, rfl, by omega, ⟨by simp; omega, by simp; omega, by simp; omega, getD_snoc0 ks ⟨(i : Int), cp⟩ ⟨0, 0⟩ (fun x => x.zone = 0) hk0 (fun e => by subst e; simp at hk1; simp; omega), fun x hx => ?_⟩, by omega, hS.sb⟩
      rcases List.mem_append.1 hx with hx | hx
      · exact hkz x hx
      · rw [List.mem_singleton] at hx
        subst hx
        simp; omega
    repeat' (first|refine K ?_|(refine Sh.sa hS ?_;clear hS;intro w hS)|(refine K3 ?_;clear hS;intro g w hS hge)|((first|refine GS ?_ ?_|refine VB ?_ ?_)<;>intro hb<;>(try simp only [J1,J2,J3,J4,J5,J6] at hb)<;>(try (exfalso;first|omega|exact hb trivial))))
    refine Sh.again (rg.toNat - (i + 1)) [(4, .int .i64 (i + 1 : Nat))] ?_
    exact ⟨i + 1, zs1, A', c', ks, kA, kc, rfl, ⟨hz2, by omega, by omega, hz1, hk0, hkz⟩, by omega, by omega, hS.sb⟩
  have hi2 : (i : Int) = rg := by omega
  have hz3 : (zs.length : Int) = rg := by omega
  have hk3 : 2 ≤ ks.length ∧ ks.length ≤ 6 := by omega
  repeat' (first|refine K ?_|(refine Sh.sa hS ?_;clear hS;intro w hS)|(refine K3 ?_;clear hS;intro g w hS hge)|((first|refine GS ?_ ?_|refine VB ?_ ?_)<;>intro hb<;>(try simp only [J1,J2,J3,J4,J5,J6] at hb)<;>(try (exfalso;first|omega|exact hb trivial))))
  clear hi hir hi2 hzl hkl1 hkl2
  replace hS := hS.fo (R := TpL gt A l.length cap)
  refine Z.eff (Z.cl (range_z gt A l cap 2 8 _ _ _ hS (by first | exact hrd.app [_, _] | exact hrd.app [_, _, _] | exact hrd.app [_, _, _, _] | exact hrd.app [_, _, _, _, _] | exact hrd.app [_, _, _, _, _, _] | exact hrd.app [_, _, _, _, _, _, _] | exact hrd.app [_, _, _, _, _, _, _, _] | exact hrd.app [_, _, _, _, _, _, _, _, _] | exact hrd.cons _) hl (by omega) (by omega) (by omega)) rfl ?_) rfl
  clear hS
  rintro e w ⟨j, rfl, hj, hS⟩
  refine ⟨_, rfl, ?_⟩
  repeat' (first|refine K ?_|(refine Sh.sa hS ?_;clear hS;intro w hS)|(refine K3 ?_;clear hS;intro g w hS hge)|((first|refine GS ?_ ?_|refine VB ?_ ?_)<;>intro hb<;>(try simp only [J1,J2,J3,J4,J5,J6] at hb)<;>(try (exfalso;first|omega|exact hb trivial))))
  replace hS := Z.nilsl hS 93 7 none
  refine Z.lpS [6, 7, 57, 58, 59, 60, 61, 62, 63, 64, 65, 66, 67, 68, 69, 70, 71, 72, 73, 74, 75, 76, 77, 78, 79, 80, 81, 82] (fun m w z => ∃ (j : Int) (ts : List Tn) (tA : Option Addr) (tc : Nat), z = [(6, .int .i64 j)] ∧ 0 ≤ j ∧ ts.length + j ≤ 8 ∧ 2 ≤ ts.length + j ∧ m = j.toNat ∧ Sep r [] (TpL gt A l.length cap :: .sl 93 7 (.slice tA ts.length tc) (ts.map Tn.cells) :: .sl 63 2 (.slice kA ks.length kc) (ks.map Cl.cells) :: .sl 90 1 (.slice zA zs.length zc) (zs.map ztC) :: .blk g4 30 (((⟨rg, zs, ks, ts, ([⟨0, 2⟩, ⟨0, 1 + v1⟩, ⟨v2, 2⟩] : List Vs), [], [0], bl, ls, bk⟩ : Cfg)).cl (⟨zA, zc, kA, kc, tA, tc, some ⟨gv, 0, .none⟩, 3, none, 0, some ⟨go, 0, .none⟩, 1⟩ : CAd)) :: .sl 3 1 (.slice (some ⟨go, 0, .none⟩) 1 1) ([(0 : Int)].map ztC) :: .sl 95 2 (.slice (some ⟨gv, 0, .none⟩) 3 3) (([⟨0, 2⟩, ⟨0, 1 + v1⟩, ⟨v2, 2⟩] : List Vs).map Vs.cells) :: .blk gr 30 (Cfg.none.cl CAd.zero) :: F) w) _ [(6, .int .i64 j)] (by repeat (first | exact trivial | refine ⟨rfl, ?_⟩)) ⟨j, [], none, 0, rfl, by omega, by simp; omega, by simp; omega, rfl, hS.sb⟩ ?_
  clear hS hj
  rintro m f0 w _ ⟨j, ts, tA, tc, rfl, hj, htj, ht2, rfl, hS⟩
  by_cases hj0 : 0 < j
  · repeat' (first|refine K ?_|(refine Sh.sa hS ?_;clear hS;intro w hS)|(refine K3 ?_;clear hS;intro g w hS hge)|((first|refine GS ?_ ?_|refine VB ?_ ?_)<;>intro hb<;>(try simp only [J1,J2,J3,J4,J5,J6] at hb)<;>(try (exfalso;first|omega|exact hb trivial))))
    replace hS := hS.fo (R := TpL gt A l.length cap)
    refine Z.eff (Z.cl (range_z gt A l cap 1 9 _ _ _ hS (by first | exact hrd.app [_, _] | exact hrd.app [_, _, _] | exact hrd.app [_, _, _, _] | exact hrd.app [_, _, _, _, _] | exact hrd.app [_, _, _, _, _, _] | exact hrd.app [_, _, _, _, _, _, _] | exact hrd.app [_, _, _, _, _, _, _, _] | exact hrd.app [_, _, _, _, _, _, _, _, _] | exact hrd.cons _) hl (by omega) (by omega) (by omega)) rfl ?_) rfl
    clear hS
    rintro e w ⟨n1, rfl, hn1, hS⟩
    refine ⟨_, rfl, ?_⟩
    repeat' (first|refine K ?_|(refine Sh.sa hS ?_;clear hS;intro w hS)|(refine K3 ?_;clear hS;intro g w hS hge)|((first|refine GS ?_ ?_|refine VB ?_ ?_)<;>intro hb<;>(try simp only [J1,J2,J3,J4,J5,J6] at hb)<;>(try (exfalso;first|omega|exact hb trivial))))
    refine D.startS (Lr := [.blk g4 30 (((⟨rg, zs, ks, ts, ([⟨0, 2⟩, ⟨0, 1 + v1⟩, ⟨v2, 2⟩] : List Vs), [], [0], bl, ls, bk⟩ : Cfg)).cl (⟨zA, zc, kA, kc, tA, tc, some ⟨gv, 0, .none⟩, 3, none, 0, some ⟨go, 0, .none⟩, 1⟩ : CAd))]) (hS.sb) 20 21 (by kernel_rfl) rfl ?_
    replace hS := hS.drew
    refine Sh.dp 0 1 ?_
    refine Sh.dp 2 5 ?_
    refine Sh.dp 3 13 ?_
    refine Sh.dp 4 29 ?_
    first | refine D.sum 5 61 rfl D.wantedN (by kernel_rfl) rfl (by constructor <;> omega) ?_ | refine D.sumW 5 61 rfl D.wantedN (by kernel_rfl) rfl ?_
    refine Sh.dp 7 189 ?_
    refine Sh.dp 9 701 ?_
    refine Sh.dp 11 2749 ?_
    refine Sh.dl 1 2751 ?_
    refine Sh.dl 12 6847 ?_
    refine D.pl 13 15039 rfl D.wantedN (by kernel_rfl) (R.icv rfl) ?_
    refine D.pl 14 31423 rfl D.wantedN (by kernel_rfl) (R.ish rfl rfl rfl hu) ?_
    refine D.sumW 15 64191 rfl D.wantedN (by kernel_rfl) rfl ?_
    refine D.eff 6 64255 rfl D.wantedN (by kernel_rfl) (by kernel_rfl) (fun _ _ h => h) ?_
    replace hS := hS.fo (R := TpL gt A l.length cap)
    refine Z.cl (next_z gt A l cap (n1 + 1) _ _ _ hS (by first | exact hrd.app [_, _] | exact hrd.app [_, _, _] | exact hrd.app [_, _, _, _] | exact hrd.app [_, _, _, _, _] | exact hrd.app [_, _, _, _, _, _] | exact hrd.app [_, _, _, _, _, _, _] | exact hrd.app [_, _, _, _, _, _, _, _] | exact hrd.app [_, _, _, _, _, _, _, _, _] | exact hrd.cons _) hl (by omega) (by omega)) rfl ?_
    clear hS
    rintro e w ⟨n2, rfl, hn2, hS⟩
    refine ⟨_, rfl, ?_⟩
    refine ⟨HM.s (hS.sb), ?_⟩
    refine D.eff 8 64511 rfl D.wantedN (by kernel_rfl) (by kernel_rfl) (fun _ _ h => h) ?_
    replace hS := hS.fo (R := TpL gt A l.length cap)
    refine Z.cl (next_z gt A l cap 4 _ _ _ hS (by first | exact hrd.app [_, _] | exact hrd.app [_, _, _] | exact hrd.app [_, _, _, _] | exact hrd.app [_, _, _, _, _] | exact hrd.app [_, _, _, _, _, _] | exact hrd.app [_, _, _, _, _, _, _] | exact hrd.app [_, _, _, _, _, _, _, _] | exact hrd.app [_, _, _, _, _, _, _, _, _] | exact hrd.cons _) hl (by omega) (by omega)) rfl ?_
    clear hS
    rintro e w ⟨n3, rfl, hn3, hS⟩
    refine ⟨_, rfl, ?_⟩
    refine ⟨HM.s (hS.sb), ?_⟩
    refine D.eff 10 65535 rfl D.wantedN (by kernel_rfl) (by kernel_rfl) (fun _ _ h => h) ?_
    replace hS := hS.fo (R := TpL gt A l.length cap)
    refine Z.cl (range_z gt A l cap (-1) 2 _ _ _ hS (by first | exact hrd.app [_, _] | exact hrd.app [_, _, _] | exact hrd.app [_, _, _, _] | exact hrd.app [_, _, _, _, _] | exact hrd.app [_, _, _, _, _, _] | exact hrd.app [_, _, _, _, _, _, _] | exact hrd.app [_, _, _, _, _, _, _, _] | exact hrd.app [_, _, _, _, _, _, _, _, _] | exact hrd.cons _) hl (by omega) (by omega) (by omega)) rfl ?_
    clear hS
    rintro e w ⟨n4, rfl, hn4, hS⟩
    refine ⟨_, rfl, ?_⟩
    refine ⟨HM.s (hS.sb), ?_⟩
    first | refine D.bu 16 131071 rfl D.wantedN (by kernel_rfl) rfl rfl ?_ | refine D.buA 16 131071 rfl D.wantedN (by kernel_rfl) rfl rfl ?_
    refine D.eff 17 262143 rfl D.wantedN (by kernel_rfl) (by kernel_rfl) (fun _ _ h => h) ?_
    refine Z.bs hS rfl rfl rfl ?_
    clear hS; intro g w hS hge
    refine ⟨HM.s (hS.sb), ?_⟩
    refine D.eff 18 524287 rfl D.wantedN (by kernel_rfl) (by kernel_rfl) (fun _ _ h => h) ?_
    refine Z.apm (l' := [(⟨n1, n2, n3, n4, _, 0, false⟩ : Tn)]) hS rfl rfl rfl (by repeat (first | exact At.here | apply At.next)) (hS.lit1 (by repeat (first | exact At.here | apply At.next)) rfl rfl) (by (try simp only [maxLen, List.length_take, List.length_drop, List.length_append, List.length_cons, List.length_nil, List.length_map]); omega) (by (try simp only [maxLen, List.length_take, List.length_drop, List.length_append, List.length_cons, List.length_nil, List.length_map]); omega) ?_
    clear hS; intro A' c' w hS
    rw [← List.length_append] at hS ⊢
    refine ⟨HM.s (hS.sb), ?_⟩
    refine Sh.dp 19 1048575 ?_
    refine D.eff 20 2097151 rfl D.wantedN (by kernel_rfl) (by kernel_rfl) (fun _ _ h => h) ?_
    refine Z.st hS rfl (by repeat (first | exact At.here | apply At.next)) rfl rfl ?_
    clear hS; intro w hS
    refine ⟨HM.last (by kernel_rfl), ?_⟩
    refine D.done (by kernel_rfl) ?_
    repeat' (first|refine K ?_|(refine Sh.sa hS ?_;clear hS;intro w hS)|(refine K3 ?_;clear hS;intro g w hS hge)|((first|refine GS ?_ ?_|refine VB ?_ ?_)<;>intro hb<;>(try simp only [J1,J2,J3,J4,J5,J6] at hb)<;>(try (exfalso;first|omega|exact hb trivial))))
    refine Sh.again ((j - 1).toNat) [(6, .int .i64 (j - 1))] ?_
    exact ⟨j - 1, ts ++ [_], A', c', rfl, by omega, by simp; omega, by simp; omega, rfl, hS.sb⟩
  have ht0 : 2 ≤ ts.length ∧ ts.length ≤ 8 := by omega
  repeat' (first|refine K ?_|(refine Sh.sa hS ?_;clear hS;intro w hS)|(refine K3 ?_;clear hS;intro g w hS hge)|((first|refine GS ?_ ?_|refine VB ?_ ?_)<;>intro hb<;>(try simp only [J1,J2,J3,J4,J5,J6] at hb)<;>(try (exfalso;first|omega|exact hb trivial))))
  clear htj ht2 hj0
  have hrr : ((⟨rg, zs, ks, ts, ([⟨0, 2⟩, ⟨0, 1 + v1⟩, ⟨v2, 2⟩] : List Vs), [], [0], bl, ls, bk⟩ : Cfg)).regions = rg := rfl
  refine D.startS (Lr := [.blk g4 30 (((⟨rg, zs, ks, ts, ([⟨0, 2⟩, ⟨0, 1 + v1⟩, ⟨v2, 2⟩] : List Vs), [], [0], bl, ls, bk⟩ : Cfg)).cl (⟨zA, zc, kA, kc, tA, tc, some ⟨gv, 0, .none⟩, 3, none, 0, some ⟨go, 0, .none⟩, 1⟩ : CAd))]) (hS.sb) 12 13 (by kernel_rfl) rfl ?_
  replace hS := hS.drew
  refine Sh.dp 0 1 ?_
  refine Sh.dp 1 3 ?_
  refine Sh.dp 4 19 ?_
  refine Sh.dp 7 147 ?_
  refine Sh.dl 2 151 ?_
  refine Sh.dl 5 183 ?_
  first | refine D.sum 6 247 rfl D.wantedN (by kernel_rfl) rfl (by constructor <;> omega) ?_ | refine D.sumW 6 247 rfl D.wantedN (by kernel_rfl) rfl ?_
  refine Sh.dl 8 503 ?_
  first | refine D.sum 9 1015 rfl D.wantedN (by kernel_rfl) rfl (by constructor <;> omega) ?_ | refine D.sumW 9 1015 rfl D.wantedN (by kernel_rfl) rfl ?_
  refine D.eff 3 1023 rfl D.wantedN (by kernel_rfl) (by kernel_rfl) (fun _ _ h => h) ?_
  replace hS := hS.fo (R := TpL gt A l.length cap)
  refine Z.cl (next_z gt A l cap rg _ _ _ hS (by first | exact hrd.app [_, _] | exact hrd.app [_, _, _] | exact hrd.app [_, _, _, _] | exact hrd.app [_, _, _, _, _] | exact hrd.app [_, _, _, _, _, _] | exact hrd.app [_, _, _, _, _, _, _] | exact hrd.app [_, _, _, _, _, _, _, _] | exact hrd.app [_, _, _, _, _, _, _, _, _] | exact hrd.cons _) hl (by omega) (by omega)) rfl ?_
  clear hS
  rintro e w ⟨q1, rfl, hq1, hS⟩
  refine ⟨_, rfl, ?_⟩
  refine ⟨HM.s (hS.sb), ?_⟩
  refine D.eff 10 2047 rfl D.wantedN (by kernel_rfl) (by kernel_rfl) (fun _ _ h => h) ?_
  refine Z.bs hS rfl rfl rfl ?_
  clear hS; intro g w hS hge
  refine ⟨HM.s (hS.sb), ?_⟩
  refine Sh.dp 11 4095 ?_
  refine D.eff 12 8191 rfl D.wantedN (by kernel_rfl) (by kernel_rfl) (fun _ _ h => h) ?_
  refine Z.st hS rfl (by repeat (first | exact At.here | apply At.next)) rfl rfl ?_
  clear hS; intro w hS
  refine ⟨HM.last (by kernel_rfl), ?_⟩
  refine D.done (by kernel_rfl) ?_
  repeat' (first|refine K ?_|(refine Sh.sa hS ?_;clear hS;intro w hS)|(refine K3 ?_;clear hS;intro g w hS hge)|((first|refine GS ?_ ?_|refine VB ?_ ?_)<;>intro hb<;>(try simp only [J1,J2,J3,J4,J5,J6] at hb)<;>(try (exfalso;first|omega|exact hb trivial))))
  refine Dnc Tryz.results56 ?_
  rename Nat => gp
  replace hS := hS.fo (R := .blk gp _ _)
  replace hS := mk_sl (sz := 1) (n := 3) (rows := [q1, rg - 1, rg - 1].map ztC) hS rfl (by omega) (by decide) (zt_ok _) rfl
  replace hS := hS.sub (L' := [.sl 90 1 (.slice zA zs.length zc) (zs.map ztC), .sl 63 2 (.slice kA ks.length kc) (ks.map Cl.cells), .sl 93 7 (.slice tA ts.length tc) (ts.map Tn.cells), .sl 95 2 (.slice (some ⟨gv, 0, .none⟩) 3 3) (([⟨0, 2⟩, ⟨0, 1 + v1⟩, ⟨v2, 2⟩] : List Vs).map Vs.cells)] ++ TpL gt A l.length cap :: F) (by repeat (first | exact Sub.rest | exact Sub.nil | exact .skip .rest | exact .skip (.skip .rest) | exact .skip (.skip (.skip .rest)) | apply Sub.keep | refine Sub.cons (by repeat (first | exact At.here | apply At.next)) ?_ | apply Sub.skip))
  have h2 : Sep r [] (CO (⟨rg, zs, ks, ts, ([⟨0, 2⟩, ⟨0, 1 + v1⟩, ⟨v2, 2⟩] : List Vs), [q1, rg - 1, rg - 1], [0], bl, ls, bk⟩ : Cfg) (⟨zA, zc, kA, kc, tA, tc, some ⟨gv, 0, .none⟩, 3, some ⟨gp, 0, .none⟩, 3, some ⟨go, 0, .none⟩, 1⟩ : CAd) :: TpL gt A l.length cap :: F) _ := Sep.all_open.2 hS
  refine ⟨(⟨rg, zs, ks, ts, ([⟨0, 2⟩, ⟨0, 1 + v1⟩, ⟨v2, 2⟩] : List Vs), [q1, rg - 1, rg - 1], [0], bl, ls, bk⟩ : Cfg), (⟨zA, zc, kA, kc, tA, tc, some ⟨gv, 0, .none⟩, 3, some ⟨gp, 0, .none⟩, 3, some ⟨go, 0, .none⟩, 1⟩ : CAd), rfl, ⟨⟨by simp; omega, by simp; omega, by simp; omega, by simp; omega, by simp, by simp; omega, by simp; omega, by simp; omega, hkz⟩, by simp; omega, ?_, by simp; omega, by simp; omega⟩, h2.sub (by repeat (first | exact Sub.rest | exact Sub.nil | exact .skip .rest | exact .skip (.skip .rest) | exact .skip (.skip (.skip .rest)) | apply Sub.keep | refine Sub.cons (by repeat (first | exact At.here | apply At.next)) ?_ | apply Sub.skip))⟩
  unfold regOf
  rw [if_pos ⟨by omega, by simp; omega⟩]
  simp only [Int.toNat_zero] at *
  rw [hk0]
  exact hz0
end Go.Proofs.YtmgpionlfemhdaaGreat
