/-
  Cells, zones and regions of a configuration: the program's functions and the reference's.
-/
import Derived.Test.YtmgpionlfemhdaaGreatNUa
namespace Go.Proofs.YtmgpionlfemhdaaGreat
open Go.RowKit
set_option linter.unusedSimpArgs false
set_option linter.unusedVariables false
attribute [local irreducible] Res.blk Res.sl Res.all Res.ex Res.pure Res.star

def zoneOf (c : Cfg) (k : Int) : Int := if 0 ≤ k ∧ k < c.cells.length then (c.cells.getD k.toNat ⟨0, 0⟩).zone else -1
theorem zoneOf_bd {c : Cfg} (ho : c.ok) (k : Int) : (0 ≤ k ∧ k < c.cells.length → 0 ≤ zoneOf c k ∧ zoneOf c k < c.zones.length) ∧ (¬ (0 ≤ k ∧ k < c.cells.length) → zoneOf c k = -1) := by
  unfold zoneOf
  refine ⟨fun h => ?_, fun h => by rw [if_neg h]⟩
  rw [if_pos h]
  have hk : k.toNat < c.cells.length := by omega
  have e : c.cells.getD k.toNat ⟨0, 0⟩ = c.cells[k.toNat] := by simp [List.getD_eq_getElem?_getD, hk]
  rw [e]
  exact ho.kz _ (List.getElem_mem hk)
theorem regOf_zone (c : Cfg) (k : Int) : regOf c k = if 0 ≤ k ∧ k < c.cells.length then c.zones.getD (zoneOf c k).toNat 0 else -1 := by
  unfold regOf zoneOf
  split <;> rfl
theorem reads_k {r w : World} {F : List Res} {c : Cfg} {a : CAd} (hr : CfR r F c a) (L : List Res) (hS : Sep r [] (L ++ F) w) {k : Int} (h : 0 ≤ k ∧ k < c.cells.length) : ∃ gb o, a.kA = some ⟨gb, o, none⟩ ∧ w.rangeAt gb (o + k.toNat * 2) (c.cells.getD k.toNat ⟨0, 0⟩).cells := by
  have hk : k.toNat < c.cells.length := by omega
  have e : c.cells.getD k.toNat ⟨0, 0⟩ = c.cells[k.toNat] := by simp [List.getD_eq_getElem?_getD, hk]
  obtain ⟨gb, o, hA, _, hra⟩ := (hr.k L w hS).mat (by omega) (q := k.toNat) (by simpa using hk)
  exact ⟨gb, o, hA, by rw [e]; simpa using hra⟩
theorem reads_zn {r w : World} {F : List Res} {c : Cfg} {a : CAd} (hr : CfR r F c a) (L : List Res) (hS : Sep r [] (L ++ F) w) {k : Int} (h : 0 ≤ k ∧ k < c.zones.length) : ∃ gb o, a.zA = some ⟨gb, o, none⟩ ∧ w.rangeAt gb (o + k.toNat * 1) (ztC (c.zones.getD k.toNat 0)) := by
  have hk : k.toNat < c.zones.length := by omega
  have e : c.zones.getD k.toNat 0 = c.zones[k.toNat] := by simp [List.getD_eq_getElem?_getD, hk]
  obtain ⟨gb, o, hA, _, hra⟩ := (hr.z L w hS).mat (by omega) (q := k.toNat) (by simpa using hk)
  exact ⟨gb, o, hA, by rw [e]; simpa using hra⟩
theorem reads_t {r w : World} {F : List Res} {c : Cfg} {a : CAd} (hr : CfR r F c a) (L : List Res) (hS : Sep r [] (L ++ F) w) {k : Int} (h : 0 ≤ k ∧ k < c.tenants.length) : ∃ gb o, a.tA = some ⟨gb, o, none⟩ ∧ w.rangeAt gb (o + k.toNat * 7) (c.tenants.getD k.toNat ⟨0, 0, 0, 0, 0, 0, false⟩).cells := by
  have hk : k.toNat < c.tenants.length := by omega
  have e : c.tenants.getD k.toNat ⟨0, 0, 0, 0, 0, 0, false⟩ = c.tenants[k.toNat] := by simp [List.getD_eq_getElem?_getD, hk]
  obtain ⟨gb, o, hA, _, hra⟩ := (hr.t L w hS).mat (by omega) (q := k.toNat) (by simpa using hk)
  exact ⟨gb, o, hA, by rw [e]; simpa using hra⟩
theorem rzone_z (c : Cfg) (a : CAd) (k : Int) (r : World) (F : List Res) (w : World) (hS : Sep r [] F w) (hr : CfR r F c a) :
    Calls Tryz.prog 102 #[c.val a, .int .i64 k] w fun e w' => e = .returned (.int .i64 (zoneOf c k)) ∧ Sep r [] F w' := by
  unfold zoneOf
  by_cases h : 0 ≤ k ∧ k < c.cells.length
  · obtain ⟨gb, o, hA, _⟩ := reads_k hr [] hS h
    obtain ⟨zA, zc, kA, kc, tA, tc, vA, vc, rA, rc, oA, oc⟩ := a
    simp only at hA
    subst hA
    rw [if_pos h]
    refine Z.enter Tryz.func102 Tryz.ntmps102 rfl rfl ?_
    repeat' (first|refine K ?_|(refine Sh.sa hS ?_;clear hS;intro w hS)|(refine K3 ?_;clear hS;intro g w hS hge)|((first|refine GS ?_ ?_|refine VB ?_ ?_)<;>intro hb<;>(try simp only [J1,J2,J3,J4,J5,J6] at hb)<;>(try (exfalso;first|omega|exact hb trivial))))
    obtain ⟨gb', o', hA, hra⟩ := reads_k hr [_] hS h
    simp only [Option.some.injEq, Addr.mk.injEq] at hA
    obtain ⟨rfl, rfl, _⟩ := hA
    repeat' (first|refine K ?_|(refine Sh.sa hS ?_;clear hS;intro w hS)|(refine K3 ?_;clear hS;intro g w hS hge)|((first|refine GS ?_ ?_|refine VB ?_ ?_)<;>intro hb<;>(try simp only [J1,J2,J3,J4,J5,J6] at hb)<;>(try (exfalso;first|omega|exact hb trivial))))
    refine Dnt Tryz.results102 ?_
    exact ⟨rfl, hS.sb⟩
  · rw [if_neg h]
    refine Z.enter Tryz.func102 Tryz.ntmps102 rfl rfl ?_
    repeat' (first|refine K ?_|(refine Sh.sa hS ?_;clear hS;intro w hS)|(refine K3 ?_;clear hS;intro g w hS hge)|((first|refine GS ?_ ?_|refine VB ?_ ?_)<;>intro hb<;>(try simp only [J1,J2,J3,J4,J5,J6] at hb)<;>(try (exfalso;first|omega|exact hb trivial))))
    all_goals
      refine Dnt Tryz.results102 ?_
      exact ⟨rfl, hS.sb⟩
theorem rregion_z (c : Cfg) (a : CAd) (k : Int) (r : World) (F : List Res) (w : World) (hS : Sep r [] F w) (hr : CfR r F c a) (ho : c.ok) :
    Calls Tryz.prog 67 #[c.val a, .int .i64 k] w fun e w' => e = .returned (.int .i64 (regOf c k)) ∧ Sep r [] F w' := by
  obtain ⟨hb1, hb2⟩ := zoneOf_bd ho k
  rw [regOf_zone]
  by_cases h : 0 ≤ k ∧ k < c.cells.length
  · have hz := hb1 h
    obtain ⟨gb, o, hA, _⟩ := reads_zn hr [] hS hz
    rw [if_pos h]
    refine Z.enter Tryz.func67 Tryz.ntmps67 rfl rfl ?_
    repeat' (first|refine K ?_|(refine Sh.sa hS ?_;clear hS;intro w hS)|(refine K3 ?_;clear hS;intro g w hS hge)|((first|refine GS ?_ ?_|refine VB ?_ ?_)<;>intro hb<;>(try simp only [J1,J2,J3,J4,J5,J6] at hb)<;>(try (exfalso;first|omega|exact hb trivial))))
    refine Z.eff (Z.cl (rzone_z c a k _ _ _ hS (hr.cons _)) rfl ?_) rfl
    clear hS
    rintro e w ⟨rfl, hS⟩
    refine ⟨_, rfl, ?_⟩
    generalize zoneOf c k = z at *
    obtain ⟨zA, zc, kA, kc, tA, tc, vA, vc, rA, rc, oA, oc⟩ := a
    simp only at hA
    subst hA
    repeat' (first|refine K ?_|(refine Sh.sa hS ?_;clear hS;intro w hS)|(refine K3 ?_;clear hS;intro g w hS hge)|((first|refine GS ?_ ?_|refine VB ?_ ?_)<;>intro hb<;>(try simp only [J1,J2,J3,J4,J5,J6] at hb)<;>(try (exfalso;first|omega|exact hb trivial))))
    obtain ⟨gb', o', hA, hra⟩ := reads_zn hr [_] hS hz
    simp only [Option.some.injEq, Addr.mk.injEq] at hA
    obtain ⟨rfl, rfl, _⟩ := hA
    repeat' (first|refine K ?_|(refine Sh.sa hS ?_;clear hS;intro w hS)|(refine K3 ?_;clear hS;intro g w hS hge)|((first|refine GS ?_ ?_|refine VB ?_ ?_)<;>intro hb<;>(try simp only [J1,J2,J3,J4,J5,J6] at hb)<;>(try (exfalso;first|omega|exact hb trivial))))
    refine Dnt Tryz.results67 ?_
    exact ⟨rfl, hS.sb⟩
  · have hz := hb2 h
    rw [if_neg h]
    refine Z.enter Tryz.func67 Tryz.ntmps67 rfl rfl ?_
    repeat' (first|refine K ?_|(refine Sh.sa hS ?_;clear hS;intro w hS)|(refine K3 ?_;clear hS;intro g w hS hge)|((first|refine GS ?_ ?_|refine VB ?_ ?_)<;>intro hb<;>(try simp only [J1,J2,J3,J4,J5,J6] at hb)<;>(try (exfalso;first|omega|exact hb trivial))))
    refine Z.eff (Z.cl (rzone_z c a k _ _ _ hS (hr.cons _)) rfl ?_) rfl
    clear hS
    rintro e w ⟨rfl, hS⟩
    refine ⟨_, rfl, ?_⟩
    rw [hz]
    repeat' (first|refine K ?_|(refine Sh.sa hS ?_;clear hS;intro w hS)|(refine K3 ?_;clear hS;intro g w hS hge)|((first|refine GS ?_ ?_|refine VB ?_ ?_)<;>intro hb<;>(try simp only [J1,J2,J3,J4,J5,J6] at hb)<;>(try (exfalso;first|omega|exact hb trivial))))
    refine Dnt Tryz.results67 ?_
    exact ⟨rfl, hS.sb⟩
theorem within_z (k lo hi : Int) (r : World) (F : List Res) (w : World) (hS : Sep r [] F w) :
    Calls Tryz.prog 124 #[.int .i64 k, .int .i64 lo, .int .i64 hi] w fun e w' => e = .returned (.bool (decide (lo ≤ k ∧ k ≤ hi))) ∧ Sep r [] F w' := by
  refine Z.enter Tryz.func124 Tryz.ntmps124 rfl rfl ?_
  repeat' (first|refine K ?_|(refine Sh.sa hS ?_;clear hS;intro w hS)|(refine K3 ?_;clear hS;intro g w hS hge)|((first|refine GS ?_ ?_|refine VB ?_ ?_)<;>intro hb<;>(try simp only [J1,J2,J3,J4,J5,J6] at hb)<;>(try (exfalso;first|omega|exact hb trivial))))
  all_goals
    refine Dnt Tryz.results124 ?_
    exact ⟨by (simp [Z.packR, *]; try (intros; omega)), hS⟩
theorem pzone_z (c : Cfg) (a : CAd) (k : Int) (r : World) (F : List Res) (w : World) (hS : Sep r [] F w) (hr : CfR r F c a) (ho : c.ok) :
    Calls Tryz.prog 101 #[c.val a, .int .i64 k] w fun e w' => e = .returned (.int .i64 (zoneOf c k)) ∧ Sep r [] F w' := by
  have hl := ho.k
  unfold zoneOf
  by_cases h : 0 ≤ k ∧ k < c.cells.length
  · have h' : 0 ≤ k ∧ k ≤ (c.cells.length : Int) - 1 := by omega
    obtain ⟨gb, o, hA, _⟩ := reads_k hr [] hS h
    rw [if_pos h]
    refine Z.enter Tryz.func101 Tryz.ntmps101 rfl rfl ?_
    repeat' (first|refine K ?_|(refine Sh.sa hS ?_;clear hS;intro w hS)|(refine K3 ?_;clear hS;intro g w hS hge)|((first|refine GS ?_ ?_|refine VB ?_ ?_)<;>intro hb<;>(try simp only [J1,J2,J3,J4,J5,J6] at hb)<;>(try (exfalso;first|omega|exact hb trivial))))
    refine Z.eff (Z.cl (within_z k 0 _ _ _ _ hS) rfl ?_) rfl
    clear hS
    rintro e w ⟨rfl, hS⟩
    refine ⟨_, rfl, ?_⟩
    rw [decide_eq_true h']
    obtain ⟨zA, zc, kA, kc, tA, tc, vA, vc, rA, rc, oA, oc⟩ := a
    simp only at hA
    subst hA
    repeat' (first|refine K ?_|(refine Sh.sa hS ?_;clear hS;intro w hS)|(refine K3 ?_;clear hS;intro g w hS hge)|((first|refine GS ?_ ?_|refine VB ?_ ?_)<;>intro hb<;>(try simp only [J1,J2,J3,J4,J5,J6] at hb)<;>(try (exfalso;first|omega|exact hb trivial))))
    obtain ⟨gb', o', hA, hra⟩ := reads_k hr [_] hS h
    simp only [Option.some.injEq, Addr.mk.injEq] at hA
    obtain ⟨rfl, rfl, _⟩ := hA
    repeat' (first|refine K ?_|(refine Sh.sa hS ?_;clear hS;intro w hS)|(refine K3 ?_;clear hS;intro g w hS hge)|((first|refine GS ?_ ?_|refine VB ?_ ?_)<;>intro hb<;>(try simp only [J1,J2,J3,J4,J5,J6] at hb)<;>(try (exfalso;first|omega|exact hb trivial))))
    refine Dnt Tryz.results101 ?_
    exact ⟨rfl, hS.sb⟩
  · have h' : ¬ (0 ≤ k ∧ k ≤ (c.cells.length : Int) - 1) := by omega
    rw [if_neg h]
    refine Z.enter Tryz.func101 Tryz.ntmps101 rfl rfl ?_
    repeat' (first|refine K ?_|(refine Sh.sa hS ?_;clear hS;intro w hS)|(refine K3 ?_;clear hS;intro g w hS hge)|((first|refine GS ?_ ?_|refine VB ?_ ?_)<;>intro hb<;>(try simp only [J1,J2,J3,J4,J5,J6] at hb)<;>(try (exfalso;first|omega|exact hb trivial))))
    refine Z.eff (Z.cl (within_z k 0 _ _ _ _ hS) rfl ?_) rfl
    clear hS
    rintro e w ⟨rfl, hS⟩
    refine ⟨_, rfl, ?_⟩
    rw [decide_eq_false h']
    repeat' (first|refine K ?_|(refine Sh.sa hS ?_;clear hS;intro w hS)|(refine K3 ?_;clear hS;intro g w hS hge)|((first|refine GS ?_ ?_|refine VB ?_ ?_)<;>intro hb<;>(try simp only [J1,J2,J3,J4,J5,J6] at hb)<;>(try (exfalso;first|omega|exact hb trivial))))
    refine Dnt Tryz.results101 ?_
    exact ⟨rfl, hS.sb⟩
theorem pzreg_z (c : Cfg) (a : CAd) (k : Int) (r : World) (F : List Res) (w : World) (hS : Sep r [] F w) (hr : CfR r F c a) (ho : c.ok) :
    Calls Tryz.prog 100 #[c.val a, .int .i64 k] w fun e w' => e = .returned (.int .i64 (if 0 ≤ k ∧ k < c.zones.length then c.zones.getD k.toNat 0 else -1)) ∧ Sep r [] F w' := by
  have hl := ho.z
  by_cases h : 0 ≤ k ∧ k < c.zones.length
  · have h' : 0 ≤ k ∧ k ≤ (c.zones.length : Int) - 1 := by omega
    obtain ⟨gb, o, hA, _⟩ := reads_zn hr [] hS h
    rw [if_pos h]
    refine Z.enter Tryz.func100 Tryz.ntmps100 rfl rfl ?_
    repeat' (first|refine K ?_|(refine Sh.sa hS ?_;clear hS;intro w hS)|(refine K3 ?_;clear hS;intro g w hS hge)|((first|refine GS ?_ ?_|refine VB ?_ ?_)<;>intro hb<;>(try simp only [J1,J2,J3,J4,J5,J6] at hb)<;>(try (exfalso;first|omega|exact hb trivial))))
    refine Z.eff (Z.cl (within_z k 0 _ _ _ _ hS) rfl ?_) rfl
    clear hS
    rintro e w ⟨rfl, hS⟩
    refine ⟨_, rfl, ?_⟩
    rw [decide_eq_true h']
    obtain ⟨zA, zc, kA, kc, tA, tc, vA, vc, rA, rc, oA, oc⟩ := a
    simp only at hA
    subst hA
    repeat' (first|refine K ?_|(refine Sh.sa hS ?_;clear hS;intro w hS)|(refine K3 ?_;clear hS;intro g w hS hge)|((first|refine GS ?_ ?_|refine VB ?_ ?_)<;>intro hb<;>(try simp only [J1,J2,J3,J4,J5,J6] at hb)<;>(try (exfalso;first|omega|exact hb trivial))))
    obtain ⟨gb', o', hA, hra⟩ := reads_zn hr [_] hS h
    simp only [Option.some.injEq, Addr.mk.injEq] at hA
    obtain ⟨rfl, rfl, _⟩ := hA
    repeat' (first|refine K ?_|(refine Sh.sa hS ?_;clear hS;intro w hS)|(refine K3 ?_;clear hS;intro g w hS hge)|((first|refine GS ?_ ?_|refine VB ?_ ?_)<;>intro hb<;>(try simp only [J1,J2,J3,J4,J5,J6] at hb)<;>(try (exfalso;first|omega|exact hb trivial))))
    refine Dnt Tryz.results100 ?_
    exact ⟨rfl, hS.sb⟩
  · have h' : ¬ (0 ≤ k ∧ k ≤ (c.zones.length : Int) - 1) := by omega
    rw [if_neg h]
    refine Z.enter Tryz.func100 Tryz.ntmps100 rfl rfl ?_
    repeat' (first|refine K ?_|(refine Sh.sa hS ?_;clear hS;intro w hS)|(refine K3 ?_;clear hS;intro g w hS hge)|((first|refine GS ?_ ?_|refine VB ?_ ?_)<;>intro hb<;>(try simp only [J1,J2,J3,J4,J5,J6] at hb)<;>(try (exfalso;first|omega|exact hb trivial))))
    refine Z.eff (Z.cl (within_z k 0 _ _ _ _ hS) rfl ?_) rfl
    clear hS
    rintro e w ⟨rfl, hS⟩
    refine ⟨_, rfl, ?_⟩
    rw [decide_eq_false h']
    repeat' (first|refine K ?_|(refine Sh.sa hS ?_;clear hS;intro w hS)|(refine K3 ?_;clear hS;intro g w hS hge)|((first|refine GS ?_ ?_|refine VB ?_ ?_)<;>intro hb<;>(try simp only [J1,J2,J3,J4,J5,J6] at hb)<;>(try (exfalso;first|omega|exact hb trivial))))
    refine Dnt Tryz.results100 ?_
    exact ⟨rfl, hS.sb⟩
theorem pregion_z (c : Cfg) (a : CAd) (k : Int) (r : World) (F : List Res) (w : World) (hS : Sep r [] F w) (hr : CfR r F c a) (ho : c.ok) :
    Calls Tryz.prog 66 #[c.val a, .int .i64 k] w fun e w' => e = .returned (.int .i64 (regOf c k)) ∧ Sep r [] F w' := by
  obtain ⟨hb1, hb2⟩ := zoneOf_bd ho k
  have hreg : regOf c k = if 0 ≤ zoneOf c k ∧ zoneOf c k < c.zones.length then c.zones.getD (zoneOf c k).toNat 0 else -1 := by
    rw [regOf_zone]
    by_cases h : 0 ≤ k ∧ k < c.cells.length
    · rw [if_pos h, if_pos (hb1 h)]
    · rw [if_neg h, if_neg (by rw [hb2 h]; omega)]
  rw [hreg]
  refine Z.enter Tryz.func66 Tryz.ntmps66 rfl rfl ?_
  repeat' (first|refine K ?_|(refine Sh.sa hS ?_;clear hS;intro w hS)|(refine K3 ?_;clear hS;intro g w hS hge)|((first|refine GS ?_ ?_|refine VB ?_ ?_)<;>intro hb<;>(try simp only [J1,J2,J3,J4,J5,J6] at hb)<;>(try (exfalso;first|omega|exact hb trivial))))
  refine D.startS (Lr := [.blk g 30 (c.cl a)]) (hS.sb) 6 6 (by kernel_rfl) rfl ?_
  replace hS := hS.drew
  refine Sh.dp 2 4 ?_
  refine Sh.dl 0 5 ?_
  refine Sh.dl 1 7 ?_
  refine D.eff 3 15 rfl D.wantedN (by kernel_rfl) (by kernel_rfl) (fun _ _ h => h) ?_
  refine Z.cl (pzone_z c a k _ _ _ hS (hr.cons _) ho) rfl ?_
  clear hS
  rintro e w ⟨rfl, hS⟩
  refine ⟨_, rfl, ?_⟩
  refine ⟨HM.s (hS.sb), ?_⟩
  refine D.eff 4 31 rfl D.wantedN (by kernel_rfl) (by kernel_rfl) (fun _ _ h => h) ?_
  refine Z.cl (pzreg_z c a _ _ _ _ hS (hr.cons _) ho) rfl ?_
  clear hS
  rintro e w ⟨rfl, hS⟩
  refine ⟨_, rfl, ?_⟩
  refine ⟨HM.s (hS.sb), ?_⟩
  refine Sh.dp 5 63 ?_
  refine D.done (by kernel_rfl) ?_
  repeat' (first|refine K ?_|(refine Sh.sa hS ?_;clear hS;intro w hS)|(refine K3 ?_;clear hS;intro g w hS hge)|((first|refine GS ?_ ?_|refine VB ?_ ?_)<;>intro hb<;>(try simp only [J1,J2,J3,J4,J5,J6] at hb)<;>(try (exfalso;first|omega|exact hb trivial))))
  refine Dnt Tryz.results66 ?_
  exact ⟨rfl, hS.sb⟩
def inReg (c : Cfg) (p : Int) : List Int := ((List.range c.cells.length).filter fun i : Nat => decide (regOf c i = p)).map fun i : Nat => (i : Int)
theorem range_take {n i : Nat} (h : i < n) : (List.range n).take (i + 1) = (List.range n).take i ++ [i] := by
  rw [List.take_succ_eq_append_getElem (by simpa using h)]
  simp
def inReg' (c : Cfg) (p : Int) (i : Nat) : List Int := (((List.range c.cells.length).take i).filter fun i : Nat => decide (regOf c i = p)).map fun i : Nat => (i : Int)
theorem inReg_succ {c : Cfg} {p : Int} {i : Nat} (h : i < c.cells.length) : inReg' c p (i + 1) = inReg' c p i ++ (if regOf c i = p then [(i : Int)] else []) := by
  unfold inReg'
  rw [range_take h, List.filter_append, List.map_append]
  congr 1
  by_cases hh : regOf c i = p <;> simp [hh]
theorem inReg_len (c : Cfg) (p : Int) (i : Nat) : (inReg' c p i).length ≤ i := by
  unfold inReg'
  rw [List.length_map]
  have := List.length_filter_le (fun i : Nat => decide (regOf c i = p)) ((List.range c.cells.length).take i)
  rw [List.length_take] at this
  omega
theorem inReg_all (c : Cfg) (p : Int) : inReg' c p c.cells.length = inReg c p := by
  unfold inReg' inReg
  rw [List.take_of_length_le (by simp)]
set_option maxHeartbeats 1000000 in
theorem inreg_z (c : Cfg) (a : CAd) (p : Int) (r : World) (F : List Res) (w : World) (hS : Sep r [] F w) (hr : CfR r F c a) (ho : c.ok) :
    Calls Tryz.prog 60 #[c.val a, .int .i64 p] w fun e w' => ∃ A cap, e = .returned (.slice A (inReg c p).length cap) ∧ Sep r [] (.sl 3 1 (.slice A (inReg c p).length cap) ((inReg c p).map ztC) :: F) w' := by
  have hl := ho.k
  refine Z.enter Tryz.func60 Tryz.ntmps60 rfl rfl ?_
  repeat' (first|refine K ?_|(refine Sh.sa hS ?_;clear hS;intro w hS)|(refine K3 ?_;clear hS;intro g w hS hge)|((first|refine GS ?_ ?_|refine VB ?_ ?_)<;>intro hb<;>(try simp only [J1,J2,J3,J4,J5,J6] at hb)<;>(try (exfalso;first|omega|exact hb trivial))))
  replace hS := Z.nilsl hS 3 1 none
  refine Z.lpS [5, 6, 7, 8, 9, 10, 11, 12, 13, 14, 15, 16, 17, 18, 19, 20, 21, 22] (fun m w s => ∃ (i : Nat) (l : List Int) (A : Option Addr) (cap : Nat), s = [(5, .slice A l.length cap), (6, .int .i64 i)] ∧ l = inReg' c p i ∧ i ≤ c.cells.length ∧ m = c.cells.length - i ∧ Sep r [] (.sl 3 1 (.slice A l.length cap) (l.map ztC) :: .blk g 30 (c.cl a) :: F) w) _ [(5, .slice none 0 0), (6, .int .i64 (0 : Nat))] (by repeat (first | exact trivial | refine ⟨rfl, ?_⟩)) ⟨0, [], none, 0, rfl, by simp [inReg'], by omega, rfl, hS⟩ ?_
  clear hS
  rintro m f0 w _ ⟨i, l, A, cap, rfl, hli, hi, rfl, hS⟩
  have hll : l.length ≤ i := by rw [hli]; exact inReg_len c p i
  by_cases hlt : i < c.cells.length
  · have hsu := inReg_succ (p := p) hlt
    rw [← hli] at hsu
    repeat' (first|refine K ?_|(refine Sh.sa hS ?_;clear hS;intro w hS)|(refine K3 ?_;clear hS;intro g w hS hge)|((first|refine GS ?_ ?_|refine VB ?_ ?_)<;>intro hb<;>(try simp only [J1,J2,J3,J4,J5,J6] at hb)<;>(try (exfalso;first|omega|exact hb trivial))))
    refine Z.eff (Z.cl (rregion_z c a i _ _ _ hS (hr.app [_, _]) ho) rfl ?_) rfl
    clear hS
    rintro e w ⟨rfl, hS⟩
    refine ⟨_, rfl, ?_⟩
    repeat' (first|refine K ?_|(refine Sh.sa hS ?_;clear hS;intro w hS)|(refine K3 ?_;clear hS;intro g w hS hge)|((first|refine GS ?_ ?_|refine VB ?_ ?_)<;>intro hb<;>(try simp only [J1,J2,J3,J4,J5,J6] at hb)<;>(try (exfalso;first|omega|exact hb trivial))))
    · rw [if_pos hb] at hsu
      refine Z.eff (Z.apm (l' := [(i : Int)]) hS rfl rfl rfl (by repeat (first | exact At.here | apply At.next)) (hS.lit1 (by repeat (first | exact At.here | apply At.next)) rfl rfl) (by (try simp only [maxLen, List.length_take, List.length_drop, List.length_append, List.length_cons, List.length_nil, List.length_map]); omega) (by (try simp only [maxLen, List.length_take, List.length_drop, List.length_append, List.length_cons, List.length_nil, List.length_map]); omega) ?_) rfl
      clear hS; intro A' cap' w hS
      rw [← List.length_append] at hS ⊢
      repeat' (first|refine K ?_|(refine Sh.sa hS ?_;clear hS;intro w hS)|(refine K3 ?_;clear hS;intro g w hS hge)|((first|refine GS ?_ ?_|refine VB ?_ ?_)<;>intro hb<;>(try simp only [J1,J2,J3,J4,J5,J6] at hb)<;>(try (exfalso;first|omega|exact hb trivial))))
      refine Sh.again (c.cells.length - (i + 1)) [(5, _), (6, .int .i64 (i + 1 : Nat))] ?_
      exact ⟨i + 1, l ++ [(i : Int)], A', cap', rfl, hsu.symm, by omega, rfl, hS.sb⟩
    · rw [if_neg hb, List.append_nil] at hsu
      refine Sh.again (c.cells.length - (i + 1)) [(5, _), (6, .int .i64 (i + 1 : Nat))] ?_
      exact ⟨i + 1, l, A, cap, rfl, hsu.symm, by omega, rfl, hS.sb⟩
  · have hie : i = c.cells.length := by omega
    subst hie
    rw [inReg_all] at hli
    subst hli
    repeat' (first|refine K ?_|(refine Sh.sa hS ?_;clear hS;intro w hS)|(refine K3 ?_;clear hS;intro g w hS hge)|((first|refine GS ?_ ?_|refine VB ?_ ?_)<;>intro hb<;>(try simp only [J1,J2,J3,J4,J5,J6] at hb)<;>(try (exfalso;first|omega|exact hb trivial))))
    refine Dnt Tryz.results60 ?_
    exact ⟨A, cap, rfl, hS.sb⟩
theorem has4_z (s i : Int) (r : World) (F : List Res) (w : World) (hS : Sep r [] F w) :
    Calls Tryz.prog 85 #[.int .i64 s, .int .i64 i] w fun e w' => ∃ b, e = .returned (.bool b) ∧ Sep r [] F w' := by
  have hu : ∀ x : Int, 0 ≤ x → x < 62 → 0 ≤ IntKind.u64.wrap x := fun x h0 h1 => by
    simp [IntKind.wrap, IntKind.signed, IntKind.bits]
    omega
  refine Z.enter Tryz.func85 Tryz.ntmps85 rfl rfl ?_
  repeat' (first|refine K ?_|(refine Sh.sa hS ?_;clear hS;intro w hS)|(refine K3 ?_;clear hS;intro g w hS hge)|((first|refine GS ?_ ?_|refine VB ?_ ?_)<;>intro hb<;>(try simp only [J1,J2,J3,J4,J5,J6] at hb)<;>(try (exfalso;first|omega|exact hb trivial))))
  · have := hu i (by omega) (by omega)
    repeat' (first|refine K ?_|(refine Sh.sa hS ?_;clear hS;intro w hS)|(refine K3 ?_;clear hS;intro g w hS hge)|((first|refine GS ?_ ?_|refine VB ?_ ?_)<;>intro hb<;>(try simp only [J1,J2,J3,J4,J5,J6] at hb)<;>(try (exfalso;first|omega|exact hb trivial))))
    refine Dnt Tryz.results85 ?_
    exact ⟨_, rfl, hS⟩
  · refine Dnt Tryz.results85 ?_
    exact ⟨_, rfl, hS⟩
  · refine Dnt Tryz.results85 ?_
    exact ⟨_, rfl, hS⟩
theorem may_z (c : Cfg) (a : CAd) (t k : Int) (r : World) (F : List Res) (w : World) (hS : Sep r [] F w) (hr : CfR r F c a) (ho : c.ok) :
    Calls Tryz.prog 105 #[c.val a, .int .i64 t, .int .i64 k] w fun e w' => ∃ b, e = .returned (.bool b) ∧ Sep r [] F w' := by
  refine Z.enter Tryz.func105 Tryz.ntmps105 rfl rfl ?_
  repeat' (first|refine K ?_|(refine Sh.sa hS ?_;clear hS;intro w hS)|(refine K3 ?_;clear hS;intro g w hS hge)|((first|refine GS ?_ ?_|refine VB ?_ ?_)<;>intro hb<;>(try simp only [J1,J2,J3,J4,J5,J6] at hb)<;>(try (exfalso;first|omega|exact hb trivial))))
  by_cases h : 0 ≤ t ∧ t < c.tenants.length
  · obtain ⟨gb, o, hA, _⟩ := reads_t hr [_] hS h
    have hra : ∀ W, Sep r [] (.blk g 30 (c.cl a) :: F) W → W.rangeAt gb (o + t.toNat * 7) (c.tenants.getD t.toNat ⟨0, 0, 0, 0, 0, 0, false⟩).cells := fun W hW => by
      obtain ⟨gb', o', hA', h2⟩ := reads_t hr [_] hW h
      rw [hA] at hA'
      simp only [Option.some.injEq, Addr.mk.injEq] at hA'
      obtain ⟨rfl, rfl, _⟩ := hA'
      exact h2
    generalize c.tenants.getD t.toNat ⟨0, 0, 0, 0, 0, 0, false⟩ = x at *
    obtain ⟨zA, zc, kA, kc, tA, tc, vA, vc, rA, rc, oA, oc⟩ := a
    simp only at hA
    subst hA
    refine D.startS hS 22 22 (by kernel_rfl) rfl ?_
    replace hS := hS.drew
    refine Sh.dp 0 1 ?_
    refine Sh.dp 1 3 ?_
    refine Sh.dp 2 7 ?_
    refine D.slot 9 rfl (fun hb => ?_) (fun hb => by exfalso; (try simp only [decide_eq_true_eq, decide_eq_false_iff_not, Bool.not_eq_true', Bool.not_eq_false', Int.not_lt, Int.not_le] at hb) <;> first | omega | exact hb trivial | cases hb | simp at hb)
    (try simp only [decide_eq_true_eq, decide_eq_false_iff_not, Bool.not_eq_true', Bool.not_eq_false', Int.not_lt, Int.not_le] at hb)
    refine Sh.dp 3 15 ?_
    refine Sh.dp 4 31 ?_
    refine Sh.dl 5 63 ?_
    refine Sh.dp 6 127 ?_
    refine Sh.dp 7 255 ?_
    refine Sh.dp 8 511 ?_
    refine Sh.dp 9 1023 ?_
    refine D.slot 16 rfl (fun hb => ?_) (fun hb => by exfalso; (try simp only [decide_eq_true_eq, decide_eq_false_iff_not, Bool.not_eq_true', Bool.not_eq_false', Int.not_lt, Int.not_le] at hb) <;> first | omega | exact hb trivial | cases hb | simp at hb)
    (try simp only [decide_eq_true_eq, decide_eq_false_iff_not, Bool.not_eq_true', Bool.not_eq_false', Int.not_lt, Int.not_le] at hb)
    refine Sh.dp 10 2047 ?_
    refine Sh.dp 12 6143 ?_
    refine Sh.dp 17 137215 ?_
    refine Sh.dl 11 139263 ?_
    first | refine D.ixn 13 147455 rfl (D.wantedT rfl rfl) (by kernel_rfl) rfl rfl rfl (by omega) ?_ | refine D.ix 13 147455 rfl (D.wantedT rfl rfl) (by kernel_rfl) rfl rfl rfl (by omega) ?_ | refine D.ia 13 147455 rfl (D.wantedT rfl rfl) (by kernel_rfl) rfl rfl rfl (by omega) ?_
    refine Sh.dp 14 163839 ?_
    refine D.ldE 15 196607 rfl (D.wantedT rfl rfl) (by kernel_rfl) rfl hra rfl ?_
    refine Sh.dl 16 262143 ?_
    refine D.eff 18 524287 rfl (D.wantedT rfl rfl) (by kernel_rfl) (by kernel_rfl) (fun _ _ h => h) ?_
    refine WE.guard ?_
    refine Z.cl (rregion_z c _ k _ _ _ hS (hr.cons _) ho) rfl ?_
    clear hS
    rintro e w ⟨rfl, hS⟩
    refine ⟨_, rfl, ?_⟩
    refine ⟨HM.s (hS.sb), ?_⟩
    refine D.eff 19 1048575 rfl (D.wantedT rfl rfl) (by kernel_rfl) (by kernel_rfl) (fun _ _ h => h) ?_
    refine WE.guard ?_
    refine Z.cl (has4_z _ _ _ _ _ hS) rfl ?_
    clear hS
    rintro e w ⟨b, rfl, hS⟩
    refine ⟨_, rfl, ?_⟩
    refine ⟨HM.s (hS.sb), ?_⟩
    refine Sh.dp 20 2097151 ?_
    refine Sh.dp 21 4194303 ?_
    refine D.done (by kernel_rfl) ?_
    repeat' (first|refine K ?_|(refine Sh.sa hS ?_;clear hS;intro w hS)|(refine K3 ?_;clear hS;intro g w hS hge)|((first|refine GS ?_ ?_|refine VB ?_ ?_)<;>intro hb<;>(try simp only [J1,J2,J3,J4,J5,J6] at hb)<;>(try (exfalso;first|omega|exact hb trivial))))
    refine Dnt Tryz.results105 ?_
    exact ⟨_, rfl, hS.sb⟩
  · refine D.startS (Lr := [.blk g 30 (c.cl a)]) (hS.sb) 22 22 (by kernel_rfl) rfl ?_
    replace hS := hS.drew
    refine Sh.dp 0 1 ?_
    refine Sh.dp 1 3 ?_
    refine Sh.dp 2 7 ?_
    refine D.slot 9 rfl (fun hb => ?_) (fun hb => ?_)
    · (try simp only [decide_eq_true_eq, decide_eq_false_iff_not, Bool.not_eq_true', Bool.not_eq_false', Int.not_lt, Int.not_le] at hb)
      refine Sh.dp 3 15 ?_
      refine Sh.dp 4 31 ?_
      refine Sh.dl 5 63 ?_
      refine Sh.dp 6 127 ?_
      refine Sh.dp 7 255 ?_
      refine Sh.dp 8 511 ?_
      refine Sh.dp 9 1023 ?_
      refine D.slot 16 rfl (fun hb => by exfalso; (try simp only [decide_eq_true_eq, decide_eq_false_iff_not, Bool.not_eq_true', Bool.not_eq_false', Int.not_lt, Int.not_le] at hb) <;> first | omega | exact hb trivial | cases hb | simp at hb) (fun hb => ?_)
      (try simp only [decide_eq_true_eq, decide_eq_false_iff_not, Bool.not_eq_true', Bool.not_eq_false', Int.not_lt, Int.not_le] at hb)
      refine D.skF 10 2047 rfl (by kernel_rfl) rfl rfl ?_
      refine D.skF 11 4095 rfl (by kernel_rfl) rfl rfl ?_
      refine D.skF 12 8191 rfl (by kernel_rfl) rfl rfl ?_
      refine D.skF 13 16383 rfl (by kernel_rfl) rfl rfl ?_
      refine D.skF 14 32767 rfl (by kernel_rfl) rfl rfl ?_
      refine D.skF 15 65535 rfl (by kernel_rfl) rfl rfl ?_
      refine D.skF 16 131071 rfl (by kernel_rfl) rfl rfl ?_
      refine D.skF 17 262143 rfl (by kernel_rfl) rfl rfl ?_
      refine D.skF 18 524287 rfl (by kernel_rfl) rfl rfl ?_
      refine D.skF 19 1048575 rfl (by kernel_rfl) rfl rfl ?_
      refine Sh.dp 20 2097151 ?_
      refine Sh.dp 21 4194303 ?_
      refine D.done (by kernel_rfl) ?_
      repeat' (first|refine K ?_|(refine Sh.sa hS ?_;clear hS;intro w hS)|(refine K3 ?_;clear hS;intro g w hS hge)|((first|refine GS ?_ ?_|refine VB ?_ ?_)<;>intro hb<;>(try simp only [J1,J2,J3,J4,J5,J6] at hb)<;>(try (exfalso;first|omega|exact hb trivial))))
      refine Dnt Tryz.results105 ?_
      exact ⟨_, rfl, hS.sb⟩
    · (try simp only [decide_eq_true_eq, decide_eq_false_iff_not, Bool.not_eq_true', Bool.not_eq_false', Int.not_lt, Int.not_le] at hb)
      refine D.skF 3 15 rfl (by kernel_rfl) rfl rfl ?_
      refine D.skF 4 31 rfl (by kernel_rfl) rfl rfl ?_
      refine D.skF 5 63 rfl (by kernel_rfl) rfl rfl ?_
      refine D.skF 6 127 rfl (by kernel_rfl) rfl rfl ?_
      refine D.skF 7 255 rfl (by kernel_rfl) rfl rfl ?_
      refine Sh.dp 8 511 ?_
      refine Sh.dp 9 1023 ?_
      refine D.slot 16 rfl (fun hb => by exfalso; (try simp only [decide_eq_true_eq, decide_eq_false_iff_not, Bool.not_eq_true', Bool.not_eq_false', Int.not_lt, Int.not_le] at hb) <;> first | omega | exact hb trivial | cases hb | simp at hb) (fun hb => ?_)
      (try simp only [decide_eq_true_eq, decide_eq_false_iff_not, Bool.not_eq_true', Bool.not_eq_false', Int.not_lt, Int.not_le] at hb)
      refine D.skF 10 2047 rfl (by kernel_rfl) rfl rfl ?_
      refine D.skF 11 4095 rfl (by kernel_rfl) rfl rfl ?_
      refine D.skF 12 8191 rfl (by kernel_rfl) rfl rfl ?_
      refine D.skF 13 16383 rfl (by kernel_rfl) rfl rfl ?_
      refine D.skF 14 32767 rfl (by kernel_rfl) rfl rfl ?_
      refine D.skF 15 65535 rfl (by kernel_rfl) rfl rfl ?_
      refine D.skF 16 131071 rfl (by kernel_rfl) rfl rfl ?_
      refine D.skF 17 262143 rfl (by kernel_rfl) rfl rfl ?_
      refine D.skF 18 524287 rfl (by kernel_rfl) rfl rfl ?_
      refine D.skF 19 1048575 rfl (by kernel_rfl) rfl rfl ?_
      refine Sh.dp 20 2097151 ?_
      refine Sh.dp 21 4194303 ?_
      refine D.done (by kernel_rfl) ?_
      repeat' (first|refine K ?_|(refine Sh.sa hS ?_;clear hS;intro w hS)|(refine K3 ?_;clear hS;intro g w hS hge)|((first|refine GS ?_ ?_|refine VB ?_ ?_)<;>intro hb<;>(try simp only [J1,J2,J3,J4,J5,J6] at hb)<;>(try (exfalso;first|omega|exact hb trivial))))
      refine Dnt Tryz.results105 ?_
      exact ⟨_, rfl, hS.sb⟩
theorem apart_z (c : Cfg) (a : CAd) (i k : Int) (r : World) (F : List Res) (w : World) (hS : Sep r [] F w) (hr : CfR r F c a) (ho : c.ok) :
    Calls Tryz.prog 128 #[c.val a, .int .i64 i, .int .i64 k] w fun e w' => ∃ b, e = .returned (.bool b) ∧ Sep r [] F w' := by
  refine Z.enter Tryz.func128 Tryz.ntmps128 rfl rfl ?_
  repeat' (first|refine K ?_|(refine Sh.sa hS ?_;clear hS;intro w hS)|(refine K3 ?_;clear hS;intro g w hS hge)|((first|refine GS ?_ ?_|refine VB ?_ ?_)<;>intro hb<;>(try simp only [J1,J2,J3,J4,J5,J6] at hb)<;>(try (exfalso;first|omega|exact hb trivial))))
  refine Z.cut [7, 8, 9, 10, 11, 12, 13, 14] (fun w s => s = [(7, .int .i64 (regOf c i)), (8, .int .i64 (regOf c k))] ∧ Sep r [] (.blk g 30 (c.cl a) :: F) w) ?_ ?_
  · refine D.startS (Lr := [.blk g 30 (c.cl a)]) (hS.sb) 8 8 (by kernel_rfl) rfl ?_
    replace hS := hS.drew
    refine Sh.dp 1 2 ?_
    refine Sh.dp 4 18 ?_
    refine Sh.dl 0 19 ?_
    refine Sh.dl 3 27 ?_
    refine D.eff 2 31 rfl D.wantedN (by kernel_rfl) (by kernel_rfl) (fun _ _ h => h) ?_
    refine Z.cl (rregion_z c a i _ _ _ hS (hr.cons _) ho) rfl ?_
    clear hS
    rintro e w ⟨rfl, hS⟩
    refine ⟨_, rfl, ?_⟩
    refine ⟨HM.s (hS.sb), ?_⟩
    refine D.eff 5 63 rfl D.wantedN (by kernel_rfl) (by kernel_rfl) (fun _ _ h => h) ?_
    refine Z.cl (rregion_z c a k _ _ _ hS (hr.cons _) ho) rfl ?_
    clear hS
    rintro e w ⟨rfl, hS⟩
    refine ⟨_, rfl, ?_⟩
    refine ⟨HM.s (hS.sb), ?_⟩
    refine Sh.dp 6 127 ?_
    refine Sh.dp 7 255 ?_
    refine D.done (by kernel_rfl) ?_
    refine Sh.cut [(7, _), (8, _)] ?_
    exact ⟨rfl, hS.sb⟩
  clear hS
  rintro f0 w _ ⟨rfl, hS⟩
  repeat' (first|refine K ?_|(refine Sh.sa hS ?_;clear hS;intro w hS)|(refine K3 ?_;clear hS;intro g w hS hge)|((first|refine GS ?_ ?_|refine VB ?_ ?_)<;>intro hb<;>(try simp only [J1,J2,J3,J4,J5,J6] at hb)<;>(try (exfalso;first|omega|exact hb trivial))))
  all_goals
    refine Dnt Tryz.results128 ?_
    exact ⟨_, rfl, hS.sb⟩
theorem cellsIn {n i : Nat} {l : List Int} (h : l.length ≤ i ∧ ∀ x, x ∈ l → 0 ≤ x ∧ x < n) (hi : i < n) : (l ++ [(i : Int)]).length ≤ i + 1 ∧ ∀ x, x ∈ l ++ [(i : Int)] → 0 ≤ x ∧ x < n := by
  refine ⟨by rw [List.length_append, List.length_singleton]; omega, fun x hx => ?_⟩
  rcases List.mem_append.1 hx with hx | hx
  · exact h.2 x hx
  · rw [List.mem_singleton] at hx
    omega
set_option maxHeartbeats 1000000 in
theorem homes_z (c : Cfg) (a : CAd) (t : Int) (r : World) (F : List Res) (w : World) (hS : Sep r [] F w) (hr : CfR r F c a) (ho : c.ok) :
    Calls Tryz.prog 115 #[c.val a, .int .i64 t] w fun e w' => ∃ (l : List Int) (A : Option Addr) (cap : Nat), e = .returned (.slice A l.length cap) ∧ (l.length ≤ 16 ∧ ∀ x, x ∈ l → 0 ≤ x ∧ x < c.cells.length) ∧ Sep r [] (.sl 3 1 (.slice A l.length cap) (l.map ztC) :: F) w' := by
  have hl := ho.k
  refine Z.enter Tryz.func115 Tryz.ntmps115 rfl rfl ?_
  repeat' (first|refine K ?_|(refine Sh.sa hS ?_;clear hS;intro w hS)|(refine K3 ?_;clear hS;intro g w hS hge)|((first|refine GS ?_ ?_|refine VB ?_ ?_)<;>intro hb<;>(try simp only [J1,J2,J3,J4,J5,J6] at hb)<;>(try (exfalso;first|omega|exact hb trivial))))
  replace hS := Z.nilsl hS 3 1 none
  refine Z.lpS [5, 6, 7, 8, 9, 10, 11, 12, 13, 14, 15, 16, 17, 18, 19, 20, 21] (fun m w s => ∃ (i : Nat) (l : List Int) (A : Option Addr) (cap : Nat), s = [(5, .slice A l.length cap), (6, .int .i64 i)] ∧ (l.length ≤ i ∧ ∀ x, x ∈ l → 0 ≤ x ∧ x < c.cells.length) ∧ i ≤ c.cells.length ∧ m = c.cells.length - i ∧ Sep r [] (.sl 3 1 (.slice A l.length cap) (l.map ztC) :: .blk g 30 (c.cl a) :: F) w) _ [(5, .slice none 0 0), (6, .int .i64 (0 : Nat))] (by repeat (first | exact trivial | refine ⟨rfl, ?_⟩)) ⟨0, [], none, 0, rfl, ⟨by simp, by simp⟩, by omega, rfl, hS⟩ ?_
  clear hS
  rintro m f0 w _ ⟨i, l, A, cap, rfl, hli, hi, rfl, hS⟩
  have hll := hli.1
  by_cases hlt : i < c.cells.length
  · repeat' (first|refine K ?_|(refine Sh.sa hS ?_;clear hS;intro w hS)|(refine K3 ?_;clear hS;intro g w hS hge)|((first|refine GS ?_ ?_|refine VB ?_ ?_)<;>intro hb<;>(try simp only [J1,J2,J3,J4,J5,J6] at hb)<;>(try (exfalso;first|omega|exact hb trivial))))
    refine Z.eff (Z.cl (may_z c a t i _ _ _ hS (hr.app [_, _]) ho) rfl ?_) rfl
    clear hS
    rintro e w ⟨b, rfl, hS⟩
    refine ⟨_, rfl, ?_⟩
    repeat' (first|refine K ?_|(refine Sh.sa hS ?_;clear hS;intro w hS)|(refine K3 ?_;clear hS;intro g w hS hge)|((first|refine GS ?_ ?_|refine VB ?_ ?_)<;>intro hb<;>(try simp only [J1,J2,J3,J4,J5,J6] at hb)<;>(try (exfalso;first|omega|exact hb trivial))))
    · refine Z.eff (Z.apm (l' := [(i : Int)]) hS rfl rfl rfl (by repeat (first | exact At.here | apply At.next)) (hS.lit1 (by repeat (first | exact At.here | apply At.next)) rfl rfl) (by (try simp only [maxLen, List.length_take, List.length_drop, List.length_append, List.length_cons, List.length_nil, List.length_map]); omega) (by (try simp only [maxLen, List.length_take, List.length_drop, List.length_append, List.length_cons, List.length_nil, List.length_map]); omega) ?_) rfl
      clear hS; intro A' cap' w hS
      rw [← List.length_append] at hS ⊢
      repeat' (first|refine K ?_|(refine Sh.sa hS ?_;clear hS;intro w hS)|(refine K3 ?_;clear hS;intro g w hS hge)|((first|refine GS ?_ ?_|refine VB ?_ ?_)<;>intro hb<;>(try simp only [J1,J2,J3,J4,J5,J6] at hb)<;>(try (exfalso;first|omega|exact hb trivial))))
      refine Sh.again (c.cells.length - (i + 1)) [(5, _), (6, .int .i64 (i + 1 : Nat))] ?_
      exact ⟨i + 1, l ++ [(i : Int)], A', cap', rfl, cellsIn hli hlt, by omega, rfl, hS.sb⟩
    · refine Sh.again (c.cells.length - (i + 1)) [(5, _), (6, .int .i64 (i + 1 : Nat))] ?_
      exact ⟨i + 1, l, A, cap, rfl, ⟨by omega, hli.2⟩, by omega, rfl, hS.sb⟩
  · repeat' (first|refine K ?_|(refine Sh.sa hS ?_;clear hS;intro w hS)|(refine K3 ?_;clear hS;intro g w hS hge)|((first|refine GS ?_ ?_|refine VB ?_ ?_)<;>intro hb<;>(try simp only [J1,J2,J3,J4,J5,J6] at hb)<;>(try (exfalso;first|omega|exact hb trivial))))
    refine Dnt Tryz.results115 ?_
    exact ⟨l, A, cap, rfl, ⟨by omega, hli.2⟩, hS.sb⟩
set_option maxHeartbeats 1000000 in
theorem standbys_z (c : Cfg) (a : CAd) (t h : Int) (r : World) (F : List Res) (w : World) (hS : Sep r [] F w) (hr : CfR r F c a) (ho : c.ok) :
    Calls Tryz.prog 116 #[c.val a, .int .i64 t, .int .i64 h] w fun e w' => ∃ (l : List Int) (A : Option Addr) (cap : Nat), e = .returned (.slice A l.length cap) ∧ (l.length ≤ 16 ∧ ∀ x, x ∈ l → 0 ≤ x ∧ x < c.cells.length) ∧ Sep r [] (.sl 3 1 (.slice A l.length cap) (l.map ztC) :: F) w' := by
  have hl := ho.k
  refine Z.enter Tryz.func116 Tryz.ntmps116 rfl rfl ?_
  repeat' (first|refine K ?_|(refine Sh.sa hS ?_;clear hS;intro w hS)|(refine K3 ?_;clear hS;intro g w hS hge)|((first|refine GS ?_ ?_|refine VB ?_ ?_)<;>intro hb<;>(try simp only [J1,J2,J3,J4,J5,J6] at hb)<;>(try (exfalso;first|omega|exact hb trivial))))
  replace hS := Z.nilsl hS 3 1 none
  refine Z.lpS [7, 8, 9, 10, 11, 12, 13, 14, 15, 16, 17, 18, 19, 20, 21, 22, 23, 24, 25, 26, 27, 28, 29] (fun m w s => ∃ (i : Nat) (l : List Int) (A : Option Addr) (cap : Nat), s = [(7, .slice A l.length cap), (8, .int .i64 i)] ∧ (l.length ≤ i ∧ ∀ x, x ∈ l → 0 ≤ x ∧ x < c.cells.length) ∧ i ≤ c.cells.length ∧ m = c.cells.length - i ∧ Sep r [] (.sl 3 1 (.slice A l.length cap) (l.map ztC) :: .blk g 30 (c.cl a) :: F) w) _ [(7, .slice none 0 0), (8, .int .i64 (0 : Nat))] (by repeat (first | exact trivial | refine ⟨rfl, ?_⟩)) ⟨0, [], none, 0, rfl, ⟨by simp, by simp⟩, by omega, rfl, hS⟩ ?_
  clear hS
  rintro m f0 w _ ⟨i, l, A, cap, rfl, hli, hi, rfl, hS⟩
  have hll := hli.1
  by_cases hlt : i < c.cells.length
  · repeat' (first|refine K ?_|(refine Sh.sa hS ?_;clear hS;intro w hS)|(refine K3 ?_;clear hS;intro g w hS hge)|((first|refine GS ?_ ?_|refine VB ?_ ?_)<;>intro hb<;>(try simp only [J1,J2,J3,J4,J5,J6] at hb)<;>(try (exfalso;first|omega|exact hb trivial))))
    refine Z.eff (Z.cl (may_z c a t i _ _ _ hS (hr.app [_, _]) ho) rfl ?_) rfl
    clear hS
    rintro e w ⟨b, rfl, hS⟩
    refine ⟨_, rfl, ?_⟩
    repeat' (first|refine K ?_|(refine Sh.sa hS ?_;clear hS;intro w hS)|(refine K3 ?_;clear hS;intro g w hS hge)|((first|refine GS ?_ ?_|refine VB ?_ ?_)<;>intro hb<;>(try simp only [J1,J2,J3,J4,J5,J6] at hb)<;>(try (exfalso;first|omega|exact hb trivial))))
    · refine Z.eff (Z.cl (apart_z c a h i _ _ _ hS (hr.app [_, _]) ho) rfl ?_) rfl
      clear hS
      rintro e w ⟨b, rfl, hS⟩
      refine ⟨_, rfl, ?_⟩
      repeat' (first|refine K ?_|(refine Sh.sa hS ?_;clear hS;intro w hS)|(refine K3 ?_;clear hS;intro g w hS hge)|((first|refine GS ?_ ?_|refine VB ?_ ?_)<;>intro hb<;>(try simp only [J1,J2,J3,J4,J5,J6] at hb)<;>(try (exfalso;first|omega|exact hb trivial))))
      · refine Z.eff (Z.apm (l' := [(i : Int)]) hS rfl rfl rfl (by repeat (first | exact At.here | apply At.next)) (hS.lit1 (by repeat (first | exact At.here | apply At.next)) rfl rfl) (by (try simp only [maxLen, List.length_take, List.length_drop, List.length_append, List.length_cons, List.length_nil, List.length_map]); omega) (by (try simp only [maxLen, List.length_take, List.length_drop, List.length_append, List.length_cons, List.length_nil, List.length_map]); omega) ?_) rfl
        clear hS; intro A' cap' w hS
        rw [← List.length_append] at hS ⊢
        repeat' (first|refine K ?_|(refine Sh.sa hS ?_;clear hS;intro w hS)|(refine K3 ?_;clear hS;intro g w hS hge)|((first|refine GS ?_ ?_|refine VB ?_ ?_)<;>intro hb<;>(try simp only [J1,J2,J3,J4,J5,J6] at hb)<;>(try (exfalso;first|omega|exact hb trivial))))
        refine Sh.again (c.cells.length - (i + 1)) [(7, _), (8, .int .i64 (i + 1 : Nat))] ?_
        exact ⟨i + 1, l ++ [(i : Int)], A', cap', rfl, cellsIn hli hlt, by omega, rfl, hS.sb⟩
      · refine Sh.again (c.cells.length - (i + 1)) [(7, _), (8, .int .i64 (i + 1 : Nat))] ?_
        exact ⟨i + 1, l, A, cap, rfl, ⟨by omega, hli.2⟩, by omega, rfl, hS.sb⟩
    · refine Sh.again (c.cells.length - (i + 1)) [(7, _), (8, .int .i64 (i + 1 : Nat))] ?_
      exact ⟨i + 1, l, A, cap, rfl, ⟨by omega, hli.2⟩, by omega, rfl, hS.sb⟩
  · repeat' (first|refine K ?_|(refine Sh.sa hS ?_;clear hS;intro w hS)|(refine K3 ?_;clear hS;intro g w hS hge)|((first|refine GS ?_ ?_|refine VB ?_ ?_)<;>intro hb<;>(try simp only [J1,J2,J3,J4,J5,J6] at hb)<;>(try (exfalso;first|omega|exact hb trivial))))
    refine Dnt Tryz.results116 ?_
    exact ⟨l, A, cap, rfl, ⟨by omega, hli.2⟩, hS.sb⟩
end Go.Proofs.YtmgpionlfemhdaaGreat
