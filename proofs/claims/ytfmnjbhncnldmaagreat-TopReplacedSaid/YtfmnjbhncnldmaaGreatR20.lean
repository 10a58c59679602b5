import Derived.Test.YtfmnjbhncnldmaaGreatR03
set_option linter.unusedSimpArgs false
set_option linter.unusedVariables false
namespace Go.Proofs.YtfmnjbhncnldmaaGreat
open Go.RowKit
attribute [local irreducible] Res.blk Res.sl Res.all Res.ex Res.pure Res.star
def zoneOf (c : Cfg) (k : Int) : Int := if 0 ≤ k ∧ k < c.cells.length then (c.cells.getD k.toNat ⟨0, 0⟩).zone else -1
theorem zoneOf_bd {c : Cfg} (ho : c.ok) (k : Int) : (0 ≤ k ∧ k < c.cells.length → 0 ≤ zoneOf c k ∧ zoneOf c k < c.zones.length) ∧ (¬ (0 ≤ k ∧ k < c.cells.length) → zoneOf c k = -1) := by
  unfold zoneOf
  refine ⟨fun h => ?_, fun h => by rw [if_neg h]⟩
  rw [if_pos h]
  have hk : k.toNat < c.cells.length := by omega
  have e : c.cells.getD k.toNat ⟨0, 0⟩ = c.cells[k.toNat] := by simp [List.getD_eq_getElem?_getD, hk]
  rw [e]
  exact ho.kz _ (List.getElem_mem hk)
theorem regOf_zone (c : Cfg) (k : Int) : regOf c k = if 0 ≤ k ∧ k < c.cells.length then c.zones.getD (zoneOf c k).toNat 0 else -1 := by
  unfold regOf zoneOf
  split <;> rfl
theorem reads_k {r w : World} {F : List Res} {c : Cfg} {a : CAd} (hr : CfR r F c a) (L : List Res) (hS : Sep r [] (L ++ F) w) {k : Int} (h : 0 ≤ k ∧ k < c.cells.length) : ∃ gb o, a.kA = some ⟨gb, o, none⟩ ∧ w.rangeAt gb (o + k.toNat * 2) (c.cells.getD k.toNat ⟨0, 0⟩).cells := by
  have hk : k.toNat < c.cells.length := by omega
  have e : c.cells.getD k.toNat ⟨0, 0⟩ = c.cells[k.toNat] := by simp [List.getD_eq_getElem?_getD, hk]
  obtain ⟨gb, o, hA, _, hra⟩ := (hr.k L w hS).mat (by omega) (q := k.toNat) (by simpa using hk)
  exact ⟨gb, o, hA, by rw [e]; simpa using hra⟩
theorem reads_zn {r w : World} {F : List Res} {c : Cfg} {a : CAd} (hr : CfR r F c a) (L : List Res) (hS : Sep r [] (L ++ F) w) {k : Int} (h : 0 ≤ k ∧ k < c.zones.length) : ∃ gb o, a.zA = some ⟨gb, o, none⟩ ∧ w.rangeAt gb (o + k.toNat * 1) (ztC (c.zones.getD k.toNat 0)) := by
  have hk : k.toNat < c.zones.length := by omega
  have e : c.zones.getD k.toNat 0 = c.zones[k.toNat] := by simp [List.getD_eq_getElem?_getD, hk]
  obtain ⟨gb, o, hA, _, hra⟩ := (hr.z L w hS).mat (by omega) (q := k.toNat) (by simpa using hk)
  exact ⟨gb, o, hA, by rw [e]; simpa using hra⟩
theorem reads_t {r w : World} {F : List Res} {c : Cfg} {a : CAd} (hr : CfR r F c a) (L : List Res) (hS : Sep r [] (L ++ F) w) {k : Int} (h : 0 ≤ k ∧ k < c.tenants.length) : ∃ gb o, a.tA = some ⟨gb, o, none⟩ ∧ w.rangeAt gb (o + k.toNat * 7) (c.tenants.getD k.toNat ⟨0, 0, 0, 0, 0, 0, false⟩).cells := by
  have hk : k.toNat < c.tenants.length := by omega
  have e : c.tenants.getD k.toNat ⟨0, 0, 0, 0, 0, 0, false⟩ = c.tenants[k.toNat] := by simp [List.getD_eq_getElem?_getD, hk]
  obtain ⟨gb, o, hA, _, hra⟩ := (hr.t L w hS).mat (by omega) (q := k.toNat) (by simpa using hk)
  exact ⟨gb, o, hA, by rw [e]; simpa using hra⟩
theorem within_z (k lo hi : Int) (r : World) (F : List Res) (w : World) (hS : Sep r [] F w) :
    Calls Tryz.prog 182 #[.int .i64 k, .int .i64 lo, .int .i64 hi] w fun e w' => e = .returned (.bool (decide (lo ≤ k ∧ k ≤ hi))) ∧ Sep r [] F w' := by
  refine Z.enter Tryz.func182 Tryz.ntmps182 rfl rfl ?_
  repeat' (first|refine K ?_|(refine Sh.sa hS ?_;clear hS;intro w hS)|(refine K3 ?_;clear hS;intro g w hS hge)|((first|refine GS ?_ ?_|refine VB ?_ ?_)<;>intro hb<;>(try simp only [JJ] at hb)<;>(try exact JX)))
  all_goals
    refine Dnt Tryz.results182 ?_
    exact ⟨by (simp [Z.packR, *]; try (intros; omega)), hS⟩
theorem pzone_z (c : Cfg) (a : CAd) (k : Int) (r : World) (F : List Res) (w : World) (hS : Sep r [] F w) (hr : CfR r F c a) (ho : c.ok) :
    Calls Tryz.prog 91 #[c.val a, .int .i64 k] w fun e w' => e = .returned (.int .i64 (zoneOf c k)) ∧ Sep r [] F w' := by
  have hl := ho.k
  unfold zoneOf
  by_cases h : 0 ≤ k ∧ k < c.cells.length
  · have h' : 0 ≤ k ∧ k ≤ (c.cells.length : Int) - 1 := by omega
    obtain ⟨gb, o, hA, _⟩ := reads_k hr [] hS h
    rw [if_pos h]
    refine Z.enter Tryz.func91 Tryz.ntmps91 rfl rfl ?_
    repeat' (first|refine K ?_|(refine Sh.sa hS ?_;clear hS;intro w hS)|(refine K3 ?_;clear hS;intro g w hS hge)|((first|refine GS ?_ ?_|refine VB ?_ ?_)<;>intro hb<;>(try simp only [JJ] at hb)<;>(try exact JX)))
    refine Z.eff (Z.cl (within_z k 0 _ _ _ _ hS) rfl ?_) rfl
    clear hS
    rintro e w ⟨rfl, hS⟩
    refine ⟨_, rfl, ?_⟩
    rw [decide_eq_true h']
    obtain ⟨zA, zc, kA, kc, tA, tc, vA, vc, rA, rc, oA, oc⟩ := a
    simp only at hA
    subst hA
    repeat' (first|refine K ?_|(refine Sh.sa hS ?_;clear hS;intro w hS)|(refine K3 ?_;clear hS;intro g w hS hge)|((first|refine GS ?_ ?_|refine VB ?_ ?_)<;>intro hb<;>(try simp only [JJ] at hb)<;>(try exact JX)))
    obtain ⟨gb', o', hA, hra⟩ := reads_k hr [_] hS h
    simp only [Option.some.injEq, Addr.mk.injEq] at hA
    obtain ⟨rfl, rfl, _⟩ := hA
    repeat' (first|refine K ?_|(refine Sh.sa hS ?_;clear hS;intro w hS)|(refine K3 ?_;clear hS;intro g w hS hge)|((first|refine GS ?_ ?_|refine VB ?_ ?_)<;>intro hb<;>(try simp only [JJ] at hb)<;>(try exact JX)))
    refine Dnt Tryz.results91 ?_
    exact ⟨rfl, hS.sb⟩
  · have h' : ¬ (0 ≤ k ∧ k ≤ (c.cells.length : Int) - 1) := by omega
    rw [if_neg h]
    refine Z.enter Tryz.func91 Tryz.ntmps91 rfl rfl ?_
    repeat' (first|refine K ?_|(refine Sh.sa hS ?_;clear hS;intro w hS)|(refine K3 ?_;clear hS;intro g w hS hge)|((first|refine GS ?_ ?_|refine VB ?_ ?_)<;>intro hb<;>(try simp only [JJ] at hb)<;>(try exact JX)))
    refine Z.eff (Z.cl (within_z k 0 _ _ _ _ hS) rfl ?_) rfl
    clear hS
    rintro e w ⟨rfl, hS⟩
    refine ⟨_, rfl, ?_⟩
    rw [decide_eq_false h']
    repeat' (first|refine K ?_|(refine Sh.sa hS ?_;clear hS;intro w hS)|(refine K3 ?_;clear hS;intro g w hS hge)|((first|refine GS ?_ ?_|refine VB ?_ ?_)<;>intro hb<;>(try simp only [JJ] at hb)<;>(try exact JX)))
    refine Dnt Tryz.results91 ?_
    exact ⟨rfl, hS.sb⟩
theorem pzreg_z (c : Cfg) (a : CAd) (k : Int) (r : World) (F : List Res) (w : World) (hS : Sep r [] F w) (hr : CfR r F c a) (ho : c.ok) :
    Calls Tryz.prog 90 #[c.val a, .int .i64 k] w fun e w' => e = .returned (.int .i64 (if 0 ≤ k ∧ k < c.zones.length then c.zones.getD k.toNat 0 else -1)) ∧ Sep r [] F w' := by
  have hl := ho.z
  by_cases h : 0 ≤ k ∧ k < c.zones.length
  · have h' : 0 ≤ k ∧ k ≤ (c.zones.length : Int) - 1 := by omega
    obtain ⟨gb, o, hA, _⟩ := reads_zn hr [] hS h
    rw [if_pos h]
    refine Z.enter Tryz.func90 Tryz.ntmps90 rfl rfl ?_
    repeat' (first|refine K ?_|(refine Sh.sa hS ?_;clear hS;intro w hS)|(refine K3 ?_;clear hS;intro g w hS hge)|((first|refine GS ?_ ?_|refine VB ?_ ?_)<;>intro hb<;>(try simp only [JJ] at hb)<;>(try exact JX)))
    refine Z.eff (Z.cl (within_z k 0 _ _ _ _ hS) rfl ?_) rfl
    clear hS
    rintro e w ⟨rfl, hS⟩
    refine ⟨_, rfl, ?_⟩
    rw [decide_eq_true h']
    obtain ⟨zA, zc, kA, kc, tA, tc, vA, vc, rA, rc, oA, oc⟩ := a
    simp only at hA
    subst hA
    repeat' (first|refine K ?_|(refine Sh.sa hS ?_;clear hS;intro w hS)|(refine K3 ?_;clear hS;intro g w hS hge)|((first|refine GS ?_ ?_|refine VB ?_ ?_)<;>intro hb<;>(try simp only [JJ] at hb)<;>(try exact JX)))
    obtain ⟨gb', o', hA, hra⟩ := reads_zn hr [_] hS h
    simp only [Option.some.injEq, Addr.mk.injEq] at hA
    obtain ⟨rfl, rfl, _⟩ := hA
    repeat' (first|refine K ?_|(refine Sh.sa hS ?_;clear hS;intro w hS)|(refine K3 ?_;clear hS;intro g w hS hge)|((first|refine GS ?_ ?_|refine VB ?_ ?_)<;>intro hb<;>(try simp only [JJ] at hb)<;>(try exact JX)))
    refine Dnt Tryz.results90 ?_
    exact ⟨rfl, hS.sb⟩
  · have h' : ¬ (0 ≤ k ∧ k ≤ (c.zones.length : Int) - 1) := by omega
    rw [if_neg h]
    refine Z.enter Tryz.func90 Tryz.ntmps90 rfl rfl ?_
    repeat' (first|refine K ?_|(refine Sh.sa hS ?_;clear hS;intro w hS)|(refine K3 ?_;clear hS;intro g w hS hge)|((first|refine GS ?_ ?_|refine VB ?_ ?_)<;>intro hb<;>(try simp only [JJ] at hb)<;>(try exact JX)))
    refine Z.eff (Z.cl (within_z k 0 _ _ _ _ hS) rfl ?_) rfl
    clear hS
    rintro e w ⟨rfl, hS⟩
    refine ⟨_, rfl, ?_⟩
    rw [decide_eq_false h']
    repeat' (first|refine K ?_|(refine Sh.sa hS ?_;clear hS;intro w hS)|(refine K3 ?_;clear hS;intro g w hS hge)|((first|refine GS ?_ ?_|refine VB ?_ ?_)<;>intro hb<;>(try simp only [JJ] at hb)<;>(try exact JX)))
    refine Dnt Tryz.results90 ?_
    exact ⟨rfl, hS.sb⟩
theorem pregion_z (c : Cfg) (a : CAd) (k : Int) (r : World) (F : List Res) (w : World) (hS : Sep r [] F w) (hr : CfR r F c a) (ho : c.ok) :
    Calls Tryz.prog 32 #[c.val a, .int .i64 k] w fun e w' => e = .returned (.int .i64 (regOf c k)) ∧ Sep r [] F w' := by
  obtain ⟨hb1, hb2⟩ := zoneOf_bd ho k
  have hreg : regOf c k = if 0 ≤ zoneOf c k ∧ zoneOf c k < c.zones.length then c.zones.getD (zoneOf c k).toNat 0 else -1 := by
    rw [regOf_zone]
    by_cases h : 0 ≤ k ∧ k < c.cells.length
    · rw [if_pos h, if_pos (hb1 h)]
    · rw [if_neg h, if_neg (by rw [hb2 h]; omega)]
  rw [hreg]
  refine Z.enter Tryz.func32 Tryz.ntmps32 rfl rfl ?_
  repeat' (first|refine K ?_|(refine Sh.sa hS ?_;clear hS;intro w hS)|(refine K3 ?_;clear hS;intro g w hS hge)|((first|refine GS ?_ ?_|refine VB ?_ ?_)<;>intro hb<;>(try simp only [JJ] at hb)<;>(try exact JX)))
  refine D.startS (Lr := [.blk g 55 (c.cl a)]) (hS.sb) 6 6 (by kernel_rfl) rfl ?_
  replace hS := hS.drew
  refine Sh.dp 2 4 ?_
  refine Sh.dl 0 5 ?_
  refine Sh.dl 1 7 ?_
  refine D.eff 3 15 rfl D.wantedN (by kernel_rfl) (by kernel_rfl) (fun _ _ h => h) ?_
  refine Z.cl (pzone_z c a k _ _ _ hS (hr.cons _) ho) rfl ?_
  clear hS
  rintro e w ⟨rfl, hS⟩
  refine ⟨_, rfl, ?_⟩
  refine ⟨HM.s (hS.sb), ?_⟩
  refine D.eff 4 31 rfl D.wantedN (by kernel_rfl) (by kernel_rfl) (fun _ _ h => h) ?_
  refine Z.cl (pzreg_z c a _ _ _ _ hS (hr.cons _) ho) rfl ?_
  clear hS
  rintro e w ⟨rfl, hS⟩
  refine ⟨_, rfl, ?_⟩
  refine ⟨HM.s (hS.sb), ?_⟩
  refine Sh.dp 5 63 ?_
  refine D.done (by kernel_rfl) ?_
  repeat' (first|refine K ?_|(refine Sh.sa hS ?_;clear hS;intro w hS)|(refine K3 ?_;clear hS;intro g w hS hge)|((first|refine GS ?_ ?_|refine VB ?_ ?_)<;>intro hb<;>(try simp only [JJ] at hb)<;>(try exact JX)))
  refine Dnt Tryz.results32 ?_
  exact ⟨rfl, hS.sb⟩
end Go.Proofs.YtfmnjbhncnldmaaGreat
