import Derived.Test.YtfmnjbhncnldmaaGreatP27
import Derived.Test.YtfmnjbhncnldmaaGreatP41
set_option linter.unusedSimpArgs false
set_option linter.unusedVariables false
namespace Go.Proofs.YtfmnjbhncnldmaaGreat
open Go.RowKit
attribute [local irreducible] Res.blk Res.sl Res.all Res.ex Res.pure Res.star
def sgl (x : Int) : Bool := decide (x = 1 ∨ x = 2 ∨ x = 4)
def sgC (c : Cfg) (t : Nat) : Bool := sgl (c.tenants.getD t ⟨0, 0, 0, 0, 0, 0, false⟩).allowed
def vN (l : List Nat) : List Int := l.map fun u => ((u : Nat) : Int)
section
variable (r : World) (F : List Res) (w : World) (hS : Sep r [] F w)
include hS
theorem ones0_z : Calls Tryz.prog 184 #[.int .u64 0] w fun e w' => e = .returned (.int .i64 0) ∧ Sep r [] F w' := by
  refine Z.enter Tryz.func184 Tryz.ntmps184 rfl rfl ?_
  repeat' (first|refine K ?_|(refine Sh.sa hS ?_;clear hS;intro w hS)|(refine K3 ?_;clear hS;intro g w hS hge)|(refine KB ?_ ?_<;>intro hb<;>(try simp only [JJ] at hb)<;>(try exact JX))|fail)
  refine Dnt Tryz.results184 ?_
  exact ⟨by kernel_rfl, hS⟩
theorem ones2_z : Calls Tryz.prog 184 #[.int .u64 2] w fun e w' => e = .returned (.int .i64 1) ∧ Sep r [] F w' := by
  refine Z.enter Tryz.func184 Tryz.ntmps184 rfl rfl ?_
  repeat' (first|refine K ?_|(refine Sh.sa hS ?_;clear hS;intro w hS)|(refine K3 ?_;clear hS;intro g w hS hge)|(refine KB ?_ ?_<;>intro hb<;>(try simp only [JJ] at hb)<;>(try exact JX))|fail)
  refine Dnt Tryz.results184 ?_
  exact ⟨by kernel_rfl, hS⟩
theorem ones3_z : Calls Tryz.prog 184 #[.int .u64 3] w fun e w' => e = .returned (.int .i64 2) ∧ Sep r [] F w' := by
  refine Z.enter Tryz.func184 Tryz.ntmps184 rfl rfl ?_
  repeat' (first|refine K ?_|(refine Sh.sa hS ?_;clear hS;intro w hS)|(refine K3 ?_;clear hS;intro g w hS hge)|(refine KB ?_ ?_<;>intro hb<;>(try simp only [JJ] at hb)<;>(try exact JX))|fail)
  refine Dnt Tryz.results184 ?_
  exact ⟨by kernel_rfl, hS⟩
theorem ones4_z : Calls Tryz.prog 184 #[.int .u64 4] w fun e w' => e = .returned (.int .i64 1) ∧ Sep r [] F w' := by
  refine Z.enter Tryz.func184 Tryz.ntmps184 rfl rfl ?_
  repeat' (first|refine K ?_|(refine Sh.sa hS ?_;clear hS;intro w hS)|(refine K3 ?_;clear hS;intro g w hS hge)|(refine KB ?_ ?_<;>intro hb<;>(try simp only [JJ] at hb)<;>(try exact JX))|fail)
  refine Dnt Tryz.results184 ?_
  exact ⟨by kernel_rfl, hS⟩
theorem ones5_z : Calls Tryz.prog 184 #[.int .u64 5] w fun e w' => e = .returned (.int .i64 2) ∧ Sep r [] F w' := by
  refine Z.enter Tryz.func184 Tryz.ntmps184 rfl rfl ?_
  repeat' (first|refine K ?_|(refine Sh.sa hS ?_;clear hS;intro w hS)|(refine K3 ?_;clear hS;intro g w hS hge)|(refine KB ?_ ?_<;>intro hb<;>(try simp only [JJ] at hb)<;>(try exact JX))|fail)
  refine Dnt Tryz.results184 ?_
  exact ⟨by kernel_rfl, hS⟩
theorem ones6_z : Calls Tryz.prog 184 #[.int .u64 6] w fun e w' => e = .returned (.int .i64 2) ∧ Sep r [] F w' := by
  refine Z.enter Tryz.func184 Tryz.ntmps184 rfl rfl ?_
  repeat' (first|refine K ?_|(refine Sh.sa hS ?_;clear hS;intro w hS)|(refine K3 ?_;clear hS;intro g w hS hge)|(refine KB ?_ ?_<;>intro hb<;>(try simp only [JJ] at hb)<;>(try exact JX))|fail)
  refine Dnt Tryz.results184 ?_
  exact ⟨by kernel_rfl, hS⟩
theorem ones7_z : Calls Tryz.prog 184 #[.int .u64 7] w fun e w' => e = .returned (.int .i64 3) ∧ Sep r [] F w' := by
  refine Z.enter Tryz.func184 Tryz.ntmps184 rfl rfl ?_
  repeat' (first|refine K ?_|(refine Sh.sa hS ?_;clear hS;intro w hS)|(refine K3 ?_;clear hS;intro g w hS hge)|(refine KB ?_ ?_<;>intro hb<;>(try simp only [JJ] at hb)<;>(try exact JX))|fail)
  refine Dnt Tryz.results184 ?_
  exact ⟨by kernel_rfl, hS⟩
theorem onesA_z (x : Int) (hx : 0 ≤ x ∧ x ≤ 7) : Calls Tryz.prog 184 #[.int .u64 x] w fun e w' => ∃ p : Int, (e = .returned (.int .i64 p) ∧ (p = 1 ↔ sgl x = true)) ∧ Sep r [] F w' := by
  rcases (by omega : x = 0 ∨ x = 1 ∨ x = 2 ∨ x = 3 ∨ x = 4 ∨ x = 5 ∨ x = 6 ∨ x = 7) with rfl | rfl | rfl | rfl | rfl | rfl | rfl | rfl
  · exact (ones0_z r F w hS).mono fun e w' h => ⟨0, ⟨h.1, by decide⟩, h.2⟩
  · exact (ones1_z r F w hS).mono fun e w' h => ⟨1, ⟨h.1, by decide⟩, h.2⟩
  · exact (ones2_z r F w hS).mono fun e w' h => ⟨1, ⟨h.1, by decide⟩, h.2⟩
  · exact (ones3_z r F w hS).mono fun e w' h => ⟨2, ⟨h.1, by decide⟩, h.2⟩
  · exact (ones4_z r F w hS).mono fun e w' h => ⟨1, ⟨h.1, by decide⟩, h.2⟩
  · exact (ones5_z r F w hS).mono fun e w' h => ⟨2, ⟨h.1, by decide⟩, h.2⟩
  · exact (ones6_z r F w hS).mono fun e w' h => ⟨2, ⟨h.1, by decide⟩, h.2⟩
  · exact (ones7_z r F w hS).mono fun e w' h => ⟨3, ⟨h.1, by decide⟩, h.2⟩
theorem onesB_z (x : Int) (hx : 0 ≤ x ∧ x ≤ 7) : Calls Tryz.prog 92 #[.int .u64 x] w fun e w' => ∃ p : Int, (e = .returned (.int .i64 p) ∧ (p = 1 ↔ sgl x = true)) ∧ Sep r [] F w' := by
  refine Z.enter Tryz.func92 Tryz.ntmps92 rfl rfl ?_
  repeat' (first|refine K ?_|(refine Sh.sa hS ?_;clear hS;intro w hS)|(refine K3 ?_;clear hS;intro g w hS hge)|(refine KB ?_ ?_<;>intro hb<;>(try simp only [JJ] at hb)<;>(try exact JX))|fail)
  refine Z.eff (Z.cl (onesA_z _ _ _ hS x hx) rfl ?_) rfl
  clear hS
  rintro e w ⟨p, ⟨rfl, hp⟩, hS⟩
  refine ⟨_, rfl, ?_⟩
  repeat' (first|refine K ?_|(refine Sh.sa hS ?_;clear hS;intro w hS)|(refine K3 ?_;clear hS;intro g w hS hge)|(refine KB ?_ ?_<;>intro hb<;>(try simp only [JJ] at hb)<;>(try exact JX))|fail)
  refine Dnt Tryz.results92 ?_
  exact ⟨p, ⟨rfl, hp⟩, hS⟩
end
set_option maxHeartbeats 4000000 in
theorem rsingle_z (c : Cfg) (a : CAd) (mk : Int) (hd : Bool) (t : Nat) (r : World) (F : List Res) (w : World) (hS : Sep r [] F w) (hr : CfR r F c a) (hv : CfgV c) (hg : c.regions ≤ 3) (ht : t < c.tenants.length) :
    Calls Tryz.prog 33 #[pbV c a mk hd, .int .i64 (t : Nat)] w fun e w' => e = .returned (.bool (sgC c t)) ∧ Sep r [] F w' := by
  have hrg := hv.ok.r
  obtain ⟨gc, o2, hA2, hra0⟩ := reads_tn hr [] hS ht
  have htn := hv.tn _ (List.getElem_mem ht)
  have hra : ∀ W, Sep r [] F W → W.rangeAt gc (o2 + t * 7) (c.tenants[t]).cells := fun W hW => at_tn hr [] hW hA2 ht
  have e0 : sgC c t = sgl c.tenants[t].allowed := by simp [sgC, List.getD_eq_getElem?_getD, ht]
  have hal : 0 ≤ c.tenants[t].allowed ∧ c.tenants[t].allowed ≤ 7 := by
    have h8 : (2 : Int) ^ c.regions.toNat ≤ 8 := by
      rcases (by omega : c.regions = 1 ∨ c.regions = 2 ∨ c.regions = 3) with h | h | h <;> rw [h] <;> decide
    omega
  rw [e0]
  clear e0 hra0
  generalize c.tenants[t] = d at *
  obtain ⟨zA, zc, kA, kc, tA, tc, vA, vc, rA, rc, oA, oc⟩ := a
  simp only at hA2
  subst hA2
  obtain ⟨d1, d2, d3, d4, al, d6, d7⟩ := d
  simp only at hal
  refine Z.enter Tryz.func33 Tryz.ntmps33 rfl rfl ?_
  repeat' (first|refine K ?_|(refine Sh.sa hS ?_;clear hS;intro w hS)|(refine K3 ?_;clear hS;intro g w hS hge)|(refine KB ?_ ?_<;>intro hb<;>(try simp only [JJ] at hb)<;>(try exact JX))|fail)
  have hra1 := hra _ hS.tail
  first | refine Z.eff (Z.ldE (q := 4) rfl hra1 rfl ?_) rfl | skip
  repeat' (first|refine K ?_|(refine Sh.sa hS ?_;clear hS;intro w hS)|(refine K3 ?_;clear hS;intro g w hS hge)|(refine KB ?_ ?_<;>intro hb<;>(try simp only [JJ] at hb)<;>(try exact JX))|fail)
  rw [u64_in hal.1 (by omega)]
  refine Z.eff (Z.cl (onesB_z _ _ _ hS al hal) rfl ?_) rfl
  clear hS
  rintro e w ⟨p, ⟨rfl, hp⟩, hS⟩
  refine ⟨_, rfl, ?_⟩
  repeat' (first|refine K ?_|(refine Sh.sa hS ?_;clear hS;intro w hS)|(refine K3 ?_;clear hS;intro g w hS hge)|(refine KB ?_ ?_<;>intro hb<;>(try simp only [JJ] at hb)<;>(try exact JX))|fail)
  refine Dnt Tryz.results33 ?_
  refine ⟨?_, hS.sb⟩
  by_cases h : p = 1
  · rw [hp.1 h, h]
    rfl
  · have : sgl al = false := by
      cases h2 : sgl al
      · rfl
      · exact absurd (hp.2 h2) h
    rw [this]
    simp [Z.packR, h]
theorem vN_len (l : List Nat) : (vN l).length = l.length := by simp [vN]
theorem vN_app (l l' : List Nat) : vN (l ++ l') = vN l ++ vN l' := by simp [vN]
theorem perm_nat {l : List Int} {n : Nat} (h : l.Perm ((List.range n).map Int.ofNat)) : ∃ o : List Nat, o.Perm (List.range n) ∧ l = vN o := by
  refine ⟨l.map Int.toNat, ?_, ?_⟩
  · have h2 := h.map Int.toNat
    rw [List.map_map] at h2
    have e : (Int.toNat ∘ Int.ofNat) = (id : Nat → Nat) := by
      funext x
      simp
    rw [e, List.map_id] at h2
    exact h2
  · unfold vN
    rw [List.map_map]
    have : ∀ x, x ∈ l → ((fun u : Nat => (u : Int)) ∘ Int.toNat) x = x := fun x hx => by
      obtain ⟨y, _, rfl⟩ := List.mem_map.1 (h.mem_iff.1 hx)
      simp
    exact (List.map_id l ▸ (List.map_congr_left this).symm : l = _)
set_option maxHeartbeats 8000000 in
theorem svars_z (c : Cfg) (a : CAd) (mk : Int) (hd : Bool) (r : World) (F : List Res) (w : World) (hS : Sep r [] F w) (hr : CfA r F c a) (hv : CfgV c) (hg : c.regions ≤ 3) (hn : c.tenants.length ≤ 5) :
    Calls Tryz.prog 160 #[pbV c a mk hd] w fun e w' => ∃ (o : List Nat) (A : Option Addr) (cap : Nat), e = .returned (.slice A (varsN (sgC c) o).length cap) ∧ o.Perm (List.range c.tenants.length) ∧ Sep r [] (.sl 3 1 (.slice A (varsN (sgC c) o).length cap) ((vN (varsN (sgC c) o)).map ztC) :: F) w' := by
  refine Z.enter Tryz.func160 Tryz.ntmps160 rfl rfl ?_
  repeat' (first|refine K ?_|(refine Sh.sa hS ?_;clear hS;intro w hS)|(refine K3 ?_;clear hS;intro g w hS hge)|(refine KB ?_ ?_<;>intro hb<;>(try simp only [JJ] at hb)<;>(try exact JX))|fail)
  rename Nat => gb
  refine Z.eff (Z.cl (nvalid_z c a _ _ _ hS (hr.cons _) hv) rfl ?_) rfl
  clear hS
  rintro e w ⟨rfl, hS⟩
  refine ⟨_, rfl, ?_⟩
  repeat' (first|refine K ?_|(refine Sh.sa hS ?_;clear hS;intro w hS)|(refine K3 ?_;clear hS;intro g w hS hge)|(refine KB ?_ ?_<;>intro hb<;>(try simp only [JJ] at hb)<;>(try exact JX))|fail)
  refine Z.eff (Z.cl (torder_z c a _ _ _ hS (hr.cf.cons _) hn) rfl ?_) rfl
  clear hS
  rintro e w ⟨Ao, co, l, rfl, hpm, hS⟩
  refine ⟨_, rfl, ?_⟩
  obtain ⟨o, hpo, rfl⟩ := perm_nat hpm
  have hol : o.length = c.tenants.length := by rw [hpo.length_eq, List.length_range]
  repeat' (first|refine K ?_|(refine Sh.sa hS ?_;clear hS;intro w hS)|(refine K3 ?_;clear hS;intro g w hS hge)|(refine KB ?_ ?_<;>intro hb<;>(try simp only [JJ] at hb)<;>(try exact JX))|fail)
  replace hS := Z.nilsl hS 3 1 none
  refine Z.lpS [3, 5, 14, 15, 16, 17, 18, 19, 20, 21, 22, 23, 24, 25, 26, 27, 28, 29, 30, 31, 32, 33] (fun m w z => ∃ (i : Nat) (A : Option Addr) (cap : Nat), z = [(3, .slice A (vN (varsN (sgC c) (o.take i))).length cap), (14, .int .i64 i)] ∧ i ≤ o.length ∧ m = o.length - i ∧ Sep r [] (.sl 3 1 (.slice A (vN (varsN (sgC c) (o.take i))).length cap) ((vN (varsN (sgC c) (o.take i))).map ztC) :: .sl 3 1 (.slice Ao c.tenants.length co) ((vN o).map ztC) :: .blk gb 84 (pbC c a mk hd) :: F) w) _ [(3, .slice none 0 0), (14, .int .i64 (0 : Nat))] TrF ⟨0, none, 0, rfl, by omega, rfl, hS.sb⟩ ?_
  clear hS
  rintro m f0 w _ ⟨i, A, cap, rfl, hi, rfl, hS⟩
  have hvl := vars_len (sgC c) (o.take i)
  rw [List.length_take] at hvl
  by_cases hlt : i < o.length
  rotate_left
  · obtain rfl : i = o.length := by omega
    rw [List.take_length] at hS ⊢
    repeat' (first|refine K ?_|(refine Sh.sa hS ?_;clear hS;intro w hS)|(refine K3 ?_;clear hS;intro g w hS hge)|(refine KB ?_ ?_<;>intro hb<;>(try simp only [JJ] at hb)<;>(try exact JX))|fail)
    refine Dnt Tryz.results160 ?_
    refine ⟨o, A, cap, by rw [vN_len]; rfl, hpo, ?_⟩
    rw [vN_len] at hS
    exact hS.sb
  have hin : o[i] < c.tenants.length := List.mem_range.1 (hpo.mem_iff.1 (List.getElem_mem hlt))
  have hsn : varsN (sgC c) (o.take (i + 1)) = varsN (sgC c) (o.take i) ++ varF (sgC c) o[i] := by
    rw [List.take_succ_eq_append_getElem hlt, varsN_snoc]
  have hli : i < (vN o).length := by rw [vN_len]; exact hlt
  have hel : (vN o)[i] = ((o[i] : Nat) : Int) := by simp [vN]
  obtain ⟨gl, ol, hAe, _, hra⟩ := (hS.slrows (e := 3) (v := .slice Ao c.tenants.length co) AtF).mat (by omega) (q := i) (by simpa using hli)
  subst hAe
  have hra2 : w.rangeAt gl (ol + i * 1) (ztC ((o[i] : Nat) : Int)) := by
    rw [← hel]
    simpa using hra
  clear hra
  generalize o[i] = t at *
  generalize varsN (sgC c) (o.take i) = vs at *
  have hfin : ∀ l1, vN vs ++ vN (varF (sgC c) t) = l1 → vN (varsN (sgC c) (o.take (i + 1))) = l1 := fun l1 h => by rw [hsn, vN_app, h]
  have hvn := vN_len vs
  repeat' (first|refine K ?_|(refine Sh.sa hS ?_;clear hS;intro w hS)|(refine K3 ?_;clear hS;intro g w hS hge)|(refine KB ?_ ?_<;>intro hb<;>(try simp only [JJ] at hb)<;>(try exact JX))|fail)
  refine Z.eff (Z.apm (fc := ztC) (l := vN vs) (l' := [2 * (t : Int)]) hS rfl rfl rfl AtF (hS.lit1 AtF rfl rfl) LnF LnF ?_) rfl
  clear hS hra2; intro A2 c2 w hS
  rw [← List.length_append] at hS ⊢
  repeat' (first|refine K ?_|(refine Sh.sa hS ?_;clear hS;intro w hS)|(refine K3 ?_;clear hS;intro g w hS hge)|(refine KB ?_ ?_<;>intro hb<;>(try simp only [JJ] at hb)<;>(try exact JX))|fail)
  refine Z.eff (Z.cl (rsingle_z c a mk hd t _ _ _ hS (hr.cf.app [_, _, _, _]) hv hg hin) rfl ?_) rfl
  clear hS
  rintro e w ⟨rfl, hS⟩
  refine ⟨_, rfl, ?_⟩
  cases hs : sgC c t
  · have hf : vN vs ++ vN (varF (sgC c) t) = vN vs ++ [2 * (t : Int)] ++ [2 * (t : Int) + 1] := by
      simp [varF, hs, vN]
    repeat' (first|refine K ?_|(refine Sh.sa hS ?_;clear hS;intro w hS)|(refine K3 ?_;clear hS;intro g w hS hge)|(refine KB ?_ ?_<;>intro hb<;>(try simp only [JJ] at hb)<;>(try exact JX))|fail)
    refine Z.eff (Z.apm (fc := ztC) (l := vN vs ++ [2 * (t : Int)]) (l' := [2 * (t : Int) + 1]) hS rfl rfl rfl AtF (hS.lit1 AtF rfl rfl) LnF LnF ?_) rfl
    clear hS; intro A3 c3 w hS
    rw [← List.length_append] at hS ⊢
    repeat' (first|refine K ?_|(refine Sh.sa hS ?_;clear hS;intro w hS)|(refine K3 ?_;clear hS;intro g w hS hge)|(refine KB ?_ ?_<;>intro hb<;>(try simp only [JJ] at hb)<;>(try exact JX))|fail)
    refine Sh.again (o.length - (i + 1)) [(3, _), (14, .int .i64 (i + 1 : Nat))] ?_
    refine ⟨i + 1, A3, c3, by rw [hfin _ hf], by omega, rfl, ?_⟩
    rw [hfin _ hf]
    exact hS.sb
  · have hf : vN vs ++ vN (varF (sgC c) t) = vN vs ++ [2 * (t : Int)] := by
      simp [varF, hs, vN]
    repeat' (first|refine K ?_|(refine Sh.sa hS ?_;clear hS;intro w hS)|(refine K3 ?_;clear hS;intro g w hS hge)|(refine KB ?_ ?_<;>intro hb<;>(try simp only [JJ] at hb)<;>(try exact JX))|fail)
    refine Sh.again (o.length - (i + 1)) [(3, _), (14, .int .i64 (i + 1 : Nat))] ?_
    refine ⟨i + 1, A2, c2, by rw [hfin _ hf], by omega, rfl, ?_⟩
    rw [hfin _ hf]
    exact hS.sb
end Go.Proofs.YtfmnjbhncnldmaaGreat
