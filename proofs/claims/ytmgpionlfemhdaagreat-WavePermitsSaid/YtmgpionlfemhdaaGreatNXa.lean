/-
  Conflicts between cells, and whether a wave takes another one: the program's functions and the reference's.
-/
import Derived.Test.YtmgpionlfemhdaaGreatNUh
import Derived.Test.YtmgpionlfemhdaaGreatNXb
import Derived.Test.YtmgpionlfemhdaaGreatNXP
namespace Go.Proofs.YtmgpionlfemhdaaGreat
open Go.RowKit
set_option linter.unusedSimpArgs false
set_option linter.unusedVariables false
attribute [local irreducible] Res.blk Res.sl Res.all Res.ex Res.pure Res.star

theorem pexists_z (c : Cfg) (a : CAd) (k : Int) (r : World) (F : List Res) (w : World) (hS : Sep r [] F w) (ho : c.ok) :
    Calls Tryz.prog 29 #[c.val a, .int .i64 k] w fun e w' => e = .returned (.bool (inC c k)) ∧ Sep r [] F w' := by
  refine Z.enter Tryz.func29 Tryz.ntmps29 rfl rfl ?_
  repeat' (first|refine K ?_|(refine Sh.sa hS ?_;clear hS;intro w hS)|(refine K3 ?_;clear hS;intro g w hS hge)|((first|refine GS ?_ ?_|refine VB ?_ ?_)<;>intro hb<;>(try simp only [J1,J2,J3,J4,J5,J6] at hb)<;>(try (exfalso;first|omega|exact hb trivial))))
  · refine Dnt Tryz.results29 ?_
    refine ⟨?_, hS.sb⟩
    by_cases h2 : k < c.cells.length
    · simp [Z.packR, inC, hb, h2]
    · simp [Z.packR, inC, hb, h2]
  · refine Dnt Tryz.results29 ?_
    refine ⟨?_, hS.sb⟩
    have : ¬ 0 ≤ k := by omega
    simp [Z.packR, inC, this]
theorem rexists_z (c : Cfg) (a : CAd) (k : Int) (r : World) (F : List Res) (w : World) (hS : Sep r [] F w) (ho : c.ok) :
    Calls Tryz.prog 31 #[c.val a, .int .i64 k] w fun e w' => e = .returned (.bool (inC c k)) ∧ Sep r [] F w' := by
  refine Z.enter Tryz.func31 Tryz.ntmps31 rfl rfl ?_
  repeat' (first|refine K ?_|(refine Sh.sa hS ?_;clear hS;intro w hS)|(refine K3 ?_;clear hS;intro g w hS hge)|((first|refine GS ?_ ?_|refine VB ?_ ?_)<;>intro hb<;>(try simp only [J1,J2,J3,J4,J5,J6] at hb)<;>(try (exfalso;first|omega|exact hb trivial))))
  · refine Dnt Tryz.results31 ?_
    refine ⟨?_, hS.sb⟩
    by_cases h2 : k < c.cells.length
    · simp [Z.packR, inC, hb, h2]
    · simp [Z.packR, inC, hb, h2]
  · refine Dnt Tryz.results31 ?_
    refine ⟨?_, hS.sb⟩
    have : ¬ 0 ≤ k := by omega
    simp [Z.packR, inC, this]
def TS.val (x : TS) : Value := .agg x.cells.toArray
theorem first_z (x : TS) (k : Int) (r : World) (F : List Res) (w : World) (hS : Sep r [] F w) :
    Calls Tryz.prog 32 #[x.val, .int .i64 k] w fun e w' => e = .returned (.bool (fst37 x k)) ∧ Sep r [] F w' := by
  refine Z.enter Tryz.func32 Tryz.ntmps32 rfl rfl ?_
  repeat' (first|refine K ?_|(refine Sh.sa hS ?_;clear hS;intro w hS)|(refine K3 ?_;clear hS;intro g w hS hge)|((first|refine GS ?_ ?_|refine VB ?_ ?_)<;>intro hb<;>(try simp only [J1,J2,J3,J4,J5,J6] at hb)<;>(try (exfalso;first|omega|exact hb trivial))))
  · refine Dnt Tryz.results32 ?_
    refine ⟨?_, hS.sb⟩
    simp [Z.packR, fst37, hb]
  · refine Dnt Tryz.results32 ?_
    refine ⟨?_, hS.sb⟩
    simp [Z.packR, fst37, hb]
theorem second_z (x : TS) (k : Int) (r : World) (F : List Res) (w : World) (hS : Sep r [] F w) :
    Calls Tryz.prog 33 #[x.val, .int .i64 k] w fun e w' => e = .returned (.bool (snd37 x k)) ∧ Sep r [] F w' := by
  refine Z.enter Tryz.func33 Tryz.ntmps33 rfl rfl ?_
  repeat' (first|refine K ?_|(refine Sh.sa hS ?_;clear hS;intro w hS)|(refine K3 ?_;clear hS;intro g w hS hge)|((first|refine GS ?_ ?_|refine VB ?_ ?_)<;>intro hb<;>(try simp only [J1,J2,J3,J4,J5,J6] at hb)<;>(try (exfalso;first|omega|exact hb trivial))))
  · refine Dnt Tryz.results33 ?_
    refine ⟨?_, hS.sb⟩
    simp [Z.packR, snd37, hb]
  · refine Dnt Tryz.results33 ?_
    refine ⟨?_, hS.sb⟩
    simp [Z.packR, snd37, hb]
theorem between37_z (x : TS) (p q : Int) (r : World) (F : List Res) (w : World) (hS : Sep r [] F w) :
    Calls Tryz.prog 30 #[x.val, .int .i64 p, .int .i64 q] w fun e w' => e = .returned (.bool (btw37 x p q)) ∧ Sep r [] F w' := by
  refine Z.enter Tryz.func30 Tryz.ntmps30 rfl rfl ?_
  repeat' (first|refine K ?_|(refine Sh.sa hS ?_;clear hS;intro w hS)|(refine K3 ?_;clear hS;intro g w hS hge)|((first|refine GS ?_ ?_|refine VB ?_ ?_)<;>intro hb<;>(try simp only [J1,J2,J3,J4,J5,J6] at hb)<;>(try (exfalso;first|omega|exact hb trivial))))
  all_goals
    refine Dnt Tryz.results30 ?_
    refine ⟨?_, hS.sb⟩
    simp [Z.packR, btw37, fst37, snd37, *]
theorem any_take_succ {s : Sta} {i : Nat} (p q : Int) (h : i < s.tenants.length) : (s.tenants.take (i + 1)).any (conf1 p q) = ((s.tenants.take i).any (conf1 p q) || conf1 p q s.tenants[i]) := by
  rw [List.take_succ_eq_append_getElem h, List.any_append]
  simp
theorem conf_any {c : Cfg} {s : Sta} {p q : Int} (h0 : p ≠ q) (h1 : inC c p = true) (h2 : inC c q = true) : conf c s p q = s.tenants.any (conf1 p q) := by
  simp [conf, h0, h1, h2]
theorem any_of_take {s : Sta} {i : Nat} {p q : Int} (h : i < s.tenants.length) (h1 : conf1 p q s.tenants[i] = true) : s.tenants.any (conf1 p q) = true := List.any_eq_true.2 ⟨_, List.getElem_mem h, h1⟩
set_option maxHeartbeats 2000000 in
theorem pconf_z (c : Cfg) (a : CAd) (s : Sta) (b : SAd) (p q : Int) (r : World) (F : List Res) (w : World) (hS : Sep r [] F w) (ho : c.ok) (hs : s.ok c) (hq : StC r F s c b) :
    Calls Tryz.prog 11 #[c.val a, s.vc c b, .int .i64 p, .int .i64 q] w fun e w' => e = .returned (.bool (conf c s p q)) ∧ Sep r [] F w' := by
  have hlt := ho.t
  have hsl := hs.tl
  refine Z.enter Tryz.func11 Tryz.ntmps11 rfl rfl ?_
  repeat' (first|refine K ?_|(refine Sh.sa hS ?_;clear hS;intro w hS)|(refine K3 ?_;clear hS;intro g w hS hge)|((first|refine GS ?_ ?_|refine VB ?_ ?_)<;>intro hb<;>(try simp only [J1,J2,J3,J4,J5,J6] at hb)<;>(try (exfalso;first|omega|exact hb trivial))))
  · refine Dnt Tryz.results11 ?_
    exact ⟨by simp [conf, hb, Z.packR], hS.sb⟩
  rename_i gc _ _
  rename Nat => gs
  have hpq : p ≠ q := by first | exact hb | omega
  refine Z.eff (Z.cl (pexists_z c a p _ _ _ hS ho) rfl ?_) rfl
  clear hS
  rintro e w ⟨rfl, hS⟩
  refine ⟨_, rfl, ?_⟩
  cases h1 : inC c p
  · repeat' (first|refine K ?_|(refine Sh.sa hS ?_;clear hS;intro w hS)|(refine K3 ?_;clear hS;intro g w hS hge)|((first|refine GS ?_ ?_|refine VB ?_ ?_)<;>intro hb<;>(try simp only [J1,J2,J3,J4,J5,J6] at hb)<;>(try (exfalso;first|omega|exact hb trivial))))
    refine Dnt Tryz.results11 ?_
    exact ⟨by simp [conf, h1, Z.packR], hS.sb⟩
  repeat' (first|refine K ?_|(refine Sh.sa hS ?_;clear hS;intro w hS)|(refine K3 ?_;clear hS;intro g w hS hge)|((first|refine GS ?_ ?_|refine VB ?_ ?_)<;>intro hb<;>(try simp only [J1,J2,J3,J4,J5,J6] at hb)<;>(try (exfalso;first|omega|exact hb trivial))))
  refine Z.eff (Z.cl (pexists_z c a q _ _ _ hS ho) rfl ?_) rfl
  clear hS
  rintro e w ⟨rfl, hS⟩
  refine ⟨_, rfl, ?_⟩
  cases h2 : inC c q
  · repeat' (first|refine K ?_|(refine Sh.sa hS ?_;clear hS;intro w hS)|(refine K3 ?_;clear hS;intro g w hS hge)|((first|refine GS ?_ ?_|refine VB ?_ ?_)<;>intro hb<;>(try simp only [J1,J2,J3,J4,J5,J6] at hb)<;>(try (exfalso;first|omega|exact hb trivial))))
    refine Dnt Tryz.results11 ?_
    exact ⟨by simp [conf, h2, Z.packR], hS.sb⟩
  have hcf := conf_any (s := s) hpq h1 h2
  repeat' (first|refine K ?_|(refine Sh.sa hS ?_;clear hS;intro w hS)|(refine K3 ?_;clear hS;intro g w hS hge)|((first|refine GS ?_ ?_|refine VB ?_ ?_)<;>intro hb<;>(try simp only [J1,J2,J3,J4,J5,J6] at hb)<;>(try (exfalso;first|omega|exact hb trivial))))
  refine Z.lpS [8, 10, 29, 30, 31, 32, 33, 34, 35, 36, 37, 38, 39, 40, 41, 42, 43, 44, 45, 46, 47] (fun m w z => ∃ i : Nat, z = [(29, .int .i64 i)] ∧ i ≤ c.tenants.length ∧ (s.tenants.take i).any (conf1 p q) = false ∧ m = c.tenants.length - i ∧ Sep r [] (.blk gs 34 (s.cc c b) :: .blk gc 30 (c.cl a) :: F) w) _ [(29, .int .i64 (0 : Nat))] (by repeat (first | exact trivial | refine ⟨rfl, ?_⟩)) ⟨0, rfl, by omega, by simp, rfl, hS.sb⟩ ?_
  clear hS
  rintro m f0 w _ ⟨i, rfl, hi, hany, rfl, hS⟩
  by_cases hlt : i < c.tenants.length
  · have hlt2 : i < s.tenants.length := by omega
    obtain ⟨gb, o, hA, hra⟩ := reads_ts (hq.str hs) [_, _] hS hlt2
    obtain ⟨tA, tc, kA, kc⟩ := b
    simp only at hA
    subst hA
    have hsx := any_take_succ p q hlt2
    have hfin := any_of_take (p := p) (q := q) hlt2
    rw [hany, Bool.false_or] at hsx
    generalize s.tenants[i] = x at *
    obtain ⟨pl, sh, xh, xs, xn, xt, xe, xw⟩ := x
    cases pl
    · repeat' (first|refine K ?_|(refine Sh.sa hS ?_;clear hS;intro w hS)|(refine K3 ?_;clear hS;intro g w hS hge)|((first|refine GS ?_ ?_|refine VB ?_ ?_)<;>intro hb<;>(try simp only [J1,J2,J3,J4,J5,J6] at hb)<;>(try (exfalso;first|omega|exact hb trivial))))
      refine Sh.again (c.tenants.length - (i + 1)) [(29, .int .i64 (i + 1 : Nat))] ?_
      exact ⟨i + 1, rfl, by omega, by rw [hsx]; rfl, rfl, hS.sb⟩
    · repeat' (first|refine K ?_|(refine Sh.sa hS ?_;clear hS;intro w hS)|(refine K3 ?_;clear hS;intro g w hS hge)|((first|refine GS ?_ ?_|refine VB ?_ ?_)<;>intro hb<;>(try simp only [J1,J2,J3,J4,J5,J6] at hb)<;>(try (exfalso;first|omega|exact hb trivial))))
      refine Z.eff (Z.cl (between37_z ⟨true, sh, xh, xs, xn, xt, xe, xw⟩ p q _ _ _ hS) rfl ?_) rfl
      clear hS
      rintro e w ⟨rfl, hS⟩
      refine ⟨_, rfl, ?_⟩
      cases h3 : btw37 ⟨true, sh, xh, xs, xn, xt, xe, xw⟩ p q
      · repeat' (first|refine K ?_|(refine Sh.sa hS ?_;clear hS;intro w hS)|(refine K3 ?_;clear hS;intro g w hS hge)|((first|refine GS ?_ ?_|refine VB ?_ ?_)<;>intro hb<;>(try simp only [J1,J2,J3,J4,J5,J6] at hb)<;>(try (exfalso;first|omega|exact hb trivial))))
        refine Z.eff (Z.cl (between37_z ⟨true, sh, xh, xs, xn, xt, xe, xw⟩ q p _ _ _ hS) rfl ?_) rfl
        clear hS
        rintro e w ⟨rfl, hS⟩
        refine ⟨_, rfl, ?_⟩
        cases h4 : btw37 ⟨true, sh, xh, xs, xn, xt, xe, xw⟩ q p
        · repeat' (first|refine K ?_|(refine Sh.sa hS ?_;clear hS;intro w hS)|(refine K3 ?_;clear hS;intro g w hS hge)|((first|refine GS ?_ ?_|refine VB ?_ ?_)<;>intro hb<;>(try simp only [J1,J2,J3,J4,J5,J6] at hb)<;>(try (exfalso;first|omega|exact hb trivial))))
          refine Sh.again (c.tenants.length - (i + 1)) [(29, .int .i64 (i + 1 : Nat))] ?_
          exact ⟨i + 1, rfl, by omega, by rw [hsx]; simp [conf1, h3, h4], rfl, hS.sb⟩
        · repeat' (first|refine K ?_|(refine Sh.sa hS ?_;clear hS;intro w hS)|(refine K3 ?_;clear hS;intro g w hS hge)|((first|refine GS ?_ ?_|refine VB ?_ ?_)<;>intro hb<;>(try simp only [J1,J2,J3,J4,J5,J6] at hb)<;>(try (exfalso;first|omega|exact hb trivial))))
          refine Dnt Tryz.results11 ?_
          exact ⟨by rw [hcf, hfin (by simp [conf1, h3, h4])]; rfl, hS.sb⟩
      · repeat' (first|refine K ?_|(refine Sh.sa hS ?_;clear hS;intro w hS)|(refine K3 ?_;clear hS;intro g w hS hge)|((first|refine GS ?_ ?_|refine VB ?_ ?_)<;>intro hb<;>(try simp only [J1,J2,J3,J4,J5,J6] at hb)<;>(try (exfalso;first|omega|exact hb trivial))))
        refine Dnt Tryz.results11 ?_
        exact ⟨by rw [hcf, hfin (by simp [conf1, h3])]; rfl, hS.sb⟩
  · repeat' (first|refine K ?_|(refine Sh.sa hS ?_;clear hS;intro w hS)|(refine K3 ?_;clear hS;intro g w hS hge)|((first|refine GS ?_ ?_|refine VB ?_ ?_)<;>intro hb<;>(try simp only [J1,J2,J3,J4,J5,J6] at hb)<;>(try (exfalso;first|omega|exact hb trivial))))
    refine Dnt Tryz.results11 ?_
    rw [List.take_of_length_le (by omega)] at hany
    exact ⟨by rw [hcf, hany]; rfl, hS.sb⟩
set_option maxHeartbeats 2000000 in
theorem rconf_z (c : Cfg) (a : CAd) (s : Sta) (b : SAd) (p q : Int) (r : World) (F : List Res) (w : World) (hS : Sep r [] F w) (ho : c.ok) (hs : s.ok c) (hq : StC r F s c b) :
    Calls Tryz.prog 12 #[c.val a, s.vc c b, .int .i64 p, .int .i64 q] w fun e w' => e = .returned (.bool (conf c s p q)) ∧ Sep r [] F w' := by
  have hlt := ho.t
  have hsl := hs.tl
  refine Z.enter Tryz.func12 Tryz.ntmps12 rfl rfl ?_
  repeat' (first|refine K ?_|(refine Sh.sa hS ?_;clear hS;intro w hS)|(refine K3 ?_;clear hS;intro g w hS hge)|((first|refine GS ?_ ?_|refine VB ?_ ?_)<;>intro hb<;>(try simp only [J1,J2,J3,J4,J5,J6] at hb)<;>(try (exfalso;first|omega|exact hb trivial))))
  · refine Dnt Tryz.results12 ?_
    exact ⟨by simp [conf, hb, Z.packR], hS.sb⟩
  rename_i gc _ _
  rename Nat => gs
  have hpq : p ≠ q := by first | exact hb | omega
  refine Z.eff (Z.cl (rexists_z c a p _ _ _ hS ho) rfl ?_) rfl
  clear hS
  rintro e w ⟨rfl, hS⟩
  refine ⟨_, rfl, ?_⟩
  cases h1 : inC c p
  · repeat' (first|refine K ?_|(refine Sh.sa hS ?_;clear hS;intro w hS)|(refine K3 ?_;clear hS;intro g w hS hge)|((first|refine GS ?_ ?_|refine VB ?_ ?_)<;>intro hb<;>(try simp only [J1,J2,J3,J4,J5,J6] at hb)<;>(try (exfalso;first|omega|exact hb trivial))))
    refine Dnt Tryz.results12 ?_
    exact ⟨by simp [conf, h1, Z.packR], hS.sb⟩
  repeat' (first|refine K ?_|(refine Sh.sa hS ?_;clear hS;intro w hS)|(refine K3 ?_;clear hS;intro g w hS hge)|((first|refine GS ?_ ?_|refine VB ?_ ?_)<;>intro hb<;>(try simp only [J1,J2,J3,J4,J5,J6] at hb)<;>(try (exfalso;first|omega|exact hb trivial))))
  refine Z.eff (Z.cl (rexists_z c a q _ _ _ hS ho) rfl ?_) rfl
  clear hS
  rintro e w ⟨rfl, hS⟩
  refine ⟨_, rfl, ?_⟩
  cases h2 : inC c q
  · repeat' (first|refine K ?_|(refine Sh.sa hS ?_;clear hS;intro w hS)|(refine K3 ?_;clear hS;intro g w hS hge)|((first|refine GS ?_ ?_|refine VB ?_ ?_)<;>intro hb<;>(try simp only [J1,J2,J3,J4,J5,J6] at hb)<;>(try (exfalso;first|omega|exact hb trivial))))
    refine Dnt Tryz.results12 ?_
    exact ⟨by simp [conf, h2, Z.packR], hS.sb⟩
  have hcf := conf_any (s := s) hpq h1 h2
  repeat' (first|refine K ?_|(refine Sh.sa hS ?_;clear hS;intro w hS)|(refine K3 ?_;clear hS;intro g w hS hge)|((first|refine GS ?_ ?_|refine VB ?_ ?_)<;>intro hb<;>(try simp only [J1,J2,J3,J4,J5,J6] at hb)<;>(try (exfalso;first|omega|exact hb trivial))))
  refine Z.lpS [8, 10, 29, 30, 31, 32, 33, 34, 35, 36, 37, 38, 39, 40, 41, 42, 43, 44, 45, 46, 47, 48, 49, 50, 51, 52, 53, 54, 55] (fun m w z => ∃ i : Nat, z = [(29, .int .i64 i)] ∧ i ≤ c.tenants.length ∧ (s.tenants.take i).any (conf1 p q) = false ∧ m = c.tenants.length - i ∧ Sep r [] (.blk gs 34 (s.cc c b) :: .blk gc 30 (c.cl a) :: F) w) _ [(29, .int .i64 (0 : Nat))] (by repeat (first | exact trivial | refine ⟨rfl, ?_⟩)) ⟨0, rfl, by omega, by simp, rfl, hS.sb⟩ ?_
  clear hS
  rintro m f0 w _ ⟨i, rfl, hi, hany, rfl, hS⟩
  by_cases hlt : i < c.tenants.length
  · have hlt2 : i < s.tenants.length := by omega
    obtain ⟨gb, o, hA, hra⟩ := reads_ts (hq.str hs) [_, _] hS hlt2
    obtain ⟨tA, tc, kA, kc⟩ := b
    simp only at hA
    subst hA
    have hsx := any_take_succ p q hlt2
    have hfin := any_of_take (p := p) (q := q) hlt2
    rw [hany, Bool.false_or] at hsx
    generalize s.tenants[i] = x at *
    obtain ⟨pl, sh, xh, xs, xn, xt, xe, xw⟩ := x
    cases pl
    · repeat' (first|refine K ?_|(refine Sh.sa hS ?_;clear hS;intro w hS)|(refine K3 ?_;clear hS;intro g w hS hge)|((first|refine GS ?_ ?_|refine VB ?_ ?_)<;>intro hb<;>(try simp only [J1,J2,J3,J4,J5,J6] at hb)<;>(try (exfalso;first|omega|exact hb trivial))))
      refine Sh.again (c.tenants.length - (i + 1)) [(29, .int .i64 (i + 1 : Nat))] ?_
      exact ⟨i + 1, rfl, by omega, by rw [hsx]; rfl, rfl, hS.sb⟩
    · repeat' (first|refine K ?_|(refine Sh.sa hS ?_;clear hS;intro w hS)|(refine K3 ?_;clear hS;intro g w hS hge)|((first|refine GS ?_ ?_|refine VB ?_ ?_)<;>intro hb<;>(try simp only [J1,J2,J3,J4,J5,J6] at hb)<;>(try (exfalso;first|omega|exact hb trivial))))
      refine Z.eff (Z.cl (first_z ⟨true, sh, xh, xs, xn, xt, xe, xw⟩ p _ _ _ hS) rfl ?_) rfl
      clear hS
      rintro e w ⟨rfl, hS⟩
      refine ⟨_, rfl, ?_⟩
      have h5 : ∀ y z : Int, btw37 ⟨true, sh, xh, xs, xn, xt, xe, xw⟩ y z = (fst37 ⟨true, sh, xh, xs, xn, xt, xe, xw⟩ y && snd37 ⟨true, sh, xh, xs, xn, xt, xe, xw⟩ z) := fun _ _ => rfl
      have h6 : conf1 p q ⟨true, sh, xh, xs, xn, xt, xe, xw⟩ = (btw37 ⟨true, sh, xh, xs, xn, xt, xe, xw⟩ p q || btw37 ⟨true, sh, xh, xs, xn, xt, xe, xw⟩ q p) := rfl
      rw [h5, h5] at h6
      cases h3 : fst37 ⟨true, sh, xh, xs, xn, xt, xe, xw⟩ p
      · repeat' (first|refine K ?_|(refine Sh.sa hS ?_;clear hS;intro w hS)|(refine K3 ?_;clear hS;intro g w hS hge)|((first|refine GS ?_ ?_|refine VB ?_ ?_)<;>intro hb<;>(try simp only [J1,J2,J3,J4,J5,J6] at hb)<;>(try (exfalso;first|omega|exact hb trivial))))
        refine Z.eff (Z.cl (first_z ⟨true, sh, xh, xs, xn, xt, xe, xw⟩ q _ _ _ hS) rfl ?_) rfl
        clear hS
        rintro e w ⟨rfl, hS⟩
        refine ⟨_, rfl, ?_⟩
        cases k1 : fst37 ⟨true, sh, xh, xs, xn, xt, xe, xw⟩ q
        · repeat' (first|refine K ?_|(refine Sh.sa hS ?_;clear hS;intro w hS)|(refine K3 ?_;clear hS;intro g w hS hge)|((first|refine GS ?_ ?_|refine VB ?_ ?_)<;>intro hb<;>(try simp only [J1,J2,J3,J4,J5,J6] at hb)<;>(try (exfalso;first|omega|exact hb trivial))))
          refine Sh.again (c.tenants.length - (i + 1)) [(29, .int .i64 (i + 1 : Nat))] ?_
          exact ⟨i + 1, rfl, by omega, by rw [hsx, h6]; simp [h3, k1], rfl, hS.sb⟩
        · repeat' (first|refine K ?_|(refine Sh.sa hS ?_;clear hS;intro w hS)|(refine K3 ?_;clear hS;intro g w hS hge)|((first|refine GS ?_ ?_|refine VB ?_ ?_)<;>intro hb<;>(try simp only [J1,J2,J3,J4,J5,J6] at hb)<;>(try (exfalso;first|omega|exact hb trivial))))
          refine Z.eff (Z.cl (second_z ⟨true, sh, xh, xs, xn, xt, xe, xw⟩ p _ _ _ hS) rfl ?_) rfl
          clear hS
          rintro e w ⟨rfl, hS⟩
          refine ⟨_, rfl, ?_⟩
          cases k2 : snd37 ⟨true, sh, xh, xs, xn, xt, xe, xw⟩ p
          · repeat' (first|refine K ?_|(refine Sh.sa hS ?_;clear hS;intro w hS)|(refine K3 ?_;clear hS;intro g w hS hge)|((first|refine GS ?_ ?_|refine VB ?_ ?_)<;>intro hb<;>(try simp only [J1,J2,J3,J4,J5,J6] at hb)<;>(try (exfalso;first|omega|exact hb trivial))))
            refine Sh.again (c.tenants.length - (i + 1)) [(29, .int .i64 (i + 1 : Nat))] ?_
            exact ⟨i + 1, rfl, by omega, by rw [hsx, h6]; simp [h3, k1, k2], rfl, hS.sb⟩
          · repeat' (first|refine K ?_|(refine Sh.sa hS ?_;clear hS;intro w hS)|(refine K3 ?_;clear hS;intro g w hS hge)|((first|refine GS ?_ ?_|refine VB ?_ ?_)<;>intro hb<;>(try simp only [J1,J2,J3,J4,J5,J6] at hb)<;>(try (exfalso;first|omega|exact hb trivial))))
            refine Dnt Tryz.results12 ?_
            exact ⟨by rw [hcf, hfin (by rw [h6]; simp [h3, k1, k2])]; rfl, hS.sb⟩
      · repeat' (first|refine K ?_|(refine Sh.sa hS ?_;clear hS;intro w hS)|(refine K3 ?_;clear hS;intro g w hS hge)|((first|refine GS ?_ ?_|refine VB ?_ ?_)<;>intro hb<;>(try simp only [J1,J2,J3,J4,J5,J6] at hb)<;>(try (exfalso;first|omega|exact hb trivial))))
        refine Z.eff (Z.cl (second_z ⟨true, sh, xh, xs, xn, xt, xe, xw⟩ q _ _ _ hS) rfl ?_) rfl
        clear hS
        rintro e w ⟨rfl, hS⟩
        refine ⟨_, rfl, ?_⟩
        cases h4 : snd37 ⟨true, sh, xh, xs, xn, xt, xe, xw⟩ q
        · repeat' (first|refine K ?_|(refine Sh.sa hS ?_;clear hS;intro w hS)|(refine K3 ?_;clear hS;intro g w hS hge)|((first|refine GS ?_ ?_|refine VB ?_ ?_)<;>intro hb<;>(try simp only [J1,J2,J3,J4,J5,J6] at hb)<;>(try (exfalso;first|omega|exact hb trivial))))
          refine Z.eff (Z.cl (first_z ⟨true, sh, xh, xs, xn, xt, xe, xw⟩ q _ _ _ hS) rfl ?_) rfl
          clear hS
          rintro e w ⟨rfl, hS⟩
          refine ⟨_, rfl, ?_⟩
          cases k1 : fst37 ⟨true, sh, xh, xs, xn, xt, xe, xw⟩ q
          · repeat' (first|refine K ?_|(refine Sh.sa hS ?_;clear hS;intro w hS)|(refine K3 ?_;clear hS;intro g w hS hge)|((first|refine GS ?_ ?_|refine VB ?_ ?_)<;>intro hb<;>(try simp only [J1,J2,J3,J4,J5,J6] at hb)<;>(try (exfalso;first|omega|exact hb trivial))))
            refine Sh.again (c.tenants.length - (i + 1)) [(29, .int .i64 (i + 1 : Nat))] ?_
            exact ⟨i + 1, rfl, by omega, by rw [hsx, h6]; simp [h3, h4, k1], rfl, hS.sb⟩
          · repeat' (first|refine K ?_|(refine Sh.sa hS ?_;clear hS;intro w hS)|(refine K3 ?_;clear hS;intro g w hS hge)|((first|refine GS ?_ ?_|refine VB ?_ ?_)<;>intro hb<;>(try simp only [J1,J2,J3,J4,J5,J6] at hb)<;>(try (exfalso;first|omega|exact hb trivial))))
            refine Z.eff (Z.cl (second_z ⟨true, sh, xh, xs, xn, xt, xe, xw⟩ p _ _ _ hS) rfl ?_) rfl
            clear hS
            rintro e w ⟨rfl, hS⟩
            refine ⟨_, rfl, ?_⟩
            cases k2 : snd37 ⟨true, sh, xh, xs, xn, xt, xe, xw⟩ p
            · repeat' (first|refine K ?_|(refine Sh.sa hS ?_;clear hS;intro w hS)|(refine K3 ?_;clear hS;intro g w hS hge)|((first|refine GS ?_ ?_|refine VB ?_ ?_)<;>intro hb<;>(try simp only [J1,J2,J3,J4,J5,J6] at hb)<;>(try (exfalso;first|omega|exact hb trivial))))
              refine Sh.again (c.tenants.length - (i + 1)) [(29, .int .i64 (i + 1 : Nat))] ?_
              exact ⟨i + 1, rfl, by omega, by rw [hsx, h6]; simp [h3, h4, k1, k2], rfl, hS.sb⟩
            · repeat' (first|refine K ?_|(refine Sh.sa hS ?_;clear hS;intro w hS)|(refine K3 ?_;clear hS;intro g w hS hge)|((first|refine GS ?_ ?_|refine VB ?_ ?_)<;>intro hb<;>(try simp only [J1,J2,J3,J4,J5,J6] at hb)<;>(try (exfalso;first|omega|exact hb trivial))))
              refine Dnt Tryz.results12 ?_
              exact ⟨by rw [hcf, hfin (by rw [h6]; simp [h3, h4, k1, k2])]; rfl, hS.sb⟩
        · repeat' (first|refine K ?_|(refine Sh.sa hS ?_;clear hS;intro w hS)|(refine K3 ?_;clear hS;intro g w hS hge)|((first|refine GS ?_ ?_|refine VB ?_ ?_)<;>intro hb<;>(try simp only [J1,J2,J3,J4,J5,J6] at hb)<;>(try (exfalso;first|omega|exact hb trivial))))
          refine Dnt Tryz.results12 ?_
          exact ⟨by rw [hcf, hfin (by rw [h6]; simp [h3, h4])]; rfl, hS.sb⟩
  · repeat' (first|refine K ?_|(refine Sh.sa hS ?_;clear hS;intro w hS)|(refine K3 ?_;clear hS;intro g w hS hge)|((first|refine GS ?_ ?_|refine VB ?_ ?_)<;>intro hb<;>(try simp only [J1,J2,J3,J4,J5,J6] at hb)<;>(try (exfalso;first|omega|exact hb trivial))))
    refine Dnt Tryz.results12 ?_
    rw [List.take_of_length_le (by omega)] at hany
    exact ⟨by rw [hcf, hany]; rfl, hS.sb⟩
def joinC (c : Cfg) (s : Sta) (k x : Int) : Bool := decide (regOf c x = regOf c k) && !conf c s x k
theorem joinB_eq (c : Cfg) (s : Sta) (l : List Int) (k : Int) : joinB c s l k = (decide ((l.length : Int) < c.blast) && l.all (joinC c s k)) := rfl
theorem all_take_succ (c : Cfg) (s : Sta) {l : List Int} {i : Nat} (k : Int) (h : i < l.length) : (l.take (i + 1)).all (joinC c s k) = ((l.take i).all (joinC c s k) && joinC c s k l[i]) := by
  rw [List.take_succ_eq_append_getElem h, List.all_append]
  simp
theorem join_no {c : Cfg} {s : Sta} {l : List Int} {i : Nat} {k : Int} (h : i < l.length) (h1 : joinC c s k l[i] = false) : joinB c s l k = false := by
  rw [joinB_eq, List.all_eq_false.2 ⟨_, List.getElem_mem h, by rw [h1]; decide⟩, Bool.and_false]
theorem StC.app {r : World} {F : List Res} {s : Sta} {c : Cfg} {b : SAd} (h : StC r F s c b) (L : List Res) : StC r (L ++ F) s c b := ⟨h.t.app L, h.k.app L⟩
set_option maxHeartbeats 4000000 in
theorem pjoin_z (c : Cfg) (a : CAd) (s : Sta) (b : SAd) (A : Option Addr) (l : List Int) (cap : Nat) (k : Int) (r : World) (F : List Res) (w : World) (hS : Sep r [] F w) (hr : CfR r F c a) (ho : c.ok) (hs : s.ok c) (hq : StC r F s c b) (hrd : Reads r F 1 (.slice A l.length cap) (l.map ztC)) (hl : l.length ≤ 100000) :
    Calls Tryz.prog 37 #[c.val a, s.vc c b, .slice A l.length cap, .int .i64 k] w fun e w' => e = .returned (.bool (joinB c s l k)) ∧ Sep r [] F w' := by
  refine Z.enter Tryz.func37 Tryz.ntmps37 rfl rfl ?_
  repeat' (first|refine K ?_|(refine Sh.sa hS ?_;clear hS;intro w hS)|(refine K3 ?_;clear hS;intro g w hS hge)|((first|refine GS ?_ ?_|refine VB ?_ ?_)<;>intro hb<;>(try simp only [J1,J2,J3,J4,J5,J6] at hb)<;>(try (exfalso;first|omega|exact hb trivial))))
  · refine Dnt Tryz.results37 ?_
    have h1 : ¬ (l.length : Int) < c.blast := by omega
    exact ⟨by simp [joinB, h1, Z.packR], hS.sb⟩
  rename_i gc _ _
  rename Nat => gs
  refine Z.lpS [8, 10, 18, 19, 20, 21, 22, 23, 24, 25, 26, 27, 28, 29, 30, 31, 32, 33, 34, 35, 36] (fun m w z => ∃ i : Nat, z = [(18, .int .i64 i)] ∧ i ≤ l.length ∧ (l.take i).all (joinC c s k) = true ∧ m = l.length - i ∧ Sep r [] (.blk gs 34 (s.cc c b) :: .blk gc 30 (c.cl a) :: F) w) _ [(18, .int .i64 (0 : Nat))] (by repeat (first | exact trivial | refine ⟨rfl, ?_⟩)) ⟨0, rfl, by omega, by simp, rfl, hS.sb⟩ ?_
  clear hS
  rintro m f0 w _ ⟨i, rfl, hi, hall, rfl, hS⟩
  by_cases hlt : i < l.length
  · obtain ⟨gb, o, rfl, hra⟩ := int_get hrd [_, _] hS hlt
    have hsx := all_take_succ c s k hlt
    have hfin := join_no (c := c) (s := s) (k := k) hlt
    rw [hall, Bool.true_and] at hsx
    generalize l[i] = x at *
    repeat' (first|refine K ?_|(refine Sh.sa hS ?_;clear hS;intro w hS)|(refine K3 ?_;clear hS;intro g w hS hge)|((first|refine GS ?_ ?_|refine VB ?_ ?_)<;>intro hb<;>(try simp only [J1,J2,J3,J4,J5,J6] at hb)<;>(try (exfalso;first|omega|exact hb trivial))))
    clear hra
    by_cases hreg : regOf c x = regOf c k
    · cases hcf : conf c s x k
      · refine D.startS (Lr := [.blk gs 34 (s.cc c b), .blk gc 30 (c.cl a)]) (hS.sb) 14 14 (by kernel_rfl) rfl ?_
        replace hS := hS.drew
        refine Sh.dp 1 2 ?_
        refine Sh.dp 4 18 ?_
        refine Sh.dl 0 19 ?_
        refine Sh.dl 3 27 ?_
        refine D.eff 2 31 rfl D.wantedN (by kernel_rfl) (by kernel_rfl) (fun _ _ h => h) ?_
        refine Z.cl (pregion_z c a x _ _ _ hS (hr.app [_, _]) ho) rfl ?_
        clear hS
        rintro e w ⟨rfl, hS⟩
        refine ⟨_, rfl, ?_⟩
        refine ⟨HM.s (hS.sb), ?_⟩
        refine D.eff 5 63 rfl D.wantedN (by kernel_rfl) (by kernel_rfl) (fun _ _ h => h) ?_
        refine Z.cl (pregion_z c a k _ _ _ hS (hr.app [_, _]) ho) rfl ?_
        clear hS
        rintro e w ⟨rfl, hS⟩
        refine ⟨_, rfl, ?_⟩
        refine ⟨HM.s (hS.sb), ?_⟩
        first | refine D.pr 6 127 rfl D.wantedN (by kernel_rfl) rfl ?_ | refine D.pl 6 127 rfl D.wantedN (by kernel_rfl) (R.nea rfl rfl rfl rfl) ?_
        refine Sh.dp 7 255 ?_
        refine D.slot 29 rfl (fun hb => by exfalso; (try simp only [decide_eq_true_eq, decide_eq_false_iff_not, Bool.not_eq_true', Bool.not_eq_false', Int.not_lt, Int.not_le] at hb) <;> first | omega | exact hb trivial | cases hb | simp at hb) (fun hb => ?_)
        (try simp only [decide_eq_true_eq, decide_eq_false_iff_not, Bool.not_eq_true', Bool.not_eq_false', Int.not_lt, Int.not_le] at hb)
        refine Sh.dp 10 1279 ?_
        refine Sh.dp 11 3327 ?_
        refine Sh.dl 8 3583 ?_
        refine Sh.dl 9 4095 ?_
        refine D.eff 12 8191 rfl (D.wantedT rfl rfl) (by kernel_rfl) (by kernel_rfl) (fun _ _ h => h) ?_
        refine WE.guard ?_
        refine Z.cl (pconf_z c a s b x k _ _ _ hS ho hs (hq.app [_, _])) rfl ?_
        clear hS
        rintro e w ⟨rfl, hS⟩
        refine ⟨_, rfl, ?_⟩
        rw [hcf]
        refine ⟨HM.s (hS.sb), ?_⟩
        refine Sh.dp 13 16383 ?_
        refine D.done (by kernel_rfl) ?_
        repeat' (first|refine K ?_|(refine Sh.sa hS ?_;clear hS;intro w hS)|(refine K3 ?_;clear hS;intro g w hS hge)|((first|refine GS ?_ ?_|refine VB ?_ ?_)<;>intro hb<;>(try simp only [J1,J2,J3,J4,J5,J6] at hb)<;>(try (exfalso;first|omega|exact hb trivial))))
        refine Sh.again (l.length - (i + 1)) [(18, .int .i64 (i + 1 : Nat))] ?_
        exact ⟨i + 1, rfl, by omega, by rw [hsx]; simp [joinC, hreg, hcf], rfl, hS.sb⟩
      · refine D.startS (Lr := [.blk gs 34 (s.cc c b), .blk gc 30 (c.cl a)]) (hS.sb) 14 14 (by kernel_rfl) rfl ?_
        replace hS := hS.drew
        refine Sh.dp 1 2 ?_
        refine Sh.dp 4 18 ?_
        refine Sh.dl 0 19 ?_
        refine Sh.dl 3 27 ?_
        refine D.eff 2 31 rfl D.wantedN (by kernel_rfl) (by kernel_rfl) (fun _ _ h => h) ?_
        refine Z.cl (pregion_z c a x _ _ _ hS (hr.app [_, _]) ho) rfl ?_
        clear hS
        rintro e w ⟨rfl, hS⟩
        refine ⟨_, rfl, ?_⟩
        refine ⟨HM.s (hS.sb), ?_⟩
        refine D.eff 5 63 rfl D.wantedN (by kernel_rfl) (by kernel_rfl) (fun _ _ h => h) ?_
        refine Z.cl (pregion_z c a k _ _ _ hS (hr.app [_, _]) ho) rfl ?_
        clear hS
        rintro e w ⟨rfl, hS⟩
        refine ⟨_, rfl, ?_⟩
        refine ⟨HM.s (hS.sb), ?_⟩
        first | refine D.pr 6 127 rfl D.wantedN (by kernel_rfl) rfl ?_ | refine D.pl 6 127 rfl D.wantedN (by kernel_rfl) (R.nea rfl rfl rfl rfl) ?_
        refine Sh.dp 7 255 ?_
        refine D.slot 29 rfl (fun hb => by exfalso; (try simp only [decide_eq_true_eq, decide_eq_false_iff_not, Bool.not_eq_true', Bool.not_eq_false', Int.not_lt, Int.not_le] at hb) <;> first | omega | exact hb trivial | cases hb | simp at hb) (fun hb => ?_)
        (try simp only [decide_eq_true_eq, decide_eq_false_iff_not, Bool.not_eq_true', Bool.not_eq_false', Int.not_lt, Int.not_le] at hb)
        refine Sh.dp 10 1279 ?_
        refine Sh.dp 11 3327 ?_
        refine Sh.dl 8 3583 ?_
        refine Sh.dl 9 4095 ?_
        refine D.eff 12 8191 rfl (D.wantedT rfl rfl) (by kernel_rfl) (by kernel_rfl) (fun _ _ h => h) ?_
        refine WE.guard ?_
        refine Z.cl (pconf_z c a s b x k _ _ _ hS ho hs (hq.app [_, _])) rfl ?_
        clear hS
        rintro e w ⟨rfl, hS⟩
        refine ⟨_, rfl, ?_⟩
        rw [hcf]
        refine ⟨HM.s (hS.sb), ?_⟩
        refine Sh.dp 13 16383 ?_
        refine D.done (by kernel_rfl) ?_
        repeat' (first|refine K ?_|(refine Sh.sa hS ?_;clear hS;intro w hS)|(refine K3 ?_;clear hS;intro g w hS hge)|((first|refine GS ?_ ?_|refine VB ?_ ?_)<;>intro hb<;>(try simp only [J1,J2,J3,J4,J5,J6] at hb)<;>(try (exfalso;first|omega|exact hb trivial))))
        refine Dnt Tryz.results37 ?_
        exact ⟨by rw [hfin (by simp [joinC, hreg, hcf])]; rfl, hS.sb⟩
    · refine D.startS (Lr := [.blk gs 34 (s.cc c b), .blk gc 30 (c.cl a)]) (hS.sb) 14 14 (by kernel_rfl) rfl ?_
      replace hS := hS.drew
      refine Sh.dp 1 2 ?_
      refine Sh.dp 4 18 ?_
      refine Sh.dl 0 19 ?_
      refine Sh.dl 3 27 ?_
      refine D.eff 2 31 rfl D.wantedN (by kernel_rfl) (by kernel_rfl) (fun _ _ h => h) ?_
      refine Z.cl (pregion_z c a x _ _ _ hS (hr.app [_, _]) ho) rfl ?_
      clear hS
      rintro e w ⟨rfl, hS⟩
      refine ⟨_, rfl, ?_⟩
      refine ⟨HM.s (hS.sb), ?_⟩
      refine D.eff 5 63 rfl D.wantedN (by kernel_rfl) (by kernel_rfl) (fun _ _ h => h) ?_
      refine Z.cl (pregion_z c a k _ _ _ hS (hr.app [_, _]) ho) rfl ?_
      clear hS
      rintro e w ⟨rfl, hS⟩
      refine ⟨_, rfl, ?_⟩
      refine ⟨HM.s (hS.sb), ?_⟩
      first | refine D.pr 6 127 rfl D.wantedN (by kernel_rfl) rfl ?_ | refine D.pl 6 127 rfl D.wantedN (by kernel_rfl) (R.nea rfl rfl rfl rfl) ?_
      refine Sh.dp 7 255 ?_
      refine D.slot 29 rfl (fun hb => ?_) (fun hb => by exfalso; (try simp only [decide_eq_true_eq, decide_eq_false_iff_not, Bool.not_eq_true', Bool.not_eq_false', Int.not_lt, Int.not_le] at hb) <;> first | omega | exact hb trivial | cases hb | simp at hb)
      (try simp only [decide_eq_true_eq, decide_eq_false_iff_not, Bool.not_eq_true', Bool.not_eq_false', Int.not_lt, Int.not_le] at hb)
      refine D.skF 8 511 rfl (by kernel_rfl) rfl rfl ?_
      refine D.skF 9 1023 rfl (by kernel_rfl) rfl rfl ?_
      refine D.skF 10 2047 rfl (by kernel_rfl) rfl rfl ?_
      refine D.skF 11 4095 rfl (by kernel_rfl) rfl rfl ?_
      refine D.skF 12 8191 rfl (by kernel_rfl) rfl rfl ?_
      refine Sh.dp 13 16383 ?_
      refine D.done (by kernel_rfl) ?_
      repeat' (first|refine K ?_|(refine Sh.sa hS ?_;clear hS;intro w hS)|(refine K3 ?_;clear hS;intro g w hS hge)|((first|refine GS ?_ ?_|refine VB ?_ ?_)<;>intro hb<;>(try simp only [J1,J2,J3,J4,J5,J6] at hb)<;>(try (exfalso;first|omega|exact hb trivial))))
      refine Dnt Tryz.results37 ?_
      exact ⟨by rw [hfin (by simp [joinC, hreg])]; rfl, hS.sb⟩
  · repeat' (first|refine K ?_|(refine Sh.sa hS ?_;clear hS;intro w hS)|(refine K3 ?_;clear hS;intro g w hS hge)|((first|refine GS ?_ ?_|refine VB ?_ ?_)<;>intro hb<;>(try simp only [J1,J2,J3,J4,J5,J6] at hb)<;>(try (exfalso;first|omega|exact hb trivial))))
    refine Dnt Tryz.results37 ?_
    rw [List.take_of_length_le (by omega)] at hall
    have hbl : (l.length : Int) < c.blast := by omega
    exact ⟨by rw [joinB_eq, hall]; simp [hbl, Z.packR], hS.sb⟩
set_option maxHeartbeats 4000000 in
theorem rjoin_z (c : Cfg) (a : CAd) (s : Sta) (b : SAd) (A : Option Addr) (l : List Int) (cap : Nat) (k : Int) (r : World) (F : List Res) (w : World) (hS : Sep r [] F w) (hr : CfR r F c a) (ho : c.ok) (hs : s.ok c) (hq : StC r F s c b) (hrd : Reads r F 1 (.slice A l.length cap) (l.map ztC)) (hl : l.length ≤ 100000) :
    Calls Tryz.prog 39 #[c.val a, s.vc c b, .slice A l.length cap, .int .i64 k] w fun e w' => e = .returned (.bool (joinB c s l k)) ∧ Sep r [] F w' := by
  refine Z.enter Tryz.func39 Tryz.ntmps39 rfl rfl ?_
  repeat' (first|refine K ?_|(refine Sh.sa hS ?_;clear hS;intro w hS)|(refine K3 ?_;clear hS;intro g w hS hge)|((first|refine GS ?_ ?_|refine VB ?_ ?_)<;>intro hb<;>(try simp only [J1,J2,J3,J4,J5,J6] at hb)<;>(try (exfalso;first|omega|exact hb trivial))))
  rename_i gc _ _
  rename Nat => gs
  refine Z.lpS [8, 10, 13, 14, 15, 16, 17, 18, 19, 20, 21, 22, 23, 24, 25, 26, 27, 28, 29, 30, 31] (fun m w z => ∃ i : Nat, z = [(13, .int .i64 i)] ∧ i ≤ l.length ∧ (l.take i).all (joinC c s k) = true ∧ m = l.length - i ∧ Sep r [] (.blk gs 34 (s.cc c b) :: .blk gc 30 (c.cl a) :: F) w) _ [(13, .int .i64 (0 : Nat))] (by repeat (first | exact trivial | refine ⟨rfl, ?_⟩)) ⟨0, rfl, by omega, by simp, rfl, hS.sb⟩ ?_
  clear hS
  rintro m f0 w _ ⟨i, rfl, hi, hall, rfl, hS⟩
  by_cases hlt : i < l.length
  · obtain ⟨gb, o, rfl, hra⟩ := int_get hrd [_, _] hS hlt
    have hsx := all_take_succ c s k hlt
    have hfin := join_no (c := c) (s := s) (k := k) hlt
    rw [hall, Bool.true_and] at hsx
    generalize l[i] = x at *
    repeat' (first|refine K ?_|(refine Sh.sa hS ?_;clear hS;intro w hS)|(refine K3 ?_;clear hS;intro g w hS hge)|((first|refine GS ?_ ?_|refine VB ?_ ?_)<;>intro hb<;>(try simp only [J1,J2,J3,J4,J5,J6] at hb)<;>(try (exfalso;first|omega|exact hb trivial))))
    clear hra
    by_cases hreg : regOf c x = regOf c k
    · cases hcf : conf c s x k
      · refine D.startS (Lr := [.blk gs 34 (s.cc c b), .blk gc 30 (c.cl a)]) (hS.sb) 14 14 (by kernel_rfl) rfl ?_
        replace hS := hS.drew
        refine Sh.dp 1 2 ?_
        refine Sh.dp 4 18 ?_
        refine Sh.dl 0 19 ?_
        refine Sh.dl 3 27 ?_
        refine D.eff 2 31 rfl D.wantedN (by kernel_rfl) (by kernel_rfl) (fun _ _ h => h) ?_
        refine Z.cl (rregion_z c a x _ _ _ hS (hr.app [_, _]) ho) rfl ?_
        clear hS
        rintro e w ⟨rfl, hS⟩
        refine ⟨_, rfl, ?_⟩
        refine ⟨HM.s (hS.sb), ?_⟩
        refine D.eff 5 63 rfl D.wantedN (by kernel_rfl) (by kernel_rfl) (fun _ _ h => h) ?_
        refine Z.cl (rregion_z c a k _ _ _ hS (hr.app [_, _]) ho) rfl ?_
        clear hS
        rintro e w ⟨rfl, hS⟩
        refine ⟨_, rfl, ?_⟩
        refine ⟨HM.s (hS.sb), ?_⟩
        first | refine D.pr 6 127 rfl D.wantedN (by kernel_rfl) rfl ?_ | refine D.pl 6 127 rfl D.wantedN (by kernel_rfl) (R.nea rfl rfl rfl rfl) ?_
        refine Sh.dp 7 255 ?_
        refine D.slot 24 rfl (fun hb => by exfalso; (try simp only [decide_eq_true_eq, decide_eq_false_iff_not, Bool.not_eq_true', Bool.not_eq_false', Int.not_lt, Int.not_le] at hb) <;> first | omega | exact hb trivial | cases hb | simp at hb) (fun hb => ?_)
        (try simp only [decide_eq_true_eq, decide_eq_false_iff_not, Bool.not_eq_true', Bool.not_eq_false', Int.not_lt, Int.not_le] at hb)
        refine Sh.dp 10 1279 ?_
        refine Sh.dp 11 3327 ?_
        refine Sh.dl 8 3583 ?_
        refine Sh.dl 9 4095 ?_
        refine D.eff 12 8191 rfl (D.wantedT rfl rfl) (by kernel_rfl) (by kernel_rfl) (fun _ _ h => h) ?_
        refine WE.guard ?_
        refine Z.cl (rconf_z c a s b x k _ _ _ hS ho hs (hq.app [_, _])) rfl ?_
        clear hS
        rintro e w ⟨rfl, hS⟩
        refine ⟨_, rfl, ?_⟩
        rw [hcf]
        refine ⟨HM.s (hS.sb), ?_⟩
        refine Sh.dp 13 16383 ?_
        refine D.done (by kernel_rfl) ?_
        repeat' (first|refine K ?_|(refine Sh.sa hS ?_;clear hS;intro w hS)|(refine K3 ?_;clear hS;intro g w hS hge)|((first|refine GS ?_ ?_|refine VB ?_ ?_)<;>intro hb<;>(try simp only [J1,J2,J3,J4,J5,J6] at hb)<;>(try (exfalso;first|omega|exact hb trivial))))
        refine Sh.again (l.length - (i + 1)) [(13, .int .i64 (i + 1 : Nat))] ?_
        exact ⟨i + 1, rfl, by omega, by rw [hsx]; simp [joinC, hreg, hcf], rfl, hS.sb⟩
      · refine D.startS (Lr := [.blk gs 34 (s.cc c b), .blk gc 30 (c.cl a)]) (hS.sb) 14 14 (by kernel_rfl) rfl ?_
        replace hS := hS.drew
        refine Sh.dp 1 2 ?_
        refine Sh.dp 4 18 ?_
        refine Sh.dl 0 19 ?_
        refine Sh.dl 3 27 ?_
        refine D.eff 2 31 rfl D.wantedN (by kernel_rfl) (by kernel_rfl) (fun _ _ h => h) ?_
        refine Z.cl (rregion_z c a x _ _ _ hS (hr.app [_, _]) ho) rfl ?_
        clear hS
        rintro e w ⟨rfl, hS⟩
        refine ⟨_, rfl, ?_⟩
        refine ⟨HM.s (hS.sb), ?_⟩
        refine D.eff 5 63 rfl D.wantedN (by kernel_rfl) (by kernel_rfl) (fun _ _ h => h) ?_
        refine Z.cl (rregion_z c a k _ _ _ hS (hr.app [_, _]) ho) rfl ?_
        clear hS
        rintro e w ⟨rfl, hS⟩
        refine ⟨_, rfl, ?_⟩
        refine ⟨HM.s (hS.sb), ?_⟩
        first | refine D.pr 6 127 rfl D.wantedN (by kernel_rfl) rfl ?_ | refine D.pl 6 127 rfl D.wantedN (by kernel_rfl) (R.nea rfl rfl rfl rfl) ?_
        refine Sh.dp 7 255 ?_
        refine D.slot 24 rfl (fun hb => by exfalso; (try simp only [decide_eq_true_eq, decide_eq_false_iff_not, Bool.not_eq_true', Bool.not_eq_false', Int.not_lt, Int.not_le] at hb) <;> first | omega | exact hb trivial | cases hb | simp at hb) (fun hb => ?_)
        (try simp only [decide_eq_true_eq, decide_eq_false_iff_not, Bool.not_eq_true', Bool.not_eq_false', Int.not_lt, Int.not_le] at hb)
        refine Sh.dp 10 1279 ?_
        refine Sh.dp 11 3327 ?_
        refine Sh.dl 8 3583 ?_
        refine Sh.dl 9 4095 ?_
        refine D.eff 12 8191 rfl (D.wantedT rfl rfl) (by kernel_rfl) (by kernel_rfl) (fun _ _ h => h) ?_
        refine WE.guard ?_
        refine Z.cl (rconf_z c a s b x k _ _ _ hS ho hs (hq.app [_, _])) rfl ?_
        clear hS
        rintro e w ⟨rfl, hS⟩
        refine ⟨_, rfl, ?_⟩
        rw [hcf]
        refine ⟨HM.s (hS.sb), ?_⟩
        refine Sh.dp 13 16383 ?_
        refine D.done (by kernel_rfl) ?_
        repeat' (first|refine K ?_|(refine Sh.sa hS ?_;clear hS;intro w hS)|(refine K3 ?_;clear hS;intro g w hS hge)|((first|refine GS ?_ ?_|refine VB ?_ ?_)<;>intro hb<;>(try simp only [J1,J2,J3,J4,J5,J6] at hb)<;>(try (exfalso;first|omega|exact hb trivial))))
        refine Dnt Tryz.results39 ?_
        exact ⟨by rw [hfin (by simp [joinC, hreg, hcf])]; rfl, hS.sb⟩
    · refine D.startS (Lr := [.blk gs 34 (s.cc c b), .blk gc 30 (c.cl a)]) (hS.sb) 14 14 (by kernel_rfl) rfl ?_
      replace hS := hS.drew
      refine Sh.dp 1 2 ?_
      refine Sh.dp 4 18 ?_
      refine Sh.dl 0 19 ?_
      refine Sh.dl 3 27 ?_
      refine D.eff 2 31 rfl D.wantedN (by kernel_rfl) (by kernel_rfl) (fun _ _ h => h) ?_
      refine Z.cl (rregion_z c a x _ _ _ hS (hr.app [_, _]) ho) rfl ?_
      clear hS
      rintro e w ⟨rfl, hS⟩
      refine ⟨_, rfl, ?_⟩
      refine ⟨HM.s (hS.sb), ?_⟩
      refine D.eff 5 63 rfl D.wantedN (by kernel_rfl) (by kernel_rfl) (fun _ _ h => h) ?_
      refine Z.cl (rregion_z c a k _ _ _ hS (hr.app [_, _]) ho) rfl ?_
      clear hS
      rintro e w ⟨rfl, hS⟩
      refine ⟨_, rfl, ?_⟩
      refine ⟨HM.s (hS.sb), ?_⟩
      first | refine D.pr 6 127 rfl D.wantedN (by kernel_rfl) rfl ?_ | refine D.pl 6 127 rfl D.wantedN (by kernel_rfl) (R.nea rfl rfl rfl rfl) ?_
      refine Sh.dp 7 255 ?_
      refine D.slot 24 rfl (fun hb => ?_) (fun hb => by exfalso; (try simp only [decide_eq_true_eq, decide_eq_false_iff_not, Bool.not_eq_true', Bool.not_eq_false', Int.not_lt, Int.not_le] at hb) <;> first | omega | exact hb trivial | cases hb | simp at hb)
      (try simp only [decide_eq_true_eq, decide_eq_false_iff_not, Bool.not_eq_true', Bool.not_eq_false', Int.not_lt, Int.not_le] at hb)
      refine D.skF 8 511 rfl (by kernel_rfl) rfl rfl ?_
      refine D.skF 9 1023 rfl (by kernel_rfl) rfl rfl ?_
      refine D.skF 10 2047 rfl (by kernel_rfl) rfl rfl ?_
      refine D.skF 11 4095 rfl (by kernel_rfl) rfl rfl ?_
      refine D.skF 12 8191 rfl (by kernel_rfl) rfl rfl ?_
      refine Sh.dp 13 16383 ?_
      refine D.done (by kernel_rfl) ?_
      repeat' (first|refine K ?_|(refine Sh.sa hS ?_;clear hS;intro w hS)|(refine K3 ?_;clear hS;intro g w hS hge)|((first|refine GS ?_ ?_|refine VB ?_ ?_)<;>intro hb<;>(try simp only [J1,J2,J3,J4,J5,J6] at hb)<;>(try (exfalso;first|omega|exact hb trivial))))
      refine Dnt Tryz.results39 ?_
      exact ⟨by rw [hfin (by simp [joinC, hreg])]; rfl, hS.sb⟩
  · repeat' (first|refine K ?_|(refine Sh.sa hS ?_;clear hS;intro w hS)|(refine K3 ?_;clear hS;intro g w hS hge)|((first|refine GS ?_ ?_|refine VB ?_ ?_)<;>intro hb<;>(try simp only [J1,J2,J3,J4,J5,J6] at hb)<;>(try (exfalso;first|omega|exact hb trivial))))
    refine Dnt Tryz.results39 ?_
    rw [List.take_of_length_le (by omega)] at hall
    exact ⟨by rw [joinB_eq, hall]; simp [Z.packR], hS.sb⟩
end Go.Proofs.YtmgpionlfemhdaaGreat
