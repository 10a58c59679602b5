/-
  The two tapes: what they return lies within its bounds.
-/
import Derived.Test.YtmgpionlfemhdaaGreatNCfP
import Derived.Test.YtmgpionlfemhdaaGreatE5
namespace Go.Proofs.YtmgpionlfemhdaaGreat
open Go.RowKit
set_option linter.unusedSimpArgs false
set_option linter.unusedVariables false
attribute [local irreducible] Res.blk Res.sl Res.all Res.ex Res.pure Res.star

/-- A tape: the list that it reads, and a bound of how far it has been read. -/
def TpM (g : Nat) (A : Option Addr) (n c : Nat) (lo B : Int) : Res := .ex fun a : Int => .all [.pure (0 ≤ a ∧ lo ≤ a ∧ a ≤ B), .blk g 115 [.slice A n c, .int .i64 a]]
def TpL (g : Nat) (A : Option Addr) (n c : Nat) : Res := .ex fun a : Int => .all [.pure (0 ≤ a ∧ a ≤ n), .blk g 113 [.slice A n c, .int .i64 a]]
section
variable {r w : World} {M : List Nat} {F : List Res} {g n c : Nat} {A : Option Addr} {lo B : Int}
theorem Sep.TpM_open : Sep r M (TpM g A n c lo B :: F) w ↔ ∃ a : Int, (0 ≤ a ∧ lo ≤ a ∧ a ≤ B) ∧ Sep r M (.blk g 115 [.slice A n c, .int .i64 a] :: F) w := by
  simp only [TpM, Sep.ex_open, Sep.all_open, Sep.pure_open, List.cons_append, List.nil_append]
theorem Sep.TpL_open : Sep r M (TpL g A n c :: F) w ↔ ∃ a : Int, (0 ≤ a ∧ a ≤ n) ∧ Sep r M (.blk g 113 [.slice A n c, .int .i64 a] :: F) w := by
  simp only [TpL, Sep.ex_open, Sep.all_open, Sep.pure_open, List.cons_append, List.nil_append]
theorem Sep.TpM_le {B' : Int} (h : Sep r M (TpM g A n c lo B :: F) w) (hb : B ≤ B') : Sep r M (TpM g A n c lo B' :: F) w := by
  obtain ⟨a, ha, hS⟩ := Sep.TpM_open.1 h
  exact Sep.TpM_open.2 ⟨a, by omega, hS⟩
theorem Sep.TpM_lo {lo' : Int} (h : Sep r M (TpM g A n c lo B :: F) w) (hb : lo' ≤ lo) : Sep r M (TpM g A n c lo' B :: F) w := by
  obtain ⟨a, ha, hS⟩ := Sep.TpM_open.1 h
  exact Sep.TpM_open.2 ⟨a, by omega, hS⟩
end
def modM (v n : Int) : Int := (v.tmod n + n).tmod n
theorem modM_bd (v n : Int) (hn : 1 ≤ n) : 0 ≤ modM v n ∧ modM v n < n := by
  have h1 := Int.lt_tmod_of_pos v (show 0 < n by omega)
  have h2 := Int.tmod_lt_of_pos (v.tmod n + n) (show 0 < n by omega)
  have h3 := Int.tmod_nonneg n (show 0 ≤ v.tmod n + n by omega)
  exact ⟨h3, h2⟩
theorem mmod_z (v n : Int) (r : World) (F : List Res) (w : World) (hS : Sep r [] F w) (hn : 1 ≤ n) (hm : n ≤ 4611686018427387904) :
    Calls Tryz.prog 70 #[.int .i64 v, .int .i64 n] w fun e w' => e = .returned (.int .i64 (modM v n)) ∧ Sep r [] F w' := by
  have h1 := Int.lt_tmod_of_pos v (show 0 < n by omega)
  have h2 := Int.tmod_lt_of_pos v (show 0 < n by omega)
  refine Z.enter Tryz.func70 Tryz.ntmps70 rfl rfl ?_
  repeat' (first|refine K ?_|(refine Sh.sa hS ?_;clear hS;intro w hS)|(refine K3 ?_;clear hS;intro g w hS hge)|((first|refine GS ?_ ?_|refine VB ?_ ?_)<;>intro hb<;>(try simp only [J1,J2,J3,J4,J5,J6] at hb)<;>(try (exfalso;first|omega|exact hb trivial))))
  refine Dnt Tryz.results70 ?_
  exact ⟨rfl, hS⟩
theorem between_z (v lo hi : Int) (r : World) (F : List Res) (w : World) (hS : Sep r [] F w) (h0 : -1000000 ≤ lo) (h1 : lo ≤ hi) (h2 : hi ≤ 1000000000) :
    Calls Tryz.prog 52 #[.int .i64 v, .int .i64 lo, .int .i64 hi] w fun e w' => ∃ z, e = .returned (.int .i64 z) ∧ (lo ≤ z ∧ z ≤ hi) ∧ Sep r [] F w' := by
  have hb := modM_bd v (hi - lo + 1) (by omega)
  refine Z.enter Tryz.func52 Tryz.ntmps52 rfl rfl ?_
  repeat' (first|refine K ?_|(refine Sh.sa hS ?_;clear hS;intro w hS)|(refine K3 ?_;clear hS;intro g w hS hge)|((first|refine GS ?_ ?_|refine VB ?_ ?_)<;>intro hb<;>(try simp only [J1,J2,J3,J4,J5,J6] at hb)<;>(try (exfalso;first|omega|exact hb trivial))))
  refine Z.eff (Z.cl (mmod_z v (hi - lo + 1) _ _ _ hS (by omega) (by omega)) rfl ?_) rfl
  clear hS
  rintro e w ⟨rfl, hS⟩
  refine ⟨_, rfl, ?_⟩
  generalize modM v (hi - lo + 1) = z at *
  repeat' (first|refine K ?_|(refine Sh.sa hS ?_;clear hS;intro w hS)|(refine K3 ?_;clear hS;intro g w hS hge)|((first|refine GS ?_ ?_|refine VB ?_ ?_)<;>intro hb<;>(try simp only [J1,J2,J3,J4,J5,J6] at hb)<;>(try (exfalso;first|omega|exact hb trivial))))
  refine Dnt Tryz.results52 ?_
  exact ⟨_, rfl, by omega, hS⟩
theorem mnew_z (A : Option Addr) (n c : Nat) (r : World) (F : List Res) (w : World) (hS : Sep r [] F w) :
    Calls Tryz.prog 51 #[.slice A n c] w fun e w' => ∃ g, e = .returned (.pointer (some ⟨g, 0, .none⟩)) ∧ Sep r [] (TpM g A n c 0 0 :: F) w' := by
  refine Z.enter Tryz.func51 Tryz.ntmps51 rfl rfl ?_
  repeat' (first|refine K ?_|(refine Sh.sa hS ?_;clear hS;intro w hS)|(refine K3 ?_;clear hS;intro g w hS hge)|((first|refine GS ?_ ?_|refine VB ?_ ?_)<;>intro hb<;>(try simp only [J1,J2,J3,J4,J5,J6] at hb)<;>(try (exfalso;first|omega|exact hb trivial))))
  refine Dnt Tryz.results51 ?_
  exact ⟨_, rfl, Sep.TpM_open.2 ⟨0, by omega, hS⟩⟩
set_option maxHeartbeats 1000000 in
theorem mnext_up {lo : Int} (g : Nat) (A : Option Addr) (l : List Int) (c : Nat) (B n : Int) (r : World) (F : List Res) (w : World) (hS : Sep r [] (TpM g A l.length c lo B :: F) w) (hrd : Reads r F 1 (.slice A l.length c) (l.map ztC)) (hl : l.length ≤ 1000) (hB : B ≤ 1000000) (hn : 1 ≤ n) (hm : n ≤ 1099511627776) :
    Calls Tryz.prog 53 #[.pointer (some ⟨g, 0, .none⟩), .int .i64 n] w fun e w' => ∃ (z lo' : Int), e = .returned (.int .i64 z) ∧ (0 ≤ z ∧ z < n) ∧ (lo ≤ lo' ∧ (0 < l.length → lo + 1 ≤ lo')) ∧ Sep r [] (TpM g A l.length c lo' (B + 1) :: F) w' := by
  obtain ⟨a, ha, hS⟩ := Sep.TpM_open.1 hS
  refine Z.enter Tryz.func53 Tryz.ntmps53 rfl rfl ?_
  repeat' (first|refine K ?_|(refine Sh.sa hS ?_;clear hS;intro w hS)|(refine K3 ?_;clear hS;intro g w hS hge)|((first|refine GS ?_ ?_|refine VB ?_ ?_)<;>intro hb<;>(try simp only [J1,J2,J3,J4,J5,J6] at hb)<;>(try (exfalso;first|omega|exact hb trivial))))
  · refine Dnt Tryz.results53 ?_
    exact ⟨0, lo, rfl, by omega, by omega, Sep.TpM_open.2 ⟨a, by omega, hS⟩⟩
  have hl0 : 0 < l.length := by omega
  have h1 := Int.tmod_lt_of_pos a (show 0 < (l.length : Int) by omega)
  have h2 := Int.tmod_nonneg (l.length : Int) ha.1
  obtain ⟨gb, o, hAe, _, _⟩ := (hrd [_] w hS).mat (by omega) (q := (a.tmod l.length).toNat) (by simpa using (by omega : (a.tmod l.length).toNat < l.length))
  subst hAe
  have hra : ∀ W, Sep r [] (.blk g 115 [.slice (some ⟨gb, o, .none⟩) l.length c, .int .i64 a] :: F) W → W.rangeAt gb (o + (a.tmod l.length).toNat * 1) (ztC (l[(a.tmod l.length).toNat]'(by omega))) := fun W h => by
    have h3 := (hrd [_] W h).elem (q := (a.tmod l.length).toNat) (by omega) (by simpa using (by omega : (a.tmod l.length).toNat < l.length))
    simpa using h3
  generalize l[(a.tmod l.length).toNat]'(by omega) = v at *
  refine D.startS hS 17 17 (by kernel_rfl) rfl ?_
  replace hS := hS.drew
  refine Sh.dp 0 1 ?_
  refine Sh.dp 1 3 ?_
  refine Sh.dp 2 7 ?_
  refine Sh.dp 4 23 ?_
  refine Sh.dp 5 55 ?_
  refine Sh.dp 6 119 ?_
  refine Sh.dp 8 375 ?_
  refine Sh.dp 9 887 ?_
  refine Sh.dp 10 1911 ?_
  refine Sh.dl 3 1919 ?_
  refine Sh.dl 7 2047 ?_
  refine Sh.dl 11 4095 ?_
  refine Sh.dp 12 8191 ?_
  refine D.pl 13 16383 rfl D.wantedN (by kernel_rfl) (R.iquo rfl rfl rfl (by omega)) ?_
  first | refine D.ixn 14 32767 rfl D.wantedN (by kernel_rfl) rfl rfl rfl (by omega) ?_ | refine D.ix 14 32767 rfl D.wantedN (by kernel_rfl) rfl rfl rfl (by omega) ?_ | refine D.ia 14 32767 rfl D.wantedN (by kernel_rfl) rfl rfl rfl (by omega) ?_
  refine D.ldR 15 65535 rfl D.wantedN (by kernel_rfl) rfl hra rfl ?_
  refine Sh.dp 16 131071 ?_
  refine D.done (by kernel_rfl) ?_
  repeat' (first|refine K ?_|(refine Sh.sa hS ?_;clear hS;intro w hS)|(refine K3 ?_;clear hS;intro g w hS hge)|((first|refine GS ?_ ?_|refine VB ?_ ?_)<;>intro hb<;>(try simp only [J1,J2,J3,J4,J5,J6] at hb)<;>(try (exfalso;first|omega|exact hb trivial))))
  refine D.startS hS 11 11 (by kernel_rfl) rfl ?_
  replace hS := hS.drew
  refine Sh.dp 0 1 ?_
  refine Sh.dp 1 3 ?_
  refine Sh.dp 2 7 ?_
  refine Sh.dp 4 23 ?_
  refine Sh.dp 5 55 ?_
  refine Sh.dp 6 119 ?_
  refine Sh.dl 3 127 ?_
  refine Sh.dl 7 255 ?_
  refine Sh.dp 8 511 ?_
  refine D.pl 9 1023 rfl D.wantedN (by kernel_rfl) (R.iquo rfl rfl rfl (by omega)) ?_
  refine Sh.dp 10 2047 ?_
  refine D.done (by kernel_rfl) ?_
  repeat' (first|refine K ?_|(refine Sh.sa hS ?_;clear hS;intro w hS)|(refine K3 ?_;clear hS;intro g w hS hge)|((first|refine GS ?_ ?_|refine VB ?_ ?_)<;>intro hb<;>(try simp only [J1,J2,J3,J4,J5,J6] at hb)<;>(try (exfalso;first|omega|exact hb trivial))))
  refine Z.eff (Z.cl (mmod_z v 1073741824 _ _ _ hS (by omega) (by omega)) rfl ?_) rfl
  clear hS
  rintro e w ⟨rfl, hS⟩
  refine ⟨_, rfl, ?_⟩
  repeat' (first|refine K ?_|(refine Sh.sa hS ?_;clear hS;intro w hS)|(refine K3 ?_;clear hS;intro g w hS hge)|((first|refine GS ?_ ?_|refine VB ?_ ?_)<;>intro hb<;>(try simp only [J1,J2,J3,J4,J5,J6] at hb)<;>(try (exfalso;first|omega|exact hb trivial))))
  refine Z.sumW rfl ?_
  repeat' (first|refine K ?_|(refine Sh.sa hS ?_;clear hS;intro w hS)|(refine K3 ?_;clear hS;intro g w hS hge)|((first|refine GS ?_ ?_|refine VB ?_ ?_)<;>intro hb<;>(try simp only [J1,J2,J3,J4,J5,J6] at hb)<;>(try (exfalso;first|omega|exact hb trivial))))
  refine Z.sumW rfl ?_
  repeat' (first|refine K ?_|(refine Sh.sa hS ?_;clear hS;intro w hS)|(refine K3 ?_;clear hS;intro g w hS hge)|((first|refine GS ?_ ?_|refine VB ?_ ?_)<;>intro hb<;>(try simp only [J1,J2,J3,J4,J5,J6] at hb)<;>(try (exfalso;first|omega|exact hb trivial))))
  refine Z.eff (Z.cl (mmod_z _ n _ _ _ hS (by omega) (by omega)) rfl ?_) rfl
  clear hS
  rintro e w ⟨rfl, hS⟩
  refine ⟨_, rfl, ?_⟩
  repeat' (first|refine K ?_|(refine Sh.sa hS ?_;clear hS;intro w hS)|(refine K3 ?_;clear hS;intro g w hS hge)|((first|refine GS ?_ ?_|refine VB ?_ ?_)<;>intro hb<;>(try simp only [J1,J2,J3,J4,J5,J6] at hb)<;>(try (exfalso;first|omega|exact hb trivial))))
  refine Dnt Tryz.results53 ?_
  exact ⟨_, lo + 1, rfl, modM_bd _ n hn, by omega, Sep.TpM_open.2 ⟨a + 1, by omega, hS⟩⟩
theorem mnext_z {lo : Int} (g : Nat) (A : Option Addr) (l : List Int) (c : Nat) (B n : Int) (r : World) (F : List Res) (w : World) (hS : Sep r [] (TpM g A l.length c lo B :: F) w) (hrd : Reads r F 1 (.slice A l.length c) (l.map ztC)) (hl : l.length ≤ 1000) (hB : B ≤ 1000000) (hn : 1 ≤ n) (hm : n ≤ 1099511627776) :
    Calls Tryz.prog 53 #[.pointer (some ⟨g, 0, .none⟩), .int .i64 n] w fun e w' => ∃ z, e = .returned (.int .i64 z) ∧ (0 ≤ z ∧ z < n) ∧ Sep r [] (TpM g A l.length c lo (B + 1) :: F) w' :=
  (mnext_up g A l c B n r F w hS hrd hl hB hn hm).mono fun e w' ⟨z, lo', h1, h2, h3, h4⟩ => ⟨z, h1, h2, h4.TpM_lo h3.1⟩
theorem mrange_z {lw : Int} (g : Nat) (A : Option Addr) (l : List Int) (c : Nat) (B lo hi : Int) (r : World) (F : List Res) (w : World) (hS : Sep r [] (TpM g A l.length c lw B :: F) w) (hrd : Reads r F 1 (.slice A l.length c) (l.map ztC)) (hl : l.length ≤ 1000) (hB : B ≤ 1000000) (h0 : -1000000 ≤ lo) (h1 : lo ≤ hi) (h2 : hi ≤ 1000000000) :
    Calls Tryz.prog 54 #[.pointer (some ⟨g, 0, .none⟩), .int .i64 lo, .int .i64 hi] w fun e w' => ∃ z, e = .returned (.int .i64 z) ∧ (lo ≤ z ∧ z ≤ hi) ∧ Sep r [] (TpM g A l.length c lw (B + 1) :: F) w' := by
  refine Z.enter Tryz.func54 Tryz.ntmps54 rfl rfl ?_
  repeat' (first|refine K ?_|(refine Sh.sa hS ?_;clear hS;intro w hS)|(refine K3 ?_;clear hS;intro g w hS hge)|((first|refine GS ?_ ?_|refine VB ?_ ?_)<;>intro hb<;>(try simp only [J1,J2,J3,J4,J5,J6] at hb)<;>(try (exfalso;first|omega|exact hb trivial))))
  refine Z.eff (Z.cl (mnext_z g A l c B (hi - lo + 1) _ _ _ hS hrd hl hB (by omega) (by omega)) rfl ?_) rfl
  clear hS
  rintro e w ⟨z, rfl, hz, hS⟩
  refine ⟨_, rfl, ?_⟩
  repeat' (first|refine K ?_|(refine Sh.sa hS ?_;clear hS;intro w hS)|(refine K3 ?_;clear hS;intro g w hS hge)|((first|refine GS ?_ ?_|refine VB ?_ ?_)<;>intro hb<;>(try simp only [J1,J2,J3,J4,J5,J6] at hb)<;>(try (exfalso;first|omega|exact hb trivial))))
  refine Dnt Tryz.results54 ?_
  exact ⟨_, rfl, by omega, hS⟩
theorem myes_z {lo : Int} (g : Nat) (A : Option Addr) (l : List Int) (c : Nat) (B n : Int) (r : World) (F : List Res) (w : World) (hS : Sep r [] (TpM g A l.length c lo B :: F) w) (hrd : Reads r F 1 (.slice A l.length c) (l.map ztC)) (hl : l.length ≤ 1000) (hB : B ≤ 1000000) (hn : 1 ≤ n) (hm : n ≤ 1099511627776) :
    Calls Tryz.prog 55 #[.pointer (some ⟨g, 0, .none⟩), .int .i64 n] w fun e w' => ∃ b, e = .returned (.bool b) ∧ Sep r [] (TpM g A l.length c lo (B + 1) :: F) w' := by
  refine Z.enter Tryz.func55 Tryz.ntmps55 rfl rfl ?_
  repeat' (first|refine K ?_|(refine Sh.sa hS ?_;clear hS;intro w hS)|(refine K3 ?_;clear hS;intro g w hS hge)|((first|refine GS ?_ ?_|refine VB ?_ ?_)<;>intro hb<;>(try simp only [J1,J2,J3,J4,J5,J6] at hb)<;>(try (exfalso;first|omega|exact hb trivial))))
  refine Z.eff (Z.cl (mnext_z g A l c B n _ _ _ hS hrd hl hB (by omega) (by omega)) rfl ?_) rfl
  clear hS
  rintro e w ⟨z, rfl, hz, hS⟩
  refine ⟨_, rfl, ?_⟩
  repeat' (first|refine K ?_|(refine Sh.sa hS ?_;clear hS;intro w hS)|(refine K3 ?_;clear hS;intro g w hS hge)|((first|refine GS ?_ ?_|refine VB ?_ ?_)<;>intro hb<;>(try simp only [J1,J2,J3,J4,J5,J6] at hb)<;>(try (exfalso;first|omega|exact hb trivial))))
  refine Dnt Tryz.results55 ?_
  exact ⟨_, rfl, hS⟩
theorem mmore_z {lo : Int} (g : Nat) (A : Option Addr) (n c : Nat) (B : Int) (r : World) (F : List Res) (w : World) (hS : Sep r [] (TpM g A n c lo B :: F) w) :
    Calls Tryz.prog 87 #[.pointer (some ⟨g, 0, .none⟩)] w fun e w' => ∃ b, e = .returned (.bool b) ∧ ((b = true ∧ lo < n ∧ Sep r [] (TpM g A n c lo n :: F) w') ∨ (b = false ∧ Sep r [] (TpM g A n c lo B :: F) w')) := by
  obtain ⟨a, ha, hS⟩ := Sep.TpM_open.1 hS
  refine Z.enter Tryz.func87 Tryz.ntmps87 rfl rfl ?_
  repeat' (first|refine K ?_|(refine Sh.sa hS ?_;clear hS;intro w hS)|(refine K3 ?_;clear hS;intro g w hS hge)|((first|refine GS ?_ ?_|refine VB ?_ ?_)<;>intro hb<;>(try simp only [J1,J2,J3,J4,J5,J6] at hb)<;>(try (exfalso;first|omega|exact hb trivial))))
  refine D.startS hS 11 11 (by kernel_rfl) rfl ?_
  replace hS := hS.drew
  refine Sh.dp 0 1 ?_
  refine Sh.dp 1 3 ?_
  refine Sh.dp 2 7 ?_
  refine Sh.dp 4 23 ?_
  refine Sh.dp 5 55 ?_
  refine Sh.dp 6 119 ?_
  refine Sh.dl 3 127 ?_
  refine Sh.dl 7 255 ?_
  refine Sh.dp 8 511 ?_
  refine Sh.dp 9 1023 ?_
  refine Sh.dp 10 2047 ?_
  refine D.done (by kernel_rfl) ?_
  repeat' (first|refine K ?_|(refine Sh.sa hS ?_;clear hS;intro w hS)|(refine K3 ?_;clear hS;intro g w hS hge)|((first|refine GS ?_ ?_|refine VB ?_ ?_)<;>intro hb<;>(try simp only [J1,J2,J3,J4,J5,J6] at hb)<;>(try (exfalso;first|omega|exact hb trivial))))
  refine Dnt Tryz.results87 ?_
  by_cases h : a < n
  · exact ⟨true, by simp [Z.packR, h], .inl ⟨rfl, by omega, Sep.TpM_open.2 ⟨a, by omega, hS⟩⟩⟩
  · exact ⟨false, by simp [Z.packR, h], .inr ⟨rfl, Sep.TpM_open.2 ⟨a, by omega, hS⟩⟩⟩
/-! The mill's tape. -/
def modN (v n : Int) : Int := if v.tmod n < 0 then v.tmod n + n else v.tmod n
theorem modN_bd (v n : Int) (hn : 1 ≤ n) : 0 ≤ modN v n ∧ modN v n < n := by
  have h1 := Int.lt_tmod_of_pos v (show 0 < n by omega)
  have h2 := Int.tmod_lt_of_pos v (show 0 < n by omega)
  unfold modN
  split <;> omega
theorem modS_z (v n : Int) (r : World) (F : List Res) (w : World) (hS : Sep r [] F w) (hn : 1 ≤ n) (hm : n ≤ 4611686018427387904) :
    Calls Tryz.prog 17 #[.int .i64 v, .int .i64 n] w fun e w' => e = .returned (.int .i64 (modN v n)) ∧ Sep r [] F w' := by
  have h1 := Int.lt_tmod_of_pos v (show 0 < n by omega)
  have h2 := Int.tmod_lt_of_pos v (show 0 < n by omega)
  refine Z.enter Tryz.func17 Tryz.ntmps17 rfl rfl ?_
  repeat' (first|refine K ?_|(refine Sh.sa hS ?_;clear hS;intro w hS)|(refine K3 ?_;clear hS;intro g w hS hge)|((first|refine GS ?_ ?_|refine VB ?_ ?_)<;>intro hb<;>(try simp only [J1,J2,J3,J4,J5,J6] at hb)<;>(try (exfalso;first|omega|exact hb trivial))))
  · refine Dnt Tryz.results17 ?_
    refine ⟨?_, hS⟩
    unfold modN
    rw [if_pos hb]
    rfl
  · refine Dnt Tryz.results17 ?_
    refine ⟨?_, hS⟩
    unfold modN
    rw [if_neg (by omega)]
    rfl
theorem lightS_z (A : Option Addr) (n c : Nat) (r : World) (F : List Res) (w : World) (hS : Sep r [] F w) : Calls Tryz.prog 9 #[.slice A n c] w fun e w' => e = .returned (.bool (decide ((n : Int) ≤ 150))) ∧ Sep r [] F w' := by
  refine Z.enter Tryz.func9 Tryz.ntmps9 rfl rfl ?_
  repeat' (first|refine K ?_|(refine Sh.sa hS ?_;clear hS;intro w hS)|(refine K3 ?_;clear hS;intro g w hS hge)|((first|refine GS ?_ ?_|refine VB ?_ ?_)<;>intro hb<;>(try simp only [J1,J2,J3,J4,J5,J6] at hb)<;>(try (exfalso;first|omega|exact hb trivial))))
  refine Dnt Tryz.results9 ?_
  exact ⟨rfl, hS⟩
theorem tnew_z (A : Option Addr) (n c : Nat) (r : World) (F : List Res) (w : World) (hS : Sep r [] F w) :
    Calls Tryz.prog 40 #[.slice A n c] w fun e w' => ∃ g, e = .returned (.pointer (some ⟨g, 0, .none⟩)) ∧ Sep r [] (TpL g A n c :: F) w' := by
  refine Z.enter Tryz.func40 Tryz.ntmps40 rfl rfl ?_
  repeat' (first|refine K ?_|(refine Sh.sa hS ?_;clear hS;intro w hS)|(refine K3 ?_;clear hS;intro g w hS hge)|((first|refine GS ?_ ?_|refine VB ?_ ?_)<;>intro hb<;>(try simp only [J1,J2,J3,J4,J5,J6] at hb)<;>(try (exfalso;first|omega|exact hb trivial))))
  refine Dnt Tryz.results40 ?_
  exact ⟨_, rfl, Sep.TpL_open.2 ⟨0, by omega, hS⟩⟩
set_option maxHeartbeats 1000000 in
theorem next_z (g : Nat) (A : Option Addr) (l : List Int) (c : Nat) (n : Int) (r : World) (F : List Res) (w : World) (hS : Sep r [] (TpL g A l.length c :: F) w) (hrd : Reads r F 1 (.slice A l.length c) (l.map ztC)) (hl : l.length ≤ 1000) (hn : 1 ≤ n) (hm : n ≤ 1099511627776) :
    Calls Tryz.prog 42 #[.pointer (some ⟨g, 0, .none⟩), .int .i64 n] w fun e w' => ∃ z, e = .returned (.int .i64 z) ∧ (0 ≤ z ∧ z < n) ∧ Sep r [] (TpL g A l.length c :: F) w' := by
  obtain ⟨a, ha, hS⟩ := Sep.TpL_open.1 hS
  refine Z.enter Tryz.func42 Tryz.ntmps42 rfl rfl ?_
  repeat' (first|refine K ?_|(refine Sh.sa hS ?_;clear hS;intro w hS)|(refine K3 ?_;clear hS;intro g w hS hge)|((first|refine GS ?_ ?_|refine VB ?_ ?_)<;>intro hb<;>(try simp only [J1,J2,J3,J4,J5,J6] at hb)<;>(try (exfalso;first|omega|exact hb trivial))))
  refine D.startS hS 10 10 (by kernel_rfl) rfl ?_
  replace hS := hS.drew
  refine Sh.dp 0 1 ?_
  refine Sh.dp 1 3 ?_
  refine Sh.dp 2 7 ?_
  refine Sh.dp 4 23 ?_
  refine Sh.dp 5 55 ?_
  refine Sh.dp 6 119 ?_
  refine Sh.dl 3 127 ?_
  refine Sh.dl 7 255 ?_
  refine Sh.dp 8 511 ?_
  refine Sh.dp 9 1023 ?_
  refine D.done (by kernel_rfl) ?_
  repeat' (first|refine K ?_|(refine Sh.sa hS ?_;clear hS;intro w hS)|(refine K3 ?_;clear hS;intro g w hS hge)|((first|refine GS ?_ ?_|refine VB ?_ ?_)<;>intro hb<;>(try simp only [J1,J2,J3,J4,J5,J6] at hb)<;>(try (exfalso;first|omega|exact hb trivial))))
  · refine Dnt Tryz.results42 ?_
    exact ⟨0, rfl, by omega, Sep.TpL_open.2 ⟨a, by omega, hS⟩⟩
  have hl0 : 0 < l.length := by omega
  obtain ⟨gb, o, hAe, _, _⟩ := (hrd [_] w hS).mat (by omega) (q := (a + 1 - 1).toNat) (by simpa using (by omega : (a + 1 - 1).toNat < l.length))
  subst hAe
  have hra : ∀ W, Sep r [] (.blk g 113 [.slice (some ⟨gb, o, .none⟩) l.length c, .int .i64 (a + 1)] :: F) W → W.rangeAt gb (o + (a + 1 - 1).toNat * 1) (ztC (l[(a + 1 - 1).toNat]'(by omega))) := fun W h => by
    have h3 := (hrd [_] W h).elem (q := (a + 1 - 1).toNat) (by omega) (by simpa using (by omega : (a + 1 - 1).toNat < l.length))
    simpa using h3
  generalize l[(a + 1 - 1).toNat]'(by omega) = v at *
  have hmb := modN_bd v n hn
  refine D.startS hS 14 14 (by kernel_rfl) rfl ?_
  replace hS := hS.drew
  refine Sh.dp 0 1 ?_
  refine Sh.dp 1 3 ?_
  refine Sh.dp 2 7 ?_
  refine Sh.dp 4 23 ?_
  refine Sh.dp 5 55 ?_
  refine Sh.dp 6 119 ?_
  refine Sh.dp 11 2167 ?_
  refine Sh.dl 3 2175 ?_
  refine Sh.dl 7 2303 ?_
  first | refine D.sum 8 2559 rfl D.wantedN (by kernel_rfl) rfl (by constructor <;> omega) ?_ | refine D.sumW 8 2559 rfl D.wantedN (by kernel_rfl) rfl ?_
  first | refine D.ixn 9 3071 rfl D.wantedN (by kernel_rfl) rfl rfl rfl (by omega) ?_ | refine D.ix 9 3071 rfl D.wantedN (by kernel_rfl) rfl rfl rfl (by omega) ?_ | refine D.ia 9 3071 rfl D.wantedN (by kernel_rfl) rfl rfl rfl (by omega) ?_
  refine D.ldR 10 4095 rfl D.wantedN (by kernel_rfl) rfl hra rfl ?_
  refine D.eff 12 8191 rfl D.wantedN (by kernel_rfl) (by kernel_rfl) (fun _ _ h => h) ?_
  refine Z.cl (modS_z v n _ _ _ hS (by omega) (by omega)) rfl ?_
  clear hS
  rintro e w ⟨rfl, hS⟩
  refine ⟨_, rfl, ?_⟩
  refine ⟨HM.s (hS.sb), ?_⟩
  refine Sh.dp 13 16383 ?_
  refine D.done (by kernel_rfl) ?_
  repeat' (first|refine K ?_|(refine Sh.sa hS ?_;clear hS;intro w hS)|(refine K3 ?_;clear hS;intro g w hS hge)|((first|refine GS ?_ ?_|refine VB ?_ ?_)<;>intro hb<;>(try simp only [J1,J2,J3,J4,J5,J6] at hb)<;>(try (exfalso;first|omega|exact hb trivial))))
  refine Dnt Tryz.results42 ?_
  exact ⟨_, rfl, hmb, Sep.TpL_open.2 ⟨a + 1, by omega, hS⟩⟩
theorem range_z (g : Nat) (A : Option Addr) (l : List Int) (c : Nat) (lo hi : Int) (r : World) (F : List Res) (w : World) (hS : Sep r [] (TpL g A l.length c :: F) w) (hrd : Reads r F 1 (.slice A l.length c) (l.map ztC)) (hl : l.length ≤ 1000) (h0 : -1000000 ≤ lo) (h1 : lo ≤ hi) (h2 : hi ≤ 1000000000) :
    Calls Tryz.prog 43 #[.pointer (some ⟨g, 0, .none⟩), .int .i64 lo, .int .i64 hi] w fun e w' => ∃ z, e = .returned (.int .i64 z) ∧ (lo ≤ z ∧ z ≤ hi) ∧ Sep r [] (TpL g A l.length c :: F) w' := by
  refine Z.enter Tryz.func43 Tryz.ntmps43 rfl rfl ?_
  repeat' (first|refine K ?_|(refine Sh.sa hS ?_;clear hS;intro w hS)|(refine K3 ?_;clear hS;intro g w hS hge)|((first|refine GS ?_ ?_|refine VB ?_ ?_)<;>intro hb<;>(try simp only [J1,J2,J3,J4,J5,J6] at hb)<;>(try (exfalso;first|omega|exact hb trivial))))
  refine Z.eff (Z.cl (next_z g A l c (hi - lo + 1) _ _ _ hS hrd hl (by omega) (by omega)) rfl ?_) rfl
  clear hS
  rintro e w ⟨z, rfl, hz, hS⟩
  refine ⟨_, rfl, ?_⟩
  repeat' (first|refine K ?_|(refine Sh.sa hS ?_;clear hS;intro w hS)|(refine K3 ?_;clear hS;intro g w hS hge)|((first|refine GS ?_ ?_|refine VB ?_ ?_)<;>intro hb<;>(try simp only [J1,J2,J3,J4,J5,J6] at hb)<;>(try (exfalso;first|omega|exact hb trivial))))
  refine Dnt Tryz.results43 ?_
  exact ⟨_, rfl, by omega, hS⟩
theorem more_z (g : Nat) (A : Option Addr) (n c : Nat) (r : World) (F : List Res) (w : World) (hS : Sep r [] (TpL g A n c :: F) w) :
    Calls Tryz.prog 41 #[.pointer (some ⟨g, 0, .none⟩)] w fun e w' => ∃ b, e = .returned (.bool b) ∧ Sep r [] (TpL g A n c :: F) w' := by
  obtain ⟨a, ha, hS⟩ := Sep.TpL_open.1 hS
  refine Z.enter Tryz.func41 Tryz.ntmps41 rfl rfl ?_
  repeat' (first|refine K ?_|(refine Sh.sa hS ?_;clear hS;intro w hS)|(refine K3 ?_;clear hS;intro g w hS hge)|((first|refine GS ?_ ?_|refine VB ?_ ?_)<;>intro hb<;>(try simp only [J1,J2,J3,J4,J5,J6] at hb)<;>(try (exfalso;first|omega|exact hb trivial))))
  refine D.startS hS 11 11 (by kernel_rfl) rfl ?_
  replace hS := hS.drew
  refine Sh.dp 0 1 ?_
  refine Sh.dp 1 3 ?_
  refine Sh.dp 2 7 ?_
  refine Sh.dp 4 23 ?_
  refine Sh.dp 5 55 ?_
  refine Sh.dp 6 119 ?_
  refine Sh.dl 3 127 ?_
  refine Sh.dl 7 255 ?_
  refine Sh.dp 8 511 ?_
  refine Sh.dp 9 1023 ?_
  refine Sh.dp 10 2047 ?_
  refine D.done (by kernel_rfl) ?_
  repeat' (first|refine K ?_|(refine Sh.sa hS ?_;clear hS;intro w hS)|(refine K3 ?_;clear hS;intro g w hS hge)|((first|refine GS ?_ ?_|refine VB ?_ ?_)<;>intro hb<;>(try simp only [J1,J2,J3,J4,J5,J6] at hb)<;>(try (exfalso;first|omega|exact hb trivial))))
  refine Dnt Tryz.results41 ?_
  exact ⟨_, rfl, Sep.TpL_open.2 ⟨a, by omega, hS⟩⟩
end Go.Proofs.YtmgpionlfemhdaaGreat
