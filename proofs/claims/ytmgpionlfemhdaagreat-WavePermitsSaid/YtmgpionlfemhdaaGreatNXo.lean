/-
  The library's functions on lists of numbers, and which cells waves contain.
-/
import Derived.Test.YtmgpionlfemhdaaGreatNXs
import Derived.Test.YtmgpionlfemhdaaGreatNXc
import Derived.Test.YtmgpionlfemhdaaGreatYf
namespace Go.Proofs.YtmgpionlfemhdaaGreat
open Go.RowKit
set_option linter.unusedSimpArgs false
set_option linter.unusedVariables false
attribute [local irreducible] Res.blk Res.sl Res.all Res.ex Res.pure Res.star

set_option maxHeartbeats 1000000 in
theorem grow_z (n : Nat) (r : World) (F : List Res) (w : World) (hS : Sep r [] F w) (hn : n ≤ 100000) :
    Calls Tryz.prog 68 #[.slice none 0 0, .int .i64 (n : Nat)] w fun e w' => ∃ A c, e = .returned (.slice A 0 c) ∧ Sep r [] (.sl 3 1 (.slice A 0 c) [] :: F) w' := by
  by_cases h0 : 0 < n
  · refine Z.enter Tryz.func68 Tryz.ntmps68 rfl rfl ?_
    repeat' (first|refine K ?_|(refine Sh.sa hS ?_;clear hS;intro w hS)|(refine K3 ?_;clear hS;intro g w hS hge)|((first|refine GS ?_ ?_|refine VB ?_ ?_)<;>intro hb<;>(try simp only [J1,J2,J3,J4,J5,J6] at hb)<;>(try (exfalso;first|omega|exact hb trivial))))
    refine Z.eff (Z.apz0 (m := n) hS rfl rfl rfl Tryz.underlying3 (by omega) rfl h0 (by omega) (by unfold maxLen; omega) ?_) rfl
    clear hS; intro A' c' w hS
    obtain ⟨g, cs, rfl, _, hnc, hcm, hcl, _, _, hS⟩ := open_sl hS (by simpa using h0)
    replace hS := close_sl (sz := 1) (c := c') (rows := []) hS (by omega) hcm hcl (by simp) (by simp) (by simp)
    repeat' (first|refine K ?_|(refine Sh.sa hS ?_;clear hS;intro w hS)|(refine K3 ?_;clear hS;intro g w hS hge)|((first|refine GS ?_ ?_|refine VB ?_ ?_)<;>intro hb<;>(try simp only [J1,J2,J3,J4,J5,J6] at hb)<;>(try (exfalso;first|omega|exact hb trivial))))
    refine Dnt Tryz.results68 ?_
    exact ⟨_, _, rfl, hS⟩
  · have : n = 0 := by omega
    subst this
    refine Z.enter Tryz.func68 Tryz.ntmps68 rfl rfl ?_
    repeat' (first|refine K ?_|(refine Sh.sa hS ?_;clear hS;intro w hS)|(refine K3 ?_;clear hS;intro g w hS hge)|((first|refine GS ?_ ?_|refine VB ?_ ?_)<;>intro hb<;>(try simp only [J1,J2,J3,J4,J5,J6] at hb)<;>(try (exfalso;first|omega|exact hb trivial))))
    refine Dnt Tryz.results68 ?_
    exact ⟨none, 0, rfl, Z.nilsl hS _ _ none⟩
set_option maxHeartbeats 1000000 in
theorem index_i (A : Option Addr) (l : List Int) (cap : Nat) (k : Int) (r : World) (F : List Res) (w : World) (hS : Sep r [] F w) (hrd : Reads r F 1 (.slice A l.length cap) (l.map ztC)) (hl : l.length ≤ 100000) :
    Calls Tryz.prog 69 #[.slice A l.length cap, .int .i64 k] w fun e w' => ∃ i : Int, e = .returned (.int .i64 i) ∧ (k ∈ l ↔ 0 ≤ i) ∧ Sep r [] F w' := by
  refine Z.enter Tryz.func69 Tryz.ntmps69 rfl rfl ?_
  repeat' (first|refine K ?_|(refine Sh.sa hS ?_;clear hS;intro w hS)|(refine K3 ?_;clear hS;intro g w hS hge)|((first|refine GS ?_ ?_|refine VB ?_ ?_)<;>intro hb<;>(try simp only [J1,J2,J3,J4,J5,J6] at hb)<;>(try (exfalso;first|omega|exact hb trivial))))
  refine Z.lpS [4, 5, 8, 9, 10, 11, 12, 13, 14, 15, 16, 17, 18] (fun m w z => ∃ i : Nat, z = [(8, .int .i64 i)] ∧ i ≤ l.length ∧ k ∉ l.take i ∧ m = l.length - i ∧ Sep r [] F w) _ [(8, .int .i64 (0 : Nat))] (by repeat (first | exact trivial | refine ⟨rfl, ?_⟩)) ⟨0, rfl, by omega, by simp, rfl, hS⟩ ?_
  clear hS
  rintro m f0 w _ ⟨i, rfl, hi, hno, rfl, hS⟩
  by_cases hlt : i < l.length
  · obtain ⟨gb, o, rfl, hra⟩ := int_get hrd [] hS hlt
    have hm := List.getElem_mem hlt
    have hsx : l.take (i + 1) = l.take i ++ [l[i]] := List.take_succ_eq_append_getElem hlt
    generalize l[i] = x at *
    repeat' (first|refine K ?_|(refine Sh.sa hS ?_;clear hS;intro w hS)|(refine K3 ?_;clear hS;intro g w hS hge)|((first|refine GS ?_ ?_|refine VB ?_ ?_)<;>intro hb<;>(try simp only [J1,J2,J3,J4,J5,J6] at hb)<;>(try (exfalso;first|omega|exact hb trivial))))
    · refine Dnt Tryz.results69 ?_
      refine ⟨i, rfl, ⟨fun _ => by omega, fun _ => ?_⟩, hS⟩
      have : k = x := by first | exact hb | omega
      rw [this]
      exact hm
    · refine Sh.again (l.length - (i + 1)) [(8, .int .i64 (i + 1 : Nat))] ?_
      refine ⟨i + 1, rfl, by omega, ?_, rfl, hS⟩
      rw [hsx, List.mem_append, List.mem_singleton]
      have : k ≠ x := by first | exact hb | omega
      exact fun h => h.elim hno this
  · repeat' (first|refine K ?_|(refine Sh.sa hS ?_;clear hS;intro w hS)|(refine K3 ?_;clear hS;intro g w hS hge)|((first|refine GS ?_ ?_|refine VB ?_ ?_)<;>intro hb<;>(try simp only [J1,J2,J3,J4,J5,J6] at hb)<;>(try (exfalso;first|omega|exact hb trivial))))
    refine Dnt Tryz.results69 ?_
    rw [List.take_of_length_le (by omega)] at hno
    exact ⟨-1, rfl, ⟨fun h => absurd h hno, fun h => absurd h (by omega)⟩, hS⟩
theorem contains_i (A : Option Addr) (l : List Int) (cap : Nat) (k : Int) (r : World) (F : List Res) (w : World) (hS : Sep r [] F w) (hrd : Reads r F 1 (.slice A l.length cap) (l.map ztC)) (hl : l.length ≤ 100000) :
    Calls Tryz.prog 50 #[.slice A l.length cap, .int .i64 k] w fun e w' => e = .returned (.bool (decide (k ∈ l))) ∧ Sep r [] F w' := by
  refine Z.enter Tryz.func50 Tryz.ntmps50 rfl rfl ?_
  repeat' (first|refine K ?_|(refine Sh.sa hS ?_;clear hS;intro w hS)|(refine K3 ?_;clear hS;intro g w hS hge)|((first|refine GS ?_ ?_|refine VB ?_ ?_)<;>intro hb<;>(try simp only [J1,J2,J3,J4,J5,J6] at hb)<;>(try (exfalso;first|omega|exact hb trivial))))
  refine Z.eff (Z.cl (index_i A l cap k _ _ _ hS hrd hl) rfl ?_) rfl
  clear hS
  rintro e w ⟨i, rfl, hi, hS⟩
  refine ⟨_, rfl, ?_⟩
  repeat' (first|refine K ?_|(refine Sh.sa hS ?_;clear hS;intro w hS)|(refine K3 ?_;clear hS;intro g w hS hge)|((first|refine GS ?_ ?_|refine VB ?_ ?_)<;>intro hb<;>(try simp only [J1,J2,J3,J4,J5,J6] at hb)<;>(try (exfalso;first|omega|exact hb trivial))))
  refine Dnt Tryz.results50 ?_
  refine ⟨?_, hS⟩
  by_cases h : k ∈ l
  · have := hi.1 h
    simp [Z.packR, h, this]
  · have : ¬ 0 ≤ i := fun h2 => h (hi.2 h2)
    simp [Z.packR, h, this]
theorem of1_z (g : Nat) (A : Option Addr) (l : List Int) (cap : Nat) (k : Int) (r : World) (F : List Res) (w : World) (hS : Sep r [] F w) {kk : List Res} (ha : At F kk (.blk g 3 [.int .i64 k])) (hrd : Reads r F 1 (.slice A l.length cap) (l.map ztC)) (hl : l.length ≤ 100000) :
    Calls Tryz.prog 49 #[.slice A l.length cap, .pointer (some ⟨g, 0, none⟩)] w fun e w' => e = .returned (.bool (decide (k ∈ l))) ∧ Sep r [] F w' := by
  refine Z.enter Tryz.func49 Tryz.ntmps49 rfl rfl ?_
  repeat' (first|refine K ?_|(refine Sh.sa hS ?_;clear hS;intro w hS)|(refine K3 ?_;clear hS;intro g w hS hge)|((first|refine GS ?_ ?_|refine VB ?_ ?_)<;>intro hb<;>(try simp only [J1,J2,J3,J4,J5,J6] at hb)<;>(try (exfalso;first|omega|exact hb trivial))))
  refine Z.eff (Z.ld hS rfl ha rfl ?_) rfl
  repeat' (first|refine K ?_|(refine Sh.sa hS ?_;clear hS;intro w hS)|(refine K3 ?_;clear hS;intro g w hS hge)|((first|refine GS ?_ ?_|refine VB ?_ ?_)<;>intro hb<;>(try simp only [J1,J2,J3,J4,J5,J6] at hb)<;>(try (exfalso;first|omega|exact hb trivial))))
  refine Z.eff (Z.cl (contains_i A l cap k _ _ _ hS hrd hl) rfl ?_) rfl
  clear hS
  rintro e w ⟨rfl, hS⟩
  refine ⟨_, rfl, ?_⟩
  repeat' (first|refine K ?_|(refine Sh.sa hS ?_;clear hS;intro w hS)|(refine K3 ?_;clear hS;intro g w hS hge)|((first|refine GS ?_ ?_|refine VB ?_ ?_)<;>intro hb<;>(try simp only [J1,J2,J3,J4,J5,J6] at hb)<;>(try (exfalso;first|omega|exact hb trivial))))
  refine Dnt Tryz.results49 ?_
  exact ⟨rfl, hS⟩
set_option maxHeartbeats 1000000 in
theorem indexw_z (g : Nat) (B : Option Addr) (C : Nat) (W : List Wv) (k : Int) (j : Nat) (r : World) (F : List Res) (w : World) (hS : Sep r [] F w) {kk : List Res} (ha : At F kk (.blk g 3 [.int .i64 k])) (hw : WvR r F B C W) (hl : W.length ≤ 100000) (hx : ∀ x, x ∈ W → x.l.length ≤ 100000) (hj : j < W.length) (hk : k ∈ (W[j]).l) (hone : ∀ p (hp : p < W.length), k ∈ (W[p]).l → p = j) :
    Calls Tryz.prog 48 #[.slice B W.length C, .func (.func 49) #[] #[.pointer (some ⟨g, 0, none⟩)]] w fun e w' => e = .returned (.int .i64 j) ∧ Sep r [] F w' := by
  refine Z.enter Tryz.func48 Tryz.ntmps48 rfl rfl ?_
  repeat' (first|refine K ?_|(refine Sh.sa hS ?_;clear hS;intro w hS)|(refine K3 ?_;clear hS;intro g w hS hge)|((first|refine GS ?_ ?_|refine VB ?_ ?_)<;>intro hb<;>(try simp only [J1,J2,J3,J4,J5,J6] at hb)<;>(try (exfalso;first|omega|exact hb trivial))))
  refine Z.lpS [4, 5, 8, 9, 10, 11, 12, 13, 14, 15, 16, 17, 18] (fun m w z => ∃ i : Nat, z = [(8, .int .i64 i)] ∧ i ≤ j ∧ m = W.length - i ∧ Sep r [] F w) _ [(8, .int .i64 (0 : Nat))] (by repeat (first | exact trivial | refine ⟨rfl, ?_⟩)) ⟨0, rfl, by omega, rfl, hS⟩ ?_
  clear hS
  rintro m f0 w _ ⟨i, rfl, hi, rfl, hS⟩
  have hlt : i < W.length := by omega
  obtain ⟨gb, o, rfl, hra⟩ := hw.get [] hS hlt
  have hin := hw.inn _ (List.getElem_mem hlt)
  have hxl := hx _ (List.getElem_mem hlt)
  have hio := hone i hlt
  have hij : i = j → k ∈ (W[i]).l := fun h => by subst h; exact hk
  generalize W[i] = x at *
  obtain ⟨lx, Ax, cx⟩ := x
  simp only at hin hxl hio hij
  repeat' (first|refine K ?_|(refine Sh.sa hS ?_;clear hS;intro w hS)|(refine K3 ?_;clear hS;intro g w hS hge)|((first|refine GS ?_ ?_|refine VB ?_ ?_)<;>intro hb<;>(try simp only [J1,J2,J3,J4,J5,J6] at hb)<;>(try (exfalso;first|omega|exact hb trivial))))
  refine Z.eff (Z.clf rfl (of1_z g Ax lx cx k _ _ _ hS ha hin hxl) rfl ?_) rfl
  clear hS hra
  rintro e w ⟨rfl, hS⟩
  refine ⟨_, rfl, ?_⟩
  by_cases hkx : k ∈ lx
  · have := hio hkx
    subst this
    rw [decide_eq_true hkx]
    repeat' (first|refine K ?_|(refine Sh.sa hS ?_;clear hS;intro w hS)|(refine K3 ?_;clear hS;intro g w hS hge)|((first|refine GS ?_ ?_|refine VB ?_ ?_)<;>intro hb<;>(try simp only [J1,J2,J3,J4,J5,J6] at hb)<;>(try (exfalso;first|omega|exact hb trivial))))
    refine Dnt Tryz.results48 ?_
    exact ⟨rfl, hS⟩
  · have hne : i ≠ j := fun h => hkx (hij h)
    rw [decide_eq_false hkx]
    repeat' (first|refine K ?_|(refine Sh.sa hS ?_;clear hS;intro w hS)|(refine K3 ?_;clear hS;intro g w hS hge)|((first|refine GS ?_ ?_|refine VB ?_ ?_)<;>intro hb<;>(try simp only [J1,J2,J3,J4,J5,J6] at hb)<;>(try (exfalso;first|omega|exact hb trivial))))
    refine Sh.again (W.length - (i + 1)) [(8, .int .i64 (i + 1 : Nat))] ?_
    exact ⟨i + 1, rfl, by omega, rfl, hS⟩
theorem of_z (B : Option Addr) (C : Nat) (W : List Wv) (k : Int) (j : Nat) (r : World) (F : List Res) (w : World) (hS : Sep r [] F w) (hw : WvR r F B C W) (hl : W.length ≤ 100000) (hx : ∀ x, x ∈ W → x.l.length ≤ 100000) (hj : j < W.length) (hk : k ∈ (W[j]).l) (hone : ∀ p (hp : p < W.length), k ∈ (W[p]).l → p = j) :
    Calls Tryz.prog 24 #[.slice B W.length C, .int .i64 k] w fun e w' => e = .returned (.int .i64 j) ∧ Sep r [] F w' := by
  refine Z.enter Tryz.func24 Tryz.ntmps24 rfl rfl ?_
  repeat' (first|refine K ?_|(refine Sh.sa hS ?_;clear hS;intro w hS)|(refine K3 ?_;clear hS;intro g w hS hge)|((first|refine GS ?_ ?_|refine VB ?_ ?_)<;>intro hb<;>(try simp only [J1,J2,J3,J4,J5,J6] at hb)<;>(try (exfalso;first|omega|exact hb trivial))))
  rename Nat => g
  refine Z.eff (Z.cl (indexw_z g B C W k j _ _ _ hS (kk := _) (by repeat (first | exact At.here | apply At.next)) (hw.app [_]) hl hx hj hk hone) rfl ?_) rfl
  clear hS
  rintro e w ⟨rfl, hS⟩
  refine ⟨_, rfl, ?_⟩
  repeat' (first|refine K ?_|(refine Sh.sa hS ?_;clear hS;intro w hS)|(refine K3 ?_;clear hS;intro g w hS hge)|((first|refine GS ?_ ?_|refine VB ?_ ?_)<;>intro hb<;>(try simp only [J1,J2,J3,J4,J5,J6] at hb)<;>(try (exfalso;first|omega|exact hb trivial))))
  refine Dnt Tryz.results24 ?_
  exact ⟨rfl, hS.sb⟩
set_option maxHeartbeats 1000000 in
theorem compact_i (A : Option Addr) (l : List Int) (cap : Nat) (r : World) (F : List Res) (w : World) (hS : Sep r [] F w) (hrd : Reads r F 1 (.slice A l.length cap) (l.map ztC)) (hl : l.length ≤ 100000) (hasc : l.Pairwise (· < ·)) :
    Calls Tryz.prog 47 #[.slice A l.length cap] w fun e w' => e = .returned (.slice A l.length cap) ∧ Sep r [] F w' := by
  refine Z.enter Tryz.func47 Tryz.ntmps47 rfl rfl ?_
  repeat' (first|refine K ?_|(refine Sh.sa hS ?_;clear hS;intro w hS)|(refine K3 ?_;clear hS;intro g w hS hge)|((first|refine GS ?_ ?_|refine VB ?_ ?_)<;>intro hb<;>(try simp only [J1,J2,J3,J4,J5,J6] at hb)<;>(try (exfalso;first|omega|exact hb trivial))))
  · refine Dnt Tryz.results47 ?_
    exact ⟨rfl, hS⟩
  refine Z.lpS [2, 3, 4, 5, 10, 11, 12, 13, 14, 15, 16, 17, 18, 19, 20, 21, 22, 23, 24, 25, 26, 27, 28, 29, 30, 31, 32, 33, 34, 35, 36, 37, 38, 39, 40, 41, 42, 43, 44, 45, 46, 47, 48, 49, 50, 51, 52, 53, 54, 55, 56, 57, 58, 59] (fun m w z => ∃ i : Nat, z = [(3, .int .i64 (i + 1 : Nat))] ∧ i + 1 ≤ l.length ∧ m = l.length - i ∧ Sep r [] F w) _ [(3, .int .i64 (0 + 1 : Nat))] (by repeat (first | exact trivial | refine ⟨rfl, ?_⟩)) ⟨0, rfl, by omega, rfl, hS⟩ ?_
  clear hS
  rintro m f0 w _ ⟨i, rfl, hi, rfl, hS⟩
  by_cases hlt : i + 1 < l.length
  · obtain ⟨gb, o, rfl, _⟩ := int_get hrd [] hS hlt
    have hra : ∀ X, Sep r [] F X → X.rangeAt gb (o + (i + 1) * 1) (ztC l[i + 1]) := fun X h => int_geta hrd [] h rfl hlt
    have hrb : ∀ X, Sep r [] F X → X.rangeAt gb (o + (((i + 1 : Nat) : Int) - 1).toNat * 1) (ztC (l[i]'(by omega))) := fun X h => by
      rw [show (((i + 1 : Nat) : Int) - 1).toNat = i by omega]
      exact int_geta hrd [] h rfl (by omega)
    have hne := List.pairwise_iff_getElem.1 hasc i (i + 1) (by omega) hlt (by omega)
    generalize l[i + 1] = x at *
    generalize (l[i]'(by omega)) = y at *
    repeat' (first|refine K ?_|(refine Sh.sa hS ?_;clear hS;intro w hS)|(refine K3 ?_;clear hS;intro g w hS hge)|((first|refine GS ?_ ?_|refine VB ?_ ?_)<;>intro hb<;>(try simp only [J1,J2,J3,J4,J5,J6] at hb)<;>(try (exfalso;first|omega|exact hb trivial))))
    refine D.startS hS 10 10 (by kernel_rfl) rfl ?_
    replace hS := hS.drew
    refine Sh.dp 0 1 ?_
    refine Sh.dp 1 3 ?_
    first | refine D.ixn 2 7 rfl D.wantedN (by kernel_rfl) rfl rfl rfl (by omega) ?_ | refine D.ix 2 7 rfl D.wantedN (by kernel_rfl) rfl rfl rfl (by omega) ?_ | refine D.ia 2 7 rfl D.wantedN (by kernel_rfl) rfl rfl rfl (by omega) ?_
    refine Sh.dp 4 23 ?_
    refine Sh.dp 5 55 ?_
    first | refine D.sum 6 119 rfl D.wantedN (by kernel_rfl) rfl (by constructor <;> omega) ?_ | refine D.sumW 6 119 rfl D.wantedN (by kernel_rfl) rfl ?_
    first | refine D.ixn 7 247 rfl D.wantedN (by kernel_rfl) rfl rfl rfl (by omega) ?_ | refine D.ix 7 247 rfl D.wantedN (by kernel_rfl) rfl rfl rfl (by omega) ?_ | refine D.ia 7 247 rfl D.wantedN (by kernel_rfl) rfl rfl rfl (by omega) ?_
    refine D.ldR 3 255 rfl D.wantedN (by kernel_rfl) rfl hra rfl ?_
    refine D.ldR 8 511 rfl D.wantedN (by kernel_rfl) rfl hrb rfl ?_
    first | refine D.pr 9 1023 rfl D.wantedN (by kernel_rfl) rfl ?_ | refine D.pl 9 1023 rfl D.wantedN (by kernel_rfl) (R.eqa rfl rfl rfl rfl) ?_
    refine D.done (by kernel_rfl) ?_
    repeat' (first|refine K ?_|(refine Sh.sa hS ?_;clear hS;intro w hS)|(refine K3 ?_;clear hS;intro g w hS hge)|((first|refine GS ?_ ?_|refine VB ?_ ?_)<;>intro hb<;>(try simp only [J1,J2,J3,J4,J5,J6] at hb)<;>(try (exfalso;first|omega|exact hb trivial))))
    refine Sh.again (l.length - (i + 1)) [(3, .int .i64 (i + 1 + 1 : Nat))] ?_
    exact ⟨i + 1, rfl, by omega, rfl, hS⟩
  · repeat' (first|refine K ?_|(refine Sh.sa hS ?_;clear hS;intro w hS)|(refine K3 ?_;clear hS;intro g w hS hge)|((first|refine GS ?_ ?_|refine VB ?_ ?_)<;>intro hb<;>(try simp only [J1,J2,J3,J4,J5,J6] at hb)<;>(try (exfalso;first|omega|exact hb trivial))))
    refine Dnt Tryz.results47 ?_
    exact ⟨rfl, hS⟩
def flatW (W : List Wv) : List Int := (W.map Wv.l).flatten
theorem flatW_succ {W : List Wv} {i : Nat} (hi : i < W.length) : flatW (W.take (i + 1)) = flatW (W.take i) ++ (W[i]).l := by
  unfold flatW
  rw [List.take_succ_eq_append_getElem hi, List.map_append, List.flatten_append]
  simp
set_option maxHeartbeats 1000000 in
theorem concat_z (B : Option Addr) (C : Nat) (W : List Wv) (r : World) (F : List Res) (w : World) (hS : Sep r [] F w) (hw : WvR r F B C W) (hl : W.length ≤ 100) (hx : ∀ x, x ∈ W → x.l.length ≤ 100) :
    Calls Tryz.prog 46 #[.slice B W.length C] w fun e w' => ∃ A c, e = .returned (.slice A (flatW W).length c) ∧ (flatW W).length ≤ 10000 ∧ Sep r [] (.sl 3 1 (.slice A (flatW W).length c) ((flatW W).map ztC) :: F) w' := by
  refine Z.enter Tryz.func46 Tryz.ntmps46 rfl rfl ?_
  repeat' (first|refine K ?_|(refine Sh.sa hS ?_;clear hS;intro w hS)|(refine K3 ?_;clear hS;intro g w hS hge)|((first|refine GS ?_ ?_|refine VB ?_ ?_)<;>intro hb<;>(try simp only [J1,J2,J3,J4,J5,J6] at hb)<;>(try (exfalso;first|omega|exact hb trivial))))
  refine Z.lpS [3, 5, 11, 12, 13, 14, 15, 16, 17, 18, 19, 20, 21, 22] (fun m w z => ∃ i n : Nat, z = [(3, .int .i64 n), (11, .int .i64 i)] ∧ i ≤ W.length ∧ n ≤ i * 100 ∧ m = W.length - i ∧ Sep r [] F w) _ [(3, .int .i64 (0 : Nat)), (11, .int .i64 (0 : Nat))] (by repeat (first | exact trivial | refine ⟨rfl, ?_⟩)) ⟨0, 0, rfl, by omega, by omega, rfl, hS⟩ ?_
  clear hS
  rintro m f0 w _ ⟨i, n, rfl, hi, hn, rfl, hS⟩
  by_cases hlt : i < W.length
  · obtain ⟨gb, o, rfl, hra⟩ := hw.get [] hS hlt
    have hxl := hx _ (List.getElem_mem hlt)
    generalize W[i] = x at *
    obtain ⟨lx, Ax, cx⟩ := x
    simp only [Wv.cells] at hxl hra
    repeat' (first|refine K ?_|(refine Sh.sa hS ?_;clear hS;intro w hS)|(refine K3 ?_;clear hS;intro g w hS hge)|((first|refine GS ?_ ?_|refine VB ?_ ?_)<;>intro hb<;>(try simp only [J1,J2,J3,J4,J5,J6] at hb)<;>(try (exfalso;first|omega|exact hb trivial))))
    refine Sh.again (W.length - (i + 1)) [(3, .int .i64 (n + lx.length : Nat)), (11, .int .i64 (i + 1 : Nat))] ?_
    exact ⟨i + 1, n + lx.length, rfl, by omega, by omega, rfl, hS⟩
  repeat' (first|refine K ?_|(refine Sh.sa hS ?_;clear hS;intro w hS)|(refine K3 ?_;clear hS;intro g w hS hge)|((first|refine GS ?_ ?_|refine VB ?_ ?_)<;>intro hb<;>(try simp only [J1,J2,J3,J4,J5,J6] at hb)<;>(try (exfalso;first|omega|exact hb trivial))))
  clear hlt hb
  refine Z.eff (Z.cl (grow_z n _ _ _ hS (by omega)) rfl ?_) rfl
  clear hS
  rintro e w ⟨A1, c1, rfl, hS⟩
  refine ⟨_, rfl, ?_⟩
  repeat' (first|refine K ?_|(refine Sh.sa hS ?_;clear hS;intro w hS)|(refine K3 ?_;clear hS;intro g w hS hge)|((first|refine GS ?_ ?_|refine VB ?_ ?_)<;>intro hb<;>(try simp only [J1,J2,J3,J4,J5,J6] at hb)<;>(try (exfalso;first|omega|exact hb trivial))))
  refine Z.lpS [6, 8, 27, 28, 29, 30, 31, 32, 33, 34] (fun m w z => ∃ (i : Nat) (o : List Int) (A2 : Option Addr) (c2 : Nat), z = [(6, .slice A2 o.length c2), (27, .int .i64 i)] ∧ i ≤ W.length ∧ o.length ≤ i * 100 ∧ o = flatW (W.take i) ∧ m = W.length - i ∧ Sep r [] (.sl 3 1 (.slice A2 o.length c2) (o.map ztC) :: F) w) _ [(6, .slice A1 0 c1), (27, .int .i64 (0 : Nat))] (by repeat (first | exact trivial | refine ⟨rfl, ?_⟩)) ⟨0, [], A1, c1, rfl, by omega, by simp, by simp [flatW], rfl, hS⟩ ?_
  clear hS
  rintro m f0 w _ ⟨i, o, A2, c2, rfl, hi, hol, ho, rfl, hS⟩
  by_cases hlt : i < W.length
  · obtain ⟨gb, ob, rfl, hra⟩ := hw.get [_] hS hlt
    have hxl := hx _ (List.getElem_mem hlt)
    have hin := hw.inn _ (List.getElem_mem hlt)
    have hfl := flatW_succ hlt
    generalize W[i] = x at *
    obtain ⟨lx, Ax, cx⟩ := x
    simp only [Wv.cells] at hxl hin hfl hra
    repeat' (first|refine K ?_|(refine Sh.sa hS ?_;clear hS;intro w hS)|(refine K3 ?_;clear hS;intro g w hS hge)|((first|refine GS ?_ ?_|refine VB ?_ ?_)<;>intro hb<;>(try simp only [J1,J2,J3,J4,J5,J6] at hb)<;>(try (exfalso;first|omega|exact hb trivial))))
    refine Z.eff (Z.apm (l' := lx) hS rfl rfl rfl (by repeat (first | exact At.here | apply At.next)) (hin [_] _ hS) (by (try simp only [maxLen, List.length_take, List.length_drop, List.length_append, List.length_cons, List.length_nil, List.length_map]); omega) (by (try simp only [maxLen, List.length_take, List.length_drop, List.length_append, List.length_cons, List.length_nil, List.length_map]); omega) ?_) rfl
    clear hS hra; intro A3 c3 w hS
    rw [← List.length_append] at hS ⊢
    repeat' (first|refine K ?_|(refine Sh.sa hS ?_;clear hS;intro w hS)|(refine K3 ?_;clear hS;intro g w hS hge)|((first|refine GS ?_ ?_|refine VB ?_ ?_)<;>intro hb<;>(try simp only [J1,J2,J3,J4,J5,J6] at hb)<;>(try (exfalso;first|omega|exact hb trivial))))
    refine Sh.again (W.length - (i + 1)) [(6, _), (27, .int .i64 (i + 1 : Nat))] ?_
    exact ⟨i + 1, o ++ lx, A3, c3, rfl, by omega, by simp; omega, by rw [hfl, ho], rfl, hS.sb⟩
  · have hi2 : i = W.length := by omega
    rw [List.take_of_length_le (by omega)] at ho
    subst ho
    repeat' (first|refine K ?_|(refine Sh.sa hS ?_;clear hS;intro w hS)|(refine K3 ?_;clear hS;intro g w hS hge)|((first|refine GS ?_ ?_|refine VB ?_ ?_)<;>intro hb<;>(try simp only [J1,J2,J3,J4,J5,J6] at hb)<;>(try (exfalso;first|omega|exact hb trivial))))
    refine Dnt Tryz.results46 ?_
    exact ⟨A2, c2, rfl, by omega, hS⟩
theorem cells_z (B : Option Addr) (C : Nat) (W : List Wv) (x : List Int) (r : World) (F : List Res) (w : World) (hS : Sep r [] F w) (hw : WvR r F B C W) (hl : W.length ≤ 100) (hx : ∀ x, x ∈ W → x.l.length ≤ 100) (hasc : x.Pairwise (· < ·)) (hp : (flatW W).Perm x) :
    Calls Tryz.prog 23 #[.slice B W.length C] w fun e w' => ∃ A c, e = .returned (.slice A x.length c) ∧ Sep r [] (.sl 3 1 (.slice A x.length c) (x.map ztC) :: F) w' := by
  have hsr : srt (flatW W) = x := by
    have hn : (flatW W).Nodup := hp.nodup_iff.2 (hasc.imp fun h => by omega)
    rw [srt_of_perm hp hn, srt_of_asc hasc]
  have hln := hp.length_eq
  refine Z.enter Tryz.func23 Tryz.ntmps23 rfl rfl ?_
  repeat' (first|refine K ?_|(refine Sh.sa hS ?_;clear hS;intro w hS)|(refine K3 ?_;clear hS;intro g w hS hge)|((first|refine GS ?_ ?_|refine VB ?_ ?_)<;>intro hb<;>(try simp only [J1,J2,J3,J4,J5,J6] at hb)<;>(try (exfalso;first|omega|exact hb trivial))))
  refine Z.eff (Z.cl (concat_z B C W _ _ _ hS hw hl hx) rfl ?_) rfl
  clear hS
  rintro e w ⟨A, c, rfl, hfl, hS⟩
  refine ⟨_, rfl, ?_⟩
  repeat' (first|refine K ?_|(refine Sh.sa hS ?_;clear hS;intro w hS)|(refine K3 ?_;clear hS;intro g w hS hge)|((first|refine GS ?_ ?_|refine VB ?_ ?_)<;>intro hb<;>(try simp only [J1,J2,J3,J4,J5,J6] at hb)<;>(try (exfalso;first|omega|exact hb trivial))))
  refine Z.eff (Z.cl (sort_z A (flatW W) c _ _ _ hS (by omega)) rfl ?_) rfl
  clear hS
  rintro e w ⟨rfl, hS⟩
  refine ⟨_, rfl, ?_⟩
  rw [hsr] at hS
  repeat' (first|refine K ?_|(refine Sh.sa hS ?_;clear hS;intro w hS)|(refine K3 ?_;clear hS;intro g w hS hge)|((first|refine GS ?_ ?_|refine VB ?_ ?_)<;>intro hb<;>(try simp only [J1,J2,J3,J4,J5,J6] at hb)<;>(try (exfalso;first|omega|exact hb trivial))))
  rw [hln] at hS ⊢
  refine Z.eff (Z.cl (compact_i A x c _ _ _ hS (Reads.of_at (e := 3) .here) (by omega) hasc) rfl ?_) rfl
  clear hS
  rintro e w ⟨rfl, hS⟩
  refine ⟨_, rfl, ?_⟩
  repeat' (first|refine K ?_|(refine Sh.sa hS ?_;clear hS;intro w hS)|(refine K3 ?_;clear hS;intro g w hS hge)|((first|refine GS ?_ ?_|refine VB ?_ ?_)<;>intro hb<;>(try simp only [J1,J2,J3,J4,J5,J6] at hb)<;>(try (exfalso;first|omega|exact hb trivial))))
  refine Dnt Tryz.results23 ?_
  exact ⟨A, c, rfl, hS⟩
set_option maxHeartbeats 1000000 in
theorem sameI_z (l l' : List Int) (v v' : Value) (r : World) (F : List Res) (w : World) (hS : Sep r [] F w) (hrd : Reads r F 1 v (l.map ztC)) (hrd' : Reads r F 1 v' (l'.map ztC)) (hl : l.length ≤ 100000) (hl' : l'.length ≤ 100000) :
    Calls Tryz.prog 22 #[v, v'] w fun e w' => e = .returned (.bool (decide (l = l'))) ∧ Sep r [] F w' := by
  obtain ⟨A, c, rfl, hc⟩ := (hrd [] w hS).mform
  obtain ⟨A', c', rfl, hc'⟩ := (hrd' [] w hS).mform
  refine Z.enter Tryz.func22 Tryz.ntmps22 rfl rfl ?_
  repeat' (first|refine K ?_|(refine Sh.sa hS ?_;clear hS;intro w hS)|(refine K3 ?_;clear hS;intro g w hS hge)|((first|refine GS ?_ ?_|refine VB ?_ ?_)<;>intro hb<;>(try simp only [J1,J2,J3,J4,J5,J6] at hb)<;>(try (exfalso;first|omega|exact hb trivial))))
  · refine Dnt Tryz.results22 ?_
    have : l ≠ l' := by rintro rfl; exact hb rfl
    exact ⟨by simp [this, Z.packR], hS⟩
  have hlen : l.length = l'.length := by omega
  refine Z.lpS [4, 5, 13, 14, 15, 16, 17, 18, 19, 20, 21, 22, 23, 24, 25] (fun m w s => ∃ q : Nat, s = [(13, .int .i64 q)] ∧ q ≤ l.length ∧ l.take q = l'.take q ∧ m = l.length - q ∧ Sep r [] F w) _ [(13, .int .i64 (0 : Nat))] (by repeat (first | exact trivial | refine ⟨rfl, ?_⟩)) ⟨0, rfl, by omega, by simp, rfl, hS⟩ ?_
  clear hS
  rintro m f0 w _ ⟨q, rfl, hq, heq, rfl, hS⟩
  by_cases hlt : q < l.length
  · have hlt' : q < l'.length := by omega
    obtain ⟨gb, o, rfl, _, _⟩ := (hrd [] w hS).mat (by omega) hlt
    obtain ⟨gb', o', rfl, _, _⟩ := (hrd' [] w hS).mat (by omega) hlt'
    have hra : ∀ W, Sep r [] F W → W.rangeAt gb (o + q * 1) (ztC l[q]) := fun W h => (hrd [] W h).elem (by omega) hlt
    have hra' : ∀ W, Sep r [] F W → W.rangeAt gb' (o' + q * 1) (ztC l'[q]) := fun W h => (hrd' [] W h).elem (by omega) hlt'
    repeat' (first|refine K ?_|(refine Sh.sa hS ?_;clear hS;intro w hS)|(refine K3 ?_;clear hS;intro g w hS hge)|((first|refine GS ?_ ?_|refine VB ?_ ?_)<;>intro hb<;>(try simp only [J1,J2,J3,J4,J5,J6] at hb)<;>(try (exfalso;first|omega|exact hb trivial))))
    refine D.startS hS 9 9 (by kernel_rfl) rfl ?_
    replace hS := hS.drew
    refine Sh.dp 0 1 ?_
    refine Sh.dp 1 3 ?_
    first | refine D.ixn 2 7 rfl D.wantedN (by kernel_rfl) rfl rfl rfl (by omega) ?_ | refine D.ix 2 7 rfl D.wantedN (by kernel_rfl) rfl rfl rfl (by omega) ?_ | refine D.ia 2 7 rfl D.wantedN (by kernel_rfl) rfl rfl rfl (by omega) ?_
    refine Sh.dp 4 23 ?_
    refine Sh.dp 5 55 ?_
    first | refine D.ixn 6 119 rfl D.wantedN (by kernel_rfl) rfl rfl rfl (by omega) ?_ | refine D.ix 6 119 rfl D.wantedN (by kernel_rfl) rfl rfl rfl (by omega) ?_ | refine D.ia 6 119 rfl D.wantedN (by kernel_rfl) rfl rfl rfl (by omega) ?_
    refine D.ldR 3 127 rfl D.wantedN (by kernel_rfl) rfl hra rfl ?_
    refine D.ldR 7 255 rfl D.wantedN (by kernel_rfl) rfl hra' rfl ?_
    first | refine D.pr 8 511 rfl D.wantedN (by kernel_rfl) rfl ?_ | refine D.pl 8 511 rfl D.wantedN (by kernel_rfl) (R.nea rfl rfl rfl rfl) ?_
    refine D.done (by kernel_rfl) ?_
    repeat' (first|refine K ?_|(refine Sh.sa hS ?_;clear hS;intro w hS)|(refine K3 ?_;clear hS;intro g w hS hge)|((first|refine GS ?_ ?_|refine VB ?_ ?_)<;>intro hb<;>(try simp only [J1,J2,J3,J4,J5,J6] at hb)<;>(try (exfalso;first|omega|exact hb trivial))))
    · refine Dnt Tryz.results22 ?_
      have : l ≠ l' := by rintro rfl; exact hb rfl
      exact ⟨by simp [this, Z.packR], hS⟩
    · refine Sh.again (l.length - (q + 1)) [(13, .int .i64 (q + 1 : Nat))] ?_
      have hb' : l[q] = l'[q] := by first | exact hb | omega
      exact ⟨q + 1, rfl, by omega, by rw [List.take_succ_eq_append_getElem hlt, List.take_succ_eq_append_getElem hlt', heq, hb'], rfl, hS⟩
  · repeat' (first|refine K ?_|(refine Sh.sa hS ?_;clear hS;intro w hS)|(refine K3 ?_;clear hS;intro g w hS hge)|((first|refine GS ?_ ?_|refine VB ?_ ?_)<;>intro hb<;>(try simp only [J1,J2,J3,J4,J5,J6] at hb)<;>(try (exfalso;first|omega|exact hb trivial))))
    refine Dnt Tryz.results22 ?_
    have : l = l' := by rw [← List.take_of_length_le (l := l) (i := q) (by omega), ← List.take_of_length_le (l := l') (i := q) (by omega), heq]
    exact ⟨by simp [this, Z.packR], hS⟩
end Go.Proofs.YtmgpionlfemhdaaGreat
