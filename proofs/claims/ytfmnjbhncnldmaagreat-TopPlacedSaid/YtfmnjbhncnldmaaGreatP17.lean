import Derived.Test.YtfmnjbhncnldmaaGreatP16
set_option linter.unusedSimpArgs false
set_option linter.unusedVariables false
namespace Go.Proofs.YtfmnjbhncnldmaaGreat
open Go.RowKit
attribute [local irreducible] Res.blk Res.sl Res.all Res.ex Res.pure Res.star
def ptC (g : Nat) : List Value := [.pointer (some ⟨g, 0, none⟩)]
set_option maxHeartbeats 1000000 in
theorem qnew_z (r : World) (F : List Res) (w : World) (hS : Sep r [] F w) :
    Calls Tryz.prog 61 #[.int .i64 1] w fun e w' => ∃ (gq gp gj : Nat) (A : Option Addr) (c : Nat), e = .returned (.tuple #[.pointer (some ⟨gq, 0, none⟩), .int .i64 0]) ∧ Sep r [] (.blk gq 248 [.slice A 1 c, (.slice none 0 0), (.slice none 0 0)] :: .sl 249 1 (.slice A 1 c) ([gp].map ptC) :: JN gj 0 (-1) [] 0 :: .blk gp 331 (rpC gj 1 0 0 0) :: F) w' := by
  refine Z.enter Tryz.func61 Tryz.ntmps61 rfl rfl ?_
  repeat' (first|refine K ?_|(refine Sh.sa hS ?_;clear hS;intro w hS)|(refine K3 ?_;clear hS;intro g w hS hge)|(refine KB ?_ ?_<;>intro hb<;>(try simp only [JJ] at hb)<;>(try exact JX))|fail)
  rename Nat => gq
  replace hS := Z.nilsl hS 249 1 none
  refine Z.lpS [2, 3, 5, 6, 7, 10, 11, 12, 13, 14, 15, 16, 17, 18, 19, 20, 21, 22, 23, 24, 25, 26, 27, 28, 29, 30, 31, 32, 33, 34, 35, 36, 37] (fun m w z => ∃ (i : Nat), z = [(5, .int .i64 i)] ∧ i ≤ 1 ∧ m = 1 - i ∧ ((i = 0 ∧ Sep r [] (.blk gq 248 [(.slice none 0 0), (.slice none 0 0), (.slice none 0 0)] :: .sl 249 1 (.slice none 0 0) ([].map ptC) :: F) w) ∨ (i = 1 ∧ ∃ (gp gj : Nat) (A : Option Addr) (c : Nat), Sep r [] (.blk gq 248 [.slice A 1 c, (.slice none 0 0), (.slice none 0 0)] :: .sl 249 1 (.slice A 1 c) ([gp].map ptC) :: JN gj 0 (-1) [] 0 :: .blk gp 331 (rpC gj 1 0 0 0) :: F) w))) _ [(5, .int .i64 (0 : Nat))] TrF ⟨0, rfl, by omega, rfl, .inl ⟨rfl, hS.sb⟩⟩ ?_
  clear hS
  rintro m f0 w _ ⟨i, rfl, hi, rfl, ⟨rfl, hS⟩ | ⟨rfl, gp, gj, A, c, hS⟩⟩
  · repeat' (first|refine K ?_|(refine Sh.sa hS ?_;clear hS;intro w hS)|(refine K3 ?_;clear hS;intro g w hS hge)|(refine KB ?_ ?_<;>intro hb<;>(try simp only [JJ] at hb)<;>(try exact JX))|fail)
    refine Z.eff (Z.cl (rnew_z _ _ _ hS) rfl ?_) rfl
    clear hS
    rintro e w ⟨gp, gj, rfl, hS⟩
    refine ⟨_, rfl, ?_⟩
    repeat' (first|refine K ?_|(refine Sh.sa hS ?_;clear hS;intro w hS)|(refine K3 ?_;clear hS;intro g w hS hge)|(refine KB ?_ ?_<;>intro hb<;>(try simp only [JJ] at hb)<;>(try exact JX))|fail)
    refine Z.eff (Z.apm (fc := ptC) (l := []) (l' := [gp]) hS rfl rfl rfl AtF (hS.lit1 AtF rfl rfl) LnF LnF ?_) rfl
    clear hS; intro A3 c3 w hS
    repeat' (first|refine K ?_|(refine Sh.sa hS ?_;clear hS;intro w hS)|(refine K3 ?_;clear hS;intro g w hS hge)|(refine KB ?_ ?_<;>intro hb<;>(try simp only [JJ] at hb)<;>(try exact JX))|fail)
    refine Sh.again (0) [(5, .int .i64 (1 : Nat))] ?_
    exact ⟨1, rfl, by omega, rfl, .inr ⟨rfl, gp, gj, A3, c3, hS.sb⟩⟩
  · repeat' (first|refine K ?_|(refine Sh.sa hS ?_;clear hS;intro w hS)|(refine K3 ?_;clear hS;intro g w hS hge)|(refine KB ?_ ?_<;>intro hb<;>(try simp only [JJ] at hb)<;>(try exact JX))|fail)
    refine Dntt Tryz.results61 ?_
    exact ⟨gq, gp, gj, A, c, rfl, hS.sb⟩
def acC (k a : Int) (e : En) : List Value := [.int .i64 k, .int .i64 a, .int .i64 0] ++ e.cells
section
variable (gq gp : Nat) (A Ad : Option Addr) (c dl dc : Nat) (r : World) (F : List Res) (w : World) (hS : Sep r [] (.blk gq 248 [.slice A 1 c, (.slice none 0 0), .slice Ad dl dc] :: .sl 249 1 (.slice A 1 c) ([gp].map ptC) :: F) w)
include hS
theorem qhas_z (i : Int) : Calls Tryz.prog 237 #[.pointer (some ⟨gq, 0, none⟩), .int .i64 i] w fun e w' => e = .returned (.bool (decide (i = 0))) ∧ Sep r [] (.blk gq 248 [.slice A 1 c, (.slice none 0 0), .slice Ad dl dc] :: .sl 249 1 (.slice A 1 c) ([gp].map ptC) :: F) w' := by
  by_cases h : i = 0
  · subst h
    refine Z.enter Tryz.func237 Tryz.ntmps237 rfl rfl ?_
    repeat' (first|refine K ?_|(refine Sh.sa hS ?_;clear hS;intro w hS)|(refine K3 ?_;clear hS;intro g w hS hge)|(refine KB ?_ ?_<;>intro hb<;>(try simp only [JJ] at hb)<;>(try exact JX))|fail)
    refine Dnt Tryz.results237 ?_
    exact ⟨rfl, hS⟩
  · rw [decide_eq_false h]
    refine Z.enter Tryz.func237 Tryz.ntmps237 rfl rfl ?_
    repeat' (first|refine K ?_|(refine Sh.sa hS ?_;clear hS;intro w hS)|(refine K3 ?_;clear hS;intro g w hS hge)|(refine KB ?_ ?_<;>intro hb<;>(try simp only [JJ] at hb)<;>(try exact JX))|fail)
    all_goals
      refine Dnt Tryz.results237 ?_
      exact ⟨by simp [Z.packR, *]; try omega, hS⟩
theorem qsend_z : Calls Tryz.prog 229 #[.pointer (some ⟨gq, 0, none⟩), (.slice none 0 0)] w fun e w' => e = .returned (.tuple #[]) ∧ Sep r [] (.blk gq 248 [.slice A 1 c, (.slice none 0 0), .slice Ad dl dc] :: .sl 249 1 (.slice A 1 c) ([gp].map ptC) :: F) w' := by
  refine Z.enter Tryz.func229 Tryz.ntmps229 rfl rfl ?_
  repeat' (first|refine K ?_|(refine Sh.sa hS ?_;clear hS;intro w hS)|(refine K3 ?_;clear hS;intro g w hS hge)|(refine KB ?_ ?_<;>intro hb<;>(try simp only [JJ] at hb)<;>(try exact JX))|fail)
  refine Z.lpS [5, 8, 9, 10, 11, 12, 13, 14, 15, 16, 17, 18, 19, 20, 21, 22, 23, 24, 25, 26, 27, 28, 29, 30, 31, 32, 33, 34, 35, 36] (fun m w z => z = [(8, .int .i64 (0 : Nat))] ∧ Sep r [] (.blk gq 248 [.slice A 1 c, (.slice none 0 0), .slice Ad dl dc] :: .sl 249 1 (.slice A 1 c) ([gp].map ptC) :: F) w) 0 [(8, .int .i64 (0 : Nat))] TrF ⟨rfl, hS⟩ ?_
  clear hS
  rintro m f0 w _ ⟨rfl, hS⟩
  repeat' (first|refine K ?_|(refine Sh.sa hS ?_;clear hS;intro w hS)|(refine K3 ?_;clear hS;intro g w hS hge)|(refine KB ?_ ?_<;>intro hb<;>(try simp only [JJ] at hb)<;>(try exact JX))|fail)
  refine Dn Tryz.results229 ?_
  exact ⟨rfl, hS⟩
theorem qperm_z (k : Int) (e : En) (hk : k = 1 ∨ k = 2) : Calls Tryz.prog 228 #[.pointer (some ⟨gq, 0, none⟩), .agg (acC k 0 e).toArray] w fun x w' => x = .returned (.bool true) ∧ Sep r [] (.blk gq 248 [.slice A 1 c, (.slice none 0 0), .slice Ad dl dc] :: .sl 249 1 (.slice A 1 c) ([gp].map ptC) :: F) w' := by
  rcases hk with rfl | rfl
  · refine Z.enter Tryz.func228 Tryz.ntmps228 rfl rfl ?_
    repeat' (first|refine K ?_|(refine Sh.sa hS ?_;clear hS;intro w hS)|(refine K3 ?_;clear hS;intro g w hS hge)|(refine KB ?_ ?_<;>intro hb<;>(try simp only [JJ] at hb)<;>(try exact JX))|fail)
    refine Z.eff (Z.cl (qhas_z gq gp A Ad c dl dc _ _ _ ((hS.fo (R := .sl 249 1 (.slice A 1 c) ([gp].map ptC))).fo (R := .blk gq 248 [.slice A 1 c, (.slice none 0 0), .slice Ad dl dc])) 0) rfl ?_) rfl
    clear hS
    rintro e w ⟨rfl, hS⟩
    refine ⟨_, rfl, ?_⟩
    repeat' (first|refine K ?_|(refine Sh.sa hS ?_;clear hS;intro w hS)|(refine K3 ?_;clear hS;intro g w hS hge)|(refine KB ?_ ?_<;>intro hb<;>(try simp only [JJ] at hb)<;>(try exact JX))|fail)
    refine Dnt Tryz.results228 ?_
    exact ⟨rfl, hS.sb⟩
  · refine Z.enter Tryz.func228 Tryz.ntmps228 rfl rfl ?_
    repeat' (first|refine K ?_|(refine Sh.sa hS ?_;clear hS;intro w hS)|(refine K3 ?_;clear hS;intro g w hS hge)|(refine KB ?_ ?_<;>intro hb<;>(try simp only [JJ] at hb)<;>(try exact JX))|fail)
    refine Z.eff (Z.cl (qhas_z gq gp A Ad c dl dc _ _ _ ((hS.fo (R := .sl 249 1 (.slice A 1 c) ([gp].map ptC))).fo (R := .blk gq 248 [.slice A 1 c, (.slice none 0 0), .slice Ad dl dc])) 0) rfl ?_) rfl
    clear hS
    rintro e w ⟨rfl, hS⟩
    refine ⟨_, rfl, ?_⟩
    repeat' (first|refine K ?_|(refine Sh.sa hS ?_;clear hS;intro w hS)|(refine K3 ?_;clear hS;intro g w hS hge)|(refine KB ?_ ?_<;>intro hb<;>(try simp only [JJ] at hb)<;>(try exact JX))|fail)
    refine Dnt Tryz.results228 ?_
    exact ⟨rfl, hS.sb⟩
end
set_option maxHeartbeats 1000000 in
theorem qleader_z (gq gp gj n : Nat) (t v : Int) (log : List Lg) (ro co vo nx : Int) (A Ad : Option Addr) (c dl dc : Nat) (r : World) (F : List Res) (w : World) (hS : Sep r [] (.blk gq 248 [.slice A 1 c, (.slice none 0 0), .slice Ad dl dc] :: .sl 249 1 (.slice A 1 c) ([gp].map ptC) :: JN gj t v log n :: .blk gp 331 (rpC gj ro co vo nx) :: F) w) :
    Calls Tryz.prog 148 #[.pointer (some ⟨gq, 0, none⟩)] w fun e w' => e = .returned (.int .i64 (if ro = 3 then 0 else -1)) ∧ Sep r [] (.blk gq 248 [.slice A 1 c, (.slice none 0 0), .slice Ad dl dc] :: .sl 249 1 (.slice A 1 c) ([gp].map ptC) :: JN gj t v log n :: .blk gp 331 (rpC gj ro co vo nx) :: F) w' := by
  refine Z.enter Tryz.func148 Tryz.ntmps148 rfl rfl ?_
  repeat' (first|refine K ?_|(refine Sh.sa hS ?_;clear hS;intro w hS)|(refine K3 ?_;clear hS;intro g w hS hge)|(refine KB ?_ ?_<;>intro hb<;>(try simp only [JJ] at hb)<;>(try exact JX))|fail)
  refine Z.lpS [3, 4, 5, 11, 12, 13, 14, 15, 16, 17, 18, 19, 20, 21, 22, 23, 24, 25, 26, 27, 28, 29, 30, 31, 32, 33, 34, 35, 36, 37] (fun m w z => ∃ (i : Nat), z = [(3, .int .i64 (if i = 1 ∧ ro = 3 then 0 else -1)), (11, .int .i64 i)] ∧ i ≤ 1 ∧ m = 1 - i ∧ Sep r [] (.blk gq 248 [.slice A 1 c, (.slice none 0 0), .slice Ad dl dc] :: .sl 249 1 (.slice A 1 c) ([gp].map ptC) :: JN gj t v log n :: .blk gp 331 (rpC gj ro co vo nx) :: F) w) _ [(3, .int .i64 (-1)), (11, .int .i64 (0 : Nat))] TrF ⟨0, by simp, by omega, rfl, hS⟩ ?_
  clear hS
  rintro m f0 w _ ⟨i, rfl, hi, rfl, hS⟩
  by_cases hlt : i < 1
  · obtain rfl : i = 0 := by omega
    rw [if_neg (show ¬ ((0 : Nat) = 1 ∧ ro = 3) from fun h => absurd h.1 (by decide))]
    obtain ⟨ga, oa, hAe, _, hra⟩ := (hS.slrows (e := 249) (v := .slice A 1 c) AtF).mat (by simp) (q := 0) (by simp)
    subst hAe
    have hra2 : w.rangeAt ga (oa + 0 * 1) (ptC gp) := by simpa using hra
    clear hra
    repeat' (first|refine K ?_|(refine Sh.sa hS ?_;clear hS;intro w hS)|(refine K3 ?_;clear hS;intro g w hS hge)|(refine KB ?_ ?_<;>intro hb<;>(try simp only [JJ] at hb)<;>(try exact JX))|fail)
    by_cases h3 : ro = 3
    · subst h3
      refine D.startS (Lr := [.blk gq 248 [.slice (some ⟨ga, oa, none⟩) 1 c, (.slice none 0 0), .slice Ad dl dc]]) (hS.sb) 20 20 (by kernel_rfl) rfl ?_
      replace hS := hS.drew
      refine Sh.dp 0 1 ?_
      refine D.ef 1 3 ?_
      refine Z.cl (rrole_z gp gj n t v log 3 co vo nx _ _ _ ((hS.fo (R := .blk gp 331 (rpC gj 3 co vo nx))).fo (R := JN gj t v log n))) rfl ?_
      clear hS
      rintro e w ⟨rfl, hS⟩
      refine ⟨_, rfl, ?_⟩
      refine HMs ?_
      first | refine D.pr 2 7 rfl D.wantedN (by kernel_rfl) rfl ?_ | refine D.pl 2 7 rfl D.wantedN (by kernel_rfl) (R.eqa rfl rfl rfl rfl) ?_
      refine Sh.dp 3 15 ?_
      refine D.slot 19 rfl (fun hb => ?_) NoF
      (try simp only [JJ] at hb)
      refine Sh.dp 4 31 ?_
      refine Sh.dp 5 63 ?_
      refine Sh.dp 6 127 ?_
      refine D.slot 22 rfl (fun hb => ?_) NoF
      (try simp only [JJ] at hb)
      refine D.skF 7 255 rfl (by kernel_rfl) rfl rfl ?_
      refine D.skF 8 511 rfl (by kernel_rfl) rfl rfl ?_
      refine D.skF 9 1023 rfl (by kernel_rfl) rfl rfl ?_
      refine D.skF 10 2047 rfl (by kernel_rfl) rfl rfl ?_
      refine D.skF 11 4095 rfl (by kernel_rfl) rfl rfl ?_
      refine D.skF 12 8191 rfl (by kernel_rfl) rfl rfl ?_
      refine D.skF 13 16383 rfl (by kernel_rfl) rfl rfl ?_
      refine D.skF 14 32767 rfl (by kernel_rfl) rfl rfl ?_
      refine D.skF 15 65535 rfl (by kernel_rfl) rfl rfl ?_
      refine D.skF 16 131071 rfl (by kernel_rfl) rfl rfl ?_
      refine D.skF 17 262143 rfl (by kernel_rfl) rfl rfl ?_
      refine Sh.dp 18 524287 ?_
      refine Sh.dp 19 1048575 ?_
      refine D.done (by kernel_rfl) ?_
      repeat' (first|refine K ?_|(refine Sh.sa hS ?_;clear hS;intro w hS)|(refine K3 ?_;clear hS;intro g w hS hge)|(refine KB ?_ ?_<;>intro hb<;>(try simp only [JJ] at hb)<;>(try exact JX))|fail)
      refine Sh.again (0) [(3, .int .i64 0), (11, .int .i64 (1 : Nat))] ?_
      exact ⟨1, by simp, by omega, rfl, hS.sb⟩
    · refine D.startS (Lr := [.blk gq 248 [.slice (some ⟨ga, oa, none⟩) 1 c, (.slice none 0 0), .slice Ad dl dc]]) (hS.sb) 20 20 (by kernel_rfl) rfl ?_
      replace hS := hS.drew
      refine Sh.dp 0 1 ?_
      refine D.ef 1 3 ?_
      refine Z.cl (rrole_z gp gj n t v log ro co vo nx _ _ _ ((hS.fo (R := .blk gp 331 (rpC gj ro co vo nx))).fo (R := JN gj t v log n))) rfl ?_
      clear hS
      rintro e w ⟨rfl, hS⟩
      refine ⟨_, rfl, ?_⟩
      refine HMs ?_
      first | refine D.pr 2 7 rfl D.wantedN (by kernel_rfl) rfl ?_ | refine D.pl 2 7 rfl D.wantedN (by kernel_rfl) (R.eqa rfl rfl rfl rfl) ?_
      refine Sh.dp 3 15 ?_
      refine D.slot 19 rfl NoF (fun hb => ?_)
      (try simp only [JJ] at hb)
      refine D.skF 4 31 rfl (by kernel_rfl) rfl rfl ?_
      refine D.skF 5 63 rfl (by kernel_rfl) rfl rfl ?_
      refine D.skF 6 127 rfl (by kernel_rfl) rfl rfl ?_
      refine D.skU 7 255 rfl (by kernel_rfl) rfl rfl ?_
      refine D.skU 8 511 rfl (by kernel_rfl) rfl rfl ?_
      refine D.skU 9 1023 rfl (by kernel_rfl) rfl rfl ?_
      refine D.skU 10 2047 rfl (by kernel_rfl) rfl rfl ?_
      refine D.skU 11 4095 rfl (by kernel_rfl) rfl rfl ?_
      refine D.skU 12 8191 rfl (by kernel_rfl) rfl rfl ?_
      refine D.skU 13 16383 rfl (by kernel_rfl) rfl rfl ?_
      refine D.skU 14 32767 rfl (by kernel_rfl) rfl rfl ?_
      refine D.skU 15 65535 rfl (by kernel_rfl) rfl rfl ?_
      refine D.skU 16 131071 rfl (by kernel_rfl) rfl rfl ?_
      refine D.skU 17 262143 rfl (by kernel_rfl) rfl rfl ?_
      refine D.skF 18 524287 rfl (by kernel_rfl) rfl rfl ?_
      refine Sh.dp 19 1048575 ?_
      refine D.done (by kernel_rfl) ?_
      repeat' (first|refine K ?_|(refine Sh.sa hS ?_;clear hS;intro w hS)|(refine K3 ?_;clear hS;intro g w hS hge)|(refine KB ?_ ?_<;>intro hb<;>(try simp only [JJ] at hb)<;>(try exact JX))|fail)
      refine Sh.again (0) [(3, .int .i64 (-1)), (11, .int .i64 (1 : Nat))] ?_
      exact ⟨1, by simp [h3], by omega, rfl, hS.sb⟩
  · obtain rfl : i = 1 := by omega
    repeat' (first|refine K ?_|(refine Sh.sa hS ?_;clear hS;intro w hS)|(refine K3 ?_;clear hS;intro g w hS hge)|(refine KB ?_ ?_<;>intro hb<;>(try simp only [JJ] at hb)<;>(try exact JX))|fail)
    refine Dnt Tryz.results148 ?_
    exact ⟨by by_cases h : ro = 3 <;> simp [h, Z.packR], hS⟩
theorem qcommit_z (gq gp gj n : Nat) (t v : Int) (log : List Lg) (ro co vo nx : Int) (A Ad : Option Addr) (c dl dc : Nat) (r : World) (F : List Res) (w : World) (hS : Sep r [] (.blk gq 248 [.slice A 1 c, (.slice none 0 0), .slice Ad dl dc] :: .sl 249 1 (.slice A 1 c) ([gp].map ptC) :: JN gj t v log n :: .blk gp 331 (rpC gj ro co vo nx) :: F) w) :
    Calls Tryz.prog 152 #[.pointer (some ⟨gq, 0, none⟩), .int .i64 0] w fun e w' => e = .returned (.int .i64 co) ∧ Sep r [] (.blk gq 248 [.slice A 1 c, (.slice none 0 0), .slice Ad dl dc] :: .sl 249 1 (.slice A 1 c) ([gp].map ptC) :: JN gj t v log n :: .blk gp 331 (rpC gj ro co vo nx) :: F) w' := by
  refine Z.enter Tryz.func152 Tryz.ntmps152 rfl rfl ?_
  repeat' (first|refine K ?_|(refine Sh.sa hS ?_;clear hS;intro w hS)|(refine K3 ?_;clear hS;intro g w hS hge)|(refine KB ?_ ?_<;>intro hb<;>(try simp only [JJ] at hb)<;>(try exact JX))|fail)
  refine Z.eff (Z.cl (qhas_z gq gp A Ad c dl dc _ _ _ hS 0) rfl ?_) rfl
  clear hS
  rintro e w ⟨rfl, hS⟩
  refine ⟨_, rfl, ?_⟩
  obtain ⟨ga, oa, hAe, _, hra⟩ := (hS.slrows (e := 249) (v := .slice A 1 c) AtF).mat (by simp) (q := 0) (by simp)
  subst hAe
  have hra2 : w.rangeAt ga (oa + 0 * 1) (ptC gp) := by simpa using hra
  clear hra
  repeat' (first|refine K ?_|(refine Sh.sa hS ?_;clear hS;intro w hS)|(refine K3 ?_;clear hS;intro g w hS hge)|(refine KB ?_ ?_<;>intro hb<;>(try simp only [JJ] at hb)<;>(try exact JX))|fail)
  refine Z.eff (Z.cl (rcommit_z gp gj n t v log ro co vo nx _ _ _ ((hS.fo (R := .blk gp 331 (rpC gj ro co vo nx))).fo (R := JN gj t v log n))) rfl ?_) rfl
  clear hS
  rintro e w ⟨rfl, hS⟩
  refine ⟨_, rfl, ?_⟩
  repeat' (first|refine K ?_|(refine Sh.sa hS ?_;clear hS;intro w hS)|(refine K3 ?_;clear hS;intro g w hS hge)|(refine KB ?_ ?_<;>intro hb<;>(try simp only [JJ] at hb)<;>(try exact JX))|fail)
  refine Dnt Tryz.results152 ?_
  exact ⟨rfl, hS.sb⟩
end Go.Proofs.YtfmnjbhncnldmaaGreat
