import Derived.Test.YtfmnjbhncnldmaaGreatP15
set_option linter.unusedSimpArgs false
set_option linter.unusedVariables false
namespace Go.Proofs.YtfmnjbhncnldmaaGreat
open Go.RowKit
attribute [local irreducible] Res.blk Res.sl Res.all Res.ex Res.pure Res.star
def rpC (gj : Nat) (ro co vo nx : Int) : List Value := [.pointer (some ⟨gj, 0, none⟩), .int .i64 0, .int .i64 1, .int .i64 ro, .int .i64 co, .int .i64 vo, .int .i64 nx, .int .i64 0, .int .i64 0, .int .i64 0, .int .i64 0, .int .i64 0, .int .i64 0, .int .i64 0, .int .i64 0, .int .i64 0]
theorem rnew_z (r : World) (F : List Res) (w : World) (hS : Sep r [] F w) :
    Calls Tryz.prog 122 #[.int .i64 0, .int .i64 1] w fun e w' => ∃ gp gj, e = .returned (.tuple #[.pointer (some ⟨gp, 0, none⟩), .int .i64 0]) ∧ Sep r [] (JN gj 0 (-1) [] 0 :: .blk gp 331 (rpC gj 1 0 0 0) :: F) w' := by
  refine Z.enter Tryz.func122 Tryz.ntmps122 rfl rfl ?_
  repeat' (first|refine K ?_|(refine Sh.sa hS ?_;clear hS;intro w hS)|(refine K3 ?_;clear hS;intro g w hS hge)|(refine KB ?_ ?_<;>intro hb<;>(try simp only [JJ] at hb)<;>(try exact JX))|fail)
  refine Z.eff (Z.cl (jnew_z _ _ _ hS) rfl ?_) rfl
  clear hS
  rintro e w ⟨gj, rfl, hS⟩
  refine ⟨_, rfl, ?_⟩
  repeat' (first|refine K ?_|(refine Sh.sa hS ?_;clear hS;intro w hS)|(refine K3 ?_;clear hS;intro g w hS hge)|(refine KB ?_ ?_<;>intro hb<;>(try simp only [JJ] at hb)<;>(try exact JX))|fail)
  rename Nat => gp
  refine Dntt Tryz.results122 ?_
  exact ⟨gp, gj, rfl, hS.sb⟩
theorem lgAt_last (log : List Lg) (x : Lg) : lgAt (log ++ [x]) ((log ++ [x]).length - 1) = x := by
  unfold lgAt
  rw [if_pos (by simp; omega)]
  have : (((log ++ [x]).length : Int) - 1).toNat = log.length := by simp
  rw [this]
  simp
section
variable (gp gj n : Nat) (t v : Int) (log : List Lg) (ro co vo nx : Int) (r : World) (F : List Res) (w : World) (hS : Sep r [] (JN gj t v log n :: .blk gp 331 (rpC gj ro co vo nx) :: F) w)
include hS
theorem rrole_z : Calls Tryz.prog 226 #[.pointer (some ⟨gp, 0, none⟩)] w fun e w' => e = .returned (.int .i64 ro) ∧ Sep r [] (JN gj t v log n :: .blk gp 331 (rpC gj ro co vo nx) :: F) w' := by
  refine Z.enter Tryz.func226 Tryz.ntmps226 rfl rfl ?_
  repeat' (first|refine K ?_|(refine Sh.sa hS ?_;clear hS;intro w hS)|(refine K3 ?_;clear hS;intro g w hS hge)|(refine KB ?_ ?_<;>intro hb<;>(try simp only [JJ] at hb)<;>(try exact JX))|fail)
  refine Dnt Tryz.results226 ?_
  exact ⟨rfl, hS⟩
theorem rcommit_z : Calls Tryz.prog 238 #[.pointer (some ⟨gp, 0, none⟩)] w fun e w' => e = .returned (.int .i64 co) ∧ Sep r [] (JN gj t v log n :: .blk gp 331 (rpC gj ro co vo nx) :: F) w' := by
  refine Z.enter Tryz.func238 Tryz.ntmps238 rfl rfl ?_
  repeat' (first|refine K ?_|(refine Sh.sa hS ?_;clear hS;intro w hS)|(refine K3 ?_;clear hS;intro g w hS hge)|(refine KB ?_ ?_<;>intro hb<;>(try simp only [JJ] at hb)<;>(try exact JX))|fail)
  refine Dnt Tryz.results238 ?_
  exact ⟨rfl, hS⟩
theorem rterm_z : Calls Tryz.prog 227 #[.pointer (some ⟨gp, 0, none⟩)] w fun e w' => e = .returned (.int .i64 t) ∧ Sep r [] (JN gj t v log n :: .blk gp 331 (rpC gj ro co vo nx) :: F) w' := by
  refine Z.enter Tryz.func227 Tryz.ntmps227 rfl rfl ?_
  repeat' (first|refine K ?_|(refine Sh.sa hS ?_;clear hS;intro w hS)|(refine K3 ?_;clear hS;intro g w hS hge)|(refine KB ?_ ?_<;>intro hb<;>(try simp only [JJ] at hb)<;>(try exact JX))|fail)
  refine Z.eff (Z.cl (jterm_z gj n t v log _ _ _ hS) rfl ?_) rfl
  clear hS
  rintro e w ⟨rfl, hS⟩
  refine ⟨_, rfl, ?_⟩
  repeat' (first|refine K ?_|(refine Sh.sa hS ?_;clear hS;intro w hS)|(refine K3 ?_;clear hS;intro g w hS hge)|(refine KB ?_ ?_<;>intro hb<;>(try simp only [JJ] at hb)<;>(try exact JX))|fail)
  refine Dnt Tryz.results227 ?_
  exact ⟨rfl, hS⟩
theorem rlen_z : Calls Tryz.prog 298 #[.pointer (some ⟨gp, 0, none⟩)] w fun e w' => e = .returned (.int .i64 (log.length : Nat)) ∧ Sep r [] (JN gj t v log n :: .blk gp 331 (rpC gj ro co vo nx) :: F) w' := by
  refine Z.enter Tryz.func298 Tryz.ntmps298 rfl rfl ?_
  repeat' (first|refine K ?_|(refine Sh.sa hS ?_;clear hS;intro w hS)|(refine K3 ?_;clear hS;intro g w hS hge)|(refine KB ?_ ?_<;>intro hb<;>(try simp only [JJ] at hb)<;>(try exact JX))|fail)
  refine Z.eff (Z.cl (jlen_z gj n t v log _ _ _ hS) rfl ?_) rfl
  clear hS
  rintro e w ⟨rfl, hS⟩
  refine ⟨_, rfl, ?_⟩
  repeat' (first|refine K ?_|(refine Sh.sa hS ?_;clear hS;intro w hS)|(refine K3 ?_;clear hS;intro g w hS hge)|(refine KB ?_ ?_<;>intro hb<;>(try simp only [JJ] at hb)<;>(try exact JX))|fail)
  refine Dnt Tryz.results298 ?_
  exact ⟨rfl, hS⟩
theorem rremember_z (t' : Int) (ht : t < t' ∧ 1 ≤ t' ∧ t' ≤ 1073741824) (hn : n ≤ 1000000000) :
    Calls Tryz.prog 293 #[.pointer (some ⟨gp, 0, none⟩), .int .i64 t', .int .i64 0] w fun e w' => e = .returned (.tuple #[]) ∧ Sep r [] (JN gj t' 0 log (n + 48) :: .blk gp 331 (rpC gj ro co vo nx) :: F) w' := by
  refine Z.enter Tryz.func293 Tryz.ntmps293 rfl rfl ?_
  repeat' (first|refine K ?_|(refine Sh.sa hS ?_;clear hS;intro w hS)|(refine K3 ?_;clear hS;intro g w hS hge)|(refine KB ?_ ?_<;>intro hb<;>(try simp only [JJ] at hb)<;>(try exact JX))|fail)
  refine Z.eff (Z.cl (jsett_z gj n t v log t' 0 _ _ _ hS (by unfold stE; rw [if_neg (by omega), if_neg (by omega)]) hn) rfl ?_) rfl
  clear hS
  rintro e w ⟨rfl, hS⟩
  refine ⟨_, rfl, ?_⟩
  repeat' (first|refine K ?_|(refine Sh.sa hS ?_;clear hS;intro w hS)|(refine K3 ?_;clear hS;intro g w hS hge)|(refine KB ?_ ?_<;>intro hb<;>(try simp only [JJ] at hb)<;>(try exact JX))|fail)
  refine Z.eff (Z.cl (jsync_z gj (n + 48) t' 0 log _ _ _ hS) rfl ?_) rfl
  clear hS
  rintro e w ⟨rfl, hS⟩
  refine ⟨_, rfl, ?_⟩
  repeat' (first|refine K ?_|(refine Sh.sa hS ?_;clear hS;intro w hS)|(refine K3 ?_;clear hS;intro g w hS hge)|(refine KB ?_ ?_<;>intro hb<;>(try simp only [JJ] at hb)<;>(try exact JX))|fail)
  refine Dn Tryz.results293 ?_
  exact ⟨rfl, hS⟩
set_option maxHeartbeats 1000000 in
theorem rlead_z : Calls Tryz.prog 294 #[.pointer (some ⟨gp, 0, none⟩)] w fun e w' => e = .returned (.tuple #[]) ∧ Sep r [] (JN gj t v log n :: .blk gp 331 (rpC gj 3 co vo log.length) :: F) w' := by
  refine Z.enter Tryz.func294 Tryz.ntmps294 rfl rfl ?_
  repeat' (first|refine K ?_|(refine Sh.sa hS ?_;clear hS;intro w hS)|(refine K3 ?_;clear hS;intro g w hS hge)|(refine KB ?_ ?_<;>intro hb<;>(try simp only [JJ] at hb)<;>(try exact JX))|fail)
  replace hS := hS.sub (L' := JN gj t v log n :: .blk gp 331 (rpC gj 3 co vo nx) :: F) SuF
  refine Z.lpS [2, 10, 11, 12, 13, 14, 15, 16, 17, 18, 19, 20, 21, 22, 23, 24, 25] (fun m w z => ∃ (i : Nat) (nx' : Int), z = [(10, .int .i64 i)] ∧ i ≤ 1 ∧ (i = 1 → nx' = log.length) ∧ m = 1 - i ∧ Sep r [] (JN gj t v log n :: .blk gp 331 (rpC gj 3 co vo nx') :: F) w) _ [(10, .int .i64 (0 : Nat))] TrF ⟨0, nx, rfl, by omega, by omega, rfl, hS⟩ ?_
  clear hS
  rintro m f0 w _ ⟨i, nx', rfl, hi, hnx, rfl, hS⟩
  by_cases hlt : i < 1
  · obtain rfl : i = 0 := by omega
    repeat' (first|refine K ?_|(refine Sh.sa hS ?_;clear hS;intro w hS)|(refine K3 ?_;clear hS;intro g w hS hge)|(refine KB ?_ ?_<;>intro hb<;>(try simp only [JJ] at hb)<;>(try exact JX))|fail)
    refine D.startS hS 9 14 (by kernel_rfl) rfl ?_
    replace hS := hS.drew
    refine Sh.dp 0 1 ?_
    refine Sh.dp 1 3 ?_
    refine Sh.dp 2 7 ?_
    refine Sh.dp 3 15 ?_
    refine Sh.dp 4 31 ?_
    refine Sh.dp 6 95 ?_
    refine Sh.dp 7 223 ?_
    refine Sh.dp 10 1247 ?_
    refine Sh.dp 11 3295 ?_
    refine D.ef 5 3327 ?_
    refine Z.cl (rlen_z gp gj n t v log 3 co vo nx' _ _ _ hS) rfl ?_
    clear hS
    rintro e w ⟨rfl, hS⟩
    refine ⟨_, rfl, ?_⟩
    refine HMs ?_
    first | refine D.ixn 8 3583 rfl D.wantedN (by kernel_rfl) rfl rfl rfl (by omega) ?_ | refine D.ix 8 3583 rfl D.wantedN (by kernel_rfl) rfl rfl rfl (by omega) ?_ | refine D.ia 8 3583 rfl D.wantedN (by kernel_rfl) rfl rfl rfl (by omega) ?_
    refine D.ef 9 4095 ?_
    refine Z.st hS rfl AtF rfl rfl ?_
    clear hS; intro w hS
    refine ⟨HM.last (by kernel_rfl), ?_⟩
    first | refine D.ixn 12 8191 rfl D.wantedN (by kernel_rfl) rfl rfl rfl (by omega) ?_ | refine D.ix 12 8191 rfl D.wantedN (by kernel_rfl) rfl rfl rfl (by omega) ?_ | refine D.ia 12 8191 rfl D.wantedN (by kernel_rfl) rfl rfl rfl (by omega) ?_
    refine D.ef 13 16383 ?_
    refine Z.st hS rfl AtF rfl rfl ?_
    clear hS; intro w hS
    refine ⟨HM.last (by kernel_rfl), ?_⟩
    refine D.done (by kernel_rfl) ?_
    repeat' (first|refine K ?_|(refine Sh.sa hS ?_;clear hS;intro w hS)|(refine K3 ?_;clear hS;intro g w hS hge)|(refine KB ?_ ?_<;>intro hb<;>(try simp only [JJ] at hb)<;>(try exact JX))|fail)
    refine Sh.again (0) [(10, .int .i64 (1 : Nat))] ?_
    exact ⟨1, log.length, rfl, by omega, fun _ => rfl, rfl, hS.sb⟩
  · obtain rfl := hnx (by omega)
    repeat' (first|refine K ?_|(refine Sh.sa hS ?_;clear hS;intro w hS)|(refine K3 ?_;clear hS;intro g w hS hge)|(refine KB ?_ ?_<;>intro hb<;>(try simp only [JJ] at hb)<;>(try exact JX))|fail)
    refine Dn Tryz.results294 ?_
    exact ⟨rfl, hS⟩
theorem rothers_z (fv : Value) : Calls Tryz.prog 295 #[.pointer (some ⟨gp, 0, none⟩), fv] w fun e w' => e = .returned (.slice none 0 0) ∧ Sep r [] (JN gj t v log n :: .blk gp 331 (rpC gj ro co vo nx) :: F) w' := by
  refine Z.enter Tryz.func295 Tryz.ntmps295 rfl rfl ?_
  repeat' (first|refine K ?_|(refine Sh.sa hS ?_;clear hS;intro w hS)|(refine K3 ?_;clear hS;intro g w hS hge)|(refine KB ?_ ?_<;>intro hb<;>(try simp only [JJ] at hb)<;>(try exact JX))|fail)
  refine Z.lpS [5, 6, 11, 12, 13, 14, 15, 16, 17, 18, 19, 20, 21, 22, 23, 24, 25, 26] (fun m w z => ∃ (i : Nat), z = [(5, .slice none 0 0), (11, .int .i64 i)] ∧ i ≤ 1 ∧ m = 1 - i ∧ Sep r [] (JN gj t v log n :: .blk gp 331 (rpC gj ro co vo nx) :: F) w) _ [(5, .slice none 0 0), (11, .int .i64 (0 : Nat))] TrF ⟨0, rfl, by omega, rfl, hS⟩ ?_
  clear hS
  rintro m f0 w _ ⟨i, rfl, hi, rfl, hS⟩
  by_cases hlt : i < 1
  · obtain rfl : i = 0 := by omega
    repeat' (first|refine K ?_|(refine Sh.sa hS ?_;clear hS;intro w hS)|(refine K3 ?_;clear hS;intro g w hS hge)|(refine KB ?_ ?_<;>intro hb<;>(try simp only [JJ] at hb)<;>(try exact JX))|fail)
    refine Sh.again (0) [(5, .slice none 0 0), (11, .int .i64 (1 : Nat))] ?_
    exact ⟨1, rfl, by omega, rfl, hS⟩
  · repeat' (first|refine K ?_|(refine Sh.sa hS ?_;clear hS;intro w hS)|(refine K3 ?_;clear hS;intro g w hS hge)|(refine KB ?_ ?_<;>intro hb<;>(try simp only [JJ] at hb)<;>(try exact JX))|fail)
    refine Dnt Tryz.results295 ?_
    exact ⟨rfl, hS⟩
set_option maxHeartbeats 1000000 in
theorem radvance_z (hc : co < log.length) (hl : log.length ≤ 5000) (ht : (lgAt log (log.length - 1)).term = t) : Calls Tryz.prog 302 #[.pointer (some ⟨gp, 0, none⟩)] w fun e w' => e = .returned (.tuple #[]) ∧ Sep r [] (JN gj t v log n :: .blk gp 331 (rpC gj ro log.length vo nx) :: F) w' := by
  refine Z.enter Tryz.func302 Tryz.ntmps302 rfl rfl ?_
  repeat' (first|refine K ?_|(refine Sh.sa hS ?_;clear hS;intro w hS)|(refine K3 ?_;clear hS;intro g w hS hge)|(refine KB ?_ ?_<;>intro hb<;>(try simp only [JJ] at hb)<;>(try exact JX))|fail)
  refine Z.eff (Z.cl (rlen_z gp gj n t v log ro co vo nx _ _ _ hS) rfl ?_) rfl
  clear hS
  rintro e w ⟨rfl, hS⟩
  refine ⟨_, rfl, ?_⟩
  repeat' (first|refine K ?_|(refine Sh.sa hS ?_;clear hS;intro w hS)|(refine K3 ?_;clear hS;intro g w hS hge)|(refine KB ?_ ?_<;>intro hb<;>(try simp only [JJ] at hb)<;>(try exact JX))|fail)
  refine Z.lpS [2, 3, 4, 7, 8, 9, 10, 11, 12, 13, 14, 15, 16, 17, 18, 19, 20, 21, 22, 23, 24, 25, 26, 27, 28, 29, 30, 31, 32, 33, 34, 35, 36, 37, 38, 39, 40, 41, 42, 43, 44, 45, 46, 47, 48, 49, 50, 51, 52, 53, 54, 55, 56, 57, 58, 59, 60, 61] (fun m w z => z = [(2, .int .i64 (log.length : Nat))] ∧ Sep r [] (JN gj t v log n :: .blk gp 331 (rpC gj ro co vo nx) :: F) w) 0 [(2, .int .i64 (log.length : Nat))] TrF ⟨rfl, hS⟩ ?_
  clear hS
  rintro m f0 w _ ⟨rfl, hS⟩
  repeat' (first|refine K ?_|(refine Sh.sa hS ?_;clear hS;intro w hS)|(refine K3 ?_;clear hS;intro g w hS hge)|(refine KB ?_ ?_<;>intro hb<;>(try simp only [JJ] at hb)<;>(try exact JX))|fail)
  refine Z.eff (Z.cl (jtat_z gj n t v log (log.length - 1) _ _ _ hS) rfl ?_) rfl
  clear hS
  rintro e w ⟨rfl, hS⟩
  refine ⟨_, rfl, ?_⟩
  repeat' (first|refine K ?_|(refine Sh.sa hS ?_;clear hS;intro w hS)|(refine K3 ?_;clear hS;intro g w hS hge)|(refine KB ?_ ?_<;>intro hb<;>(try simp only [JJ] at hb)<;>(try exact JX))|fail)
  refine Z.eff (Z.cl (rterm_z gp gj n t v log ro co vo nx _ _ _ hS) rfl ?_) rfl
  clear hS
  rintro e w ⟨rfl, hS⟩
  refine ⟨_, rfl, ?_⟩
  rw [ht]
  repeat' (first|refine K ?_|(refine Sh.sa hS ?_;clear hS;intro w hS)|(refine K3 ?_;clear hS;intro g w hS hge)|(refine KB ?_ ?_<;>intro hb<;>(try simp only [JJ] at hb)<;>(try exact JX))|fail)
  refine Z.lpS [3, 4, 29, 30, 31, 32, 33, 34, 35, 36, 37, 38, 39, 40, 41, 42, 43, 44, 45, 46, 47, 48, 49, 50] (fun m w z => ∃ (i : Nat), z = [(3, .int .i64 1), (29, .int .i64 i)] ∧ i ≤ 1 ∧ m = 1 - i ∧ Sep r [] (JN gj t v log n :: .blk gp 331 (rpC gj ro co vo nx) :: F) w) _ [(3, .int .i64 1), (29, .int .i64 (0 : Nat))] TrF ⟨0, rfl, by omega, rfl, hS⟩ ?_
  clear hS
  rintro m f1 w _ ⟨i, rfl, hi, rfl, hS⟩
  by_cases hlt : i < 1
  · obtain rfl : i = 0 := by omega
    repeat' (first|refine K ?_|(refine Sh.sa hS ?_;clear hS;intro w hS)|(refine K3 ?_;clear hS;intro g w hS hge)|(refine KB ?_ ?_<;>intro hb<;>(try simp only [JJ] at hb)<;>(try exact JX))|fail)
    refine Sh.again (0) [(3, .int .i64 1), (29, .int .i64 (1 : Nat))] ?_
    exact ⟨1, rfl, by omega, rfl, hS⟩
  · repeat' (first|refine K ?_|(refine Sh.sa hS ?_;clear hS;intro w hS)|(refine K3 ?_;clear hS;intro g w hS hge)|(refine KB ?_ ?_<;>intro hb<;>(try simp only [JJ] at hb)<;>(try exact JX))|fail)
    refine Dn Tryz.results302 ?_
    exact ⟨rfl, hS.sb⟩
set_option maxHeartbeats 1000000 in
theorem rcampaign_z (ht : 0 ≤ t ∧ t < 1073741824) (hn : n ≤ 1000000000) :
    Calls Tryz.prog 230 #[.pointer (some ⟨gp, 0, none⟩)] w fun e w' => e = .returned (.slice none 0 0) ∧ Sep r [] (JN gj (t + 1) 0 log (n + 48) :: .blk gp 331 (rpC gj 3 co 1 log.length) :: F) w' := by
  refine Z.enter Tryz.func230 Tryz.ntmps230 rfl rfl ?_
  repeat' (first|refine K ?_|(refine Sh.sa hS ?_;clear hS;intro w hS)|(refine K3 ?_;clear hS;intro g w hS hge)|(refine KB ?_ ?_<;>intro hb<;>(try simp only [JJ] at hb)<;>(try exact JX))|fail)
  rename Nat => gb
  replace hS := hS.sub (L' := JN gj t v log n :: .blk gp 331 (rpC gj ro co vo nx) :: .blk gb 249 [.pointer (some ⟨gp, 0, none⟩)] :: F) SuF
  refine Z.eff (Z.cl (rterm_z gp gj n t v log ro co vo nx _ _ _ hS) rfl ?_) rfl
  clear hS
  rintro e w ⟨rfl, hS⟩
  refine ⟨_, rfl, ?_⟩
  repeat' (first|refine K ?_|(refine Sh.sa hS ?_;clear hS;intro w hS)|(refine K3 ?_;clear hS;intro g w hS hge)|(refine KB ?_ ?_<;>intro hb<;>(try simp only [JJ] at hb)<;>(try exact JX))|fail)
  refine D.startS (Lr := [.blk gb 249 [.pointer (some ⟨gp, 0, none⟩)], .blk gp 331 (rpC gj ro co vo nx)]) (hS.sb) 9 9 (by kernel_rfl) rfl ?_
  replace hS := hS.drew
  refine Sh.dl 0 1 ?_
  refine Sh.dl 1 3 ?_
  refine Sh.dl 4 19 ?_
  refine Sh.dp 5 51 ?_
  refine Sh.dp 6 115 ?_
  refine Sh.dl 7 243 ?_
  refine D.ef 2 247 ?_
  refine Z.cl (rterm_z gp gj n t v log ro co vo nx _ _ _ ((hS.fo (R := .blk gp 331 (rpC gj ro co vo nx))).fo (R := JN gj t v log n))) rfl ?_
  clear hS
  rintro e w ⟨rfl, hS⟩
  refine ⟨_, rfl, ?_⟩
  refine HMs ?_
  first | refine D.sum 3 255 rfl D.wantedN (by kernel_rfl) rfl (by constructor <;> omega) ?_ | refine D.sumW 3 255 rfl D.wantedN (by kernel_rfl) rfl ?_
  refine D.ef 8 511 ?_
  refine Z.cl (rremember_z gp gj n t v log ro co vo nx _ _ _ ((hS.fo (R := .blk gp 331 (rpC gj ro co vo nx))).fo (R := JN gj t v log n)) (t + 1) (by omega) hn) rfl ?_
  clear hS
  rintro e w ⟨rfl, hS⟩
  refine ⟨_, rfl, ?_⟩
  refine HMs ?_
  refine D.done (by kernel_rfl) ?_
  repeat' (first|refine K ?_|(refine Sh.sa hS ?_;clear hS;intro w hS)|(refine K3 ?_;clear hS;intro g w hS hge)|(refine KB ?_ ?_<;>intro hb<;>(try simp only [JJ] at hb)<;>(try exact JX))|fail)
  refine D.startS (Lr := [.blk gb 249 [.pointer (some ⟨gp, 0, none⟩)]]) (hS.sb) 13 14 (by kernel_rfl) rfl ?_
  replace hS := hS.drew
  refine Sh.dl 0 1 ?_
  refine Sh.dl 1 3 ?_
  refine Sh.dl 2 7 ?_
  refine Sh.dp 3 15 ?_
  refine Sh.dp 4 31 ?_
  refine D.ef 5 63 ?_
  refine Z.ld hS rfl AtF rfl ?_
  refine HMs ?_
  refine D.pl 6 127 rfl D.wantedN (by kernel_rfl) (R.icv rfl) ?_
  refine D.pl 7 255 rfl D.wantedN (by kernel_rfl) (R.ish (v := .int .i64 1) rfl rfl rfl (by decide)) ?_
  refine Sh.dp 8 511 ?_
  refine Sh.dp 9 1023 ?_
  refine D.ef 10 2047 ?_
  refine Z.st hS rfl AtF rfl rfl ?_
  clear hS; intro w hS
  refine HMs ?_
  refine Sh.dp 11 4095 ?_
  refine Sh.dp 12 8191 ?_
  refine D.ef 13 16383 ?_
  refine Z.st hS rfl AtF rfl rfl ?_
  clear hS; intro w hS
  refine ⟨HM.last (by kernel_rfl), ?_⟩
  refine D.done (by kernel_rfl) ?_
  repeat' (first|refine K ?_|(refine Sh.sa hS ?_;clear hS;intro w hS)|(refine K3 ?_;clear hS;intro g w hS hge)|(refine KB ?_ ?_<;>intro hb<;>(try simp only [JJ] at hb)<;>(try exact JX))|fail)
  refine Z.eff (Z.cl (rlead_z gp gj (n + 48) (t + 1) 0 log 2 co 1 nx _ _ _ (hS.sub (L' := JN gj (t + 1) 0 log (n + 48) :: .blk gp 331 (rpC gj 2 co 1 nx) :: .blk gb 249 [.pointer (some ⟨gp, 0, none⟩)] :: F) SuF)) rfl ?_) rfl
  clear hS
  rintro e w ⟨rfl, hS⟩
  refine ⟨_, rfl, ?_⟩
  repeat' (first|refine K ?_|(refine Sh.sa hS ?_;clear hS;intro w hS)|(refine K3 ?_;clear hS;intro g w hS hge)|(refine KB ?_ ?_<;>intro hb<;>(try simp only [JJ] at hb)<;>(try exact JX))|fail)
  refine Dnt Tryz.results230 ?_
  exact ⟨rfl, hS.sb⟩
set_option maxHeartbeats 1000000 in
theorem rpropose_z (e : En) (he : e.i64) (h3 : ro = 3) (h1 : 1 ≤ t ∧ t ≤ 1073741824) (h2 : shapeP e = true) (h4 : (lgAt log (log.length - 1)).term ≤ t) (h5 : log.length < 4096) (hc : co ≤ log.length) (hn : n ≤ 1000000000) :
    Calls Tryz.prog 231 #[.pointer (some ⟨gp, 0, none⟩), e.val] w fun x w' => x = .returned (.tuple #[.slice none 0 0, .int .i64 0]) ∧ Sep r [] (JN gj t v (log ++ [⟨t, e⟩]) (n + 128) :: .blk gp 331 (rpC gj 3 (log.length + 1) vo nx) :: F) w' := by
  subst h3
  have hl2 : ((log ++ [(⟨t, e⟩ : Lg)]).length : Int) = log.length + 1 := by simp
  refine Z.enter Tryz.func231 Tryz.ntmps231 rfl rfl ?_
  repeat' (first|refine K ?_|(refine Sh.sa hS ?_;clear hS;intro w hS)|(refine K3 ?_;clear hS;intro g w hS hge)|(refine KB ?_ ?_<;>intro hb<;>(try simp only [JJ] at hb)<;>(try exact JX))|fail)
  rename Nat => gb
  replace hS := hS.sub (L' := JN gj t v log n :: .blk gp 331 (rpC gj 3 co vo nx) :: .blk gb 63 e.cells :: F) SuF
  refine D.startS (Lr := [.blk gp 331 (rpC gj 3 co vo nx), .blk gb 63 e.cells]) (hS.sb) 9 9 (by kernel_rfl) rfl ?_
  replace hS := hS.drew
  refine Sh.dp 0 1 ?_
  refine Sh.dp 1 3 ?_
  refine Sh.dp 2 7 ?_
  refine Sh.dp 4 23 ?_
  refine Sh.dl 3 31 ?_
  refine Sh.dl 6 95 ?_
  refine D.ef 5 127 ?_
  refine Z.cl (rterm_z gp gj n t v log 3 co vo nx _ _ _ ((hS.fo (R := .blk gp 331 (rpC gj 3 co vo nx))).fo (R := JN gj t v log n))) rfl ?_
  clear hS
  rintro e w ⟨rfl, hS⟩
  refine ⟨_, rfl, ?_⟩
  refine HMs ?_
  refine D.ef 7 255 ?_
  refine Z.cl (jappend_z gj n t v log t e he _ _ _ (hS.fo (R := JN gj t v log n)) h1 h2 (Int.le_refl _) h4 h5 hn) rfl ?_
  clear hS
  rintro e w ⟨rfl, hS⟩
  refine ⟨_, rfl, ?_⟩
  refine HMs ?_
  refine Sh.dp 8 511 ?_
  refine D.done (by kernel_rfl) ?_
  repeat' (first|refine K ?_|(refine Sh.sa hS ?_;clear hS;intro w hS)|(refine K3 ?_;clear hS;intro g w hS hge)|(refine KB ?_ ?_<;>intro hb<;>(try simp only [JJ] at hb)<;>(try exact JX))|fail)
  refine Z.eff (Z.cl (jsync_z gj (n + 128) t v (log ++ [⟨t, e⟩]) _ _ _ hS) rfl ?_) rfl
  clear hS
  rintro e w ⟨rfl, hS⟩
  refine ⟨_, rfl, ?_⟩
  repeat' (first|refine K ?_|(refine Sh.sa hS ?_;clear hS;intro w hS)|(refine K3 ?_;clear hS;intro g w hS hge)|(refine KB ?_ ?_<;>intro hb<;>(try simp only [JJ] at hb)<;>(try exact JX))|fail)
  refine Z.eff (Z.cl (radvance_z gp gj (n + 128) t v (log ++ [⟨t, e⟩]) 3 co vo nx _ _ _ ((hS.fo (R := .blk gp 331 (rpC gj 3 co vo nx))).fo (R := JN gj t v (log ++ [⟨t, e⟩]) (n + 128))) (by rw [hl2]; omega) (by simp; omega) (by rw [lgAt_last])) rfl ?_) rfl
  clear hS
  rintro e w ⟨rfl, hS⟩
  refine ⟨_, rfl, ?_⟩
  rw [hl2] at hS
  repeat' (first|refine K ?_|(refine Sh.sa hS ?_;clear hS;intro w hS)|(refine K3 ?_;clear hS;intro g w hS hge)|(refine KB ?_ ?_<;>intro hb<;>(try simp only [JJ] at hb)<;>(try exact JX))|fail)
  refine Z.pl R.mfb ?_
  repeat' (first|refine K ?_|(refine Sh.sa hS ?_;clear hS;intro w hS)|(refine K3 ?_;clear hS;intro g w hS hge)|(refine KB ?_ ?_<;>intro hb<;>(try simp only [JJ] at hb)<;>(try exact JX))|fail)
  refine Z.eff (Z.cl (rothers_z gp gj (n + 128) t v (log ++ [⟨t, e⟩]) 3 (log.length + 1) vo nx _ _ _ hS _) rfl ?_) rfl
  clear hS
  rintro e w ⟨rfl, hS⟩
  refine ⟨_, rfl, ?_⟩
  repeat' (first|refine K ?_|(refine Sh.sa hS ?_;clear hS;intro w hS)|(refine K3 ?_;clear hS;intro g w hS hge)|(refine KB ?_ ?_<;>intro hb<;>(try simp only [JJ] at hb)<;>(try exact JX))|fail)
  refine Dntt Tryz.results231 ?_
  exact ⟨rfl, hS.sb⟩
theorem rat_z (i : Int) : Calls Tryz.prog 407 #[.pointer (some ⟨gp, 0, none⟩), .int .i64 i] w fun e w' => e = .returned (.tuple #[(lgAt log i).val, .bool (decide (0 ≤ i ∧ i < log.length))]) ∧ Sep r [] (JN gj t v log n :: .blk gp 331 (rpC gj ro co vo nx) :: F) w' := by
  refine Z.enter Tryz.func407 Tryz.ntmps407 rfl rfl ?_
  repeat' (first|refine K ?_|(refine Sh.sa hS ?_;clear hS;intro w hS)|(refine K3 ?_;clear hS;intro g w hS hge)|(refine KB ?_ ?_<;>intro hb<;>(try simp only [JJ] at hb)<;>(try exact JX))|fail)
  refine Z.eff (Z.cl (jat_z gj n t v log i _ _ _ (hS.fo (R := JN gj t v log n))) rfl ?_) rfl
  clear hS
  rintro e w ⟨rfl, hS⟩
  refine ⟨_, rfl, ?_⟩
  repeat' (first|refine K ?_|(refine Sh.sa hS ?_;clear hS;intro w hS)|(refine K3 ?_;clear hS;intro g w hS hge)|(refine KB ?_ ?_<;>intro hb<;>(try simp only [JJ] at hb)<;>(try exact JX))|fail)
  first | refine Z.done hS Tryz.results407 (Z.RV.cell rfl AtF rfl (Z.RV.tmp rfl Z.RV.nil)) ?_ | refine Z.doneN hS Tryz.results407 (Z.RV.cell rfl AtF rfl (Z.RV.tmp rfl Z.RV.nil)) ?_
  exact ⟨rfl, hS.sb⟩
set_option maxHeartbeats 1000000 in
theorem rfrom_z (k : Nat) (hk : k ≤ log.length) (hl : log.length ≤ 5000) : Calls Tryz.prog 367 #[.pointer (some ⟨gp, 0, none⟩), .int .i64 (k : Nat)] w fun e w' => ∃ A c, e = .returned (.slice A (log.drop k).length c) ∧ Sep r [] (.sl 345 10 (.slice A (log.drop k).length c) ((log.drop k).map Lg.cells) :: (JN gj t v log n :: .blk gp 331 (rpC gj ro co vo nx) :: F)) w' := by
  refine Z.enter Tryz.func367 Tryz.ntmps367 rfl rfl ?_
  repeat' (first|refine K ?_|(refine Sh.sa hS ?_;clear hS;intro w hS)|(refine K3 ?_;clear hS;intro g w hS hge)|(refine KB ?_ ?_<;>intro hb<;>(try simp only [JJ] at hb)<;>(try exact JX))|fail)
  replace hS := Z.nilsl hS 345 10 none
  refine Z.lpS [1, 5, 6, 7, 8, 9, 10, 11, 12, 13, 14, 15, 16, 17, 18, 19, 20, 21, 22, 23] (fun m w z => ∃ (i : Nat) (o : List Lg) (A : Option Addr) (c : Nat), z = [(1, .int .i64 i), (5, .slice A o.length c)] ∧ k ≤ i ∧ i ≤ log.length ∧ o = (log.take i).drop k ∧ m = log.length - i ∧ Sep r [] (.sl 345 10 (.slice A o.length c) (o.map Lg.cells) :: (JN gj t v log n :: .blk gp 331 (rpC gj ro co vo nx) :: F)) w) _ [(1, .int .i64 (k : Nat)), (5, .slice none 0 0)] TrF ⟨k, [], none, 0, rfl, by omega, hk, (List.drop_eq_nil_of_le (by rw [List.length_take]; omega)).symm, rfl, hS⟩ ?_
  clear hS
  rintro m f0 w _ ⟨i, o, A, c, rfl, hki, hi, ho, rfl, hS⟩
  have hol : o.length = i - k := by rw [ho, List.length_drop, List.length_take]; omega
  repeat' (first|refine K ?_|(refine Sh.sa hS ?_;clear hS;intro w hS)|(refine K3 ?_;clear hS;intro g w hS hge)|(refine KB ?_ ?_<;>intro hb<;>(try simp only [JJ] at hb)<;>(try exact JX))|fail)
  refine Z.eff (Z.cl (rlen_z gp gj n t v log ro co vo nx _ _ _ ((hS.fo (R := .blk gp 331 (rpC gj ro co vo nx))).fo (R := JN gj t v log n))) rfl ?_) rfl
  clear hS
  rintro e w ⟨rfl, hS⟩
  refine ⟨_, rfl, ?_⟩
  by_cases hlt : i < log.length
  · have e0 : lgAt log (i : Int) = log[i] := by unfold lgAt; rw [if_pos (by omega)]; simp [List.getD_eq_getElem?_getD, hlt]
    repeat' (first|refine K ?_|(refine Sh.sa hS ?_;clear hS;intro w hS)|(refine K3 ?_;clear hS;intro g w hS hge)|(refine KB ?_ ?_<;>intro hb<;>(try simp only [JJ] at hb)<;>(try exact JX))|fail)
    refine Z.eff (Z.cl (rat_z gp gj n t v log ro co vo nx _ _ _ hS i) rfl ?_) rfl
    clear hS
    rintro e w ⟨rfl, hS⟩
    refine ⟨_, rfl, ?_⟩
    rw [e0]
    repeat' (first|refine K ?_|(refine Sh.sa hS ?_;clear hS;intro w hS)|(refine K3 ?_;clear hS;intro g w hS hge)|(refine KB ?_ ?_<;>intro hb<;>(try simp only [JJ] at hb)<;>(try exact JX))|fail)
    refine Z.eff (Z.apm (fc := Lg.cells) (l := o) (l' := [log[i]]) hS rfl rfl rfl AtF (hS.lit1 AtF rfl rfl) LnF LnF ?_) rfl
    clear hS; intro A2 c2 w hS
    rw [← List.length_append] at hS ⊢
    repeat' (first|refine K ?_|(refine Sh.sa hS ?_;clear hS;intro w hS)|(refine K3 ?_;clear hS;intro g w hS hge)|(refine KB ?_ ?_<;>intro hb<;>(try simp only [JJ] at hb)<;>(try exact JX))|fail)
    refine Sh.again (log.length - (i + 1)) [(1, .int .i64 (i + 1 : Nat)), (5, _)] ?_
    refine ⟨i + 1, o ++ [log[i]], A2, c2, rfl, by omega, by omega, ?_, rfl, hS.sb⟩
    rw [List.take_succ_eq_append_getElem hlt, List.drop_append_of_le_length (by rw [List.length_take]; omega), ← ho]
  · have hil : i = log.length := by omega
    subst hil
    rw [List.take_length] at ho
    subst ho
    repeat' (first|refine K ?_|(refine Sh.sa hS ?_;clear hS;intro w hS)|(refine K3 ?_;clear hS;intro g w hS hge)|(refine KB ?_ ?_<;>intro hb<;>(try simp only [JJ] at hb)<;>(try exact JX))|fail)
    refine Dnt Tryz.results367 ?_
    exact ⟨A, c, rfl, hS.sb⟩
theorem rlog_z (hl : log.length ≤ 5000) : Calls Tryz.prog 310 #[.pointer (some ⟨gp, 0, none⟩)] w fun e w' => ∃ A c, e = .returned (.slice A log.length c) ∧ Sep r [] (.sl 345 10 (.slice A log.length c) (log.map Lg.cells) :: (JN gj t v log n :: .blk gp 331 (rpC gj ro co vo nx) :: F)) w' := by
  refine Z.enter Tryz.func310 Tryz.ntmps310 rfl rfl ?_
  repeat' (first|refine K ?_|(refine Sh.sa hS ?_;clear hS;intro w hS)|(refine K3 ?_;clear hS;intro g w hS hge)|(refine KB ?_ ?_<;>intro hb<;>(try simp only [JJ] at hb)<;>(try exact JX))|fail)
  refine Z.eff (Z.cl (rfrom_z gp gj n t v log ro co vo nx _ _ _ hS 0 (Nat.zero_le _) hl) rfl ?_) rfl
  clear hS
  rintro e w ⟨A, c, rfl, hS⟩
  refine ⟨_, rfl, ?_⟩
  rw [List.drop_zero] at hS ⊢
  repeat' (first|refine K ?_|(refine Sh.sa hS ?_;clear hS;intro w hS)|(refine K3 ?_;clear hS;intro g w hS hge)|(refine KB ?_ ?_<;>intro hb<;>(try simp only [JJ] at hb)<;>(try exact JX))|fail)
  refine Dnt Tryz.results310 ?_
  exact ⟨A, c, rfl, hS⟩
end
end Go.Proofs.YtfmnjbhncnldmaaGreat
