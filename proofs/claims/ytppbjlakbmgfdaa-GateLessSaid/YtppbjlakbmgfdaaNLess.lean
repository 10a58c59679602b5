/-
  GateLess: for every input the call returns true, and the arguments read afterwards as they read before.
-/
import Derived.Test.YtppbjlakbmgfdaaNClosed
import Derived.Test.YtppbjlakbmgfdaaNArgs27
import Derived.Test.YtppbjlakbmgfdaaZs
namespace Go.Proofs.Ytppbjlakbmgfdaa
open Go.RowKit Go.ChangeShapes Go.WideShapes Go.ChangeAt
set_option linter.unusedSimpArgs false
set_option linter.unusedVariables false

theorem modN_small {k : Int} (h0 : 0 ≤ k) (h8 : k < 8) : modN k 8 = k := by
  unfold modN
  have : k.tmod 8 = k := Int.tmod_eq_of_lt h0 h8
  rw [this, if_neg (by omega)]
theorem doP_less {P : Ga} {a : Ac} (h : 4 ≤ a.kind ∧ a.kind ≤ 6) : (∀ x, x ∈ (doP P a).ws → x ∈ P.ws) ∧ (doP P a).ws.length ≤ P.ws.length := by
  have hm : modN a.kind 8 = a.kind := modN_small (by omega) (by omega)
  unfold doP
  rw [hm]
  split
  · unfold closeP
    split
    · exact ⟨fun x hx => (List.mem_filter.1 hx).1, List.length_filter_le _ _⟩
    · exact ⟨fun x hx => hx, Nat.le_refl _⟩
  · split
    · exact ⟨fun x hx => (List.mem_filter.1 hx).1, List.length_filter_le _ _⟩
    · split
      · exact ⟨by simp, by simp⟩
      · omega
theorem accs_sub {ws ws' : List Wi} {v t : Int} (h : ∀ x, x ∈ ws' → x ∈ ws) : 0 ≤ accs ws' v t 0 ∧ 0 ≤ accs ws v t 0 ∧ accs ws' v t 0 ≤ accs ws v t 0 := by
  obtain ⟨h1, h2, h3⟩ := accs_all ws v t 0
  obtain ⟨k1, k2, k3⟩ := accs_all ws' v t 0
  refine ⟨k1, h1, ?_⟩
  rcases k3 with k3 | ⟨x, hx, hh, he⟩
  · omega
  · rw [← he]; exact h2 x (h x hx) hh
set_option maxHeartbeats 8000000 in
theorem less_z (cell : Int) (l : List Int) (Al : Option Addr) (cap : Nat) (a : Ac) (vv tt : Int) (r : World) (_ : -9223372036854775808 ≤ cell ∧ cell ≤ 9223372036854775807) (hr : Rd r 1 Al l.length (l.map (Value.int .i64))) (_ : -9223372036854775808 ≤ vv ∧ vv ≤ 9223372036854775807) (_ : -9223372036854775808 ≤ tt ∧ tt ≤ 9223372036854775807) :
    Calls Try.prog 11 #[.int .i64 cell, .slice Al l.length cap, a.val, .int .i64 vv, .int .i64 tt] r fun e w' => e = .returned (.bool true) ∧ Chg [] r w' := by
  have hkd := modN_bd a.kind 3 (by omega)
  have hS := Sep.root r
  refine Z.enter Try.func11 Try.ntmps11 rfl rfl ?_
  repeat' (first
    | refine Z.pr rfl ?_ | refine Y.la hS ?_ | refine Y.lb ?_ | refine Y.lc ?_ | refine Y.su ?_
    | (refine Y.sa hS ?_; clear hS; intro w hS)
    | ((first | refine Y.aa hS ?_ | refine Y.ab hS ?_ | refine Y.ac hS ?_); clear hS; intro g w hS hge)
    | refine Y.ix ?_ | refine Y.up ?_ | refine Y.sl1 ?_ | refine Y.sl2 ?_ | refine Y.sl3 ?_ | refine Y.sl4 ?_ | refine Y.eq ?_ | refine Y.ne ?_ | refine Y.ix2 ?_ | refine Y.ix3 ?_
    | refine Z.bu rfl rfl ?_ | refine Z.pl (R.max2 rfl rfl) ?_ | refine Z.pl (R.cap rfl rfl) ?_ | refine Z.pl R.mf ?_
    | refine Z.gT rfl rfl ?_ | refine Z.gF rfl rfl ?_ | refine Z.gF0 rfl rfl ?_ | refine Z.gU rfl rfl ?_
    | with_reducible (first | refine Z.seq ?_ | refine Z.reg ?_ | refine Z.nil ?_ | refine Z.skip ?_ | refine Z.exit ?_ | refine Z.ret ?_ | refine Z.block ?_ | refine Z.thN ?_ | refine Z.thU ?_ | refine Z.thE ?_ | refine Z.thR ?_ | refine Z.blN ?_ | refine Z.blR ?_ | refine Z.blE ?_)
    | (with_reducible refine Z.blX ?_ ?_; rotate_left; rfl)
    | refine Z.brT rfl ?_ | refine Z.brF rfl ?_
    | ((first | refine Z.gS rfl rfl ?_ ?_ | refine Z.br rfl ?_ ?_) <;> intro hb <;> (try simp only [decide_eq_true_eq, decide_eq_false_iff_not, Bool.not_eq_true', Bool.not_eq_false', Int.not_lt, Int.not_le] at hb) <;> (try (exfalso; first | omega | exact hb trivial))))
  rename Nat => ga
  refine Z.eff (Z.cl (awake27_z _ _ _ hS) rfl ?_) rfl
  clear hS
  rintro e w ⟨rfl, hS⟩
  refine ⟨_, rfl, ?_⟩
  repeat' (first
    | refine Z.pr rfl ?_ | refine Y.la hS ?_ | refine Y.lb ?_ | refine Y.lc ?_ | refine Y.su ?_
    | (refine Y.sa hS ?_; clear hS; intro w hS)
    | ((first | refine Y.aa hS ?_ | refine Y.ab hS ?_ | refine Y.ac hS ?_); clear hS; intro g w hS hge)
    | refine Y.ix ?_ | refine Y.up ?_ | refine Y.sl1 ?_ | refine Y.sl2 ?_ | refine Y.sl3 ?_ | refine Y.sl4 ?_ | refine Y.eq ?_ | refine Y.ne ?_ | refine Y.ix2 ?_ | refine Y.ix3 ?_
    | refine Z.bu rfl rfl ?_ | refine Z.pl (R.max2 rfl rfl) ?_ | refine Z.pl (R.cap rfl rfl) ?_ | refine Z.pl R.mf ?_
    | refine Z.gT rfl rfl ?_ | refine Z.gF rfl rfl ?_ | refine Z.gF0 rfl rfl ?_ | refine Z.gU rfl rfl ?_
    | with_reducible (first | refine Z.seq ?_ | refine Z.reg ?_ | refine Z.nil ?_ | refine Z.skip ?_ | refine Z.exit ?_ | refine Z.ret ?_ | refine Z.block ?_ | refine Z.thN ?_ | refine Z.thU ?_ | refine Z.thE ?_ | refine Z.thR ?_ | refine Z.blN ?_ | refine Z.blR ?_ | refine Z.blE ?_)
    | (with_reducible refine Z.blX ?_ ?_; rotate_left; rfl)
    | refine Z.brT rfl ?_ | refine Z.brF rfl ?_
    | ((first | refine Z.gS rfl rfl ?_ ?_ | refine Z.br rfl ?_ ?_) <;> intro hb <;> (try simp only [decide_eq_true_eq, decide_eq_false_iff_not, Bool.not_eq_true', Bool.not_eq_false', Int.not_lt, Int.not_le] at hb) <;> (try (exfalso; first | omega | exact hb trivial))))
  refine Z.eff (Z.cl (light_y _ _ _ _) rfl ?_) rfl
  rintro e w' ⟨rfl, hC⟩
  refine ⟨_, rfl, ?_⟩
  replace hS := hS.ext hC
  clear hC
  repeat' (first
    | refine Z.pr rfl ?_ | refine Y.la hS ?_ | refine Y.lb ?_ | refine Y.lc ?_ | refine Y.su ?_
    | (refine Y.sa hS ?_; clear hS; intro w hS)
    | ((first | refine Y.aa hS ?_ | refine Y.ab hS ?_ | refine Y.ac hS ?_); clear hS; intro g w hS hge)
    | refine Y.ix ?_ | refine Y.up ?_ | refine Y.sl1 ?_ | refine Y.sl2 ?_ | refine Y.sl3 ?_ | refine Y.sl4 ?_ | refine Y.eq ?_ | refine Y.ne ?_ | refine Y.ix2 ?_ | refine Y.ix3 ?_
    | refine Z.bu rfl rfl ?_ | refine Z.pl (R.max2 rfl rfl) ?_ | refine Z.pl (R.cap rfl rfl) ?_ | refine Z.pl R.mf ?_
    | refine Z.gT rfl rfl ?_ | refine Z.gF rfl rfl ?_ | refine Z.gF0 rfl rfl ?_ | refine Z.gU rfl rfl ?_
    | with_reducible (first | refine Z.seq ?_ | refine Z.reg ?_ | refine Z.nil ?_ | refine Z.skip ?_ | refine Z.exit ?_ | refine Z.ret ?_ | refine Z.block ?_ | refine Z.thN ?_ | refine Z.thU ?_ | refine Z.thE ?_ | refine Z.thR ?_ | refine Z.blN ?_ | refine Z.blR ?_ | refine Z.blE ?_)
    | (with_reducible refine Z.blX ?_ ?_; rotate_left; rfl)
    | refine Z.brT rfl ?_ | refine Z.brF rfl ?_
    | ((first | refine Z.gS rfl rfl ?_ ?_ | refine Z.br rfl ?_ ?_) <;> intro hb <;> (try simp only [decide_eq_true_eq, decide_eq_false_iff_not, Bool.not_eq_true', Bool.not_eq_false', Int.not_lt, Int.not_le] at hb) <;> (try (exfalso; first | omega | exact hb trivial))))
  · first | refine Z.done hS Try.results11 (Z.RV.tmp rfl Z.RV.nil) ?_ | refine Z.doneN hS Try.results11 (Z.RV.tmp rfl Z.RV.nil) ?_
    exact ⟨rfl, hS.chg⟩
  refine Z.eff (Z.cl (gnew_z cell _ _ _ hS) rfl ?_) rfl
  clear hS
  rintro e w ⟨gp, rfl, hS⟩
  refine ⟨_, rfl, ?_⟩
  repeat' (first
    | refine Z.pr rfl ?_ | refine Y.la hS ?_ | refine Y.lb ?_ | refine Y.lc ?_ | refine Y.su ?_
    | (refine Y.sa hS ?_; clear hS; intro w hS)
    | ((first | refine Y.aa hS ?_ | refine Y.ab hS ?_ | refine Y.ac hS ?_); clear hS; intro g w hS hge)
    | refine Y.ix ?_ | refine Y.up ?_ | refine Y.sl1 ?_ | refine Y.sl2 ?_ | refine Y.sl3 ?_ | refine Y.sl4 ?_ | refine Y.eq ?_ | refine Y.ne ?_ | refine Y.ix2 ?_ | refine Y.ix3 ?_
    | refine Z.bu rfl rfl ?_ | refine Z.pl (R.max2 rfl rfl) ?_ | refine Z.pl (R.cap rfl rfl) ?_ | refine Z.pl R.mf ?_
    | refine Z.gT rfl rfl ?_ | refine Z.gF rfl rfl ?_ | refine Z.gF0 rfl rfl ?_ | refine Z.gU rfl rfl ?_
    | with_reducible (first | refine Z.seq ?_ | refine Z.reg ?_ | refine Z.nil ?_ | refine Z.skip ?_ | refine Z.exit ?_ | refine Z.ret ?_ | refine Z.block ?_ | refine Z.thN ?_ | refine Z.thU ?_ | refine Z.thE ?_ | refine Z.thR ?_ | refine Z.blN ?_ | refine Z.blR ?_ | refine Z.blE ?_)
    | (with_reducible refine Z.blX ?_ ?_; rotate_left; rfl)
    | refine Z.brT rfl ?_ | refine Z.brF rfl ?_
    | ((first | refine Z.gS rfl rfl ?_ ?_ | refine Z.br rfl ?_ ?_) <;> intro hb <;> (try simp only [decide_eq_true_eq, decide_eq_false_iff_not, Bool.not_eq_true', Bool.not_eq_false', Int.not_lt, Int.not_le] at hb) <;> (try (exfalso; first | omega | exact hb trivial))))
  rename Nat => gr
  replace hS : Sep r [] [GR gr ⟨cell, 0, []⟩, GP gp ⟨cell, 0, []⟩, .blk ga 71 a.cells] _ := Sep.GR_open.2 ⟨none, 0, (Z.nilsl hS 69 5 none).sub (by repeat (first | exact Sub.rest | exact Sub.nil | exact .skip .rest | exact .skip (.skip .rest) | exact .skip (.skip (.skip .rest)) | apply Sub.keep | refine Sub.cons (by repeat (first | exact At.here | apply At.next)) ?_ | apply Sub.skip))⟩
  refine Z.eff (Z.cl (made_z l Al cap cell _ _ _ hS hr (by omega)) rfl ?_) rfl
  clear hS
  rintro e w ⟨acts, A, c, rfl, hla, hsm, hS⟩
  refine ⟨_, rfl, ?_⟩
  repeat' (first
    | refine Z.pr rfl ?_ | refine Y.la hS ?_ | refine Y.lb ?_ | refine Y.lc ?_ | refine Y.su ?_
    | (refine Y.sa hS ?_; clear hS; intro w hS)
    | ((first | refine Y.aa hS ?_ | refine Y.ab hS ?_ | refine Y.ac hS ?_); clear hS; intro g w hS hge)
    | refine Y.ix ?_ | refine Y.up ?_ | refine Y.sl1 ?_ | refine Y.sl2 ?_ | refine Y.sl3 ?_ | refine Y.sl4 ?_ | refine Y.eq ?_ | refine Y.ne ?_ | refine Y.ix2 ?_ | refine Y.ix3 ?_
    | refine Z.bu rfl rfl ?_ | refine Z.pl (R.max2 rfl rfl) ?_ | refine Z.pl (R.cap rfl rfl) ?_ | refine Z.pl R.mf ?_
    | refine Z.gT rfl rfl ?_ | refine Z.gF rfl rfl ?_ | refine Z.gF0 rfl rfl ?_ | refine Z.gU rfl rfl ?_
    | with_reducible (first | refine Z.seq ?_ | refine Z.reg ?_ | refine Z.nil ?_ | refine Z.skip ?_ | refine Z.exit ?_ | refine Z.ret ?_ | refine Z.block ?_ | refine Z.thN ?_ | refine Z.thU ?_ | refine Z.thE ?_ | refine Z.thR ?_ | refine Z.blN ?_ | refine Z.blR ?_ | refine Z.blE ?_)
    | (with_reducible refine Z.blX ?_ ?_; rotate_left; rfl)
    | refine Z.brT rfl ?_ | refine Z.brF rfl ?_
    | ((first | refine Z.gS rfl rfl ?_ ?_ | refine Z.br rfl ?_ ?_) <;> intro hb <;> (try simp only [decide_eq_true_eq, decide_eq_false_iff_not, Bool.not_eq_true', Bool.not_eq_false', Int.not_lt, Int.not_le] at hb) <;> (try (exfalso; first | omega | exact hb trivial))))
  refine Z.lpS [11, 12, 14, 39, 40, 41, 42, 43, 44, 45, 46, 47, 48, 49, 50, 51] (fun m w s => ∃ (q gp gr : Nat) (P R : Ga), s = [(11, .pointer (some ⟨gp, 0, none⟩)), (12, .pointer (some ⟨gr, 0, none⟩)), (39, .int .i64 q)] ∧ q ≤ acts.length ∧ Rel P R ∧ P.cell = cell ∧ P.ws.length ≤ q ∧ R.ws.length ≤ q ∧ m = acts.length - q ∧ Sep r [] (GP gp P :: GR gr R :: .sl 71 7 (.slice A acts.length c) (acts.map Ac.cells) :: [.blk ga 71 a.cells]) w) _ [(11, .pointer (some ⟨gp, 0, none⟩)), (12, .pointer (some ⟨gr, 0, none⟩)), (39, .int .i64 (0 : Nat))] (by repeat (first | exact trivial | refine ⟨rfl, ?_⟩)) ⟨0, gp, gr, _, _, rfl, by omega, .new cell, rfl, by simp, by simp, rfl, hS.sb⟩ ?_
  clear hS
  rintro m f0 w _ ⟨q, gp, gr, P, R, rfl, hq, hrel, hcell, hlp, hlr, rfl, hS⟩
  by_cases hlt : q < acts.length
  · obtain ⟨gb, o, rfl, _, hra⟩ := (hS.slrows (.next (.next .here))).mat (by omega) hlt
    repeat' (first
      | refine Z.pr rfl ?_ | refine Y.la hS ?_ | refine Y.lb ?_ | refine Y.lc ?_ | refine Y.su ?_
      | (refine Y.sa hS ?_; clear hS; intro w hS)
      | ((first | refine Y.aa hS ?_ | refine Y.ab hS ?_ | refine Y.ac hS ?_); clear hS; intro g w hS hge)
      | refine Y.ix ?_ | refine Y.up ?_ | refine Y.sl1 ?_ | refine Y.sl2 ?_ | refine Y.sl3 ?_ | refine Y.sl4 ?_ | refine Y.eq ?_ | refine Y.ne ?_ | refine Y.ix2 ?_ | refine Y.ix3 ?_
      | refine Z.bu rfl rfl ?_ | refine Z.pl (R.max2 rfl rfl) ?_ | refine Z.pl (R.cap rfl rfl) ?_ | refine Z.pl R.mf ?_
      | refine Z.gT rfl rfl ?_ | refine Z.gF rfl rfl ?_ | refine Z.gF0 rfl rfl ?_ | refine Z.gU rfl rfl ?_
      | with_reducible (first | refine Z.seq ?_ | refine Z.reg ?_ | refine Z.nil ?_ | refine Z.skip ?_ | refine Z.exit ?_ | refine Z.ret ?_ | refine Z.block ?_ | refine Z.thN ?_ | refine Z.thU ?_ | refine Z.thE ?_ | refine Z.thR ?_ | refine Z.blN ?_ | refine Z.blR ?_ | refine Z.blE ?_)
      | (with_reducible refine Z.blX ?_ ?_; rotate_left; rfl)
      | refine Z.brT rfl ?_ | refine Z.brF rfl ?_
      | ((first | refine Z.gS rfl rfl ?_ ?_ | refine Z.br rfl ?_ ?_) <;> intro hb <;> (try simp only [decide_eq_true_eq, decide_eq_false_iff_not, Bool.not_eq_true', Bool.not_eq_false', Int.not_lt, Int.not_le] at hb) <;> (try (exfalso; first | omega | exact hb trivial))))
    replace hS := hS.fo (R := GR gr _)
    replace hS := hS.fo (R := GP gp _)
    refine Z.eff (Z.cl (do_z gp gr P R acts[q] _ _ _ hS hrel (by omega) (by omega)) rfl ?_) rfl
    clear hS
    rintro e w ⟨gp', gr', P', R', rfl, hrel', hd, hl1, hl2, hS⟩
    refine ⟨_, rfl, ?_⟩
    repeat' (first
      | refine Z.pr rfl ?_ | refine Y.la hS ?_ | refine Y.lb ?_ | refine Y.lc ?_ | refine Y.su ?_
      | (refine Y.sa hS ?_; clear hS; intro w hS)
      | ((first | refine Y.aa hS ?_ | refine Y.ab hS ?_ | refine Y.ac hS ?_); clear hS; intro g w hS hge)
      | refine Y.ix ?_ | refine Y.up ?_ | refine Y.sl1 ?_ | refine Y.sl2 ?_ | refine Y.sl3 ?_ | refine Y.sl4 ?_ | refine Y.eq ?_ | refine Y.ne ?_ | refine Y.ix2 ?_ | refine Y.ix3 ?_
      | refine Z.bu rfl rfl ?_ | refine Z.pl (R.max2 rfl rfl) ?_ | refine Z.pl (R.cap rfl rfl) ?_ | refine Z.pl R.mf ?_
      | refine Z.gT rfl rfl ?_ | refine Z.gF rfl rfl ?_ | refine Z.gF0 rfl rfl ?_ | refine Z.gU rfl rfl ?_
      | with_reducible (first | refine Z.seq ?_ | refine Z.reg ?_ | refine Z.nil ?_ | refine Z.skip ?_ | refine Z.exit ?_ | refine Z.ret ?_ | refine Z.block ?_ | refine Z.thN ?_ | refine Z.thU ?_ | refine Z.thE ?_ | refine Z.thR ?_ | refine Z.blN ?_ | refine Z.blR ?_ | refine Z.blE ?_)
      | (with_reducible refine Z.blX ?_ ?_; rotate_left; rfl)
      | refine Z.brT rfl ?_ | refine Z.brF rfl ?_
      | ((first | refine Z.gS rfl rfl ?_ ?_ | refine Z.br rfl ?_ ?_) <;> intro hb <;> (try simp only [decide_eq_true_eq, decide_eq_false_iff_not, Bool.not_eq_true', Bool.not_eq_false', Int.not_lt, Int.not_le] at hb) <;> (try (exfalso; first | omega | exact hb trivial))))
    refine Y.again (acts.length - (q + 1)) [(11, .pointer (some ⟨gp', 0, none⟩)), (12, .pointer (some ⟨gr', 0, none⟩)), (39, .int .i64 (q + 1 : Nat))] ?_
    exact ⟨q + 1, gp', gr', P', R', rfl, by omega, hrel', by rw [hd, doP_cell, hcell], by omega, by omega, rfl, hS.sb⟩
  · obtain ⟨hsub, hlen⟩ := doP_less (P := P) (a := ⟨4 + modN a.kind 3, a.n, a.w⟩) (by simp only; omega)
    have hclo := doP_closed P ⟨4 + modN a.kind 3, a.n, a.w⟩
    repeat' (first
      | refine Z.pr rfl ?_ | refine Y.la hS ?_ | refine Y.lb ?_ | refine Y.lc ?_ | refine Y.su ?_
      | (refine Y.sa hS ?_; clear hS; intro w hS)
      | ((first | refine Y.aa hS ?_ | refine Y.ab hS ?_ | refine Y.ac hS ?_); clear hS; intro g w hS hge)
      | refine Y.ix ?_ | refine Y.up ?_ | refine Y.sl1 ?_ | refine Y.sl2 ?_ | refine Y.sl3 ?_ | refine Y.sl4 ?_ | refine Y.eq ?_ | refine Y.ne ?_ | refine Y.ix2 ?_ | refine Y.ix3 ?_
      | refine Z.bu rfl rfl ?_ | refine Z.pl (R.max2 rfl rfl) ?_ | refine Z.pl (R.cap rfl rfl) ?_ | refine Z.pl R.mf ?_
      | refine Z.gT rfl rfl ?_ | refine Z.gF rfl rfl ?_ | refine Z.gF0 rfl rfl ?_ | refine Z.gU rfl rfl ?_
      | with_reducible (first | refine Z.seq ?_ | refine Z.reg ?_ | refine Z.nil ?_ | refine Z.skip ?_ | refine Z.exit ?_ | refine Z.ret ?_ | refine Z.block ?_ | refine Z.thN ?_ | refine Z.thU ?_ | refine Z.thE ?_ | refine Z.thR ?_ | refine Z.blN ?_ | refine Z.blR ?_ | refine Z.blE ?_)
      | (with_reducible refine Z.blX ?_ ?_; rotate_left; rfl)
      | refine Z.brT rfl ?_ | refine Z.brF rfl ?_
      | ((first | refine Z.gS rfl rfl ?_ ?_ | refine Z.br rfl ?_ ?_) <;> intro hb <;> (try simp only [decide_eq_true_eq, decide_eq_false_iff_not, Bool.not_eq_true', Bool.not_eq_false', Int.not_lt, Int.not_le] at hb) <;> (try (exfalso; first | omega | exact hb trivial))))
    refine Z.eff (Z.cl (mod_y a.kind 3 _ _ _ hS (by omega) (by omega)) rfl ?_) rfl
    clear hS
    rintro e w ⟨rfl, hS⟩
    refine ⟨_, rfl, ?_⟩
    generalize modN a.kind 3 = kd at *
    repeat' (first
      | refine Z.pr rfl ?_ | refine Y.la hS ?_ | refine Y.lb ?_ | refine Y.lc ?_ | refine Y.su ?_
      | (refine Y.sa hS ?_; clear hS; intro w hS)
      | ((first | refine Y.aa hS ?_ | refine Y.ab hS ?_ | refine Y.ac hS ?_); clear hS; intro g w hS hge)
      | refine Y.ix ?_ | refine Y.up ?_ | refine Y.sl1 ?_ | refine Y.sl2 ?_ | refine Y.sl3 ?_ | refine Y.sl4 ?_ | refine Y.eq ?_ | refine Y.ne ?_ | refine Y.ix2 ?_ | refine Y.ix3 ?_
      | refine Z.bu rfl rfl ?_ | refine Z.pl (R.max2 rfl rfl) ?_ | refine Z.pl (R.cap rfl rfl) ?_ | refine Z.pl R.mf ?_
      | refine Z.gT rfl rfl ?_ | refine Z.gF rfl rfl ?_ | refine Z.gF0 rfl rfl ?_ | refine Z.gU rfl rfl ?_
      | with_reducible (first | refine Z.seq ?_ | refine Z.reg ?_ | refine Z.nil ?_ | refine Z.skip ?_ | refine Z.exit ?_ | refine Z.ret ?_ | refine Z.block ?_ | refine Z.thN ?_ | refine Z.thU ?_ | refine Z.thE ?_ | refine Z.thR ?_ | refine Z.blN ?_ | refine Z.blR ?_ | refine Z.blE ?_)
      | (with_reducible refine Z.blX ?_ ?_; rotate_left; rfl)
      | refine Z.brT rfl ?_ | refine Z.brF rfl ?_
      | ((first | refine Z.gS rfl rfl ?_ ?_ | refine Z.br rfl ?_ ?_) <;> intro hb <;> (try simp only [decide_eq_true_eq, decide_eq_false_iff_not, Bool.not_eq_true', Bool.not_eq_false', Int.not_lt, Int.not_le] at hb) <;> (try (exfalso; first | omega | exact hb trivial))))
    replace hS := hS.fo (R := GP gp _)
    refine Z.eff (Z.cl (gcopy_z gp P _ _ _ hS (by omega)) rfl ?_) rfl
    clear hS
    rintro e w ⟨gw, rfl, hS⟩
    refine ⟨_, rfl, ?_⟩
    repeat' (first
      | refine Z.pr rfl ?_ | refine Y.la hS ?_ | refine Y.lb ?_ | refine Y.lc ?_ | refine Y.su ?_
      | (refine Y.sa hS ?_; clear hS; intro w hS)
      | ((first | refine Y.aa hS ?_ | refine Y.ab hS ?_ | refine Y.ac hS ?_); clear hS; intro g w hS hge)
      | refine Y.ix ?_ | refine Y.up ?_ | refine Y.sl1 ?_ | refine Y.sl2 ?_ | refine Y.sl3 ?_ | refine Y.sl4 ?_ | refine Y.eq ?_ | refine Y.ne ?_ | refine Y.ix2 ?_ | refine Y.ix3 ?_
      | refine Z.bu rfl rfl ?_ | refine Z.pl (R.max2 rfl rfl) ?_ | refine Z.pl (R.cap rfl rfl) ?_ | refine Z.pl R.mf ?_
      | refine Z.gT rfl rfl ?_ | refine Z.gF rfl rfl ?_ | refine Z.gF0 rfl rfl ?_ | refine Z.gU rfl rfl ?_
      | with_reducible (first | refine Z.seq ?_ | refine Z.reg ?_ | refine Z.nil ?_ | refine Z.skip ?_ | refine Z.exit ?_ | refine Z.ret ?_ | refine Z.block ?_ | refine Z.thN ?_ | refine Z.thU ?_ | refine Z.thE ?_ | refine Z.thR ?_ | refine Z.blN ?_ | refine Z.blR ?_ | refine Z.blE ?_)
      | (with_reducible refine Z.blX ?_ ?_; rotate_left; rfl)
      | refine Z.brT rfl ?_ | refine Z.brF rfl ?_
      | ((first | refine Z.gS rfl rfl ?_ ?_ | refine Z.br rfl ?_ ?_) <;> intro hb <;> (try simp only [decide_eq_true_eq, decide_eq_false_iff_not, Bool.not_eq_true', Bool.not_eq_false', Int.not_lt, Int.not_le] at hb) <;> (try (exfalso; first | omega | exact hb trivial))))
    replace hS := hS.fo (R := GR gr _)
    replace hS := hS.fo (R := GP gp _)
    refine Z.eff (Z.cl (do_z gp gr P R ⟨4 + kd, a.n, a.w⟩ _ _ _ hS hrel (by omega) (by omega)) rfl ?_) rfl
    clear hS
    rintro e w ⟨gp', gr', P', R', rfl, hrel', hd, hl1, hl2, hS⟩
    refine ⟨_, rfl, ?_⟩
    rw [← hd] at hsub hlen hclo
    replace hS : Sep r [] [GP gp' P', GP gw P] _ := hS.sb
    repeat' (first
      | refine Z.pr rfl ?_ | refine Y.la hS ?_ | refine Y.lb ?_ | refine Y.lc ?_ | refine Y.su ?_
      | (refine Y.sa hS ?_; clear hS; intro w hS)
      | ((first | refine Y.aa hS ?_ | refine Y.ab hS ?_ | refine Y.ac hS ?_); clear hS; intro g w hS hge)
      | refine Y.ix ?_ | refine Y.up ?_ | refine Y.sl1 ?_ | refine Y.sl2 ?_ | refine Y.sl3 ?_ | refine Y.sl4 ?_ | refine Y.eq ?_ | refine Y.ne ?_ | refine Y.ix2 ?_ | refine Y.ix3 ?_
      | refine Z.bu rfl rfl ?_ | refine Z.pl (R.max2 rfl rfl) ?_ | refine Z.pl (R.cap rfl rfl) ?_ | refine Z.pl R.mf ?_
      | refine Z.gT rfl rfl ?_ | refine Z.gF rfl rfl ?_ | refine Z.gF0 rfl rfl ?_ | refine Z.gU rfl rfl ?_
      | with_reducible (first | refine Z.seq ?_ | refine Z.reg ?_ | refine Z.nil ?_ | refine Z.skip ?_ | refine Z.exit ?_ | refine Z.ret ?_ | refine Z.block ?_ | refine Z.thN ?_ | refine Z.thU ?_ | refine Z.thE ?_ | refine Z.thR ?_ | refine Z.blN ?_ | refine Z.blR ?_ | refine Z.blE ?_)
      | (with_reducible refine Z.blX ?_ ?_; rotate_left; rfl)
      | refine Z.brT rfl ?_ | refine Z.brF rfl ?_
      | ((first | refine Z.gS rfl rfl ?_ ?_ | refine Z.br rfl ?_ ?_) <;> intro hb <;> (try simp only [decide_eq_true_eq, decide_eq_false_iff_not, Bool.not_eq_true', Bool.not_eq_false', Int.not_lt, Int.not_le] at hb) <;> (try (exfalso; first | omega | exact hb trivial))))
    refine Z.lpS [10, 16, 17, 18, 19, 20, 67, 68, 69, 70, 71, 72, 73, 74, 75, 76, 77, 78, 79, 80, 81, 82, 83, 84, 85, 86, 87, 88, 89, 90, 91, 92, 93, 94] (fun m w s => ∃ t : Int, s = [(16, .int .i64 t)] ∧ 0 ≤ t ∧ t ≤ 50 ∧ m = (50 - t).toNat ∧ Sep r [] [GP gp' P', GP gw P] w) _ [(16, .int .i64 0)] (by repeat (first | exact trivial | refine ⟨rfl, ?_⟩)) ⟨0, rfl, by omega, by omega, rfl, hS⟩ ?_
    clear hS
    rintro m f2 w _ ⟨t, rfl, ht0, ht, rfl, hS⟩
    by_cases hlt2 : t < 50
    · obtain ⟨ha0, ha1, ha2⟩ := accs_sub (v := vv) (t := t) hsub
      repeat' (first
        | refine Z.pr rfl ?_ | refine Y.la hS ?_ | refine Y.lb ?_ | refine Y.lc ?_ | refine Y.su ?_
        | (refine Y.sa hS ?_; clear hS; intro w hS)
        | ((first | refine Y.aa hS ?_ | refine Y.ab hS ?_ | refine Y.ac hS ?_); clear hS; intro g w hS hge)
        | refine Y.ix ?_ | refine Y.up ?_ | refine Y.sl1 ?_ | refine Y.sl2 ?_ | refine Y.sl3 ?_ | refine Y.sl4 ?_ | refine Y.eq ?_ | refine Y.ne ?_ | refine Y.ix2 ?_ | refine Y.ix3 ?_
        | refine Z.bu rfl rfl ?_ | refine Z.pl (R.max2 rfl rfl) ?_ | refine Z.pl (R.cap rfl rfl) ?_ | refine Z.pl R.mf ?_
        | refine Z.gT rfl rfl ?_ | refine Z.gF rfl rfl ?_ | refine Z.gF0 rfl rfl ?_ | refine Z.gU rfl rfl ?_
        | with_reducible (first | refine Z.seq ?_ | refine Z.reg ?_ | refine Z.nil ?_ | refine Z.skip ?_ | refine Z.exit ?_ | refine Z.ret ?_ | refine Z.block ?_ | refine Z.thN ?_ | refine Z.thU ?_ | refine Z.thE ?_ | refine Z.thR ?_ | refine Z.blN ?_ | refine Z.blR ?_ | refine Z.blE ?_)
        | (with_reducible refine Z.blX ?_ ?_; rotate_left; rfl)
        | refine Z.brT rfl ?_ | refine Z.brF rfl ?_
        | ((first | refine Z.gS rfl rfl ?_ ?_ | refine Z.br rfl ?_ ?_) <;> intro hb <;> (try simp only [decide_eq_true_eq, decide_eq_false_iff_not, Bool.not_eq_true', Bool.not_eq_false', Int.not_lt, Int.not_le] at hb) <;> (try (exfalso; first | omega | exact hb trivial))))
      refine Z.eff (Z.cl (gaccepts_z gp' P' vv t _ _ _ hS (by omega)) rfl ?_) rfl
      clear hS
      rintro e w ⟨rfl, hS⟩
      refine ⟨_, rfl, ?_⟩
      repeat' (first
        | refine Z.pr rfl ?_ | refine Y.la hS ?_ | refine Y.lb ?_ | refine Y.lc ?_ | refine Y.su ?_
        | (refine Y.sa hS ?_; clear hS; intro w hS)
        | ((first | refine Y.aa hS ?_ | refine Y.ab hS ?_ | refine Y.ac hS ?_); clear hS; intro g w hS hge)
        | refine Y.ix ?_ | refine Y.up ?_ | refine Y.sl1 ?_ | refine Y.sl2 ?_ | refine Y.sl3 ?_ | refine Y.sl4 ?_ | refine Y.eq ?_ | refine Y.ne ?_ | refine Y.ix2 ?_ | refine Y.ix3 ?_
        | refine Z.bu rfl rfl ?_ | refine Z.pl (R.max2 rfl rfl) ?_ | refine Z.pl (R.cap rfl rfl) ?_ | refine Z.pl R.mf ?_
        | refine Z.gT rfl rfl ?_ | refine Z.gF rfl rfl ?_ | refine Z.gF0 rfl rfl ?_ | refine Z.gU rfl rfl ?_
        | with_reducible (first | refine Z.seq ?_ | refine Z.reg ?_ | refine Z.nil ?_ | refine Z.skip ?_ | refine Z.exit ?_ | refine Z.ret ?_ | refine Z.block ?_ | refine Z.thN ?_ | refine Z.thU ?_ | refine Z.thE ?_ | refine Z.thR ?_ | refine Z.blN ?_ | refine Z.blR ?_ | refine Z.blE ?_)
        | (with_reducible refine Z.blX ?_ ?_; rotate_left; rfl)
        | refine Z.brT rfl ?_ | refine Z.brF rfl ?_
        | ((first | refine Z.gS rfl rfl ?_ ?_ | refine Z.br rfl ?_ ?_) <;> intro hb <;> (try simp only [decide_eq_true_eq, decide_eq_false_iff_not, Bool.not_eq_true', Bool.not_eq_false', Int.not_lt, Int.not_le] at hb) <;> (try (exfalso; first | omega | exact hb trivial))))
      replace hS := hS.fo (R := GP gw _)
      refine Z.eff (Z.cl (gaccepts_z gw P vv t _ _ _ hS (by omega)) rfl ?_) rfl
      clear hS
      rintro e w ⟨rfl, hS⟩
      refine ⟨_, rfl, ?_⟩
      generalize accs P'.ws vv t 0 = acc at *
      generalize accs P.ws vv t 0 = acc2 at *
      repeat' (first
        | refine Z.pr rfl ?_ | refine Y.la hS ?_ | refine Y.lb ?_ | refine Y.lc ?_ | refine Y.su ?_
        | (refine Y.sa hS ?_; clear hS; intro w hS)
        | ((first | refine Y.aa hS ?_ | refine Y.ab hS ?_ | refine Y.ac hS ?_); clear hS; intro g w hS hge)
        | refine Y.ix ?_ | refine Y.up ?_ | refine Y.sl1 ?_ | refine Y.sl2 ?_ | refine Y.sl3 ?_ | refine Y.sl4 ?_ | refine Y.eq ?_ | refine Y.ne ?_ | refine Y.ix2 ?_ | refine Y.ix3 ?_
        | refine Z.bu rfl rfl ?_ | refine Z.pl (R.max2 rfl rfl) ?_ | refine Z.pl (R.cap rfl rfl) ?_ | refine Z.pl R.mf ?_
        | refine Z.gT rfl rfl ?_ | refine Z.gF rfl rfl ?_ | refine Z.gF0 rfl rfl ?_ | refine Z.gU rfl rfl ?_
        | with_reducible (first | refine Z.seq ?_ | refine Z.reg ?_ | refine Z.nil ?_ | refine Z.skip ?_ | refine Z.exit ?_ | refine Z.ret ?_ | refine Z.block ?_ | refine Z.thN ?_ | refine Z.thU ?_ | refine Z.thE ?_ | refine Z.thR ?_ | refine Z.blN ?_ | refine Z.blR ?_ | refine Z.blE ?_)
        | (with_reducible refine Z.blX ?_ ?_; rotate_left; rfl)
        | refine Z.brT rfl ?_ | refine Z.brF rfl ?_
        | ((first | refine Z.gS rfl rfl ?_ ?_ | refine Z.br rfl ?_ ?_) <;> intro hb <;> (try simp only [decide_eq_true_eq, decide_eq_false_iff_not, Bool.not_eq_true', Bool.not_eq_false', Int.not_lt, Int.not_le] at hb) <;> (try (exfalso; first | omega | exact hb trivial))))
      all_goals
        refine Y.again ((50 - (t + 1)).toNat) [(16, .int .i64 (t + 1))] ?_
        exact ⟨t + 1, rfl, by omega, by omega, rfl, hS.sb⟩
    · obtain ⟨ha0, ha1, ha2⟩ := accs_sub (v := vv) (t := tt) hsub
      repeat' (first
        | refine Z.pr rfl ?_ | refine Y.la hS ?_ | refine Y.lb ?_ | refine Y.lc ?_ | refine Y.su ?_
        | (refine Y.sa hS ?_; clear hS; intro w hS)
        | ((first | refine Y.aa hS ?_ | refine Y.ab hS ?_ | refine Y.ac hS ?_); clear hS; intro g w hS hge)
        | refine Y.ix ?_ | refine Y.up ?_ | refine Y.sl1 ?_ | refine Y.sl2 ?_ | refine Y.sl3 ?_ | refine Y.sl4 ?_ | refine Y.eq ?_ | refine Y.ne ?_ | refine Y.ix2 ?_ | refine Y.ix3 ?_
        | refine Z.bu rfl rfl ?_ | refine Z.pl (R.max2 rfl rfl) ?_ | refine Z.pl (R.cap rfl rfl) ?_ | refine Z.pl R.mf ?_
        | refine Z.gT rfl rfl ?_ | refine Z.gF rfl rfl ?_ | refine Z.gF0 rfl rfl ?_ | refine Z.gU rfl rfl ?_
        | with_reducible (first | refine Z.seq ?_ | refine Z.reg ?_ | refine Z.nil ?_ | refine Z.skip ?_ | refine Z.exit ?_ | refine Z.ret ?_ | refine Z.block ?_ | refine Z.thN ?_ | refine Z.thU ?_ | refine Z.thE ?_ | refine Z.thR ?_ | refine Z.blN ?_ | refine Z.blR ?_ | refine Z.blE ?_)
        | (with_reducible refine Z.blX ?_ ?_; rotate_left; rfl)
        | refine Z.brT rfl ?_ | refine Z.brF rfl ?_
        | ((first | refine Z.gS rfl rfl ?_ ?_ | refine Z.br rfl ?_ ?_) <;> intro hb <;> (try simp only [decide_eq_true_eq, decide_eq_false_iff_not, Bool.not_eq_true', Bool.not_eq_false', Int.not_lt, Int.not_le] at hb) <;> (try (exfalso; first | omega | exact hb trivial))))
      refine Z.eff (Z.cl (gaccepts_z gp' P' vv tt _ _ _ hS (by omega)) rfl ?_) rfl
      clear hS
      rintro e w ⟨rfl, hS⟩
      refine ⟨_, rfl, ?_⟩
      repeat' (first
        | refine Z.pr rfl ?_ | refine Y.la hS ?_ | refine Y.lb ?_ | refine Y.lc ?_ | refine Y.su ?_
        | (refine Y.sa hS ?_; clear hS; intro w hS)
        | ((first | refine Y.aa hS ?_ | refine Y.ab hS ?_ | refine Y.ac hS ?_); clear hS; intro g w hS hge)
        | refine Y.ix ?_ | refine Y.up ?_ | refine Y.sl1 ?_ | refine Y.sl2 ?_ | refine Y.sl3 ?_ | refine Y.sl4 ?_ | refine Y.eq ?_ | refine Y.ne ?_ | refine Y.ix2 ?_ | refine Y.ix3 ?_
        | refine Z.bu rfl rfl ?_ | refine Z.pl (R.max2 rfl rfl) ?_ | refine Z.pl (R.cap rfl rfl) ?_ | refine Z.pl R.mf ?_
        | refine Z.gT rfl rfl ?_ | refine Z.gF rfl rfl ?_ | refine Z.gF0 rfl rfl ?_ | refine Z.gU rfl rfl ?_
        | with_reducible (first | refine Z.seq ?_ | refine Z.reg ?_ | refine Z.nil ?_ | refine Z.skip ?_ | refine Z.exit ?_ | refine Z.ret ?_ | refine Z.block ?_ | refine Z.thN ?_ | refine Z.thU ?_ | refine Z.thE ?_ | refine Z.thR ?_ | refine Z.blN ?_ | refine Z.blR ?_ | refine Z.blE ?_)
        | (with_reducible refine Z.blX ?_ ?_; rotate_left; rfl)
        | refine Z.brT rfl ?_ | refine Z.brF rfl ?_
        | ((first | refine Z.gS rfl rfl ?_ ?_ | refine Z.br rfl ?_ ?_) <;> intro hb <;> (try simp only [decide_eq_true_eq, decide_eq_false_iff_not, Bool.not_eq_true', Bool.not_eq_false', Int.not_lt, Int.not_le] at hb) <;> (try (exfalso; first | omega | exact hb trivial))))
      replace hS := hS.fo (R := GP gw _)
      refine Z.eff (Z.cl (gaccepts_z gw P vv tt _ _ _ hS (by omega)) rfl ?_) rfl
      clear hS
      rintro e w ⟨rfl, hS⟩
      refine ⟨_, rfl, ?_⟩
      generalize accs P'.ws vv tt 0 = acc at *
      generalize accs P.ws vv tt 0 = acc2 at *
      repeat' (first
        | refine Z.pr rfl ?_ | refine Y.la hS ?_ | refine Y.lb ?_ | refine Y.lc ?_ | refine Y.su ?_
        | (refine Y.sa hS ?_; clear hS; intro w hS)
        | ((first | refine Y.aa hS ?_ | refine Y.ab hS ?_ | refine Y.ac hS ?_); clear hS; intro g w hS hge)
        | refine Y.ix ?_ | refine Y.up ?_ | refine Y.sl1 ?_ | refine Y.sl2 ?_ | refine Y.sl3 ?_ | refine Y.sl4 ?_ | refine Y.eq ?_ | refine Y.ne ?_ | refine Y.ix2 ?_ | refine Y.ix3 ?_
        | refine Z.bu rfl rfl ?_ | refine Z.pl (R.max2 rfl rfl) ?_ | refine Z.pl (R.cap rfl rfl) ?_ | refine Z.pl R.mf ?_
        | refine Z.gT rfl rfl ?_ | refine Z.gF rfl rfl ?_ | refine Z.gF0 rfl rfl ?_ | refine Z.gU rfl rfl ?_
        | with_reducible (first | refine Z.seq ?_ | refine Z.reg ?_ | refine Z.nil ?_ | refine Z.skip ?_ | refine Z.exit ?_ | refine Z.ret ?_ | refine Z.block ?_ | refine Z.thN ?_ | refine Z.thU ?_ | refine Z.thE ?_ | refine Z.thR ?_ | refine Z.blN ?_ | refine Z.blR ?_ | refine Z.blE ?_)
        | (with_reducible refine Z.blX ?_ ?_; rotate_left; rfl)
        | refine Z.brT rfl ?_ | refine Z.brF rfl ?_
        | ((first | refine Z.gS rfl rfl ?_ ?_ | refine Z.br rfl ?_ ?_) <;> intro hb <;> (try simp only [decide_eq_true_eq, decide_eq_false_iff_not, Bool.not_eq_true', Bool.not_eq_false', Int.not_lt, Int.not_le] at hb) <;> (try (exfalso; first | omega | exact hb trivial))))
      all_goals
        replace hS := hS.fo (R := GP gp' _)
        refine Z.eff (Z.cl (gclosed_z gp' P' _ _ _ hS) rfl ?_) rfl
        clear hS
        rintro e w ⟨rfl, hS⟩
        refine ⟨_, rfl, ?_⟩
        repeat' (first
          | refine Z.pr rfl ?_ | refine Y.la hS ?_ | refine Y.lb ?_ | refine Y.lc ?_ | refine Y.su ?_
          | (refine Y.sa hS ?_; clear hS; intro w hS)
          | ((first | refine Y.aa hS ?_ | refine Y.ab hS ?_ | refine Y.ac hS ?_); clear hS; intro g w hS hge)
          | refine Y.ix ?_ | refine Y.up ?_ | refine Y.sl1 ?_ | refine Y.sl2 ?_ | refine Y.sl3 ?_ | refine Y.sl4 ?_ | refine Y.eq ?_ | refine Y.ne ?_ | refine Y.ix2 ?_ | refine Y.ix3 ?_
          | refine Z.bu rfl rfl ?_ | refine Z.pl (R.max2 rfl rfl) ?_ | refine Z.pl (R.cap rfl rfl) ?_ | refine Z.pl R.mf ?_
          | refine Z.gT rfl rfl ?_ | refine Z.gF rfl rfl ?_ | refine Z.gF0 rfl rfl ?_ | refine Z.gU rfl rfl ?_
          | with_reducible (first | refine Z.seq ?_ | refine Z.reg ?_ | refine Z.nil ?_ | refine Z.skip ?_ | refine Z.exit ?_ | refine Z.ret ?_ | refine Z.block ?_ | refine Z.thN ?_ | refine Z.thU ?_ | refine Z.thE ?_ | refine Z.thR ?_ | refine Z.blN ?_ | refine Z.blR ?_ | refine Z.blE ?_)
          | (with_reducible refine Z.blX ?_ ?_; rotate_left; rfl)
          | refine Z.brT rfl ?_ | refine Z.brF rfl ?_
          | ((first | refine Z.gS rfl rfl ?_ ?_ | refine Z.br rfl ?_ ?_) <;> intro hb <;> (try simp only [decide_eq_true_eq, decide_eq_false_iff_not, Bool.not_eq_true', Bool.not_eq_false', Int.not_lt, Int.not_le] at hb) <;> (try (exfalso; first | omega | exact hb trivial))))
        replace hS := hS.fo (R := GP gw _)
        refine Z.eff (Z.cl (gclosed_z gw P _ _ _ hS) rfl ?_) rfl
        clear hS
        rintro e w ⟨rfl, hS⟩
        refine ⟨_, rfl, ?_⟩
        repeat' (first
          | refine Z.pr rfl ?_ | refine Y.la hS ?_ | refine Y.lb ?_ | refine Y.lc ?_ | refine Y.su ?_
          | (refine Y.sa hS ?_; clear hS; intro w hS)
          | ((first | refine Y.aa hS ?_ | refine Y.ab hS ?_ | refine Y.ac hS ?_); clear hS; intro g w hS hge)
          | refine Y.ix ?_ | refine Y.up ?_ | refine Y.sl1 ?_ | refine Y.sl2 ?_ | refine Y.sl3 ?_ | refine Y.sl4 ?_ | refine Y.eq ?_ | refine Y.ne ?_ | refine Y.ix2 ?_ | refine Y.ix3 ?_
          | refine Z.bu rfl rfl ?_ | refine Z.pl (R.max2 rfl rfl) ?_ | refine Z.pl (R.cap rfl rfl) ?_ | refine Z.pl R.mf ?_
          | refine Z.gT rfl rfl ?_ | refine Z.gF rfl rfl ?_ | refine Z.gF0 rfl rfl ?_ | refine Z.gU rfl rfl ?_
          | with_reducible (first | refine Z.seq ?_ | refine Z.reg ?_ | refine Z.nil ?_ | refine Z.skip ?_ | refine Z.exit ?_ | refine Z.ret ?_ | refine Z.block ?_ | refine Z.thN ?_ | refine Z.thU ?_ | refine Z.thE ?_ | refine Z.thR ?_ | refine Z.blN ?_ | refine Z.blR ?_ | refine Z.blE ?_)
          | (with_reducible refine Z.blX ?_ ?_; rotate_left; rfl)
          | refine Z.brT rfl ?_ | refine Z.brF rfl ?_
          | ((first | refine Z.gS rfl rfl ?_ ?_ | refine Z.br rfl ?_ ?_) <;> intro hb <;> (try simp only [decide_eq_true_eq, decide_eq_false_iff_not, Bool.not_eq_true', Bool.not_eq_false', Int.not_lt, Int.not_le] at hb) <;> (try (exfalso; first | omega | exact hb trivial))))
        replace hS := hS.fo (R := GP gp' _)
        refine Z.eff (Z.cl (gwindows_z gp' P' _ _ _ hS (by omega)) rfl ?_) rfl
        clear hS
        rintro e w ⟨Ax, cx, rfl, hS⟩
        refine ⟨_, rfl, ?_⟩
        repeat' (first
          | refine Z.pr rfl ?_ | refine Y.la hS ?_ | refine Y.lb ?_ | refine Y.lc ?_ | refine Y.su ?_
          | (refine Y.sa hS ?_; clear hS; intro w hS)
          | ((first | refine Y.aa hS ?_ | refine Y.ab hS ?_ | refine Y.ac hS ?_); clear hS; intro g w hS hge)
          | refine Y.ix ?_ | refine Y.up ?_ | refine Y.sl1 ?_ | refine Y.sl2 ?_ | refine Y.sl3 ?_ | refine Y.sl4 ?_ | refine Y.eq ?_ | refine Y.ne ?_ | refine Y.ix2 ?_ | refine Y.ix3 ?_
          | refine Z.bu rfl rfl ?_ | refine Z.pl (R.max2 rfl rfl) ?_ | refine Z.pl (R.cap rfl rfl) ?_ | refine Z.pl R.mf ?_
          | refine Z.gT rfl rfl ?_ | refine Z.gF rfl rfl ?_ | refine Z.gF0 rfl rfl ?_ | refine Z.gU rfl rfl ?_
          | with_reducible (first | refine Z.seq ?_ | refine Z.reg ?_ | refine Z.nil ?_ | refine Z.skip ?_ | refine Z.exit ?_ | refine Z.ret ?_ | refine Z.block ?_ | refine Z.thN ?_ | refine Z.thU ?_ | refine Z.thE ?_ | refine Z.thR ?_ | refine Z.blN ?_ | refine Z.blR ?_ | refine Z.blE ?_)
          | (with_reducible refine Z.blX ?_ ?_; rotate_left; rfl)
          | refine Z.brT rfl ?_ | refine Z.brF rfl ?_
          | ((first | refine Z.gS rfl rfl ?_ ?_ | refine Z.br rfl ?_ ?_) <;> intro hb <;> (try simp only [decide_eq_true_eq, decide_eq_false_iff_not, Bool.not_eq_true', Bool.not_eq_false', Int.not_lt, Int.not_le] at hb) <;> (try (exfalso; first | omega | exact hb trivial))))
        replace hS := hS.fo (R := GP gw _)
        refine Z.eff (Z.cl (gwindows_z gw P _ _ _ hS (by omega)) rfl ?_) rfl
        clear hS
        rintro e w ⟨Ay, cy, rfl, hS⟩
        refine ⟨_, rfl, ?_⟩
        repeat' (first
          | refine Z.pr rfl ?_ | refine Y.la hS ?_ | refine Y.lb ?_ | refine Y.lc ?_ | refine Y.su ?_
          | (refine Y.sa hS ?_; clear hS; intro w hS)
          | ((first | refine Y.aa hS ?_ | refine Y.ab hS ?_ | refine Y.ac hS ?_); clear hS; intro g w hS hge)
          | refine Y.ix ?_ | refine Y.up ?_ | refine Y.sl1 ?_ | refine Y.sl2 ?_ | refine Y.sl3 ?_ | refine Y.sl4 ?_ | refine Y.eq ?_ | refine Y.ne ?_ | refine Y.ix2 ?_ | refine Y.ix3 ?_
          | refine Z.bu rfl rfl ?_ | refine Z.pl (R.max2 rfl rfl) ?_ | refine Z.pl (R.cap rfl rfl) ?_ | refine Z.pl R.mf ?_
          | refine Z.gT rfl rfl ?_ | refine Z.gF rfl rfl ?_ | refine Z.gF0 rfl rfl ?_ | refine Z.gU rfl rfl ?_
          | with_reducible (first | refine Z.seq ?_ | refine Z.reg ?_ | refine Z.nil ?_ | refine Z.skip ?_ | refine Z.exit ?_ | refine Z.ret ?_ | refine Z.block ?_ | refine Z.thN ?_ | refine Z.thU ?_ | refine Z.thE ?_ | refine Z.thR ?_ | refine Z.blN ?_ | refine Z.blR ?_ | refine Z.blE ?_)
          | (with_reducible refine Z.blX ?_ ?_; rotate_left; rfl)
          | refine Z.brT rfl ?_ | refine Z.brF rfl ?_
          | ((first | refine Z.gS rfl rfl ?_ ?_ | refine Z.br rfl ?_ ?_) <;> intro hb <;> (try simp only [decide_eq_true_eq, decide_eq_false_iff_not, Bool.not_eq_true', Bool.not_eq_false', Int.not_lt, Int.not_le] at hb) <;> (try (exfalso; first | omega | exact hb trivial))))
        first | refine Z.done hS Try.results11 (Z.RV.tmp rfl Z.RV.nil) ?_ | refine Z.doneN hS Try.results11 (Z.RV.tmp rfl Z.RV.nil) ?_
        refine ⟨?_, hS.chg⟩
        simp only [Z.packR]
        congr 2
        rw [decide_eq_true_iff]
        omega
set_option maxRecDepth 100000 in
theorem gateLess_lifted (os : Os) (started : os.Started) (H : Type) (enc : TypeId × Value → H) :
    ReturnsInHanded {} Try.checked os 11 .any (Rows.gateLessSpec.pre6 enc Try.prog Try.f11 Rows.gateLessRow.domain false) (Rows.gateLessSpec.post enc Try.prog Try.f11 false Rows.gateLessRow.fresh Rows.gateLessRow.handsOn Rows.gateLessRow.again) := by
  refine returnsInHanded_of_change (C := Try.checked) Try.own started (by kernel_rfl) Try.func11
    (ChangeSpec.witness6 (enc := enc) (C := Try.checked) false ⟨#[], #[.int .i64 0, .slice none 0 0, .agg #[.int .i64 0, .int .i64 0, .int .i64 0, .int .i64 0, .int .i64 0, .int .i64 0, .int .i64 0], .int .i64 0, .int .i64 0], []⟩ 8 (by kernel_rfl) (by kernel_rfl) (by kernel_rfl) (by kernel_rfl)) ?_
  intro W base args ds gs before hval0 hW _ _
  have hval : ∀ (j : Nat) t v, Try.f11.params[j]? = some t → args[j]? = some v → Value.okWide Try.prog W .any base t v := hval0
  have hW0 := hW
  obtain ⟨p, q, hA0, hV, hpq, _, _⟩ := hW
  obtain ⟨la⟩ := args
  have hA : DataW.TrodAll enc Try.prog W 0 (fun _ => true) true [3, 22, 71, 3, 3] la ds p := by have := hA0; rw [Try.params11] at this; exact this
  rw [Try.params11] at hval
  obtain ⟨v0, la0, d0, ds0, p0, q0, rfl, rfl, rfl, h0, hA⟩ := trodAll_cons hA
  obtain ⟨v1, la1, d1, ds1, p1, q1, rfl, rfl, rfl, h1, hA⟩ := trodAll_cons hA
  obtain ⟨v2, la2, d2, ds2, p2, q2, rfl, rfl, rfl, h2, hA⟩ := trodAll_cons hA
  obtain ⟨v3, la3, d3, ds3, p3, q3, rfl, rfl, rfl, h3, hA⟩ := trodAll_cons hA
  obtain ⟨v4, la4, d4, ds4, p4, q4, rfl, rfl, rfl, h4, hA⟩ := trodAll_cons hA
  obtain ⟨rfl, rfl, rfl⟩ := trodAll_nil hA
  obtain ⟨z0, rfl, hr0⟩ := arg_int (hval 0 _ _ rfl rfl) h0
  obtain ⟨l1, A1, cap1, rfl, hr1⟩ := arg_ints (hval 1 _ _ rfl rfl) h1
  obtain ⟨x2, rfl⟩ := arg_act (hval 2 _ _ rfl rfl) h2
  obtain ⟨z3, rfl, hr3⟩ := arg_int (hval 3 _ _ rfl rfl) h3
  obtain ⟨z4, rfl, hr4⟩ := arg_int (hval 4 _ _ rfl rfl) h4
  have fin : Calls Try.prog 11 _ W fun e W' => e = .returned (.bool true) ∧ Chg [] W W' := less_z z0 l1 A1 cap1 x2 z3 z4 W hr0 hr1  hr3 hr4
  refine fin.mono fun e W' ⟨he, hc⟩ => ⟨_, he, ?_⟩
  exact law_post Try.laidOut (by rw [Try.params11]; intro t ht; simp only [List.mem_cons, List.not_mem_nil, or_false] at ht; rcases ht with rfl | rfl | rfl | rfl | rfl <;> exact ⟨by kernel_rfl, of_decide_eq_true (by kernel_rfl)⟩) rfl rfl Try.underlying4 rfl hW0 hc.below
theorem gateLess_holds : Rows.GateLessSaid :=
  OpenClaim.holds_of_wide 11 Try.f11 rfl rfl rfl rfl rfl rfl rfl ⟨rfl, rfl, rfl, rfl, rfl⟩ rfl rfl rfl rfl rfl (by kernel_rfl) Try.func11 (by kernel_rfl)
    (of_decide_eq_true (by kernel_rfl)) (by unfold Func.isWrapper; rw [if_neg (of_decide_eq_false (by kernel_rfl))]; exact ⟨rfl, rfl⟩)
    (fun os started H enc _ => gateLess_lifted os started H enc)
end Go.Proofs.Ytppbjlakbmgfdaa
