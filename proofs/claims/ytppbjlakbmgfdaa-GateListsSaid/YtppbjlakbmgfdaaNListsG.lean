/-
  GateLists: for every input the call returns true, and the arguments read afterwards as they read before.
-/
import Derived.Test.YtppbjlakbmgfdaaNClosed
import Derived.Test.YtppbjlakbmgfdaaNGateW
import Derived.Test.YtppbjlakbmgfdaaZs
namespace Go.Proofs.Ytppbjlakbmgfdaa
open Go.RowKit Go.ChangeShapes Go.WideShapes Go.ChangeAt
set_option linter.unusedSimpArgs false
set_option linter.unusedVariables false

/-- Every place is reached by turning. -/
theorem turned {n md j : Nat} (hm : md < n) (hj : j < n) : ∃ i, i < n ∧ (i + md) % n = j := by
  rcases Nat.lt_or_ge j md with h | h
  · exact ⟨j + n - md, by omega, by rw [show j + n - md + md = j + n by omega, Nat.add_mod_right, Nat.mod_eq_of_lt hj]⟩
  · exact ⟨j - md, by omega, by rw [show j - md + md = j by omega, Nat.mod_eq_of_lt hj]⟩
theorem insW_self {x : Wi} {l : List Wi} (hs : l.Pairwise ltW) (hc : ∀ y, y ∈ l → y.cell = x.cell) (hx : x ∈ l) : insW x l = l :=
  sorted_one (insW_sorted hs) hs fun z => by
    rw [insW_mem hc]
    constructor
    · rintro (h | rfl)
      · exact h
      · exact hx
    · exact .inl
set_option maxHeartbeats 8000000 in
theorem lists_z (cell : Int) (l : List Int) (Al : Option Addr) (cap : Nat) (turn vv tt : Int) (r : World) (_ : -9223372036854775808 ≤ cell ∧ cell ≤ 9223372036854775807) (hr : Rd r 1 Al l.length (l.map (Value.int .i64))) (_ : -9223372036854775808 ≤ turn ∧ turn ≤ 9223372036854775807) (_ : -9223372036854775808 ≤ vv ∧ vv ≤ 9223372036854775807) (_ : -9223372036854775808 ≤ tt ∧ tt ≤ 9223372036854775807) :
    Calls Try.prog 12 #[.int .i64 cell, .slice Al l.length cap, .int .i64 turn, .int .i64 vv, .int .i64 tt] r fun e w' => e = .returned (.bool true) ∧ Chg [] r w' := by
  have hS := Sep.root r
  refine Z.enter Try.func12 Try.ntmps12 rfl rfl ?_
  repeat' (first
    | refine Z.pr rfl ?_ | refine Y.la hS ?_ | refine Y.lb ?_ | refine Y.lc ?_ | refine Y.su ?_
    | (refine Y.sa hS ?_; clear hS; intro w hS)
    | ((first | refine Y.aa hS ?_ | refine Y.ab hS ?_ | refine Y.ac hS ?_); clear hS; intro g w hS hge)
    | refine Y.ix ?_ | refine Y.up ?_ | refine Y.sl1 ?_ | refine Y.sl2 ?_ | refine Y.sl3 ?_ | refine Y.sl4 ?_ | refine Y.eq ?_ | refine Y.ne ?_ | refine Y.ix2 ?_ | refine Y.ix3 ?_
    | refine Z.bu rfl rfl ?_ | refine Z.pl (R.max2 rfl rfl) ?_ | refine Z.pl (R.cap rfl rfl) ?_ | refine Z.pl R.mf ?_
    | refine Z.gT rfl rfl ?_ | refine Z.gF rfl rfl ?_ | refine Z.gF0 rfl rfl ?_ | refine Z.gU rfl rfl ?_
    | with_reducible (first | refine Z.seq ?_ | refine Z.reg ?_ | refine Z.nil ?_ | refine Z.skip ?_ | refine Z.exit ?_ | refine Z.ret ?_ | refine Z.block ?_ | refine Z.thN ?_ | refine Z.thU ?_ | refine Z.thE ?_ | refine Z.thR ?_ | refine Z.blN ?_ | refine Z.blR ?_ | refine Z.blE ?_)
    | (with_reducible refine Z.blX ?_ ?_; rotate_left; rfl)
    | refine Z.brT rfl ?_ | refine Z.brF rfl ?_
    | ((first | refine Z.gS rfl rfl ?_ ?_ | refine Z.br rfl ?_ ?_) <;> intro hb <;> (try simp only [decide_eq_true_eq, decide_eq_false_iff_not, Bool.not_eq_true', Bool.not_eq_false', Int.not_lt, Int.not_le] at hb) <;> (try (exfalso; first | omega | exact hb trivial))))
  refine Z.eff (Z.cl (awake27_z _ _ _ hS) rfl ?_) rfl
  clear hS
  rintro e w ⟨rfl, hS⟩
  refine ⟨_, rfl, ?_⟩
  repeat' (first
    | refine Z.pr rfl ?_ | refine Y.la hS ?_ | refine Y.lb ?_ | refine Y.lc ?_ | refine Y.su ?_
    | (refine Y.sa hS ?_; clear hS; intro w hS)
    | ((first | refine Y.aa hS ?_ | refine Y.ab hS ?_ | refine Y.ac hS ?_); clear hS; intro g w hS hge)
    | refine Y.ix ?_ | refine Y.up ?_ | refine Y.sl1 ?_ | refine Y.sl2 ?_ | refine Y.sl3 ?_ | refine Y.sl4 ?_ | refine Y.eq ?_ | refine Y.ne ?_ | refine Y.ix2 ?_ | refine Y.ix3 ?_
    | refine Z.bu rfl rfl ?_ | refine Z.pl (R.max2 rfl rfl) ?_ | refine Z.pl (R.cap rfl rfl) ?_ | refine Z.pl R.mf ?_
    | refine Z.gT rfl rfl ?_ | refine Z.gF rfl rfl ?_ | refine Z.gF0 rfl rfl ?_ | refine Z.gU rfl rfl ?_
    | with_reducible (first | refine Z.seq ?_ | refine Z.reg ?_ | refine Z.nil ?_ | refine Z.skip ?_ | refine Z.exit ?_ | refine Z.ret ?_ | refine Z.block ?_ | refine Z.thN ?_ | refine Z.thU ?_ | refine Z.thE ?_ | refine Z.thR ?_ | refine Z.blN ?_ | refine Z.blR ?_ | refine Z.blE ?_)
    | (with_reducible refine Z.blX ?_ ?_; rotate_left; rfl)
    | refine Z.brT rfl ?_ | refine Z.brF rfl ?_
    | ((first | refine Z.gS rfl rfl ?_ ?_ | refine Z.br rfl ?_ ?_) <;> intro hb <;> (try simp only [decide_eq_true_eq, decide_eq_false_iff_not, Bool.not_eq_true', Bool.not_eq_false', Int.not_lt, Int.not_le] at hb) <;> (try (exfalso; first | omega | exact hb trivial))))
  refine Z.eff (Z.cl (light_y _ _ _ _) rfl ?_) rfl
  rintro e w' ⟨rfl, hC⟩
  refine ⟨_, rfl, ?_⟩
  replace hS := hS.ext hC
  clear hC
  repeat' (first
    | refine Z.pr rfl ?_ | refine Y.la hS ?_ | refine Y.lb ?_ | refine Y.lc ?_ | refine Y.su ?_
    | (refine Y.sa hS ?_; clear hS; intro w hS)
    | ((first | refine Y.aa hS ?_ | refine Y.ab hS ?_ | refine Y.ac hS ?_); clear hS; intro g w hS hge)
    | refine Y.ix ?_ | refine Y.up ?_ | refine Y.sl1 ?_ | refine Y.sl2 ?_ | refine Y.sl3 ?_ | refine Y.sl4 ?_ | refine Y.eq ?_ | refine Y.ne ?_ | refine Y.ix2 ?_ | refine Y.ix3 ?_
    | refine Z.bu rfl rfl ?_ | refine Z.pl (R.max2 rfl rfl) ?_ | refine Z.pl (R.cap rfl rfl) ?_ | refine Z.pl R.mf ?_
    | refine Z.gT rfl rfl ?_ | refine Z.gF rfl rfl ?_ | refine Z.gF0 rfl rfl ?_ | refine Z.gU rfl rfl ?_
    | with_reducible (first | refine Z.seq ?_ | refine Z.reg ?_ | refine Z.nil ?_ | refine Z.skip ?_ | refine Z.exit ?_ | refine Z.ret ?_ | refine Z.block ?_ | refine Z.thN ?_ | refine Z.thU ?_ | refine Z.thE ?_ | refine Z.thR ?_ | refine Z.blN ?_ | refine Z.blR ?_ | refine Z.blE ?_)
    | (with_reducible refine Z.blX ?_ ?_; rotate_left; rfl)
    | refine Z.brT rfl ?_ | refine Z.brF rfl ?_
    | ((first | refine Z.gS rfl rfl ?_ ?_ | refine Z.br rfl ?_ ?_) <;> intro hb <;> (try simp only [decide_eq_true_eq, decide_eq_false_iff_not, Bool.not_eq_true', Bool.not_eq_false', Int.not_lt, Int.not_le] at hb) <;> (try (exfalso; first | omega | exact hb trivial))))
  · first | refine Z.done hS Try.results12 (Z.RV.tmp rfl Z.RV.nil) ?_ | refine Z.doneN hS Try.results12 (Z.RV.tmp rfl Z.RV.nil) ?_
    exact ⟨rfl, hS.chg⟩
  refine Z.eff (Z.cl (gnew_z cell _ _ _ hS) rfl ?_) rfl
  clear hS
  rintro e w ⟨gp, rfl, hS⟩
  refine ⟨_, rfl, ?_⟩
  repeat' (first
    | refine Z.pr rfl ?_ | refine Y.la hS ?_ | refine Y.lb ?_ | refine Y.lc ?_ | refine Y.su ?_
    | (refine Y.sa hS ?_; clear hS; intro w hS)
    | ((first | refine Y.aa hS ?_ | refine Y.ab hS ?_ | refine Y.ac hS ?_); clear hS; intro g w hS hge)
    | refine Y.ix ?_ | refine Y.up ?_ | refine Y.sl1 ?_ | refine Y.sl2 ?_ | refine Y.sl3 ?_ | refine Y.sl4 ?_ | refine Y.eq ?_ | refine Y.ne ?_ | refine Y.ix2 ?_ | refine Y.ix3 ?_
    | refine Z.bu rfl rfl ?_ | refine Z.pl (R.max2 rfl rfl) ?_ | refine Z.pl (R.cap rfl rfl) ?_ | refine Z.pl R.mf ?_
    | refine Z.gT rfl rfl ?_ | refine Z.gF rfl rfl ?_ | refine Z.gF0 rfl rfl ?_ | refine Z.gU rfl rfl ?_
    | with_reducible (first | refine Z.seq ?_ | refine Z.reg ?_ | refine Z.nil ?_ | refine Z.skip ?_ | refine Z.exit ?_ | refine Z.ret ?_ | refine Z.block ?_ | refine Z.thN ?_ | refine Z.thU ?_ | refine Z.thE ?_ | refine Z.thR ?_ | refine Z.blN ?_ | refine Z.blR ?_ | refine Z.blE ?_)
    | (with_reducible refine Z.blX ?_ ?_; rotate_left; rfl)
    | refine Z.brT rfl ?_ | refine Z.brF rfl ?_
    | ((first | refine Z.gS rfl rfl ?_ ?_ | refine Z.br rfl ?_ ?_) <;> intro hb <;> (try simp only [decide_eq_true_eq, decide_eq_false_iff_not, Bool.not_eq_true', Bool.not_eq_false', Int.not_lt, Int.not_le] at hb) <;> (try (exfalso; first | omega | exact hb trivial))))
  rename Nat => gr
  replace hS : Sep r [] [GR gr ⟨cell, 0, []⟩, GP gp ⟨cell, 0, []⟩] _ := Sep.GR_open.2 ⟨none, 0, (Z.nilsl hS 69 5 none).sub (by repeat (first | exact Sub.rest | exact Sub.nil | exact .skip .rest | exact .skip (.skip .rest) | exact .skip (.skip (.skip .rest)) | apply Sub.keep | refine Sub.cons (by repeat (first | exact At.here | apply At.next)) ?_ | apply Sub.skip))⟩
  refine Z.eff (Z.cl (made_z l Al cap cell _ _ _ hS hr (by omega)) rfl ?_) rfl
  clear hS
  rintro e w ⟨acts, A, c, rfl, hla, hsm, hS⟩
  refine ⟨_, rfl, ?_⟩
  repeat' (first
    | refine Z.pr rfl ?_ | refine Y.la hS ?_ | refine Y.lb ?_ | refine Y.lc ?_ | refine Y.su ?_
    | (refine Y.sa hS ?_; clear hS; intro w hS)
    | ((first | refine Y.aa hS ?_ | refine Y.ab hS ?_ | refine Y.ac hS ?_); clear hS; intro g w hS hge)
    | refine Y.ix ?_ | refine Y.up ?_ | refine Y.sl1 ?_ | refine Y.sl2 ?_ | refine Y.sl3 ?_ | refine Y.sl4 ?_ | refine Y.eq ?_ | refine Y.ne ?_ | refine Y.ix2 ?_ | refine Y.ix3 ?_
    | refine Z.bu rfl rfl ?_ | refine Z.pl (R.max2 rfl rfl) ?_ | refine Z.pl (R.cap rfl rfl) ?_ | refine Z.pl R.mf ?_
    | refine Z.gT rfl rfl ?_ | refine Z.gF rfl rfl ?_ | refine Z.gF0 rfl rfl ?_ | refine Z.gU rfl rfl ?_
    | with_reducible (first | refine Z.seq ?_ | refine Z.reg ?_ | refine Z.nil ?_ | refine Z.skip ?_ | refine Z.exit ?_ | refine Z.ret ?_ | refine Z.block ?_ | refine Z.thN ?_ | refine Z.thU ?_ | refine Z.thE ?_ | refine Z.thR ?_ | refine Z.blN ?_ | refine Z.blR ?_ | refine Z.blE ?_)
    | (with_reducible refine Z.blX ?_ ?_; rotate_left; rfl)
    | refine Z.brT rfl ?_ | refine Z.brF rfl ?_
    | ((first | refine Z.gS rfl rfl ?_ ?_ | refine Z.br rfl ?_ ?_) <;> intro hb <;> (try simp only [decide_eq_true_eq, decide_eq_false_iff_not, Bool.not_eq_true', Bool.not_eq_false', Int.not_lt, Int.not_le] at hb) <;> (try (exfalso; first | omega | exact hb trivial))))
  refine Z.lpS [11, 12, 14, 37, 38, 39, 40, 41, 42, 43, 44, 45, 46, 47, 48, 49] (fun m w s => ∃ (q gp gr : Nat) (P R : Ga), s = [(11, .pointer (some ⟨gp, 0, none⟩)), (12, .pointer (some ⟨gr, 0, none⟩)), (37, .int .i64 q)] ∧ q ≤ acts.length ∧ Rel P R ∧ P.cell = cell ∧ P.ws.length ≤ q ∧ R.ws.length ≤ q ∧ m = acts.length - q ∧ Sep r [] (GP gp P :: GR gr R :: .sl 71 7 (.slice A acts.length c) (acts.map Ac.cells) :: []) w) _ [(11, .pointer (some ⟨gp, 0, none⟩)), (12, .pointer (some ⟨gr, 0, none⟩)), (37, .int .i64 (0 : Nat))] (by repeat (first | exact trivial | refine ⟨rfl, ?_⟩)) ⟨0, gp, gr, _, _, rfl, by omega, .new cell, rfl, by simp, by simp, rfl, hS.sb⟩ ?_
  clear hS
  rintro m f0 w _ ⟨q, gp, gr, P, R, rfl, hq, hrel, hcell, hlp, hlr, rfl, hS⟩
  by_cases hlt : q < acts.length
  · obtain ⟨gb, o, rfl, _, hra⟩ := (hS.slrows (.next (.next .here))).mat (by omega) hlt
    repeat' (first
      | refine Z.pr rfl ?_ | refine Y.la hS ?_ | refine Y.lb ?_ | refine Y.lc ?_ | refine Y.su ?_
      | (refine Y.sa hS ?_; clear hS; intro w hS)
      | ((first | refine Y.aa hS ?_ | refine Y.ab hS ?_ | refine Y.ac hS ?_); clear hS; intro g w hS hge)
      | refine Y.ix ?_ | refine Y.up ?_ | refine Y.sl1 ?_ | refine Y.sl2 ?_ | refine Y.sl3 ?_ | refine Y.sl4 ?_ | refine Y.eq ?_ | refine Y.ne ?_ | refine Y.ix2 ?_ | refine Y.ix3 ?_
      | refine Z.bu rfl rfl ?_ | refine Z.pl (R.max2 rfl rfl) ?_ | refine Z.pl (R.cap rfl rfl) ?_ | refine Z.pl R.mf ?_
      | refine Z.gT rfl rfl ?_ | refine Z.gF rfl rfl ?_ | refine Z.gF0 rfl rfl ?_ | refine Z.gU rfl rfl ?_
      | with_reducible (first | refine Z.seq ?_ | refine Z.reg ?_ | refine Z.nil ?_ | refine Z.skip ?_ | refine Z.exit ?_ | refine Z.ret ?_ | refine Z.block ?_ | refine Z.thN ?_ | refine Z.thU ?_ | refine Z.thE ?_ | refine Z.thR ?_ | refine Z.blN ?_ | refine Z.blR ?_ | refine Z.blE ?_)
      | (with_reducible refine Z.blX ?_ ?_; rotate_left; rfl)
      | refine Z.brT rfl ?_ | refine Z.brF rfl ?_
      | ((first | refine Z.gS rfl rfl ?_ ?_ | refine Z.br rfl ?_ ?_) <;> intro hb <;> (try simp only [decide_eq_true_eq, decide_eq_false_iff_not, Bool.not_eq_true', Bool.not_eq_false', Int.not_lt, Int.not_le] at hb) <;> (try (exfalso; first | omega | exact hb trivial))))
    replace hS := hS.fo (R := GR gr _)
    replace hS := hS.fo (R := GP gp _)
    refine Z.eff (Z.cl (do_z gp gr P R acts[q] _ _ _ hS hrel (by omega) (by omega)) rfl ?_) rfl
    clear hS
    rintro e w ⟨gp', gr', P', R', rfl, hrel', hd, hl1, hl2, hS⟩
    refine ⟨_, rfl, ?_⟩
    repeat' (first
      | refine Z.pr rfl ?_ | refine Y.la hS ?_ | refine Y.lb ?_ | refine Y.lc ?_ | refine Y.su ?_
      | (refine Y.sa hS ?_; clear hS; intro w hS)
      | ((first | refine Y.aa hS ?_ | refine Y.ab hS ?_ | refine Y.ac hS ?_); clear hS; intro g w hS hge)
      | refine Y.ix ?_ | refine Y.up ?_ | refine Y.sl1 ?_ | refine Y.sl2 ?_ | refine Y.sl3 ?_ | refine Y.sl4 ?_ | refine Y.eq ?_ | refine Y.ne ?_ | refine Y.ix2 ?_ | refine Y.ix3 ?_
      | refine Z.bu rfl rfl ?_ | refine Z.pl (R.max2 rfl rfl) ?_ | refine Z.pl (R.cap rfl rfl) ?_ | refine Z.pl R.mf ?_
      | refine Z.gT rfl rfl ?_ | refine Z.gF rfl rfl ?_ | refine Z.gF0 rfl rfl ?_ | refine Z.gU rfl rfl ?_
      | with_reducible (first | refine Z.seq ?_ | refine Z.reg ?_ | refine Z.nil ?_ | refine Z.skip ?_ | refine Z.exit ?_ | refine Z.ret ?_ | refine Z.block ?_ | refine Z.thN ?_ | refine Z.thU ?_ | refine Z.thE ?_ | refine Z.thR ?_ | refine Z.blN ?_ | refine Z.blR ?_ | refine Z.blE ?_)
      | (with_reducible refine Z.blX ?_ ?_; rotate_left; rfl)
      | refine Z.brT rfl ?_ | refine Z.brF rfl ?_
      | ((first | refine Z.gS rfl rfl ?_ ?_ | refine Z.br rfl ?_ ?_) <;> intro hb <;> (try simp only [decide_eq_true_eq, decide_eq_false_iff_not, Bool.not_eq_true', Bool.not_eq_false', Int.not_lt, Int.not_le] at hb) <;> (try (exfalso; first | omega | exact hb trivial))))
    refine Y.again (acts.length - (q + 1)) [(11, .pointer (some ⟨gp', 0, none⟩)), (12, .pointer (some ⟨gr', 0, none⟩)), (37, .int .i64 (q + 1 : Nat))] ?_
    exact ⟨q + 1, gp', gr', P', R', rfl, by omega, hrel', by rw [hd, doP_cell, hcell], by omega, by omega, rfl, hS.sb⟩
  · repeat' (first
      | refine Z.pr rfl ?_ | refine Y.la hS ?_ | refine Y.lb ?_ | refine Y.lc ?_ | refine Y.su ?_
      | (refine Y.sa hS ?_; clear hS; intro w hS)
      | ((first | refine Y.aa hS ?_ | refine Y.ab hS ?_ | refine Y.ac hS ?_); clear hS; intro g w hS hge)
      | refine Y.ix ?_ | refine Y.up ?_ | refine Y.sl1 ?_ | refine Y.sl2 ?_ | refine Y.sl3 ?_ | refine Y.sl4 ?_ | refine Y.eq ?_ | refine Y.ne ?_ | refine Y.ix2 ?_ | refine Y.ix3 ?_
      | refine Z.bu rfl rfl ?_ | refine Z.pl (R.max2 rfl rfl) ?_ | refine Z.pl (R.cap rfl rfl) ?_ | refine Z.pl R.mf ?_
      | refine Z.gT rfl rfl ?_ | refine Z.gF rfl rfl ?_ | refine Z.gF0 rfl rfl ?_ | refine Z.gU rfl rfl ?_
      | with_reducible (first | refine Z.seq ?_ | refine Z.reg ?_ | refine Z.nil ?_ | refine Z.skip ?_ | refine Z.exit ?_ | refine Z.ret ?_ | refine Z.block ?_ | refine Z.thN ?_ | refine Z.thU ?_ | refine Z.thE ?_ | refine Z.thR ?_ | refine Z.blN ?_ | refine Z.blR ?_ | refine Z.blE ?_)
      | (with_reducible refine Z.blX ?_ ?_; rotate_left; rfl)
      | refine Z.brT rfl ?_ | refine Z.brF rfl ?_
      | ((first | refine Z.gS rfl rfl ?_ ?_ | refine Z.br rfl ?_ ?_) <;> intro hb <;> (try simp only [decide_eq_true_eq, decide_eq_false_iff_not, Bool.not_eq_true', Bool.not_eq_false', Int.not_lt, Int.not_le] at hb) <;> (try (exfalso; first | omega | exact hb trivial))))
    refine Z.eff (Z.cl (gwindows_z gp P _ _ _ hS (by omega)) rfl ?_) rfl
    clear hS
    rintro e w ⟨Ax, cx, rfl, hS⟩
    refine ⟨_, rfl, ?_⟩
    repeat' (first
      | refine Z.pr rfl ?_ | refine Y.la hS ?_ | refine Y.lb ?_ | refine Y.lc ?_ | refine Y.su ?_
      | (refine Y.sa hS ?_; clear hS; intro w hS)
      | ((first | refine Y.aa hS ?_ | refine Y.ab hS ?_ | refine Y.ac hS ?_); clear hS; intro g w hS hge)
      | refine Y.ix ?_ | refine Y.up ?_ | refine Y.sl1 ?_ | refine Y.sl2 ?_ | refine Y.sl3 ?_ | refine Y.sl4 ?_ | refine Y.eq ?_ | refine Y.ne ?_ | refine Y.ix2 ?_ | refine Y.ix3 ?_
      | refine Z.bu rfl rfl ?_ | refine Z.pl (R.max2 rfl rfl) ?_ | refine Z.pl (R.cap rfl rfl) ?_ | refine Z.pl R.mf ?_
      | refine Z.gT rfl rfl ?_ | refine Z.gF rfl rfl ?_ | refine Z.gF0 rfl rfl ?_ | refine Z.gU rfl rfl ?_
      | with_reducible (first | refine Z.seq ?_ | refine Z.reg ?_ | refine Z.nil ?_ | refine Z.skip ?_ | refine Z.exit ?_ | refine Z.ret ?_ | refine Z.block ?_ | refine Z.thN ?_ | refine Z.thU ?_ | refine Z.thE ?_ | refine Z.thR ?_ | refine Z.blN ?_ | refine Z.blR ?_ | refine Z.blE ?_)
      | (with_reducible refine Z.blX ?_ ?_; rotate_left; rfl)
      | refine Z.brT rfl ?_ | refine Z.brF rfl ?_
      | ((first | refine Z.gS rfl rfl ?_ ?_ | refine Z.br rfl ?_ ?_) <;> intro hb <;> (try simp only [decide_eq_true_eq, decide_eq_false_iff_not, Bool.not_eq_true', Bool.not_eq_false', Int.not_lt, Int.not_le] at hb) <;> (try (exfalso; first | omega | exact hb trivial))))
    refine Z.eff (Z.cl (gnew_z cell _ _ _ hS) rfl ?_) rfl
    clear hS
    rintro e w ⟨gh, rfl, hS⟩
    refine ⟨_, rfl, ?_⟩
    repeat' (first
      | refine Z.pr rfl ?_ | refine Y.la hS ?_ | refine Y.lb ?_ | refine Y.lc ?_ | refine Y.su ?_
      | (refine Y.sa hS ?_; clear hS; intro w hS)
      | ((first | refine Y.aa hS ?_ | refine Y.ab hS ?_ | refine Y.ac hS ?_); clear hS; intro g w hS hge)
      | refine Y.ix ?_ | refine Y.up ?_ | refine Y.sl1 ?_ | refine Y.sl2 ?_ | refine Y.sl3 ?_ | refine Y.sl4 ?_ | refine Y.eq ?_ | refine Y.ne ?_ | refine Y.ix2 ?_ | refine Y.ix3 ?_
      | refine Z.bu rfl rfl ?_ | refine Z.pl (R.max2 rfl rfl) ?_ | refine Z.pl (R.cap rfl rfl) ?_ | refine Z.pl R.mf ?_
      | refine Z.gT rfl rfl ?_ | refine Z.gF rfl rfl ?_ | refine Z.gF0 rfl rfl ?_ | refine Z.gU rfl rfl ?_
      | with_reducible (first | refine Z.seq ?_ | refine Z.reg ?_ | refine Z.nil ?_ | refine Z.skip ?_ | refine Z.exit ?_ | refine Z.ret ?_ | refine Z.block ?_ | refine Z.thN ?_ | refine Z.thU ?_ | refine Z.thE ?_ | refine Z.thR ?_ | refine Z.blN ?_ | refine Z.blR ?_ | refine Z.blE ?_)
      | (with_reducible refine Z.blX ?_ ?_; rotate_left; rfl)
      | refine Z.brT rfl ?_ | refine Z.brF rfl ?_
      | ((first | refine Z.gS rfl rfl ?_ ?_ | refine Z.br rfl ?_ ?_) <;> intro hb <;> (try simp only [decide_eq_true_eq, decide_eq_false_iff_not, Bool.not_eq_true', Bool.not_eq_false', Int.not_lt, Int.not_le] at hb) <;> (try (exfalso; first | omega | exact hb trivial))))
    have hwins := hrel.wins
    have hmd := fun h0 : 0 < P.ws.length => modN_bd turn P.ws.length (by omega)
    refine Z.lpS [10, 17, 18, 56, 57, 58, 59, 60, 61, 62, 63, 64, 65, 66, 67, 68, 69, 70, 71, 72, 73, 74, 75, 76, 77, 78, 79, 80, 81, 82, 83, 84, 85, 86, 87, 88, 89, 90, 91, 92, 93, 94] (fun m w s => ∃ (i : Nat) (hs : List Wi), s = [(56, .int .i64 i)] ∧ i ≤ P.ws.length ∧ hs.Pairwise ltW ∧ hs.length ≤ i ∧ (∀ z, z ∈ hs ↔ ∃ k, k < i ∧ ∃ h : (k + (modN turn P.ws.length).toNat) % P.ws.length < P.ws.length, z = P.ws[(k + (modN turn P.ws.length).toNat) % P.ws.length]) ∧ m = P.ws.length - i ∧ Sep r [] [GP gh ⟨cell, 0, hs⟩, .sl 69 5 (.slice Ax P.ws.length cx) (P.ws.map Wi.cells), GP gp P, GR gr R] w) _ [(56, .int .i64 (0 : Nat))] (by repeat (first | exact trivial | refine ⟨rfl, ?_⟩)) ⟨0, [], rfl, by omega, .nil, by simp, by simp, rfl, hS.sb⟩ ?_
    clear hS
    rintro m f1 w _ ⟨i, hs, rfl, hi, hsort, hhl, hmem, rfl, hS⟩
    by_cases hlt2 : i < P.ws.length
    · have hmd' := hmd (by omega)
      obtain ⟨md, hmdn⟩ : ∃ md : Nat, modN turn P.ws.length = md := ⟨(modN turn P.ws.length).toNat, by omega⟩
      rw [hmdn] at hmem hmd'
      simp only [Int.toNat_natCast] at hmem
      have hidx : (i + md) % P.ws.length < P.ws.length := Nat.mod_lt _ (by omega)
      have htm : ((i : Int) + md).tmod P.ws.length = (((i + md) % P.ws.length : Nat) : Int) := by
        rw [← Int.natCast_add, Int.ofNat_tmod]
      obtain ⟨gb, o, rfl, _, _⟩ := (hS.slrows (.next .here)).mat (by omega) hidx
      have hraf : ∀ W, Sep r [] [GP gh ⟨cell, 0, hs⟩, .sl 69 5 (.slice (some ⟨gb, o, none⟩) P.ws.length cx) (P.ws.map Wi.cells), GP gp P, GR gr R] W → W.rangeAt gb (o + (i + md) % P.ws.length * 5) P.ws[(i + md) % P.ws.length].cells := fun W h => (h.slrows (.next .here)).elem (by omega) hidx
      have hxin : P.ws[(i + md) % P.ws.length] ∈ P.ws := by simp
      obtain ⟨hy1, hy2, hy3⟩ := hrel.okP hxin
      rw [hcell] at hy1
      have hnew : ∀ z, z ∈ insW P.ws[(i + md) % P.ws.length] hs ↔ ∃ k, k < i + 1 ∧ ∃ h : (k + md) % P.ws.length < P.ws.length, z = P.ws[(k + md) % P.ws.length] := fun z => by
        rw [insW_mem (fun y hy => by
          obtain ⟨k, _, h, rfl⟩ := (hmem y).1 hy
          rw [hy1, (hrel.okP (by simp)).1, hcell]), hmem]
        constructor
        · rintro (⟨k, hk, h⟩ | rfl)
          · exact ⟨k, by omega, h⟩
          · exact ⟨i, by omega, hidx, rfl⟩
        · rintro ⟨k, hk, h⟩
          rcases Nat.lt_or_ge k i with hki | hki
          · exact .inl ⟨k, hki, h⟩
          · have : k = i := by omega
            subst this
            exact .inr h.2
      have hcells : ∀ y, y ∈ insW P.ws[(i + md) % P.ws.length] hs → y.cell = P.ws[(i + md) % P.ws.length].cell := fun y hy => by
        obtain ⟨k, _, h, rfl⟩ := (hnew y).1 hy
        rw [hy1, (hrel.okP (by simp)).1, hcell]
      have hself : P.ws[(i + md) % P.ws.length] ∈ insW P.ws[(i + md) % P.ws.length] hs := (hnew _).2 ⟨i, by omega, hidx, rfl⟩
      have hlen := insW_len P.ws[(i + md) % P.ws.length] hs
      generalize P.ws[(i + md) % P.ws.length] = y at *
      have hg1 : giveP ⟨cell, 0, hs⟩ y = (⟨cell, 0, insW y hs⟩, 0) := by unfold giveP; rw [if_pos hy2, if_pos hy1, if_neg (by unfold okW at hy2; simp only; omega)]
      have hg2 : giveP ⟨cell, 0, insW y hs⟩ y = (⟨cell, 0, insW y hs⟩, 0) := by unfold giveP; rw [if_pos hy2, if_pos hy1, if_neg (by unfold okW at hy2; simp only; omega), insW_self (insW_sorted hsort) hcells hself]
      have hep : ¬ y.epoch ≤ P.closed := by omega
      repeat' (first
        | refine Z.pr rfl ?_ | refine Y.la hS ?_ | refine Y.lb ?_ | refine Y.lc ?_ | refine Y.su ?_
        | (refine Y.sa hS ?_; clear hS; intro w hS)
        | ((first | refine Y.aa hS ?_ | refine Y.ab hS ?_ | refine Y.ac hS ?_); clear hS; intro g w hS hge)
        | refine Y.ix ?_ | refine Y.up ?_ | refine Y.sl1 ?_ | refine Y.sl2 ?_ | refine Y.sl3 ?_ | refine Y.sl4 ?_ | refine Y.eq ?_ | refine Y.ne ?_ | refine Y.ix2 ?_ | refine Y.ix3 ?_
        | refine Z.bu rfl rfl ?_ | refine Z.pl (R.max2 rfl rfl) ?_ | refine Z.pl (R.cap rfl rfl) ?_ | refine Z.pl R.mf ?_
        | refine Z.gT rfl rfl ?_ | refine Z.gF rfl rfl ?_ | refine Z.gF0 rfl rfl ?_ | refine Z.gU rfl rfl ?_
        | with_reducible (first | refine Z.seq ?_ | refine Z.reg ?_ | refine Z.nil ?_ | refine Z.skip ?_ | refine Z.exit ?_ | refine Z.ret ?_ | refine Z.block ?_ | refine Z.thN ?_ | refine Z.thU ?_ | refine Z.thE ?_ | refine Z.thR ?_ | refine Z.blN ?_ | refine Z.blR ?_ | refine Z.blE ?_)
        | (with_reducible refine Z.blX ?_ ?_; rotate_left; rfl)
        | refine Z.brT rfl ?_ | refine Z.brF rfl ?_
        | ((first | refine Z.gS rfl rfl ?_ ?_ | refine Z.br rfl ?_ ?_) <;> intro hb <;> (try simp only [decide_eq_true_eq, decide_eq_false_iff_not, Bool.not_eq_true', Bool.not_eq_false', Int.not_lt, Int.not_le] at hb) <;> (try (exfalso; first | omega | exact hb trivial))))
      refine Z.eff (Z.cl (mod_y turn P.ws.length _ _ _ hS (by omega) (by omega)) rfl ?_) rfl
      clear hS
      rintro e w ⟨rfl, hS⟩
      refine ⟨_, rfl, ?_⟩
      have hra := hraf _ hS
      rw [hmdn]
      repeat' (first
        | refine Z.pr rfl ?_ | refine Y.la hS ?_ | refine Y.lb ?_ | refine Y.lc ?_ | refine Y.su ?_
        | (refine Y.sa hS ?_; clear hS; intro w hS)
        | ((first | refine Y.aa hS ?_ | refine Y.ab hS ?_ | refine Y.ac hS ?_); clear hS; intro g w hS hge)
        | refine Y.ix ?_ | refine Y.up ?_ | refine Y.sl1 ?_ | refine Y.sl2 ?_ | refine Y.sl3 ?_ | refine Y.sl4 ?_ | refine Y.eq ?_ | refine Y.ne ?_ | refine Y.ix2 ?_ | refine Y.ix3 ?_
        | refine Z.bu rfl rfl ?_ | refine Z.pl (R.max2 rfl rfl) ?_ | refine Z.pl (R.cap rfl rfl) ?_ | refine Z.pl R.mf ?_
        | refine Z.gT rfl rfl ?_ | refine Z.gF rfl rfl ?_ | refine Z.gF0 rfl rfl ?_ | refine Z.gU rfl rfl ?_
        | with_reducible (first | refine Z.seq ?_ | refine Z.reg ?_ | refine Z.nil ?_ | refine Z.skip ?_ | refine Z.exit ?_ | refine Z.ret ?_ | refine Z.block ?_ | refine Z.thN ?_ | refine Z.thU ?_ | refine Z.thE ?_ | refine Z.thR ?_ | refine Z.blN ?_ | refine Z.blR ?_ | refine Z.blE ?_)
        | (with_reducible refine Z.blX ?_ ?_; rotate_left; rfl)
        | refine Z.brT rfl ?_ | refine Z.brF rfl ?_
        | ((first | refine Z.gS rfl rfl ?_ ?_ | refine Z.br rfl ?_ ?_) <;> intro hb <;> (try simp only [decide_eq_true_eq, decide_eq_false_iff_not, Bool.not_eq_true', Bool.not_eq_false', Int.not_lt, Int.not_le] at hb) <;> (try (exfalso; first | omega | exact hb trivial))))
      refine Z.rem rfl (by omega) ?_
      rw [htm]
      repeat' (first
        | refine Z.pr rfl ?_ | refine Y.la hS ?_ | refine Y.lb ?_ | refine Y.lc ?_ | refine Y.su ?_
        | (refine Y.sa hS ?_; clear hS; intro w hS)
        | ((first | refine Y.aa hS ?_ | refine Y.ab hS ?_ | refine Y.ac hS ?_); clear hS; intro g w hS hge)
        | refine Y.ix ?_ | refine Y.up ?_ | refine Y.sl1 ?_ | refine Y.sl2 ?_ | refine Y.sl3 ?_ | refine Y.sl4 ?_ | refine Y.eq ?_ | refine Y.ne ?_ | refine Y.ix2 ?_ | refine Y.ix3 ?_
        | refine Z.bu rfl rfl ?_ | refine Z.pl (R.max2 rfl rfl) ?_ | refine Z.pl (R.cap rfl rfl) ?_ | refine Z.pl R.mf ?_
        | refine Z.gT rfl rfl ?_ | refine Z.gF rfl rfl ?_ | refine Z.gF0 rfl rfl ?_ | refine Z.gU rfl rfl ?_
        | with_reducible (first | refine Z.seq ?_ | refine Z.reg ?_ | refine Z.nil ?_ | refine Z.skip ?_ | refine Z.exit ?_ | refine Z.ret ?_ | refine Z.block ?_ | refine Z.thN ?_ | refine Z.thU ?_ | refine Z.thE ?_ | refine Z.thR ?_ | refine Z.blN ?_ | refine Z.blR ?_ | refine Z.blE ?_)
        | (with_reducible refine Z.blX ?_ ?_; rotate_left; rfl)
        | refine Z.brT rfl ?_ | refine Z.brF rfl ?_
        | ((first | refine Z.gS rfl rfl ?_ ?_ | refine Z.br rfl ?_ ?_) <;> intro hb <;> (try simp only [decide_eq_true_eq, decide_eq_false_iff_not, Bool.not_eq_true', Bool.not_eq_false', Int.not_lt, Int.not_le] at hb) <;> (try (exfalso; first | omega | exact hb trivial))))
      rename Nat => gy
      refine D.startS (Lr := [.blk gy 69 y.cells]) (hS.sb) 23 23 (by kernel_rfl) rfl ?_
      replace hS := hS.drew
      refine Y.dp 0 1 ?_
      refine Y.dp 2 5 ?_
      refine Y.dl 1 7 ?_
      refine D.eff 3 15 rfl D.wantedN (by kernel_rfl) (by kernel_rfl) (fun _ _ h => h) ?_
      replace hS := hS.fo (R := GP gp _)
      refine Z.cl (gclosed_z gp P _ _ _ hS) rfl ?_
      clear hS
      rintro e w ⟨rfl, hS⟩
      refine ⟨_, rfl, ?_⟩
      refine ⟨HM.s (hS.sb), ?_⟩
      refine Y.dp 4 31 ?_
      refine Y.dp 5 63 ?_
      refine D.slot 76 rfl (fun hb => by exfalso; (try simp only [decide_eq_true_eq, decide_eq_false_iff_not, Bool.not_eq_true', Bool.not_eq_false', Int.not_lt, Int.not_le] at hb) <;> first | omega | exact hb trivial) (fun hb => ?_)
      (try simp only [decide_eq_true_eq, decide_eq_false_iff_not, Bool.not_eq_true', Bool.not_eq_false', Int.not_lt, Int.not_le] at hb)
      refine Y.dp 6 127 ?_
      refine Y.dp 8 383 ?_
      refine Y.dl 7 511 ?_
      first | refine D.pr 9 1023 rfl (D.wantedT rfl rfl) (by kernel_rfl) rfl ?_ | refine D.pl 9 1023 rfl (D.wantedT rfl rfl) (by kernel_rfl) (R.nea rfl rfl rfl rfl) ?_
      refine Y.dp 10 2047 ?_
      refine Y.dp 11 4095 ?_
      refine D.slot 82 rfl (fun hb => by exfalso; (try simp only [decide_eq_true_eq, decide_eq_false_iff_not, Bool.not_eq_true', Bool.not_eq_false', Int.not_lt, Int.not_le] at hb) <;> first | omega | exact hb trivial) (fun hb => ?_)
      (try simp only [decide_eq_true_eq, decide_eq_false_iff_not, Bool.not_eq_true', Bool.not_eq_false', Int.not_lt, Int.not_le] at hb)
      refine Y.dp 12 8191 ?_
      refine Y.dl 13 16383 ?_
      refine D.eff 14 32767 rfl (D.wantedT rfl rfl) (by kernel_rfl) (by kernel_rfl) (fun _ _ h => h) ?_
      refine WE.guard ?_
      replace hS := hS.fo (R := GP gh _)
      refine Z.cl (ggive_z gh ⟨cell, 0, hs⟩ y _ _ _ hS (by simp only; omega) hsort) rfl ?_
      clear hS
      rintro e w ⟨rfl, hS⟩
      refine ⟨_, rfl, ?_⟩
      rw [hg1] at hS ⊢
      refine ⟨HM.s (hS.sb), ?_⟩
      first | refine D.pr 15 65535 rfl (D.wantedT rfl rfl) (by kernel_rfl) rfl ?_ | refine D.pl 15 65535 rfl (D.wantedT rfl rfl) (by kernel_rfl) (R.nea rfl rfl rfl rfl) ?_
      refine Y.dp 16 131071 ?_
      refine Y.dp 17 262143 ?_
      refine Y.dp 18 524287 ?_
      refine Y.dl 19 1048575 ?_
      refine D.eff 20 2097151 rfl (D.wantedT rfl rfl) (by kernel_rfl) (by kernel_rfl) (fun _ _ h => h) ?_
      refine WE.guard ?_
      replace hS := hS.fo (R := GP gh _)
      refine Z.cl (ggive_z gh ⟨cell, 0, insW y hs⟩ y _ _ _ hS (by simp only; omega) (insW_sorted hsort)) rfl ?_
      clear hS
      rintro e w ⟨rfl, hS⟩
      refine ⟨_, rfl, ?_⟩
      rw [hg2] at hS ⊢
      refine ⟨HM.s (hS.sb), ?_⟩
      first | refine D.pr 21 4194303 rfl (D.wantedT rfl rfl) (by kernel_rfl) rfl ?_ | refine D.pl 21 4194303 rfl (D.wantedT rfl rfl) (by kernel_rfl) (R.nea rfl rfl rfl rfl) ?_
      refine Y.dp 22 8388607 ?_
      refine D.done (by kernel_rfl) ?_
      repeat' (first
        | refine Z.pr rfl ?_ | refine Y.la hS ?_ | refine Y.lb ?_ | refine Y.lc ?_ | refine Y.su ?_
        | (refine Y.sa hS ?_; clear hS; intro w hS)
        | ((first | refine Y.aa hS ?_ | refine Y.ab hS ?_ | refine Y.ac hS ?_); clear hS; intro g w hS hge)
        | refine Y.ix ?_ | refine Y.up ?_ | refine Y.sl1 ?_ | refine Y.sl2 ?_ | refine Y.sl3 ?_ | refine Y.sl4 ?_ | refine Y.eq ?_ | refine Y.ne ?_ | refine Y.ix2 ?_ | refine Y.ix3 ?_
        | refine Z.bu rfl rfl ?_ | refine Z.pl (R.max2 rfl rfl) ?_ | refine Z.pl (R.cap rfl rfl) ?_ | refine Z.pl R.mf ?_
        | refine Z.gT rfl rfl ?_ | refine Z.gF rfl rfl ?_ | refine Z.gF0 rfl rfl ?_ | refine Z.gU rfl rfl ?_
        | with_reducible (first | refine Z.seq ?_ | refine Z.reg ?_ | refine Z.nil ?_ | refine Z.skip ?_ | refine Z.exit ?_ | refine Z.ret ?_ | refine Z.block ?_ | refine Z.thN ?_ | refine Z.thU ?_ | refine Z.thE ?_ | refine Z.thR ?_ | refine Z.blN ?_ | refine Z.blR ?_ | refine Z.blE ?_)
        | (with_reducible refine Z.blX ?_ ?_; rotate_left; rfl)
        | refine Z.brT rfl ?_ | refine Z.brF rfl ?_
        | ((first | refine Z.gS rfl rfl ?_ ?_ | refine Z.br rfl ?_ ?_) <;> intro hb <;> (try simp only [decide_eq_true_eq, decide_eq_false_iff_not, Bool.not_eq_true', Bool.not_eq_false', Int.not_lt, Int.not_le] at hb) <;> (try (exfalso; first | omega | exact hb trivial))))
      refine Y.again (P.ws.length - (i + 1)) [(56, .int .i64 (i + 1 : Nat))] ?_
      refine ⟨i + 1, insW y hs, rfl, by omega, insW_sorted hsort, by omega, ?_, rfl, hS.sb⟩
      simp only [Int.toNat_natCast]
      exact hnew
    · have hH : hs = P.ws := by
        refine sorted_one hsort hrel.sorted fun z => ?_
        rw [hmem]
        constructor
        · rintro ⟨k, _, h, rfl⟩; simp
        · intro hz
          obtain ⟨j, hj, rfl⟩ := List.getElem_of_mem hz
          have hmd' := hmd (by omega)
          obtain ⟨k, hk, he⟩ := turned (md := (modN turn P.ws.length).toNat) (by omega) hj
          exact ⟨k, by omega, by omega, by simp only [he]⟩
      subst hH
      repeat' (first
        | refine Z.pr rfl ?_ | refine Y.la hS ?_ | refine Y.lb ?_ | refine Y.lc ?_ | refine Y.su ?_
        | (refine Y.sa hS ?_; clear hS; intro w hS)
        | ((first | refine Y.aa hS ?_ | refine Y.ab hS ?_ | refine Y.ac hS ?_); clear hS; intro g w hS hge)
        | refine Y.ix ?_ | refine Y.up ?_ | refine Y.sl1 ?_ | refine Y.sl2 ?_ | refine Y.sl3 ?_ | refine Y.sl4 ?_ | refine Y.eq ?_ | refine Y.ne ?_ | refine Y.ix2 ?_ | refine Y.ix3 ?_
        | refine Z.bu rfl rfl ?_ | refine Z.pl (R.max2 rfl rfl) ?_ | refine Z.pl (R.cap rfl rfl) ?_ | refine Z.pl R.mf ?_
        | refine Z.gT rfl rfl ?_ | refine Z.gF rfl rfl ?_ | refine Z.gF0 rfl rfl ?_ | refine Z.gU rfl rfl ?_
        | with_reducible (first | refine Z.seq ?_ | refine Z.reg ?_ | refine Z.nil ?_ | refine Z.skip ?_ | refine Z.exit ?_ | refine Z.ret ?_ | refine Z.block ?_ | refine Z.thN ?_ | refine Z.thU ?_ | refine Z.thE ?_ | refine Z.thR ?_ | refine Z.blN ?_ | refine Z.blR ?_ | refine Z.blE ?_)
        | (with_reducible refine Z.blX ?_ ?_; rotate_left; rfl)
        | refine Z.brT rfl ?_ | refine Z.brF rfl ?_
        | ((first | refine Z.gS rfl rfl ?_ ?_ | refine Z.br rfl ?_ ?_) <;> intro hb <;> (try simp only [decide_eq_true_eq, decide_eq_false_iff_not, Bool.not_eq_true', Bool.not_eq_false', Int.not_lt, Int.not_le] at hb) <;> (try (exfalso; first | omega | exact hb trivial))))
      replace hS := hS.fo (R := GP gp _)
      refine Z.eff (Z.cl (gaccepts_z gp P vv tt _ _ _ hS (by omega)) rfl ?_) rfl
      clear hS
      rintro e w ⟨rfl, hS⟩
      refine ⟨_, rfl, ?_⟩
      repeat' (first
        | refine Z.pr rfl ?_ | refine Y.la hS ?_ | refine Y.lb ?_ | refine Y.lc ?_ | refine Y.su ?_
        | (refine Y.sa hS ?_; clear hS; intro w hS)
        | ((first | refine Y.aa hS ?_ | refine Y.ab hS ?_ | refine Y.ac hS ?_); clear hS; intro g w hS hge)
        | refine Y.ix ?_ | refine Y.up ?_ | refine Y.sl1 ?_ | refine Y.sl2 ?_ | refine Y.sl3 ?_ | refine Y.sl4 ?_ | refine Y.eq ?_ | refine Y.ne ?_ | refine Y.ix2 ?_ | refine Y.ix3 ?_
        | refine Z.bu rfl rfl ?_ | refine Z.pl (R.max2 rfl rfl) ?_ | refine Z.pl (R.cap rfl rfl) ?_ | refine Z.pl R.mf ?_
        | refine Z.gT rfl rfl ?_ | refine Z.gF rfl rfl ?_ | refine Z.gF0 rfl rfl ?_ | refine Z.gU rfl rfl ?_
        | with_reducible (first | refine Z.seq ?_ | refine Z.reg ?_ | refine Z.nil ?_ | refine Z.skip ?_ | refine Z.exit ?_ | refine Z.ret ?_ | refine Z.block ?_ | refine Z.thN ?_ | refine Z.thU ?_ | refine Z.thE ?_ | refine Z.thR ?_ | refine Z.blN ?_ | refine Z.blR ?_ | refine Z.blE ?_)
        | (with_reducible refine Z.blX ?_ ?_; rotate_left; rfl)
        | refine Z.brT rfl ?_ | refine Z.brF rfl ?_
        | ((first | refine Z.gS rfl rfl ?_ ?_ | refine Z.br rfl ?_ ?_) <;> intro hb <;> (try simp only [decide_eq_true_eq, decide_eq_false_iff_not, Bool.not_eq_true', Bool.not_eq_false', Int.not_lt, Int.not_le] at hb) <;> (try (exfalso; first | omega | exact hb trivial))))
      replace hS := hS.fo (R := GP gh _)
      refine Z.eff (Z.cl (gaccepts_z gh ⟨cell, 0, P.ws⟩ vv tt _ _ _ hS (by simp only; omega)) rfl ?_) rfl
      clear hS
      rintro e w ⟨rfl, hS⟩
      refine ⟨_, rfl, ?_⟩
      generalize accs P.ws vv tt 0 = acc
      repeat' (first
        | refine Z.pr rfl ?_ | refine Y.la hS ?_ | refine Y.lb ?_ | refine Y.lc ?_ | refine Y.su ?_
        | (refine Y.sa hS ?_; clear hS; intro w hS)
        | ((first | refine Y.aa hS ?_ | refine Y.ab hS ?_ | refine Y.ac hS ?_); clear hS; intro g w hS hge)
        | refine Y.ix ?_ | refine Y.up ?_ | refine Y.sl1 ?_ | refine Y.sl2 ?_ | refine Y.sl3 ?_ | refine Y.sl4 ?_ | refine Y.eq ?_ | refine Y.ne ?_ | refine Y.ix2 ?_ | refine Y.ix3 ?_
        | refine Z.bu rfl rfl ?_ | refine Z.pl (R.max2 rfl rfl) ?_ | refine Z.pl (R.cap rfl rfl) ?_ | refine Z.pl R.mf ?_
        | refine Z.gT rfl rfl ?_ | refine Z.gF rfl rfl ?_ | refine Z.gF0 rfl rfl ?_ | refine Z.gU rfl rfl ?_
        | with_reducible (first | refine Z.seq ?_ | refine Z.reg ?_ | refine Z.nil ?_ | refine Z.skip ?_ | refine Z.exit ?_ | refine Z.ret ?_ | refine Z.block ?_ | refine Z.thN ?_ | refine Z.thU ?_ | refine Z.thE ?_ | refine Z.thR ?_ | refine Z.blN ?_ | refine Z.blR ?_ | refine Z.blE ?_)
        | (with_reducible refine Z.blX ?_ ?_; rotate_left; rfl)
        | refine Z.brT rfl ?_ | refine Z.brF rfl ?_
        | ((first | refine Z.gS rfl rfl ?_ ?_ | refine Z.br rfl ?_ ?_) <;> intro hb <;> (try simp only [decide_eq_true_eq, decide_eq_false_iff_not, Bool.not_eq_true', Bool.not_eq_false', Int.not_lt, Int.not_le] at hb) <;> (try (exfalso; first | omega | exact hb trivial))))
      replace hS := hS.fo (R := GP gh _)
      refine Z.eff (Z.cl (gwindows_z gh ⟨cell, 0, P.ws⟩ _ _ _ hS (by simp only; omega)) rfl ?_) rfl
      clear hS
      rintro e w ⟨Ay, cy, rfl, hS⟩
      refine ⟨_, rfl, ?_⟩
      repeat' (first
        | refine Z.pr rfl ?_ | refine Y.la hS ?_ | refine Y.lb ?_ | refine Y.lc ?_ | refine Y.su ?_
        | (refine Y.sa hS ?_; clear hS; intro w hS)
        | ((first | refine Y.aa hS ?_ | refine Y.ab hS ?_ | refine Y.ac hS ?_); clear hS; intro g w hS hge)
        | refine Y.ix ?_ | refine Y.up ?_ | refine Y.sl1 ?_ | refine Y.sl2 ?_ | refine Y.sl3 ?_ | refine Y.sl4 ?_ | refine Y.eq ?_ | refine Y.ne ?_ | refine Y.ix2 ?_ | refine Y.ix3 ?_
        | refine Z.bu rfl rfl ?_ | refine Z.pl (R.max2 rfl rfl) ?_ | refine Z.pl (R.cap rfl rfl) ?_ | refine Z.pl R.mf ?_
        | refine Z.gT rfl rfl ?_ | refine Z.gF rfl rfl ?_ | refine Z.gF0 rfl rfl ?_ | refine Z.gU rfl rfl ?_
        | with_reducible (first | refine Z.seq ?_ | refine Z.reg ?_ | refine Z.nil ?_ | refine Z.skip ?_ | refine Z.exit ?_ | refine Z.ret ?_ | refine Z.block ?_ | refine Z.thN ?_ | refine Z.thU ?_ | refine Z.thE ?_ | refine Z.thR ?_ | refine Z.blN ?_ | refine Z.blR ?_ | refine Z.blE ?_)
        | (with_reducible refine Z.blX ?_ ?_; rotate_left; rfl)
        | refine Z.brT rfl ?_ | refine Z.brF rfl ?_
        | ((first | refine Z.gS rfl rfl ?_ ?_ | refine Z.br rfl ?_ ?_) <;> intro hb <;> (try simp only [decide_eq_true_eq, decide_eq_false_iff_not, Bool.not_eq_true', Bool.not_eq_false', Int.not_lt, Int.not_le] at hb) <;> (try (exfalso; first | omega | exact hb trivial))))
      refine Z.eff (Z.cl (samew_z P.ws P.ws _ _ _ _ _ hS (Reads.of_at (by repeat (first | exact At.here | apply At.next))) (Reads.of_at (by repeat (first | exact At.here | apply At.next))) (by omega) (by omega)) rfl ?_) rfl
      clear hS
      rintro e w ⟨rfl, hS⟩
      refine ⟨_, rfl, ?_⟩
      rw [decide_eq_true (rfl : P.ws = P.ws)]
      repeat' (first
        | refine Z.pr rfl ?_ | refine Y.la hS ?_ | refine Y.lb ?_ | refine Y.lc ?_ | refine Y.su ?_
        | (refine Y.sa hS ?_; clear hS; intro w hS)
        | ((first | refine Y.aa hS ?_ | refine Y.ab hS ?_ | refine Y.ac hS ?_); clear hS; intro g w hS hge)
        | refine Y.ix ?_ | refine Y.up ?_ | refine Y.sl1 ?_ | refine Y.sl2 ?_ | refine Y.sl3 ?_ | refine Y.sl4 ?_ | refine Y.eq ?_ | refine Y.ne ?_ | refine Y.ix2 ?_ | refine Y.ix3 ?_
        | refine Z.bu rfl rfl ?_ | refine Z.pl (R.max2 rfl rfl) ?_ | refine Z.pl (R.cap rfl rfl) ?_ | refine Z.pl R.mf ?_
        | refine Z.gT rfl rfl ?_ | refine Z.gF rfl rfl ?_ | refine Z.gF0 rfl rfl ?_ | refine Z.gU rfl rfl ?_
        | with_reducible (first | refine Z.seq ?_ | refine Z.reg ?_ | refine Z.nil ?_ | refine Z.skip ?_ | refine Z.exit ?_ | refine Z.ret ?_ | refine Z.block ?_ | refine Z.thN ?_ | refine Z.thU ?_ | refine Z.thE ?_ | refine Z.thR ?_ | refine Z.blN ?_ | refine Z.blR ?_ | refine Z.blE ?_)
        | (with_reducible refine Z.blX ?_ ?_; rotate_left; rfl)
        | refine Z.brT rfl ?_ | refine Z.brF rfl ?_
        | ((first | refine Z.gS rfl rfl ?_ ?_ | refine Z.br rfl ?_ ?_) <;> intro hb <;> (try simp only [decide_eq_true_eq, decide_eq_false_iff_not, Bool.not_eq_true', Bool.not_eq_false', Int.not_lt, Int.not_le] at hb) <;> (try (exfalso; first | omega | exact hb trivial))))
      replace hS := hS.fo (R := GR gr _)
      refine Z.eff (Z.cl (rwindows_z gr R _ _ _ hS (by omega)) rfl ?_) rfl
      clear hS
      rintro e w ⟨Az, cz, rfl, hS⟩
      refine ⟨_, rfl, ?_⟩
      rw [hwins] at hS ⊢
      repeat' (first
        | refine Z.pr rfl ?_ | refine Y.la hS ?_ | refine Y.lb ?_ | refine Y.lc ?_ | refine Y.su ?_
        | (refine Y.sa hS ?_; clear hS; intro w hS)
        | ((first | refine Y.aa hS ?_ | refine Y.ab hS ?_ | refine Y.ac hS ?_); clear hS; intro g w hS hge)
        | refine Y.ix ?_ | refine Y.up ?_ | refine Y.sl1 ?_ | refine Y.sl2 ?_ | refine Y.sl3 ?_ | refine Y.sl4 ?_ | refine Y.eq ?_ | refine Y.ne ?_ | refine Y.ix2 ?_ | refine Y.ix3 ?_
        | refine Z.bu rfl rfl ?_ | refine Z.pl (R.max2 rfl rfl) ?_ | refine Z.pl (R.cap rfl rfl) ?_ | refine Z.pl R.mf ?_
        | refine Z.gT rfl rfl ?_ | refine Z.gF rfl rfl ?_ | refine Z.gF0 rfl rfl ?_ | refine Z.gU rfl rfl ?_
        | with_reducible (first | refine Z.seq ?_ | refine Z.reg ?_ | refine Z.nil ?_ | refine Z.skip ?_ | refine Z.exit ?_ | refine Z.ret ?_ | refine Z.block ?_ | refine Z.thN ?_ | refine Z.thU ?_ | refine Z.thE ?_ | refine Z.thR ?_ | refine Z.blN ?_ | refine Z.blR ?_ | refine Z.blE ?_)
        | (with_reducible refine Z.blX ?_ ?_; rotate_left; rfl)
        | refine Z.brT rfl ?_ | refine Z.brF rfl ?_
        | ((first | refine Z.gS rfl rfl ?_ ?_ | refine Z.br rfl ?_ ?_) <;> intro hb <;> (try simp only [decide_eq_true_eq, decide_eq_false_iff_not, Bool.not_eq_true', Bool.not_eq_false', Int.not_lt, Int.not_le] at hb) <;> (try (exfalso; first | omega | exact hb trivial))))
      refine Z.eff (Z.cl (samew_z P.ws P.ws _ _ _ _ _ hS (Reads.of_at (by repeat (first | exact At.here | apply At.next))) (Reads.of_at (by repeat (first | exact At.here | apply At.next))) (by omega) (by omega)) rfl ?_) rfl
      clear hS
      rintro e w ⟨rfl, hS⟩
      refine ⟨_, rfl, ?_⟩
      rw [decide_eq_true (rfl : P.ws = P.ws)]
      by_cases hacc : 0 < acc
      all_goals
        simp only [hacc, decide_true, decide_false]
        repeat' (first
          | refine Z.pr rfl ?_ | refine Y.la hS ?_ | refine Y.lb ?_ | refine Y.lc ?_ | refine Y.su ?_
          | (refine Y.sa hS ?_; clear hS; intro w hS)
          | ((first | refine Y.aa hS ?_ | refine Y.ab hS ?_ | refine Y.ac hS ?_); clear hS; intro g w hS hge)
          | refine Y.ix ?_ | refine Y.up ?_ | refine Y.sl1 ?_ | refine Y.sl2 ?_ | refine Y.sl3 ?_ | refine Y.sl4 ?_ | refine Y.eq ?_ | refine Y.ne ?_ | refine Y.ix2 ?_ | refine Y.ix3 ?_
          | refine Z.bu rfl rfl ?_ | refine Z.pl (R.max2 rfl rfl) ?_ | refine Z.pl (R.cap rfl rfl) ?_ | refine Z.pl R.mf ?_
          | refine Z.gT rfl rfl ?_ | refine Z.gF rfl rfl ?_ | refine Z.gF0 rfl rfl ?_ | refine Z.gU rfl rfl ?_
          | with_reducible (first | refine Z.seq ?_ | refine Z.reg ?_ | refine Z.nil ?_ | refine Z.skip ?_ | refine Z.exit ?_ | refine Z.ret ?_ | refine Z.block ?_ | refine Z.thN ?_ | refine Z.thU ?_ | refine Z.thE ?_ | refine Z.thR ?_ | refine Z.blN ?_ | refine Z.blR ?_ | refine Z.blE ?_)
          | (with_reducible refine Z.blX ?_ ?_; rotate_left; rfl)
          | refine Z.brT rfl ?_ | refine Z.brF rfl ?_
          | ((first | refine Z.gS rfl rfl ?_ ?_ | refine Z.br rfl ?_ ?_) <;> intro hb <;> (try simp only [decide_eq_true_eq, decide_eq_false_iff_not, Bool.not_eq_true', Bool.not_eq_false', Int.not_lt, Int.not_le] at hb) <;> (try (exfalso; first | omega | exact hb trivial))))
        replace hS := hS.fo (R := GP gp _)
        refine Z.eff (Z.cl (guntil_z gp P 0 0 _ _ _ hS (by omega)) rfl ?_) rfl
        clear hS
        rintro e w ⟨rfl, hS⟩
        refine ⟨_, rfl, ?_⟩
        repeat' (first
          | refine Z.pr rfl ?_ | refine Y.la hS ?_ | refine Y.lb ?_ | refine Y.lc ?_ | refine Y.su ?_
          | (refine Y.sa hS ?_; clear hS; intro w hS)
          | ((first | refine Y.aa hS ?_ | refine Y.ab hS ?_ | refine Y.ac hS ?_); clear hS; intro g w hS hge)
          | refine Y.ix ?_ | refine Y.up ?_ | refine Y.sl1 ?_ | refine Y.sl2 ?_ | refine Y.sl3 ?_ | refine Y.sl4 ?_ | refine Y.eq ?_ | refine Y.ne ?_ | refine Y.ix2 ?_ | refine Y.ix3 ?_
          | refine Z.bu rfl rfl ?_ | refine Z.pl (R.max2 rfl rfl) ?_ | refine Z.pl (R.cap rfl rfl) ?_ | refine Z.pl R.mf ?_
          | refine Z.gT rfl rfl ?_ | refine Z.gF rfl rfl ?_ | refine Z.gF0 rfl rfl ?_ | refine Z.gU rfl rfl ?_
          | with_reducible (first | refine Z.seq ?_ | refine Z.reg ?_ | refine Z.nil ?_ | refine Z.skip ?_ | refine Z.exit ?_ | refine Z.ret ?_ | refine Z.block ?_ | refine Z.thN ?_ | refine Z.thU ?_ | refine Z.thE ?_ | refine Z.thR ?_ | refine Z.blN ?_ | refine Z.blR ?_ | refine Z.blE ?_)
          | (with_reducible refine Z.blX ?_ ?_; rotate_left; rfl)
          | refine Z.brT rfl ?_ | refine Z.brF rfl ?_
          | ((first | refine Z.gS rfl rfl ?_ ?_ | refine Z.br rfl ?_ ?_) <;> intro hb <;> (try simp only [decide_eq_true_eq, decide_eq_false_iff_not, Bool.not_eq_true', Bool.not_eq_false', Int.not_lt, Int.not_le] at hb) <;> (try (exfalso; first | omega | exact hb trivial))))
        replace hS := hS.fo (R := GP gh _)
        refine Z.eff (Z.cl (guntil_z gh ⟨cell, 0, P.ws⟩ 0 0 _ _ _ hS (by simp only; omega)) rfl ?_) rfl
        clear hS
        rintro e w ⟨rfl, hS⟩
        refine ⟨_, rfl, ?_⟩
        repeat' (first
          | refine Z.pr rfl ?_ | refine Y.la hS ?_ | refine Y.lb ?_ | refine Y.lc ?_ | refine Y.su ?_
          | (refine Y.sa hS ?_; clear hS; intro w hS)
          | ((first | refine Y.aa hS ?_ | refine Y.ab hS ?_ | refine Y.ac hS ?_); clear hS; intro g w hS hge)
          | refine Y.ix ?_ | refine Y.up ?_ | refine Y.sl1 ?_ | refine Y.sl2 ?_ | refine Y.sl3 ?_ | refine Y.sl4 ?_ | refine Y.eq ?_ | refine Y.ne ?_ | refine Y.ix2 ?_ | refine Y.ix3 ?_
          | refine Z.bu rfl rfl ?_ | refine Z.pl (R.max2 rfl rfl) ?_ | refine Z.pl (R.cap rfl rfl) ?_ | refine Z.pl R.mf ?_
          | refine Z.gT rfl rfl ?_ | refine Z.gF rfl rfl ?_ | refine Z.gF0 rfl rfl ?_ | refine Z.gU rfl rfl ?_
          | with_reducible (first | refine Z.seq ?_ | refine Z.reg ?_ | refine Z.nil ?_ | refine Z.skip ?_ | refine Z.exit ?_ | refine Z.ret ?_ | refine Z.block ?_ | refine Z.thN ?_ | refine Z.thU ?_ | refine Z.thE ?_ | refine Z.thR ?_ | refine Z.blN ?_ | refine Z.blR ?_ | refine Z.blE ?_)
          | (with_reducible refine Z.blX ?_ ?_; rotate_left; rfl)
          | refine Z.brT rfl ?_ | refine Z.brF rfl ?_
          | ((first | refine Z.gS rfl rfl ?_ ?_ | refine Z.br rfl ?_ ?_) <;> intro hb <;> (try simp only [decide_eq_true_eq, decide_eq_false_iff_not, Bool.not_eq_true', Bool.not_eq_false', Int.not_lt, Int.not_le] at hb) <;> (try (exfalso; first | omega | exact hb trivial))))
        first | refine Z.done hS Try.results12 (Z.RV.tmp rfl Z.RV.nil) ?_ | refine Z.doneN hS Try.results12 (Z.RV.tmp rfl Z.RV.nil) ?_
        exact ⟨by simp [Z.packR], hS.chg⟩
set_option maxRecDepth 100000 in
theorem gateLists_lifted (os : Os) (started : os.Started) (H : Type) (enc : TypeId × Value → H) :
    ReturnsInHanded {} Try.checked os 12 .any (Rows.gateListsSpec.pre6 enc Try.prog Try.f12 Rows.gateListsRow.domain false) (Rows.gateListsSpec.post enc Try.prog Try.f12 false Rows.gateListsRow.fresh Rows.gateListsRow.handsOn Rows.gateListsRow.again) := by
  refine returnsInHanded_of_change (C := Try.checked) Try.own started (by kernel_rfl) Try.func12
    (ChangeSpec.witness6 (enc := enc) (C := Try.checked) false ⟨#[], #[.int .i64 0, .slice none 0 0, .int .i64 0, .int .i64 0, .int .i64 0], []⟩ 8 (by kernel_rfl) (by kernel_rfl) (by kernel_rfl) (by kernel_rfl)) ?_
  intro W base args ds gs before hval0 hW _ _
  have hval : ∀ (j : Nat) t v, Try.f12.params[j]? = some t → args[j]? = some v → Value.okWide Try.prog W .any base t v := hval0
  have hW0 := hW
  obtain ⟨p, q, hA0, hV, hpq, _, _⟩ := hW
  obtain ⟨la⟩ := args
  have hA : DataW.TrodAll enc Try.prog W 0 (fun _ => true) true [3, 22, 3, 3, 3] la ds p := by have := hA0; rw [Try.params12] at this; exact this
  rw [Try.params12] at hval
  obtain ⟨v0, la0, d0, ds0, p0, q0, rfl, rfl, rfl, h0, hA⟩ := trodAll_cons hA
  obtain ⟨v1, la1, d1, ds1, p1, q1, rfl, rfl, rfl, h1, hA⟩ := trodAll_cons hA
  obtain ⟨v2, la2, d2, ds2, p2, q2, rfl, rfl, rfl, h2, hA⟩ := trodAll_cons hA
  obtain ⟨v3, la3, d3, ds3, p3, q3, rfl, rfl, rfl, h3, hA⟩ := trodAll_cons hA
  obtain ⟨v4, la4, d4, ds4, p4, q4, rfl, rfl, rfl, h4, hA⟩ := trodAll_cons hA
  obtain ⟨rfl, rfl, rfl⟩ := trodAll_nil hA
  obtain ⟨z0, rfl, hr0⟩ := arg_int (hval 0 _ _ rfl rfl) h0
  obtain ⟨l1, A1, cap1, rfl, hr1⟩ := arg_ints (hval 1 _ _ rfl rfl) h1
  obtain ⟨z2, rfl, hr2⟩ := arg_int (hval 2 _ _ rfl rfl) h2
  obtain ⟨z3, rfl, hr3⟩ := arg_int (hval 3 _ _ rfl rfl) h3
  obtain ⟨z4, rfl, hr4⟩ := arg_int (hval 4 _ _ rfl rfl) h4
  have fin : Calls Try.prog 12 _ W fun e W' => e = .returned (.bool true) ∧ Chg [] W W' := lists_z z0 l1 A1 cap1 z2 z3 z4 W hr0 hr1 hr2 hr3 hr4
  refine fin.mono fun e W' ⟨he, hc⟩ => ⟨_, he, ?_⟩
  exact law_post Try.laidOut (by rw [Try.params12]; intro t ht; simp only [List.mem_cons, List.not_mem_nil, or_false] at ht; rcases ht with rfl | rfl | rfl | rfl | rfl <;> exact ⟨by kernel_rfl, of_decide_eq_true (by kernel_rfl)⟩) rfl rfl Try.underlying4 rfl hW0 hc.below
theorem gateLists_holds : Rows.GateListsSaid :=
  OpenClaim.holds_of_wide 12 Try.f12 rfl rfl rfl rfl rfl rfl rfl ⟨rfl, rfl, rfl, rfl, rfl⟩ rfl rfl rfl rfl rfl (by kernel_rfl) Try.func12 (by kernel_rfl)
    (of_decide_eq_true (by kernel_rfl)) (by unfold Func.isWrapper; rw [if_neg (of_decide_eq_false (by kernel_rfl))]; exact ⟨rfl, rfl⟩)
    (fun os started H enc _ => gateLists_lifted os started H enc)
end Go.Proofs.Ytppbjlakbmgfdaa
