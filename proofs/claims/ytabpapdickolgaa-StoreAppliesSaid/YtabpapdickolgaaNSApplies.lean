/-
  StoreApplies: for every input the call returns true, and the arguments read afterwards as they read before.
-/
import Derived.Test.YtabpapdickolgaaNSw
import Derived.Test.YtabpapdickolgaaNSf
import Derived.Test.YtabpapdickolgaaNArgs
namespace Go.Proofs.Ytabpapdickolgaa
open Go.RowKit Go.ChangeShapes Go.WideShapes Go.ChangeAt
set_option linter.unusedSimpArgs false
set_option linter.unusedVariables false

set_option maxHeartbeats 4000000 in
theorem stapplies_z (raw : List Ch) (v : Value) (key : ByteArray) (r : World) (hraw : Rows' r 8 v (raw.map Ch.cells)) (hkm : key.size ≤ maxLen) :
    Calls Try.prog 6 #[v, .string key] r fun e w' => e = .returned (.bool true) ∧ Chg [] r w' := by
  have hS := Sep.root r
  obtain ⟨Ar, cr, rfl, hcr⟩ := hraw.mform
  refine Z.enter Try.func6 Try.ntmps6 rfl rfl ?_
  repeat' (first
    | refine Z.pr rfl ?_ | refine Sh.la hS ?_ | refine Sh.lb ?_ | refine Sh.lc ?_ | refine Sh.su ?_
    | (refine Sh.sa hS ?_; clear hS; intro w hS)
    | ((first | refine Sh.aa hS ?_ | refine Sh.ab hS ?_ | refine Sh.ac hS ?_); clear hS; intro g w hS hge)
    | refine Sh.ix ?_ | refine Sh.up ?_ | refine Sh.sl1 ?_ | refine Sh.sl2 ?_ | refine Sh.sl5 ?_ | refine Sh.sl3 ?_ | refine Sh.sl4 ?_ | refine Sh.eq ?_ | refine Sh.ne ?_ | refine Sh.ix2 ?_ | refine Sh.ix3 ?_
    | refine Z.bu rfl rfl ?_ | refine Z.pl (R.max2 rfl rfl) ?_ | refine Z.pl (R.cap rfl rfl) ?_ | refine Z.pl R.mf ?_
    | refine Z.gT rfl rfl ?_ | refine Z.gF rfl rfl ?_ | refine Z.gF0 rfl rfl ?_ | refine Z.gU rfl rfl ?_
    | with_reducible (first | refine Z.seq ?_ | refine Z.reg ?_ | refine Z.nil ?_ | refine Z.skip ?_ | refine Z.exit ?_ | refine Z.ret ?_ | refine Z.block ?_ | refine Z.thN ?_ | refine Z.thU ?_ | refine Z.thE ?_ | refine Z.thR ?_ | refine Z.blN ?_ | refine Z.blR ?_ | refine Z.blE ?_ | refine Z.label ?_ | refine Z.scope ?_ | refine Z.ngN ?_ | refine Z.ngR ?_ | refine Z.ngE ?_)
    | ((with_reducible refine Z.blX ?_ ?_); rotate_left; rfl)
    | refine Z.brT rfl ?_ | refine Z.brF rfl ?_
    | ((first | refine Z.gS rfl rfl ?_ ?_ | refine Z.br rfl ?_ ?_) <;> intro hb <;> (try simp only [decide_eq_true_eq, decide_eq_false_iff_not, Bool.not_eq_true', Bool.not_eq_false', Int.not_lt, Int.not_le] at hb) <;> (try (exfalso; first | omega | exact hb trivial))))
  refine Z.eff (Z.cl (awake24_z _ _ _ hS) rfl ?_) rfl
  clear hS
  rintro e w ⟨rfl, hS⟩
  refine ⟨_, rfl, ?_⟩
  repeat' (first
    | refine Z.pr rfl ?_ | refine Sh.la hS ?_ | refine Sh.lb ?_ | refine Sh.lc ?_ | refine Sh.su ?_
    | (refine Sh.sa hS ?_; clear hS; intro w hS)
    | ((first | refine Sh.aa hS ?_ | refine Sh.ab hS ?_ | refine Sh.ac hS ?_); clear hS; intro g w hS hge)
    | refine Sh.ix ?_ | refine Sh.up ?_ | refine Sh.sl1 ?_ | refine Sh.sl2 ?_ | refine Sh.sl5 ?_ | refine Sh.sl3 ?_ | refine Sh.sl4 ?_ | refine Sh.eq ?_ | refine Sh.ne ?_ | refine Sh.ix2 ?_ | refine Sh.ix3 ?_
    | refine Z.bu rfl rfl ?_ | refine Z.pl (R.max2 rfl rfl) ?_ | refine Z.pl (R.cap rfl rfl) ?_ | refine Z.pl R.mf ?_
    | refine Z.gT rfl rfl ?_ | refine Z.gF rfl rfl ?_ | refine Z.gF0 rfl rfl ?_ | refine Z.gU rfl rfl ?_
    | with_reducible (first | refine Z.seq ?_ | refine Z.reg ?_ | refine Z.nil ?_ | refine Z.skip ?_ | refine Z.exit ?_ | refine Z.ret ?_ | refine Z.block ?_ | refine Z.thN ?_ | refine Z.thU ?_ | refine Z.thE ?_ | refine Z.thR ?_ | refine Z.blN ?_ | refine Z.blR ?_ | refine Z.blE ?_ | refine Z.label ?_ | refine Z.scope ?_ | refine Z.ngN ?_ | refine Z.ngR ?_ | refine Z.ngE ?_)
    | ((with_reducible refine Z.blX ?_ ?_); rotate_left; rfl)
    | refine Z.brT rfl ?_ | refine Z.brF rfl ?_
    | ((first | refine Z.gS rfl rfl ?_ ?_ | refine Z.br rfl ?_ ?_) <;> intro hb <;> (try simp only [decide_eq_true_eq, decide_eq_false_iff_not, Bool.not_eq_true', Bool.not_eq_false', Int.not_lt, Int.not_le] at hb) <;> (try (exfalso; first | omega | exact hb trivial))))
  refine Z.eff (Z.cl (fewS_z raw _ 60 _ _ _ hS (Reads.root hraw) (by omega)) rfl ?_) rfl
  clear hS
  rintro e w ⟨b, rfl, hfew, hS⟩
  refine ⟨_, rfl, ?_⟩
  cases b
  · repeat' (first
      | refine Z.pr rfl ?_ | refine Sh.la hS ?_ | refine Sh.lb ?_ | refine Sh.lc ?_ | refine Sh.su ?_
      | (refine Sh.sa hS ?_; clear hS; intro w hS)
      | ((first | refine Sh.aa hS ?_ | refine Sh.ab hS ?_ | refine Sh.ac hS ?_); clear hS; intro g w hS hge)
      | refine Sh.ix ?_ | refine Sh.up ?_ | refine Sh.sl1 ?_ | refine Sh.sl2 ?_ | refine Sh.sl5 ?_ | refine Sh.sl3 ?_ | refine Sh.sl4 ?_ | refine Sh.eq ?_ | refine Sh.ne ?_ | refine Sh.ix2 ?_ | refine Sh.ix3 ?_
      | refine Z.bu rfl rfl ?_ | refine Z.pl (R.max2 rfl rfl) ?_ | refine Z.pl (R.cap rfl rfl) ?_ | refine Z.pl R.mf ?_
      | refine Z.gT rfl rfl ?_ | refine Z.gF rfl rfl ?_ | refine Z.gF0 rfl rfl ?_ | refine Z.gU rfl rfl ?_
      | with_reducible (first | refine Z.seq ?_ | refine Z.reg ?_ | refine Z.nil ?_ | refine Z.skip ?_ | refine Z.exit ?_ | refine Z.ret ?_ | refine Z.block ?_ | refine Z.thN ?_ | refine Z.thU ?_ | refine Z.thE ?_ | refine Z.thR ?_ | refine Z.blN ?_ | refine Z.blR ?_ | refine Z.blE ?_ | refine Z.label ?_ | refine Z.scope ?_ | refine Z.ngN ?_ | refine Z.ngR ?_ | refine Z.ngE ?_)
      | ((with_reducible refine Z.blX ?_ ?_); rotate_left; rfl)
      | refine Z.brT rfl ?_ | refine Z.brF rfl ?_
      | ((first | refine Z.gS rfl rfl ?_ ?_ | refine Z.br rfl ?_ ?_) <;> intro hb <;> (try simp only [decide_eq_true_eq, decide_eq_false_iff_not, Bool.not_eq_true', Bool.not_eq_false', Int.not_lt, Int.not_le] at hb) <;> (try (exfalso; first | omega | exact hb trivial))))
    first | refine Z.done hS Try.results6 (Z.RV.tmp rfl Z.RV.nil) ?_ | refine Z.doneN hS Try.results6 (Z.RV.tmp rfl Z.RV.nil) ?_
    exact ⟨rfl, hS.chg⟩
  replace hfew := hfew rfl
  repeat' (first
    | refine Z.pr rfl ?_ | refine Sh.la hS ?_ | refine Sh.lb ?_ | refine Sh.lc ?_ | refine Sh.su ?_
    | (refine Sh.sa hS ?_; clear hS; intro w hS)
    | ((first | refine Sh.aa hS ?_ | refine Sh.ab hS ?_ | refine Sh.ac hS ?_); clear hS; intro g w hS hge)
    | refine Sh.ix ?_ | refine Sh.up ?_ | refine Sh.sl1 ?_ | refine Sh.sl2 ?_ | refine Sh.sl5 ?_ | refine Sh.sl3 ?_ | refine Sh.sl4 ?_ | refine Sh.eq ?_ | refine Sh.ne ?_ | refine Sh.ix2 ?_ | refine Sh.ix3 ?_
    | refine Z.bu rfl rfl ?_ | refine Z.pl (R.max2 rfl rfl) ?_ | refine Z.pl (R.cap rfl rfl) ?_ | refine Z.pl R.mf ?_
    | refine Z.gT rfl rfl ?_ | refine Z.gF rfl rfl ?_ | refine Z.gF0 rfl rfl ?_ | refine Z.gU rfl rfl ?_
    | with_reducible (first | refine Z.seq ?_ | refine Z.reg ?_ | refine Z.nil ?_ | refine Z.skip ?_ | refine Z.exit ?_ | refine Z.ret ?_ | refine Z.block ?_ | refine Z.thN ?_ | refine Z.thU ?_ | refine Z.thE ?_ | refine Z.thR ?_ | refine Z.blN ?_ | refine Z.blR ?_ | refine Z.blE ?_ | refine Z.label ?_ | refine Z.scope ?_ | refine Z.ngN ?_ | refine Z.ngR ?_ | refine Z.ngE ?_)
    | ((with_reducible refine Z.blX ?_ ?_); rotate_left; rfl)
    | refine Z.brT rfl ?_ | refine Z.brF rfl ?_
    | ((first | refine Z.gS rfl rfl ?_ ?_ | refine Z.br rfl ?_ ?_) <;> intro hb <;> (try simp only [decide_eq_true_eq, decide_eq_false_iff_not, Bool.not_eq_true', Bool.not_eq_false', Int.not_lt, Int.not_le] at hb) <;> (try (exfalso; first | omega | exact hb trivial))))
  · first | refine Z.done hS Try.results6 (Z.RV.tmp rfl Z.RV.nil) ?_ | refine Z.doneN hS Try.results6 (Z.RV.tmp rfl Z.RV.nil) ?_
    exact ⟨rfl, hS.chg⟩
  refine Z.eff (Z.cl (psnew_z _ _ _ hS) rfl ?_) rfl
  clear hS
  rintro e w ⟨gs, rfl, hS⟩
  refine ⟨_, rfl, ?_⟩
  repeat' (first
    | refine Z.pr rfl ?_ | refine Sh.la hS ?_ | refine Sh.lb ?_ | refine Sh.lc ?_ | refine Sh.su ?_
    | (refine Sh.sa hS ?_; clear hS; intro w hS)
    | ((first | refine Sh.aa hS ?_ | refine Sh.ab hS ?_ | refine Sh.ac hS ?_); clear hS; intro g w hS hge)
    | refine Sh.ix ?_ | refine Sh.up ?_ | refine Sh.sl1 ?_ | refine Sh.sl2 ?_ | refine Sh.sl5 ?_ | refine Sh.sl3 ?_ | refine Sh.sl4 ?_ | refine Sh.eq ?_ | refine Sh.ne ?_ | refine Sh.ix2 ?_ | refine Sh.ix3 ?_
    | refine Z.bu rfl rfl ?_ | refine Z.pl (R.max2 rfl rfl) ?_ | refine Z.pl (R.cap rfl rfl) ?_ | refine Z.pl R.mf ?_
    | refine Z.gT rfl rfl ?_ | refine Z.gF rfl rfl ?_ | refine Z.gF0 rfl rfl ?_ | refine Z.gU rfl rfl ?_
    | with_reducible (first | refine Z.seq ?_ | refine Z.reg ?_ | refine Z.nil ?_ | refine Z.skip ?_ | refine Z.exit ?_ | refine Z.ret ?_ | refine Z.block ?_ | refine Z.thN ?_ | refine Z.thU ?_ | refine Z.thE ?_ | refine Z.thR ?_ | refine Z.blN ?_ | refine Z.blR ?_ | refine Z.blE ?_ | refine Z.label ?_ | refine Z.scope ?_ | refine Z.ngN ?_ | refine Z.ngR ?_ | refine Z.ngE ?_)
    | ((with_reducible refine Z.blX ?_ ?_); rotate_left; rfl)
    | refine Z.brT rfl ?_ | refine Z.brF rfl ?_
    | ((first | refine Z.gS rfl rfl ?_ ?_ | refine Z.br rfl ?_ ?_) <;> intro hb <;> (try simp only [decide_eq_true_eq, decide_eq_false_iff_not, Bool.not_eq_true', Bool.not_eq_false', Int.not_lt, Int.not_le] at hb) <;> (try (exfalso; first | omega | exact hb trivial))))
  rename Nat => gw
  replace hS := Z.nilsl hS 93 3 none
  replace hS : Sep r [] [RS gw [], PS gs []] _ := Sep.RS_open.2 ⟨.slice none 0 0, hS.sb⟩
  refine Z.lpS [4, 8, 24, 25, 26, 27, 28, 29, 30, 31, 32, 33, 34, 35, 36, 37, 38, 39, 40, 41, 42] (fun m w s => ∃ (k : Nat) (q : List Ce), s = [(24, .int .i64 k)] ∧ k ≤ raw.length ∧ SOk q ∧ m = raw.length - k ∧ Sep r [] [RS gw q, PS gs q] w) _ [(24, .int .i64 (0 : Nat))] (by repeat (first | exact trivial | refine ⟨rfl, ?_⟩)) ⟨0, [], rfl, by omega, .nil, rfl, hS⟩ ?_
  clear hS
  rintro m f0 w _ ⟨k, q, rfl, hk, hq, rfl, hS⟩
  have hq32 := hq.2.2
  by_cases hlt : k < raw.length
  · obtain ⟨gb, o, rfl, _, hra⟩ := (hraw.ext hS.chg).mat (by omega) hlt
    have hqx := hq.app raw[k]
    have hqx32 := hqx.2.2
    repeat' (first
      | refine Z.pr rfl ?_ | refine Sh.la hS ?_ | refine Sh.lb ?_ | refine Sh.lc ?_ | refine Sh.su ?_
      | (refine Sh.sa hS ?_; clear hS; intro w hS)
      | ((first | refine Sh.aa hS ?_ | refine Sh.ab hS ?_ | refine Sh.ac hS ?_); clear hS; intro g w hS hge)
      | refine Sh.ix ?_ | refine Sh.up ?_ | refine Sh.sl1 ?_ | refine Sh.sl2 ?_ | refine Sh.sl5 ?_ | refine Sh.sl3 ?_ | refine Sh.sl4 ?_ | refine Sh.eq ?_ | refine Sh.ne ?_ | refine Sh.ix2 ?_ | refine Sh.ix3 ?_
      | refine Z.bu rfl rfl ?_ | refine Z.pl (R.max2 rfl rfl) ?_ | refine Z.pl (R.cap rfl rfl) ?_ | refine Z.pl R.mf ?_
      | refine Z.gT rfl rfl ?_ | refine Z.gF rfl rfl ?_ | refine Z.gF0 rfl rfl ?_ | refine Z.gU rfl rfl ?_
      | with_reducible (first | refine Z.seq ?_ | refine Z.reg ?_ | refine Z.nil ?_ | refine Z.skip ?_ | refine Z.exit ?_ | refine Z.ret ?_ | refine Z.block ?_ | refine Z.thN ?_ | refine Z.thU ?_ | refine Z.thE ?_ | refine Z.thR ?_ | refine Z.blN ?_ | refine Z.blR ?_ | refine Z.blE ?_ | refine Z.label ?_ | refine Z.scope ?_ | refine Z.ngN ?_ | refine Z.ngR ?_ | refine Z.ngE ?_)
      | ((with_reducible refine Z.blX ?_ ?_); rotate_left; rfl)
      | refine Z.brT rfl ?_ | refine Z.brF rfl ?_
      | ((first | refine Z.gS rfl rfl ?_ ?_ | refine Z.br rfl ?_ ?_) <;> intro hb <;> (try simp only [decide_eq_true_eq, decide_eq_false_iff_not, Bool.not_eq_true', Bool.not_eq_false', Int.not_lt, Int.not_le] at hb) <;> (try (exfalso; first | omega | exact hb trivial))))
    rename Nat => gx
    refine D.startS (Lr := [.blk gx 23 raw[k].cells]) (hS.sb) 14 14 (by kernel_rfl) rfl ?_
    replace hS := hS.drew
    refine Sh.dp 0 1 ?_
    refine Sh.dp 3 9 ?_
    refine Sh.dl 1 11 ?_
    refine Sh.dl 4 27 ?_
    refine D.eff 2 31 rfl D.wantedN (by kernel_rfl) (by kernel_rfl) (fun _ _ h => h) ?_
    replace hS := hS.fo (R := PS gs _)
    refine Z.cl (psapply_z gs q raw[k] _ _ _ hS hq.1 (by omega)) rfl ?_
    clear hS
    rintro e w ⟨rfl, hS⟩
    refine ⟨_, rfl, ?_⟩
    refine ⟨HM.s (hS.sb), ?_⟩
    refine D.eff 5 63 rfl D.wantedN (by kernel_rfl) (by kernel_rfl) (fun _ _ h => h) ?_
    replace hS := hS.fo (R := RS gw _)
    refine Z.cl (rsapply_z gw q raw[k] _ _ _ hS (by omega)) rfl ?_
    clear hS
    rintro e w ⟨rfl, hS⟩
    refine ⟨_, rfl, ?_⟩
    refine ⟨HM.s (hS.sb), ?_⟩
    first | refine D.pr 6 127 rfl D.wantedN (by kernel_rfl) rfl ?_ | refine D.pl 6 127 rfl D.wantedN (by kernel_rfl) (R.nea rfl rfl rfl rfl) ?_
    refine Sh.dp 7 255 ?_
    refine D.slot 35 rfl (fun hb => by exfalso; (try simp only [decide_eq_true_eq, decide_eq_false_iff_not, Bool.not_eq_true', Bool.not_eq_false', Int.not_lt, Int.not_le] at hb) <;> first | omega | exact hb trivial | cases hb) (fun hb => ?_)
    (try simp only [decide_eq_true_eq, decide_eq_false_iff_not, Bool.not_eq_true', Bool.not_eq_false', Int.not_lt, Int.not_le] at hb)
    refine Sh.dp 8 511 ?_
    refine Sh.dp 9 1023 ?_
    refine Sh.dp 10 2047 ?_
    refine D.eff 11 4095 rfl (D.wantedT rfl rfl) (by kernel_rfl) (by kernel_rfl) (fun _ _ h => h) ?_
    refine WE.guard ?_
    replace hS := hS.fo (R := PS gs _)
    replace hS := hS.fo (R := RS gw _)
    obtain ⟨v1, hS⟩ := Sep.RS_open.1 hS
    replace hS := hS.fo (R := .blk gw _ _)
    replace hS := hS.fo (R := PS gs _)
    refine Z.cl (same_z gs gw _ v1 key _ _ _ hS (Reads.of_at .here) (by omega) hqx.1 hqx.2.1 hkm) rfl ?_
    clear hS
    rintro e w ⟨rfl, hS⟩
    refine ⟨_, rfl, ?_⟩
    refine ⟨HM.s (hS.sb), ?_⟩
    refine Sh.dp 12 8191 ?_
    refine Sh.dp 13 16383 ?_
    refine D.done (by kernel_rfl) ?_
    repeat' (first
      | refine Z.pr rfl ?_ | refine Sh.la hS ?_ | refine Sh.lb ?_ | refine Sh.lc ?_ | refine Sh.su ?_
      | (refine Sh.sa hS ?_; clear hS; intro w hS)
      | ((first | refine Sh.aa hS ?_ | refine Sh.ab hS ?_ | refine Sh.ac hS ?_); clear hS; intro g w hS hge)
      | refine Sh.ix ?_ | refine Sh.up ?_ | refine Sh.sl1 ?_ | refine Sh.sl2 ?_ | refine Sh.sl5 ?_ | refine Sh.sl3 ?_ | refine Sh.sl4 ?_ | refine Sh.eq ?_ | refine Sh.ne ?_ | refine Sh.ix2 ?_ | refine Sh.ix3 ?_
      | refine Z.bu rfl rfl ?_ | refine Z.pl (R.max2 rfl rfl) ?_ | refine Z.pl (R.cap rfl rfl) ?_ | refine Z.pl R.mf ?_
      | refine Z.gT rfl rfl ?_ | refine Z.gF rfl rfl ?_ | refine Z.gF0 rfl rfl ?_ | refine Z.gU rfl rfl ?_
      | with_reducible (first | refine Z.seq ?_ | refine Z.reg ?_ | refine Z.nil ?_ | refine Z.skip ?_ | refine Z.exit ?_ | refine Z.ret ?_ | refine Z.block ?_ | refine Z.thN ?_ | refine Z.thU ?_ | refine Z.thE ?_ | refine Z.thR ?_ | refine Z.blN ?_ | refine Z.blR ?_ | refine Z.blE ?_ | refine Z.label ?_ | refine Z.scope ?_ | refine Z.ngN ?_ | refine Z.ngR ?_ | refine Z.ngE ?_)
      | ((with_reducible refine Z.blX ?_ ?_); rotate_left; rfl)
      | refine Z.brT rfl ?_ | refine Z.brF rfl ?_
      | ((first | refine Z.gS rfl rfl ?_ ?_ | refine Z.br rfl ?_ ?_) <;> intro hb <;> (try simp only [decide_eq_true_eq, decide_eq_false_iff_not, Bool.not_eq_true', Bool.not_eq_false', Int.not_lt, Int.not_le] at hb) <;> (try (exfalso; first | omega | exact hb trivial))))
    refine Sh.again (raw.length - (k + 1)) [(24, .int .i64 (k + 1 : Nat))] ?_
    exact ⟨k + 1, _, rfl, by omega, hqx, rfl, Sep.RS_open.2 ⟨v1, hS.sb⟩⟩
  · obtain ⟨v1, hS⟩ := Sep.RS_open.1 hS
    repeat' (first
      | refine Z.pr rfl ?_ | refine Sh.la hS ?_ | refine Sh.lb ?_ | refine Sh.lc ?_ | refine Sh.su ?_
      | (refine Sh.sa hS ?_; clear hS; intro w hS)
      | ((first | refine Sh.aa hS ?_ | refine Sh.ab hS ?_ | refine Sh.ac hS ?_); clear hS; intro g w hS hge)
      | refine Sh.ix ?_ | refine Sh.up ?_ | refine Sh.sl1 ?_ | refine Sh.sl2 ?_ | refine Sh.sl5 ?_ | refine Sh.sl3 ?_ | refine Sh.sl4 ?_ | refine Sh.eq ?_ | refine Sh.ne ?_ | refine Sh.ix2 ?_ | refine Sh.ix3 ?_
      | refine Z.bu rfl rfl ?_ | refine Z.pl (R.max2 rfl rfl) ?_ | refine Z.pl (R.cap rfl rfl) ?_ | refine Z.pl R.mf ?_
      | refine Z.gT rfl rfl ?_ | refine Z.gF rfl rfl ?_ | refine Z.gF0 rfl rfl ?_ | refine Z.gU rfl rfl ?_
      | with_reducible (first | refine Z.seq ?_ | refine Z.reg ?_ | refine Z.nil ?_ | refine Z.skip ?_ | refine Z.exit ?_ | refine Z.ret ?_ | refine Z.block ?_ | refine Z.thN ?_ | refine Z.thU ?_ | refine Z.thE ?_ | refine Z.thR ?_ | refine Z.blN ?_ | refine Z.blR ?_ | refine Z.blE ?_ | refine Z.label ?_ | refine Z.scope ?_ | refine Z.ngN ?_ | refine Z.ngR ?_ | refine Z.ngE ?_)
      | ((with_reducible refine Z.blX ?_ ?_); rotate_left; rfl)
      | refine Z.brT rfl ?_ | refine Z.brF rfl ?_
      | ((first | refine Z.gS rfl rfl ?_ ?_ | refine Z.br rfl ?_ ?_) <;> intro hb <;> (try simp only [decide_eq_true_eq, decide_eq_false_iff_not, Bool.not_eq_true', Bool.not_eq_false', Int.not_lt, Int.not_le] at hb) <;> (try (exfalso; first | omega | exact hb trivial))))
    replace hS := hS.fo (R := .blk gw _ _)
    replace hS := hS.fo (R := PS gs _)
    refine Z.eff (Z.cl (same_z gs gw q v1 key _ _ _ hS (Reads.of_at .here) (by omega) hq.1 hq.2.1 hkm) rfl ?_) rfl
    clear hS
    rintro e w ⟨rfl, hS⟩
    refine ⟨_, rfl, ?_⟩
    repeat' (first
      | refine Z.pr rfl ?_ | refine Sh.la hS ?_ | refine Sh.lb ?_ | refine Sh.lc ?_ | refine Sh.su ?_
      | (refine Sh.sa hS ?_; clear hS; intro w hS)
      | ((first | refine Sh.aa hS ?_ | refine Sh.ab hS ?_ | refine Sh.ac hS ?_); clear hS; intro g w hS hge)
      | refine Sh.ix ?_ | refine Sh.up ?_ | refine Sh.sl1 ?_ | refine Sh.sl2 ?_ | refine Sh.sl5 ?_ | refine Sh.sl3 ?_ | refine Sh.sl4 ?_ | refine Sh.eq ?_ | refine Sh.ne ?_ | refine Sh.ix2 ?_ | refine Sh.ix3 ?_
      | refine Z.bu rfl rfl ?_ | refine Z.pl (R.max2 rfl rfl) ?_ | refine Z.pl (R.cap rfl rfl) ?_ | refine Z.pl R.mf ?_
      | refine Z.gT rfl rfl ?_ | refine Z.gF rfl rfl ?_ | refine Z.gF0 rfl rfl ?_ | refine Z.gU rfl rfl ?_
      | with_reducible (first | refine Z.seq ?_ | refine Z.reg ?_ | refine Z.nil ?_ | refine Z.skip ?_ | refine Z.exit ?_ | refine Z.ret ?_ | refine Z.block ?_ | refine Z.thN ?_ | refine Z.thU ?_ | refine Z.thE ?_ | refine Z.thR ?_ | refine Z.blN ?_ | refine Z.blR ?_ | refine Z.blE ?_ | refine Z.label ?_ | refine Z.scope ?_ | refine Z.ngN ?_ | refine Z.ngR ?_ | refine Z.ngE ?_)
      | ((with_reducible refine Z.blX ?_ ?_); rotate_left; rfl)
      | refine Z.brT rfl ?_ | refine Z.brF rfl ?_
      | ((first | refine Z.gS rfl rfl ?_ ?_ | refine Z.br rfl ?_ ?_) <;> intro hb <;> (try simp only [decide_eq_true_eq, decide_eq_false_iff_not, Bool.not_eq_true', Bool.not_eq_false', Int.not_lt, Int.not_le] at hb) <;> (try (exfalso; first | omega | exact hb trivial))))
    first | refine Z.done hS Try.results6 (Z.RV.tmp rfl Z.RV.nil) ?_ | refine Z.doneN hS Try.results6 (Z.RV.tmp rfl Z.RV.nil) ?_
    exact ⟨rfl, hS.chg⟩
set_option maxRecDepth 100000 in
theorem storeApplies_lifted (os : Os) (started : os.Started) (H : Type) (enc : TypeId × Value → H) :
    ReturnsInHanded {} Try.checked os 6 .any (Rows.storeAppliesSpec.pre6 enc Try.prog Try.f6 Rows.storeAppliesRow.domain false) (Rows.storeAppliesSpec.post enc Try.prog Try.f6 false Rows.storeAppliesRow.fresh Rows.storeAppliesRow.handsOn Rows.storeAppliesRow.again) := by
  refine returnsInHanded_of_change (C := Try.checked) Try.own started (by kernel_rfl) Try.func6
    (ChangeSpec.witness6 (enc := enc) (C := Try.checked) false ⟨#[], #[.slice none 0 0, .string ⟨#[]⟩], []⟩ 8 (by kernel_rfl) (by kernel_rfl) (by kernel_rfl) (by kernel_rfl)) ?_
  intro W base args ds gs before hval0 hW _ _
  have hval : ∀ (j : Nat) t v, Try.f6.params[j]? = some t → args[j]? = some v → Value.okWide Try.prog W .any base t v := hval0
  have hW0 := hW
  obtain ⟨p, q, hA0, hV, hpq, _, _⟩ := hW
  obtain ⟨la⟩ := args
  have hA : DataW.TrodAll enc Try.prog W 0 (fun _ => true) true [28, 9] la ds p := by have := hA0; rw [Try.params6] at this; exact this
  rw [Try.params6] at hval
  obtain ⟨v0, la0, d0, ds0, p0, q0, rfl, rfl, rfl, h0, hA⟩ := trodAll_cons hA
  obtain ⟨v1, la1, d1, ds1, p1, q1, rfl, rfl, rfl, h1, hA⟩ := trodAll_cons hA
  obtain ⟨rfl, rfl, rfl⟩ := trodAll_nil hA
  obtain ⟨l0, A0, cap0, rfl, hr0⟩ := arg_changes (hval 0 _ _ rfl rfl) h0
  obtain ⟨s1, rfl, hr1⟩ := arg_str (hval 1 _ _ rfl rfl) h1
  have fin : Calls Try.prog 6 _ W fun e W' => e = .returned (.bool true) ∧ Chg [] W W' := stapplies_z l0 _ s1 W hr0 hr1
  refine fin.mono fun e W' ⟨he, hc⟩ => ⟨_, he, ?_⟩
  exact law_post Try.laidOut (by rw [Try.params6]; intro t ht; simp only [List.mem_cons, List.not_mem_nil, or_false] at ht; rcases ht with rfl | rfl <;> exact ⟨by kernel_rfl, of_decide_eq_true (by kernel_rfl)⟩) rfl rfl Try.underlying4 rfl hW0 hc.below
theorem storeApplies_holds : Rows.StoreAppliesSaid :=
  OpenClaim.holds_of_wide 6 Try.f6 rfl rfl rfl rfl rfl rfl rfl ⟨rfl, rfl, rfl, rfl, rfl⟩ rfl rfl rfl rfl rfl (by kernel_rfl) Try.func6 (by kernel_rfl)
    (of_decide_eq_true (by kernel_rfl)) (by unfold Func.isWrapper; rw [if_neg (of_decide_eq_false (by kernel_rfl))]; exact ⟨rfl, rfl⟩)
    (fun os started H enc _ => storeApplies_lifted os started H enc)
end Go.Proofs.Ytabpapdickolgaa
