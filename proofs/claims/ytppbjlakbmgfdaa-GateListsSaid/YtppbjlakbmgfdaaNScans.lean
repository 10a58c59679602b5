/-
  GateScans: for every input the call returns true, and the arguments read afterwards as they read before.
-/
import Derived.Test.YtppbjlakbmgfdaaNAwake27
import Derived.Test.YtppbjlakbmgfdaaNArgs
namespace Go.Proofs.Ytppbjlakbmgfdaa
open Go.RowKit Go.ChangeShapes Go.WideShapes Go.ChangeAt
set_option linter.unusedSimpArgs false
set_option linter.unusedVariables false

theorem doP_mem {P : Ga} {a : Ac} {x : Wi} (h : x ∈ (doP P a).ws) : x ∈ P.ws ∨ x = a.w := by
  unfold doP at h
  split at h
  · unfold closeP at h
    split at h
    · exact .inl (List.mem_filter.1 h).1
    · exact .inl h
  · split at h
    · exact .inl (List.mem_filter.1 h).1
    · split at h
      · simp at h
      · split at h
        · exact .inl h
        · unfold giveP at h
          repeat' split at h
          all_goals first
            | exact .inl h
            | exact insW_mem' h
set_option maxHeartbeats 4000000 in
theorem scans_z (l : List Int) (Al : Option Addr) (cap : Nat) (vv tt : Int) (r : World) (hr : Rd r 1 Al l.length (l.map (Value.int .i64))) (_ : -9223372036854775808 ≤ vv ∧ vv ≤ 9223372036854775807) (_ : -9223372036854775808 ≤ tt ∧ tt ≤ 9223372036854775807) :
    Calls Try.prog 9 #[.slice Al l.length cap, .int .i64 vv, .int .i64 tt] r fun e w' => e = .returned (.bool true) ∧ Chg [] r w' := by
  have hS := Sep.root r
  have hv := modN_bd vv 2 (by omega)
  have ht := modN_bd tt 50 (by omega)
  refine Z.enter Try.func9 Try.ntmps9 rfl rfl ?_
  repeat' (first
    | refine Z.pr rfl ?_
    | refine Z.eff (Z.ld hS rfl (by repeat (first | exact At.here | apply At.next)) rfl ?_) rfl
    | refine Z.eff (Z.ldR rfl (by assumption) rfl ?_) rfl
    | refine Z.eff (Z.ldE rfl (by assumption) rfl ?_) rfl
    | refine Z.sum rfl (by constructor <;> omega) ?_
    | (refine Z.eff (Z.st hS rfl (by repeat (first | exact At.here | apply At.next)) rfl rfl ?_) rfl; clear hS; intro w hS)
    | (refine Z.eff (Z.al hS ?_) rfl; clear hS; intro g w hS hge)
    | (refine Z.eff (Z.bx hS rfl ?_) rfl; clear hS; intro g w hS hge)
    | refine Z.ixn rfl rfl rfl (by omega) ?_
    | refine Z.pl (R.upto rfl rfl rfl (by omega)) ?_
    | refine Z.pl (R.sinceL rfl rfl rfl (by omega) (by omega)) ?_
    | refine Z.pl (R.since rfl rfl rfl (by omega)) ?_
    | refine Z.pl (R.span rfl rfl rfl rfl (by omega) (by omega)) ?_
    | refine Z.pl (R.whole rfl rfl) ?_
    | refine Z.pl (R.eqa rfl rfl rfl rfl) ?_
    | refine Z.pl (R.nea rfl rfl rfl rfl) ?_
    | refine Z.ix rfl rfl rfl (by omega) ?_
    | refine Z.ia rfl rfl rfl (by omega) ?_
    | refine Z.bu rfl rfl ?_
    | refine Z.pl (R.max2 rfl rfl) ?_
    | refine Z.pl (R.cap rfl rfl) ?_
    | refine Z.pl R.mf ?_
    | (refine Z.eff (Z.bs hS rfl rfl rfl ?_) rfl; clear hS; intro g w hS hge)
    | refine Z.gT rfl rfl ?_
    | refine Z.gF rfl rfl ?_
    | refine Z.gF0 rfl rfl ?_
    | (refine Z.gS rfl rfl ?_ ?_ <;> intro hb <;> (try simp only [decide_eq_true_eq, decide_eq_false_iff_not, Bool.not_eq_true', Bool.not_eq_false', Int.not_lt, Int.not_le] at hb) <;> (try (exfalso; first | omega | exact hb trivial)))
    | with_reducible refine Z.seq ?_
    | with_reducible refine Z.reg ?_
    | with_reducible refine Z.nil ?_
    | with_reducible refine Z.skip ?_
    | with_reducible refine Z.exit ?_
    | with_reducible refine Z.ret ?_
    | with_reducible refine Z.block ?_
    | with_reducible refine Z.thN ?_
    | with_reducible refine Z.thU ?_
    | with_reducible refine Z.thE ?_
    | with_reducible refine Z.thR ?_
    | with_reducible refine Z.blN ?_
    | with_reducible refine Z.blR ?_
    | with_reducible refine Z.blE ?_
    | (with_reducible refine Z.blX ?_ ?_; rotate_left; rfl)
    | refine Z.brT rfl ?_
    | refine Z.brF rfl ?_
    | (refine Z.br rfl ?_ ?_ <;> intro hb <;> (try simp only [decide_eq_true_eq, decide_eq_false_iff_not, Bool.not_eq_true', Bool.not_eq_false', Int.not_lt, Int.not_le] at hb) <;> (try (exfalso; first | omega | exact hb trivial))))
  refine Z.eff (Z.cl (awake27_z _ _ _ hS) rfl ?_) rfl
  clear hS
  rintro e w ⟨rfl, hS⟩
  refine ⟨_, rfl, ?_⟩
  repeat' (first
    | refine Z.pr rfl ?_
    | refine Z.eff (Z.ld hS rfl (by repeat (first | exact At.here | apply At.next)) rfl ?_) rfl
    | refine Z.eff (Z.ldR rfl (by assumption) rfl ?_) rfl
    | refine Z.eff (Z.ldE rfl (by assumption) rfl ?_) rfl
    | refine Z.sum rfl (by constructor <;> omega) ?_
    | (refine Z.eff (Z.st hS rfl (by repeat (first | exact At.here | apply At.next)) rfl rfl ?_) rfl; clear hS; intro w hS)
    | (refine Z.eff (Z.al hS ?_) rfl; clear hS; intro g w hS hge)
    | (refine Z.eff (Z.bx hS rfl ?_) rfl; clear hS; intro g w hS hge)
    | refine Z.ixn rfl rfl rfl (by omega) ?_
    | refine Z.pl (R.upto rfl rfl rfl (by omega)) ?_
    | refine Z.pl (R.sinceL rfl rfl rfl (by omega) (by omega)) ?_
    | refine Z.pl (R.since rfl rfl rfl (by omega)) ?_
    | refine Z.pl (R.span rfl rfl rfl rfl (by omega) (by omega)) ?_
    | refine Z.pl (R.whole rfl rfl) ?_
    | refine Z.pl (R.eqa rfl rfl rfl rfl) ?_
    | refine Z.pl (R.nea rfl rfl rfl rfl) ?_
    | refine Z.ix rfl rfl rfl (by omega) ?_
    | refine Z.ia rfl rfl rfl (by omega) ?_
    | refine Z.bu rfl rfl ?_
    | refine Z.pl (R.max2 rfl rfl) ?_
    | refine Z.pl (R.cap rfl rfl) ?_
    | refine Z.pl R.mf ?_
    | (refine Z.eff (Z.bs hS rfl rfl rfl ?_) rfl; clear hS; intro g w hS hge)
    | refine Z.gT rfl rfl ?_
    | refine Z.gF rfl rfl ?_
    | refine Z.gF0 rfl rfl ?_
    | (refine Z.gS rfl rfl ?_ ?_ <;> intro hb <;> (try simp only [decide_eq_true_eq, decide_eq_false_iff_not, Bool.not_eq_true', Bool.not_eq_false', Int.not_lt, Int.not_le] at hb) <;> (try (exfalso; first | omega | exact hb trivial)))
    | with_reducible refine Z.seq ?_
    | with_reducible refine Z.reg ?_
    | with_reducible refine Z.nil ?_
    | with_reducible refine Z.skip ?_
    | with_reducible refine Z.exit ?_
    | with_reducible refine Z.ret ?_
    | with_reducible refine Z.block ?_
    | with_reducible refine Z.thN ?_
    | with_reducible refine Z.thU ?_
    | with_reducible refine Z.thE ?_
    | with_reducible refine Z.thR ?_
    | with_reducible refine Z.blN ?_
    | with_reducible refine Z.blR ?_
    | with_reducible refine Z.blE ?_
    | (with_reducible refine Z.blX ?_ ?_; rotate_left; rfl)
    | refine Z.brT rfl ?_
    | refine Z.brF rfl ?_
    | (refine Z.br rfl ?_ ?_ <;> intro hb <;> (try simp only [decide_eq_true_eq, decide_eq_false_iff_not, Bool.not_eq_true', Bool.not_eq_false', Int.not_lt, Int.not_le] at hb) <;> (try (exfalso; first | omega | exact hb trivial))))
  refine Z.eff (Z.cl (light_y _ _ _ _) rfl ?_) rfl
  rintro e w' ⟨rfl, hC⟩
  refine ⟨_, rfl, ?_⟩
  replace hS := hS.ext hC
  clear hC
  repeat' (first
    | refine Z.pr rfl ?_
    | refine Z.eff (Z.ld hS rfl (by repeat (first | exact At.here | apply At.next)) rfl ?_) rfl
    | refine Z.eff (Z.ldR rfl (by assumption) rfl ?_) rfl
    | refine Z.eff (Z.ldE rfl (by assumption) rfl ?_) rfl
    | refine Z.sum rfl (by constructor <;> omega) ?_
    | (refine Z.eff (Z.st hS rfl (by repeat (first | exact At.here | apply At.next)) rfl rfl ?_) rfl; clear hS; intro w hS)
    | (refine Z.eff (Z.al hS ?_) rfl; clear hS; intro g w hS hge)
    | (refine Z.eff (Z.bx hS rfl ?_) rfl; clear hS; intro g w hS hge)
    | refine Z.ixn rfl rfl rfl (by omega) ?_
    | refine Z.pl (R.upto rfl rfl rfl (by omega)) ?_
    | refine Z.pl (R.sinceL rfl rfl rfl (by omega) (by omega)) ?_
    | refine Z.pl (R.since rfl rfl rfl (by omega)) ?_
    | refine Z.pl (R.span rfl rfl rfl rfl (by omega) (by omega)) ?_
    | refine Z.pl (R.whole rfl rfl) ?_
    | refine Z.pl (R.eqa rfl rfl rfl rfl) ?_
    | refine Z.pl (R.nea rfl rfl rfl rfl) ?_
    | refine Z.ix rfl rfl rfl (by omega) ?_
    | refine Z.ia rfl rfl rfl (by omega) ?_
    | refine Z.bu rfl rfl ?_
    | refine Z.pl (R.max2 rfl rfl) ?_
    | refine Z.pl (R.cap rfl rfl) ?_
    | refine Z.pl R.mf ?_
    | (refine Z.eff (Z.bs hS rfl rfl rfl ?_) rfl; clear hS; intro g w hS hge)
    | refine Z.gT rfl rfl ?_
    | refine Z.gF rfl rfl ?_
    | refine Z.gF0 rfl rfl ?_
    | (refine Z.gS rfl rfl ?_ ?_ <;> intro hb <;> (try simp only [decide_eq_true_eq, decide_eq_false_iff_not, Bool.not_eq_true', Bool.not_eq_false', Int.not_lt, Int.not_le] at hb) <;> (try (exfalso; first | omega | exact hb trivial)))
    | with_reducible refine Z.seq ?_
    | with_reducible refine Z.reg ?_
    | with_reducible refine Z.nil ?_
    | with_reducible refine Z.skip ?_
    | with_reducible refine Z.exit ?_
    | with_reducible refine Z.ret ?_
    | with_reducible refine Z.block ?_
    | with_reducible refine Z.thN ?_
    | with_reducible refine Z.thU ?_
    | with_reducible refine Z.thE ?_
    | with_reducible refine Z.thR ?_
    | with_reducible refine Z.blN ?_
    | with_reducible refine Z.blR ?_
    | with_reducible refine Z.blE ?_
    | (with_reducible refine Z.blX ?_ ?_; rotate_left; rfl)
    | refine Z.brT rfl ?_
    | refine Z.brF rfl ?_
    | (refine Z.br rfl ?_ ?_ <;> intro hb <;> (try simp only [decide_eq_true_eq, decide_eq_false_iff_not, Bool.not_eq_true', Bool.not_eq_false', Int.not_lt, Int.not_le] at hb) <;> (try (exfalso; first | omega | exact hb trivial))))
  · first | refine Z.done hS Try.results9 (Z.RV.tmp rfl Z.RV.nil) ?_ | refine Z.doneN hS Try.results9 (Z.RV.tmp rfl Z.RV.nil) ?_
    exact ⟨rfl, hS.chg⟩
  refine Z.eff (Z.cl (mod_y vv 2 _ _ _ hS (by omega) (by omega)) rfl ?_) rfl
  clear hS
  rintro e w ⟨rfl, hS⟩
  refine ⟨_, rfl, ?_⟩
  repeat' (first
    | refine Z.pr rfl ?_
    | refine Z.eff (Z.ld hS rfl (by repeat (first | exact At.here | apply At.next)) rfl ?_) rfl
    | refine Z.eff (Z.ldR rfl (by assumption) rfl ?_) rfl
    | refine Z.eff (Z.ldE rfl (by assumption) rfl ?_) rfl
    | refine Z.sum rfl (by constructor <;> omega) ?_
    | (refine Z.eff (Z.st hS rfl (by repeat (first | exact At.here | apply At.next)) rfl rfl ?_) rfl; clear hS; intro w hS)
    | (refine Z.eff (Z.al hS ?_) rfl; clear hS; intro g w hS hge)
    | (refine Z.eff (Z.bx hS rfl ?_) rfl; clear hS; intro g w hS hge)
    | refine Z.ixn rfl rfl rfl (by omega) ?_
    | refine Z.pl (R.upto rfl rfl rfl (by omega)) ?_
    | refine Z.pl (R.sinceL rfl rfl rfl (by omega) (by omega)) ?_
    | refine Z.pl (R.since rfl rfl rfl (by omega)) ?_
    | refine Z.pl (R.span rfl rfl rfl rfl (by omega) (by omega)) ?_
    | refine Z.pl (R.whole rfl rfl) ?_
    | refine Z.pl (R.eqa rfl rfl rfl rfl) ?_
    | refine Z.pl (R.nea rfl rfl rfl rfl) ?_
    | refine Z.ix rfl rfl rfl (by omega) ?_
    | refine Z.ia rfl rfl rfl (by omega) ?_
    | refine Z.bu rfl rfl ?_
    | refine Z.pl (R.max2 rfl rfl) ?_
    | refine Z.pl (R.cap rfl rfl) ?_
    | refine Z.pl R.mf ?_
    | (refine Z.eff (Z.bs hS rfl rfl rfl ?_) rfl; clear hS; intro g w hS hge)
    | refine Z.gT rfl rfl ?_
    | refine Z.gF rfl rfl ?_
    | refine Z.gF0 rfl rfl ?_
    | (refine Z.gS rfl rfl ?_ ?_ <;> intro hb <;> (try simp only [decide_eq_true_eq, decide_eq_false_iff_not, Bool.not_eq_true', Bool.not_eq_false', Int.not_lt, Int.not_le] at hb) <;> (try (exfalso; first | omega | exact hb trivial)))
    | with_reducible refine Z.seq ?_
    | with_reducible refine Z.reg ?_
    | with_reducible refine Z.nil ?_
    | with_reducible refine Z.skip ?_
    | with_reducible refine Z.exit ?_
    | with_reducible refine Z.ret ?_
    | with_reducible refine Z.block ?_
    | with_reducible refine Z.thN ?_
    | with_reducible refine Z.thU ?_
    | with_reducible refine Z.thE ?_
    | with_reducible refine Z.thR ?_
    | with_reducible refine Z.blN ?_
    | with_reducible refine Z.blR ?_
    | with_reducible refine Z.blE ?_
    | (with_reducible refine Z.blX ?_ ?_; rotate_left; rfl)
    | refine Z.brT rfl ?_
    | refine Z.brF rfl ?_
    | (refine Z.br rfl ?_ ?_ <;> intro hb <;> (try simp only [decide_eq_true_eq, decide_eq_false_iff_not, Bool.not_eq_true', Bool.not_eq_false', Int.not_lt, Int.not_le] at hb) <;> (try (exfalso; first | omega | exact hb trivial))))
  refine Z.eff (Z.cl (mod_y tt 50 _ _ _ hS (by omega) (by omega)) rfl ?_) rfl
  clear hS
  rintro e w ⟨rfl, hS⟩
  refine ⟨_, rfl, ?_⟩
  generalize modN vv 2 = v at *
  generalize modN tt 50 = t at *
  repeat' (first
    | refine Z.pr rfl ?_
    | refine Z.eff (Z.ld hS rfl (by repeat (first | exact At.here | apply At.next)) rfl ?_) rfl
    | refine Z.eff (Z.ldR rfl (by assumption) rfl ?_) rfl
    | refine Z.eff (Z.ldE rfl (by assumption) rfl ?_) rfl
    | refine Z.sum rfl (by constructor <;> omega) ?_
    | (refine Z.eff (Z.st hS rfl (by repeat (first | exact At.here | apply At.next)) rfl rfl ?_) rfl; clear hS; intro w hS)
    | (refine Z.eff (Z.al hS ?_) rfl; clear hS; intro g w hS hge)
    | (refine Z.eff (Z.bx hS rfl ?_) rfl; clear hS; intro g w hS hge)
    | refine Z.ixn rfl rfl rfl (by omega) ?_
    | refine Z.pl (R.upto rfl rfl rfl (by omega)) ?_
    | refine Z.pl (R.sinceL rfl rfl rfl (by omega) (by omega)) ?_
    | refine Z.pl (R.since rfl rfl rfl (by omega)) ?_
    | refine Z.pl (R.span rfl rfl rfl rfl (by omega) (by omega)) ?_
    | refine Z.pl (R.whole rfl rfl) ?_
    | refine Z.pl (R.eqa rfl rfl rfl rfl) ?_
    | refine Z.pl (R.nea rfl rfl rfl rfl) ?_
    | refine Z.ix rfl rfl rfl (by omega) ?_
    | refine Z.ia rfl rfl rfl (by omega) ?_
    | refine Z.bu rfl rfl ?_
    | refine Z.pl (R.max2 rfl rfl) ?_
    | refine Z.pl (R.cap rfl rfl) ?_
    | refine Z.pl R.mf ?_
    | (refine Z.eff (Z.bs hS rfl rfl rfl ?_) rfl; clear hS; intro g w hS hge)
    | refine Z.gT rfl rfl ?_
    | refine Z.gF rfl rfl ?_
    | refine Z.gF0 rfl rfl ?_
    | (refine Z.gS rfl rfl ?_ ?_ <;> intro hb <;> (try simp only [decide_eq_true_eq, decide_eq_false_iff_not, Bool.not_eq_true', Bool.not_eq_false', Int.not_lt, Int.not_le] at hb) <;> (try (exfalso; first | omega | exact hb trivial)))
    | with_reducible refine Z.seq ?_
    | with_reducible refine Z.reg ?_
    | with_reducible refine Z.nil ?_
    | with_reducible refine Z.skip ?_
    | with_reducible refine Z.exit ?_
    | with_reducible refine Z.ret ?_
    | with_reducible refine Z.block ?_
    | with_reducible refine Z.thN ?_
    | with_reducible refine Z.thU ?_
    | with_reducible refine Z.thE ?_
    | with_reducible refine Z.thR ?_
    | with_reducible refine Z.blN ?_
    | with_reducible refine Z.blR ?_
    | with_reducible refine Z.blE ?_
    | (with_reducible refine Z.blX ?_ ?_; rotate_left; rfl)
    | refine Z.brT rfl ?_
    | refine Z.brF rfl ?_
    | (refine Z.br rfl ?_ ?_ <;> intro hb <;> (try simp only [decide_eq_true_eq, decide_eq_false_iff_not, Bool.not_eq_true', Bool.not_eq_false', Int.not_lt, Int.not_le] at hb) <;> (try (exfalso; first | omega | exact hb trivial))))
  refine Z.eff (Z.cl (gnew_z 1 _ _ _ hS) rfl ?_) rfl
  clear hS
  rintro e w ⟨gp, rfl, hS⟩
  refine ⟨_, rfl, ?_⟩
  repeat' (first
    | refine Z.pr rfl ?_
    | refine Z.eff (Z.ld hS rfl (by repeat (first | exact At.here | apply At.next)) rfl ?_) rfl
    | refine Z.eff (Z.ldR rfl (by assumption) rfl ?_) rfl
    | refine Z.eff (Z.ldE rfl (by assumption) rfl ?_) rfl
    | refine Z.sum rfl (by constructor <;> omega) ?_
    | (refine Z.eff (Z.st hS rfl (by repeat (first | exact At.here | apply At.next)) rfl rfl ?_) rfl; clear hS; intro w hS)
    | (refine Z.eff (Z.al hS ?_) rfl; clear hS; intro g w hS hge)
    | (refine Z.eff (Z.bx hS rfl ?_) rfl; clear hS; intro g w hS hge)
    | refine Z.ixn rfl rfl rfl (by omega) ?_
    | refine Z.pl (R.upto rfl rfl rfl (by omega)) ?_
    | refine Z.pl (R.sinceL rfl rfl rfl (by omega) (by omega)) ?_
    | refine Z.pl (R.since rfl rfl rfl (by omega)) ?_
    | refine Z.pl (R.span rfl rfl rfl rfl (by omega) (by omega)) ?_
    | refine Z.pl (R.whole rfl rfl) ?_
    | refine Z.pl (R.eqa rfl rfl rfl rfl) ?_
    | refine Z.pl (R.nea rfl rfl rfl rfl) ?_
    | refine Z.ix rfl rfl rfl (by omega) ?_
    | refine Z.ia rfl rfl rfl (by omega) ?_
    | refine Z.bu rfl rfl ?_
    | refine Z.pl (R.max2 rfl rfl) ?_
    | refine Z.pl (R.cap rfl rfl) ?_
    | refine Z.pl R.mf ?_
    | (refine Z.eff (Z.bs hS rfl rfl rfl ?_) rfl; clear hS; intro g w hS hge)
    | refine Z.gT rfl rfl ?_
    | refine Z.gF rfl rfl ?_
    | refine Z.gF0 rfl rfl ?_
    | (refine Z.gS rfl rfl ?_ ?_ <;> intro hb <;> (try simp only [decide_eq_true_eq, decide_eq_false_iff_not, Bool.not_eq_true', Bool.not_eq_false', Int.not_lt, Int.not_le] at hb) <;> (try (exfalso; first | omega | exact hb trivial)))
    | with_reducible refine Z.seq ?_
    | with_reducible refine Z.reg ?_
    | with_reducible refine Z.nil ?_
    | with_reducible refine Z.skip ?_
    | with_reducible refine Z.exit ?_
    | with_reducible refine Z.ret ?_
    | with_reducible refine Z.block ?_
    | with_reducible refine Z.thN ?_
    | with_reducible refine Z.thU ?_
    | with_reducible refine Z.thE ?_
    | with_reducible refine Z.thR ?_
    | with_reducible refine Z.blN ?_
    | with_reducible refine Z.blR ?_
    | with_reducible refine Z.blE ?_
    | (with_reducible refine Z.blX ?_ ?_; rotate_left; rfl)
    | refine Z.brT rfl ?_
    | refine Z.brF rfl ?_
    | (refine Z.br rfl ?_ ?_ <;> intro hb <;> (try simp only [decide_eq_true_eq, decide_eq_false_iff_not, Bool.not_eq_true', Bool.not_eq_false', Int.not_lt, Int.not_le] at hb) <;> (try (exfalso; first | omega | exact hb trivial))))
  rename Nat => gr
  replace hS : Sep r [] [GR gr ⟨1, 0, []⟩, GP gp ⟨1, 0, []⟩] _ := Sep.GR_open.2 ⟨none, 0, (Z.nilsl hS 69 5 none).sub (by repeat (first | exact Sub.rest | exact Sub.nil | exact .skip .rest | exact .skip (.skip .rest) | exact .skip (.skip (.skip .rest)) | apply Sub.keep | refine Sub.cons (by repeat (first | exact At.here | apply At.next)) ?_ | apply Sub.skip))⟩
  refine Z.eff (Z.cl (made_z l Al cap 1 _ _ _ hS hr (by omega)) rfl ?_) rfl
  clear hS
  rintro e w ⟨acts, A, c, rfl, hla, hsm, hS⟩
  refine ⟨_, rfl, ?_⟩
  repeat' (first
    | refine Z.pr rfl ?_
    | refine Z.eff (Z.ld hS rfl (by repeat (first | exact At.here | apply At.next)) rfl ?_) rfl
    | refine Z.eff (Z.ldR rfl (by assumption) rfl ?_) rfl
    | refine Z.eff (Z.ldE rfl (by assumption) rfl ?_) rfl
    | refine Z.sum rfl (by constructor <;> omega) ?_
    | (refine Z.eff (Z.st hS rfl (by repeat (first | exact At.here | apply At.next)) rfl rfl ?_) rfl; clear hS; intro w hS)
    | (refine Z.eff (Z.al hS ?_) rfl; clear hS; intro g w hS hge)
    | (refine Z.eff (Z.bx hS rfl ?_) rfl; clear hS; intro g w hS hge)
    | refine Z.ixn rfl rfl rfl (by omega) ?_
    | refine Z.pl (R.upto rfl rfl rfl (by omega)) ?_
    | refine Z.pl (R.sinceL rfl rfl rfl (by omega) (by omega)) ?_
    | refine Z.pl (R.since rfl rfl rfl (by omega)) ?_
    | refine Z.pl (R.span rfl rfl rfl rfl (by omega) (by omega)) ?_
    | refine Z.pl (R.whole rfl rfl) ?_
    | refine Z.pl (R.eqa rfl rfl rfl rfl) ?_
    | refine Z.pl (R.nea rfl rfl rfl rfl) ?_
    | refine Z.ix rfl rfl rfl (by omega) ?_
    | refine Z.ia rfl rfl rfl (by omega) ?_
    | refine Z.bu rfl rfl ?_
    | refine Z.pl (R.max2 rfl rfl) ?_
    | refine Z.pl (R.cap rfl rfl) ?_
    | refine Z.pl R.mf ?_
    | (refine Z.eff (Z.bs hS rfl rfl rfl ?_) rfl; clear hS; intro g w hS hge)
    | refine Z.gT rfl rfl ?_
    | refine Z.gF rfl rfl ?_
    | refine Z.gF0 rfl rfl ?_
    | (refine Z.gS rfl rfl ?_ ?_ <;> intro hb <;> (try simp only [decide_eq_true_eq, decide_eq_false_iff_not, Bool.not_eq_true', Bool.not_eq_false', Int.not_lt, Int.not_le] at hb) <;> (try (exfalso; first | omega | exact hb trivial)))
    | with_reducible refine Z.seq ?_
    | with_reducible refine Z.reg ?_
    | with_reducible refine Z.nil ?_
    | with_reducible refine Z.skip ?_
    | with_reducible refine Z.exit ?_
    | with_reducible refine Z.ret ?_
    | with_reducible refine Z.block ?_
    | with_reducible refine Z.thN ?_
    | with_reducible refine Z.thU ?_
    | with_reducible refine Z.thE ?_
    | with_reducible refine Z.thR ?_
    | with_reducible refine Z.blN ?_
    | with_reducible refine Z.blR ?_
    | with_reducible refine Z.blE ?_
    | (with_reducible refine Z.blX ?_ ?_; rotate_left; rfl)
    | refine Z.brT rfl ?_
    | refine Z.brF rfl ?_
    | (refine Z.br rfl ?_ ?_ <;> intro hb <;> (try simp only [decide_eq_true_eq, decide_eq_false_iff_not, Bool.not_eq_true', Bool.not_eq_false', Int.not_lt, Int.not_le] at hb) <;> (try (exfalso; first | omega | exact hb trivial))))
  refine Z.lpS [7, 8, 10, 32, 33, 34, 35, 36, 37, 38, 39, 40, 41, 42, 43, 44] (fun m w s => ∃ (q gp gr : Nat) (P R : Ga), s = [(7, .pointer (some ⟨gp, 0, none⟩)), (8, .pointer (some ⟨gr, 0, none⟩)), (32, .int .i64 q)] ∧ q ≤ acts.length ∧ Rel P R ∧ P.ws.length ≤ q ∧ R.ws.length ≤ q ∧ (∀ x, x ∈ P.ws → small x) ∧ m = acts.length - q ∧ Sep r [] [GP gp P, GR gr R, .sl 71 7 (.slice A acts.length c) (acts.map Ac.cells)] w) _ [(7, .pointer (some ⟨gp, 0, none⟩)), (8, .pointer (some ⟨gr, 0, none⟩)), (32, .int .i64 (0 : Nat))] (by repeat (first | exact trivial | refine ⟨rfl, ?_⟩)) ⟨0, gp, gr, _, _, rfl, by omega, .new 1, by simp, by simp, by simp, rfl, hS.sub (by repeat (first | exact Sub.rest | exact Sub.nil | exact .skip .rest | exact .skip (.skip .rest) | exact .skip (.skip (.skip .rest)) | apply Sub.keep | refine Sub.cons (by repeat (first | exact At.here | apply At.next)) ?_ | apply Sub.skip))⟩ ?_
  clear hS
  rintro m f0 w _ ⟨q, gp, gr, P, R, rfl, hq, hrel, hlp, hlr, hps, rfl, hS⟩
  by_cases hlt : q < acts.length
  · obtain ⟨gb, o, rfl, _, hra⟩ := (hS.slrows (.next (.next .here))).mat (by omega) hlt
    repeat' (first
      | refine Z.pr rfl ?_
      | refine Z.eff (Z.ld hS rfl (by repeat (first | exact At.here | apply At.next)) rfl ?_) rfl
      | refine Z.eff (Z.ldR rfl (by assumption) rfl ?_) rfl
      | refine Z.eff (Z.ldE rfl (by assumption) rfl ?_) rfl
      | refine Z.sum rfl (by constructor <;> omega) ?_
      | (refine Z.eff (Z.st hS rfl (by repeat (first | exact At.here | apply At.next)) rfl rfl ?_) rfl; clear hS; intro w hS)
      | (refine Z.eff (Z.al hS ?_) rfl; clear hS; intro g w hS hge)
      | (refine Z.eff (Z.bx hS rfl ?_) rfl; clear hS; intro g w hS hge)
      | refine Z.ixn rfl rfl rfl (by omega) ?_
      | refine Z.pl (R.upto rfl rfl rfl (by omega)) ?_
      | refine Z.pl (R.sinceL rfl rfl rfl (by omega) (by omega)) ?_
      | refine Z.pl (R.since rfl rfl rfl (by omega)) ?_
      | refine Z.pl (R.span rfl rfl rfl rfl (by omega) (by omega)) ?_
      | refine Z.pl (R.whole rfl rfl) ?_
      | refine Z.pl (R.eqa rfl rfl rfl rfl) ?_
      | refine Z.pl (R.nea rfl rfl rfl rfl) ?_
      | refine Z.ix rfl rfl rfl (by omega) ?_
      | refine Z.ia rfl rfl rfl (by omega) ?_
      | refine Z.bu rfl rfl ?_
      | refine Z.pl (R.max2 rfl rfl) ?_
      | refine Z.pl (R.cap rfl rfl) ?_
      | refine Z.pl R.mf ?_
      | (refine Z.eff (Z.bs hS rfl rfl rfl ?_) rfl; clear hS; intro g w hS hge)
      | refine Z.gT rfl rfl ?_
      | refine Z.gF rfl rfl ?_
      | refine Z.gF0 rfl rfl ?_
      | (refine Z.gS rfl rfl ?_ ?_ <;> intro hb <;> (try simp only [decide_eq_true_eq, decide_eq_false_iff_not, Bool.not_eq_true', Bool.not_eq_false', Int.not_lt, Int.not_le] at hb) <;> (try (exfalso; first | omega | exact hb trivial)))
      | with_reducible refine Z.seq ?_
      | with_reducible refine Z.reg ?_
      | with_reducible refine Z.nil ?_
      | with_reducible refine Z.skip ?_
      | with_reducible refine Z.exit ?_
      | with_reducible refine Z.ret ?_
      | with_reducible refine Z.block ?_
      | with_reducible refine Z.thN ?_
      | with_reducible refine Z.thU ?_
      | with_reducible refine Z.thE ?_
      | with_reducible refine Z.thR ?_
      | with_reducible refine Z.blN ?_
      | with_reducible refine Z.blR ?_
      | with_reducible refine Z.blE ?_
      | (with_reducible refine Z.blX ?_ ?_; rotate_left; rfl)
      | refine Z.brT rfl ?_
      | refine Z.brF rfl ?_
      | (refine Z.br rfl ?_ ?_ <;> intro hb <;> (try simp only [decide_eq_true_eq, decide_eq_false_iff_not, Bool.not_eq_true', Bool.not_eq_false', Int.not_lt, Int.not_le] at hb) <;> (try (exfalso; first | omega | exact hb trivial))))
    replace hS := hS.focus (R := GR gr _) (by repeat (first | exact At.here | apply At.next))
    replace hS := hS.focus (R := GP gp _) (by repeat (first | exact At.here | apply At.next))
    refine Z.eff (Z.cl (do_z gp gr P R acts[q] _ _ _ hS hrel (by omega) (by omega)) rfl ?_) rfl
    clear hS
    rintro e w ⟨gp', gr', P', R', rfl, hrel', hd, hl1, hl2, hS⟩
    refine ⟨_, rfl, ?_⟩
    repeat' (first
      | refine Z.pr rfl ?_
      | refine Z.eff (Z.ld hS rfl (by repeat (first | exact At.here | apply At.next)) rfl ?_) rfl
      | refine Z.eff (Z.ldR rfl (by assumption) rfl ?_) rfl
      | refine Z.eff (Z.ldE rfl (by assumption) rfl ?_) rfl
      | refine Z.sum rfl (by constructor <;> omega) ?_
      | (refine Z.eff (Z.st hS rfl (by repeat (first | exact At.here | apply At.next)) rfl rfl ?_) rfl; clear hS; intro w hS)
      | (refine Z.eff (Z.al hS ?_) rfl; clear hS; intro g w hS hge)
      | (refine Z.eff (Z.bx hS rfl ?_) rfl; clear hS; intro g w hS hge)
      | refine Z.ixn rfl rfl rfl (by omega) ?_
      | refine Z.pl (R.upto rfl rfl rfl (by omega)) ?_
      | refine Z.pl (R.sinceL rfl rfl rfl (by omega) (by omega)) ?_
      | refine Z.pl (R.since rfl rfl rfl (by omega)) ?_
      | refine Z.pl (R.span rfl rfl rfl rfl (by omega) (by omega)) ?_
      | refine Z.pl (R.whole rfl rfl) ?_
      | refine Z.pl (R.eqa rfl rfl rfl rfl) ?_
      | refine Z.pl (R.nea rfl rfl rfl rfl) ?_
      | refine Z.ix rfl rfl rfl (by omega) ?_
      | refine Z.ia rfl rfl rfl (by omega) ?_
      | refine Z.bu rfl rfl ?_
      | refine Z.pl (R.max2 rfl rfl) ?_
      | refine Z.pl (R.cap rfl rfl) ?_
      | refine Z.pl R.mf ?_
      | (refine Z.eff (Z.bs hS rfl rfl rfl ?_) rfl; clear hS; intro g w hS hge)
      | refine Z.gT rfl rfl ?_
      | refine Z.gF rfl rfl ?_
      | refine Z.gF0 rfl rfl ?_
      | (refine Z.gS rfl rfl ?_ ?_ <;> intro hb <;> (try simp only [decide_eq_true_eq, decide_eq_false_iff_not, Bool.not_eq_true', Bool.not_eq_false', Int.not_lt, Int.not_le] at hb) <;> (try (exfalso; first | omega | exact hb trivial)))
      | with_reducible refine Z.seq ?_
      | with_reducible refine Z.reg ?_
      | with_reducible refine Z.nil ?_
      | with_reducible refine Z.skip ?_
      | with_reducible refine Z.exit ?_
      | with_reducible refine Z.ret ?_
      | with_reducible refine Z.block ?_
      | with_reducible refine Z.thN ?_
      | with_reducible refine Z.thU ?_
      | with_reducible refine Z.thE ?_
      | with_reducible refine Z.thR ?_
      | with_reducible refine Z.blN ?_
      | with_reducible refine Z.blR ?_
      | with_reducible refine Z.blE ?_
      | (with_reducible refine Z.blX ?_ ?_; rotate_left; rfl)
      | refine Z.brT rfl ?_
      | refine Z.brF rfl ?_
      | (refine Z.br rfl ?_ ?_ <;> intro hb <;> (try simp only [decide_eq_true_eq, decide_eq_false_iff_not, Bool.not_eq_true', Bool.not_eq_false', Int.not_lt, Int.not_le] at hb) <;> (try (exfalso; first | omega | exact hb trivial))))
    refine Z.againS (acts.length - (q + 1)) [(7, .pointer (some ⟨gp', 0, none⟩)), (8, .pointer (some ⟨gr', 0, none⟩)), (32, .int .i64 (q + 1 : Nat))] (by omega) (by repeat (first | with_reducible exact Same.mix | ((with_reducible refine Same.upd ?_ ?_); · rfl) | ((with_reducible refine Same.cons ?_ ?_); · rfl) | with_reducible exact Same.refl | with_reducible refine Same.nil ?_ | ((with_reducible refine Same.mixS ?_ ?_); · rfl))) (by repeat (first | exact trivial | refine ⟨rfl, ?_⟩)) ?_
    refine ⟨q + 1, gp', gr', P', R', rfl, by omega, hrel', by omega, by omega, fun x hx => ?_, rfl, hS.sub (by repeat (first | exact Sub.rest | exact Sub.nil | exact .skip .rest | exact .skip (.skip .rest) | exact .skip (.skip (.skip .rest)) | apply Sub.keep | refine Sub.cons (by repeat (first | exact At.here | apply At.next)) ?_ | apply Sub.skip))⟩
    rw [hd] at hx
    rcases doP_mem hx with hx | rfl
    · exact hps x hx
    · exact hsm _ (by simp)
  · obtain ⟨u1, u2, u3, u4⟩ := untl_all P.ws v t hrel.sorted
    have hep : ∀ x, x ∈ P.ws → 1 ≤ x.epoch := fun x hx => (hps x hx).1
    have hu : untl P.ws v t ≤ 100 := by
      rcases u4 with h | ⟨x, hx, h⟩
      · omega
      · have := (hps x hx).2.2.2.2.2.2.2
        omega
    repeat' (first
      | refine Z.pr rfl ?_
      | refine Z.eff (Z.ld hS rfl (by repeat (first | exact At.here | apply At.next)) rfl ?_) rfl
      | refine Z.eff (Z.ldR rfl (by assumption) rfl ?_) rfl
      | refine Z.eff (Z.ldE rfl (by assumption) rfl ?_) rfl
      | refine Z.sum rfl (by constructor <;> omega) ?_
      | (refine Z.eff (Z.st hS rfl (by repeat (first | exact At.here | apply At.next)) rfl rfl ?_) rfl; clear hS; intro w hS)
      | (refine Z.eff (Z.al hS ?_) rfl; clear hS; intro g w hS hge)
      | (refine Z.eff (Z.bx hS rfl ?_) rfl; clear hS; intro g w hS hge)
      | refine Z.ixn rfl rfl rfl (by omega) ?_
      | refine Z.pl (R.upto rfl rfl rfl (by omega)) ?_
      | refine Z.pl (R.sinceL rfl rfl rfl (by omega) (by omega)) ?_
      | refine Z.pl (R.since rfl rfl rfl (by omega)) ?_
      | refine Z.pl (R.span rfl rfl rfl rfl (by omega) (by omega)) ?_
      | refine Z.pl (R.whole rfl rfl) ?_
      | refine Z.pl (R.eqa rfl rfl rfl rfl) ?_
      | refine Z.pl (R.nea rfl rfl rfl rfl) ?_
      | refine Z.ix rfl rfl rfl (by omega) ?_
      | refine Z.ia rfl rfl rfl (by omega) ?_
      | refine Z.bu rfl rfl ?_
      | refine Z.pl (R.max2 rfl rfl) ?_
      | refine Z.pl (R.cap rfl rfl) ?_
      | refine Z.pl R.mf ?_
      | (refine Z.eff (Z.bs hS rfl rfl rfl ?_) rfl; clear hS; intro g w hS hge)
      | refine Z.gT rfl rfl ?_
      | refine Z.gF rfl rfl ?_
      | refine Z.gF0 rfl rfl ?_
      | (refine Z.gS rfl rfl ?_ ?_ <;> intro hb <;> (try simp only [decide_eq_true_eq, decide_eq_false_iff_not, Bool.not_eq_true', Bool.not_eq_false', Int.not_lt, Int.not_le] at hb) <;> (try (exfalso; first | omega | exact hb trivial)))
      | with_reducible refine Z.seq ?_
      | with_reducible refine Z.reg ?_
      | with_reducible refine Z.nil ?_
      | with_reducible refine Z.skip ?_
      | with_reducible refine Z.exit ?_
      | with_reducible refine Z.ret ?_
      | with_reducible refine Z.block ?_
      | with_reducible refine Z.thN ?_
      | with_reducible refine Z.thU ?_
      | with_reducible refine Z.thE ?_
      | with_reducible refine Z.thR ?_
      | with_reducible refine Z.blN ?_
      | with_reducible refine Z.blR ?_
      | with_reducible refine Z.blE ?_
      | (with_reducible refine Z.blX ?_ ?_; rotate_left; rfl)
      | refine Z.brT rfl ?_
      | refine Z.brF rfl ?_
      | (refine Z.br rfl ?_ ?_ <;> intro hb <;> (try simp only [decide_eq_true_eq, decide_eq_false_iff_not, Bool.not_eq_true', Bool.not_eq_false', Int.not_lt, Int.not_le] at hb) <;> (try (exfalso; first | omega | exact hb trivial))))
    refine Z.eff (Z.cl (guntil_z gp P v t _ _ _ hS (by omega)) rfl ?_) rfl
    clear hS
    rintro e w ⟨rfl, hS⟩
    refine ⟨_, rfl, ?_⟩
    generalize untl P.ws v t = u at *
    repeat' (first
      | refine Z.pr rfl ?_
      | refine Z.eff (Z.ld hS rfl (by repeat (first | exact At.here | apply At.next)) rfl ?_) rfl
      | refine Z.eff (Z.ldR rfl (by assumption) rfl ?_) rfl
      | refine Z.eff (Z.ldE rfl (by assumption) rfl ?_) rfl
      | refine Z.sum rfl (by constructor <;> omega) ?_
      | (refine Z.eff (Z.st hS rfl (by repeat (first | exact At.here | apply At.next)) rfl rfl ?_) rfl; clear hS; intro w hS)
      | (refine Z.eff (Z.al hS ?_) rfl; clear hS; intro g w hS hge)
      | (refine Z.eff (Z.bx hS rfl ?_) rfl; clear hS; intro g w hS hge)
      | refine Z.ixn rfl rfl rfl (by omega) ?_
      | refine Z.pl (R.upto rfl rfl rfl (by omega)) ?_
      | refine Z.pl (R.sinceL rfl rfl rfl (by omega) (by omega)) ?_
      | refine Z.pl (R.since rfl rfl rfl (by omega)) ?_
      | refine Z.pl (R.span rfl rfl rfl rfl (by omega) (by omega)) ?_
      | refine Z.pl (R.whole rfl rfl) ?_
      | refine Z.pl (R.eqa rfl rfl rfl rfl) ?_
      | refine Z.pl (R.nea rfl rfl rfl rfl) ?_
      | refine Z.ix rfl rfl rfl (by omega) ?_
      | refine Z.ia rfl rfl rfl (by omega) ?_
      | refine Z.bu rfl rfl ?_
      | refine Z.pl (R.max2 rfl rfl) ?_
      | refine Z.pl (R.cap rfl rfl) ?_
      | refine Z.pl R.mf ?_
      | (refine Z.eff (Z.bs hS rfl rfl rfl ?_) rfl; clear hS; intro g w hS hge)
      | refine Z.gT rfl rfl ?_
      | refine Z.gF rfl rfl ?_
      | refine Z.gF0 rfl rfl ?_
      | (refine Z.gS rfl rfl ?_ ?_ <;> intro hb <;> (try simp only [decide_eq_true_eq, decide_eq_false_iff_not, Bool.not_eq_true', Bool.not_eq_false', Int.not_lt, Int.not_le] at hb) <;> (try (exfalso; first | omega | exact hb trivial)))
      | with_reducible refine Z.seq ?_
      | with_reducible refine Z.reg ?_
      | with_reducible refine Z.nil ?_
      | with_reducible refine Z.skip ?_
      | with_reducible refine Z.exit ?_
      | with_reducible refine Z.ret ?_
      | with_reducible refine Z.block ?_
      | with_reducible refine Z.thN ?_
      | with_reducible refine Z.thU ?_
      | with_reducible refine Z.thE ?_
      | with_reducible refine Z.thR ?_
      | with_reducible refine Z.blN ?_
      | with_reducible refine Z.blR ?_
      | with_reducible refine Z.blE ?_
      | (with_reducible refine Z.blX ?_ ?_; rotate_left; rfl)
      | refine Z.brT rfl ?_
      | refine Z.brF rfl ?_
      | (refine Z.br rfl ?_ ?_ <;> intro hb <;> (try simp only [decide_eq_true_eq, decide_eq_false_iff_not, Bool.not_eq_true', Bool.not_eq_false', Int.not_lt, Int.not_le] at hb) <;> (try (exfalso; first | omega | exact hb trivial))))
    refine Z.lpS [6, 12, 13, 14, 57, 58, 59, 60, 61, 62, 63, 64, 65, 66, 67, 68, 69, 70] (fun m w s => ∃ s1 : Int, s = [(12, .int .i64 s1)] ∧ t ≤ s1 ∧ s1 ≤ u ∧ m = (u - s1).toNat ∧ Sep r [] [GP gp P, GR gr R, .sl 71 7 (.slice A acts.length c) (acts.map Ac.cells)] w) _ [(12, .int .i64 t)] (by repeat (first | exact trivial | refine ⟨rfl, ?_⟩)) ⟨t, rfl, by omega, by omega, rfl, hS⟩ ?_
    clear hS
    rintro m f1 w _ ⟨s1, rfl, hs1, hs2, rfl, hS⟩
    by_cases hlt2 : s1 < u
    · have hdec : decide (0 < accs P.ws v s1 0) = true := decide_eq_true ((accs_pos hep).2 (u2 s1 hs1 hlt2))
      repeat' (first
        | refine Z.pr rfl ?_
        | refine Z.eff (Z.ld hS rfl (by repeat (first | exact At.here | apply At.next)) rfl ?_) rfl
        | refine Z.eff (Z.ldR rfl (by assumption) rfl ?_) rfl
        | refine Z.eff (Z.ldE rfl (by assumption) rfl ?_) rfl
        | refine Z.sum rfl (by constructor <;> omega) ?_
        | (refine Z.eff (Z.st hS rfl (by repeat (first | exact At.here | apply At.next)) rfl rfl ?_) rfl; clear hS; intro w hS)
        | (refine Z.eff (Z.al hS ?_) rfl; clear hS; intro g w hS hge)
        | (refine Z.eff (Z.bx hS rfl ?_) rfl; clear hS; intro g w hS hge)
        | refine Z.ixn rfl rfl rfl (by omega) ?_
        | refine Z.pl (R.upto rfl rfl rfl (by omega)) ?_
        | refine Z.pl (R.sinceL rfl rfl rfl (by omega) (by omega)) ?_
        | refine Z.pl (R.since rfl rfl rfl (by omega)) ?_
        | refine Z.pl (R.span rfl rfl rfl rfl (by omega) (by omega)) ?_
        | refine Z.pl (R.whole rfl rfl) ?_
        | refine Z.pl (R.eqa rfl rfl rfl rfl) ?_
        | refine Z.pl (R.nea rfl rfl rfl rfl) ?_
        | refine Z.ix rfl rfl rfl (by omega) ?_
        | refine Z.ia rfl rfl rfl (by omega) ?_
        | refine Z.bu rfl rfl ?_
        | refine Z.pl (R.max2 rfl rfl) ?_
        | refine Z.pl (R.cap rfl rfl) ?_
        | refine Z.pl R.mf ?_
        | (refine Z.eff (Z.bs hS rfl rfl rfl ?_) rfl; clear hS; intro g w hS hge)
        | refine Z.gT rfl rfl ?_
        | refine Z.gF rfl rfl ?_
        | refine Z.gF0 rfl rfl ?_
        | (refine Z.gS rfl rfl ?_ ?_ <;> intro hb <;> (try simp only [decide_eq_true_eq, decide_eq_false_iff_not, Bool.not_eq_true', Bool.not_eq_false', Int.not_lt, Int.not_le] at hb) <;> (try (exfalso; first | omega | exact hb trivial)))
        | with_reducible refine Z.seq ?_
        | with_reducible refine Z.reg ?_
        | with_reducible refine Z.nil ?_
        | with_reducible refine Z.skip ?_
        | with_reducible refine Z.exit ?_
        | with_reducible refine Z.ret ?_
        | with_reducible refine Z.block ?_
        | with_reducible refine Z.thN ?_
        | with_reducible refine Z.thU ?_
        | with_reducible refine Z.thE ?_
        | with_reducible refine Z.thR ?_
        | with_reducible refine Z.blN ?_
        | with_reducible refine Z.blR ?_
        | with_reducible refine Z.blE ?_
        | (with_reducible refine Z.blX ?_ ?_; rotate_left; rfl)
        | refine Z.brT rfl ?_
        | refine Z.brF rfl ?_
        | (refine Z.br rfl ?_ ?_ <;> intro hb <;> (try simp only [decide_eq_true_eq, decide_eq_false_iff_not, Bool.not_eq_true', Bool.not_eq_false', Int.not_lt, Int.not_le] at hb) <;> (try (exfalso; first | omega | exact hb trivial))))
      refine Z.eff (Z.cl (gaccepts_z gp P v s1 _ _ _ hS (by omega)) rfl ?_) rfl
      clear hS
      rintro e w ⟨rfl, hS⟩
      refine ⟨_, rfl, ?_⟩
      rw [hdec]
      repeat' (first
        | refine Z.pr rfl ?_
        | refine Z.eff (Z.ld hS rfl (by repeat (first | exact At.here | apply At.next)) rfl ?_) rfl
        | refine Z.eff (Z.ldR rfl (by assumption) rfl ?_) rfl
        | refine Z.eff (Z.ldE rfl (by assumption) rfl ?_) rfl
        | refine Z.sum rfl (by constructor <;> omega) ?_
        | (refine Z.eff (Z.st hS rfl (by repeat (first | exact At.here | apply At.next)) rfl rfl ?_) rfl; clear hS; intro w hS)
        | (refine Z.eff (Z.al hS ?_) rfl; clear hS; intro g w hS hge)
        | (refine Z.eff (Z.bx hS rfl ?_) rfl; clear hS; intro g w hS hge)
        | refine Z.ixn rfl rfl rfl (by omega) ?_
        | refine Z.pl (R.upto rfl rfl rfl (by omega)) ?_
        | refine Z.pl (R.sinceL rfl rfl rfl (by omega) (by omega)) ?_
        | refine Z.pl (R.since rfl rfl rfl (by omega)) ?_
        | refine Z.pl (R.span rfl rfl rfl rfl (by omega) (by omega)) ?_
        | refine Z.pl (R.whole rfl rfl) ?_
        | refine Z.pl (R.eqa rfl rfl rfl rfl) ?_
        | refine Z.pl (R.nea rfl rfl rfl rfl) ?_
        | refine Z.ix rfl rfl rfl (by omega) ?_
        | refine Z.ia rfl rfl rfl (by omega) ?_
        | refine Z.bu rfl rfl ?_
        | refine Z.pl (R.max2 rfl rfl) ?_
        | refine Z.pl (R.cap rfl rfl) ?_
        | refine Z.pl R.mf ?_
        | (refine Z.eff (Z.bs hS rfl rfl rfl ?_) rfl; clear hS; intro g w hS hge)
        | refine Z.gT rfl rfl ?_
        | refine Z.gF rfl rfl ?_
        | refine Z.gF0 rfl rfl ?_
        | (refine Z.gS rfl rfl ?_ ?_ <;> intro hb <;> (try simp only [decide_eq_true_eq, decide_eq_false_iff_not, Bool.not_eq_true', Bool.not_eq_false', Int.not_lt, Int.not_le] at hb) <;> (try (exfalso; first | omega | exact hb trivial)))
        | with_reducible refine Z.seq ?_
        | with_reducible refine Z.reg ?_
        | with_reducible refine Z.nil ?_
        | with_reducible refine Z.skip ?_
        | with_reducible refine Z.exit ?_
        | with_reducible refine Z.ret ?_
        | with_reducible refine Z.block ?_
        | with_reducible refine Z.thN ?_
        | with_reducible refine Z.thU ?_
        | with_reducible refine Z.thE ?_
        | with_reducible refine Z.thR ?_
        | with_reducible refine Z.blN ?_
        | with_reducible refine Z.blR ?_
        | with_reducible refine Z.blE ?_
        | (with_reducible refine Z.blX ?_ ?_; rotate_left; rfl)
        | refine Z.brT rfl ?_
        | refine Z.brF rfl ?_
        | (refine Z.br rfl ?_ ?_ <;> intro hb <;> (try simp only [decide_eq_true_eq, decide_eq_false_iff_not, Bool.not_eq_true', Bool.not_eq_false', Int.not_lt, Int.not_le] at hb) <;> (try (exfalso; first | omega | exact hb trivial))))
      refine Z.againS ((u - (s1 + 1)).toNat) [(12, .int .i64 (s1 + 1))] (by omega) (by repeat (first | with_reducible exact Same.mix | ((with_reducible refine Same.upd ?_ ?_); · rfl) | ((with_reducible refine Same.cons ?_ ?_); · rfl) | with_reducible exact Same.refl | with_reducible refine Same.nil ?_ | ((with_reducible refine Same.mixS ?_ ?_); · rfl))) (by repeat (first | exact trivial | refine ⟨rfl, ?_⟩)) ?_
      exact ⟨s1 + 1, rfl, by omega, by omega, rfl, hS⟩
    · have hdec : decide (0 < accs P.ws v u 0) = false := decide_eq_false fun h => by
        obtain ⟨x, hx, hh⟩ := (accs_pos hep).1 h
        exact u3 x hx hh
      repeat' (first
        | refine Z.pr rfl ?_
        | refine Z.eff (Z.ld hS rfl (by repeat (first | exact At.here | apply At.next)) rfl ?_) rfl
        | refine Z.eff (Z.ldR rfl (by assumption) rfl ?_) rfl
        | refine Z.eff (Z.ldE rfl (by assumption) rfl ?_) rfl
        | refine Z.sum rfl (by constructor <;> omega) ?_
        | (refine Z.eff (Z.st hS rfl (by repeat (first | exact At.here | apply At.next)) rfl rfl ?_) rfl; clear hS; intro w hS)
        | (refine Z.eff (Z.al hS ?_) rfl; clear hS; intro g w hS hge)
        | (refine Z.eff (Z.bx hS rfl ?_) rfl; clear hS; intro g w hS hge)
        | refine Z.ixn rfl rfl rfl (by omega) ?_
        | refine Z.pl (R.upto rfl rfl rfl (by omega)) ?_
        | refine Z.pl (R.sinceL rfl rfl rfl (by omega) (by omega)) ?_
        | refine Z.pl (R.since rfl rfl rfl (by omega)) ?_
        | refine Z.pl (R.span rfl rfl rfl rfl (by omega) (by omega)) ?_
        | refine Z.pl (R.whole rfl rfl) ?_
        | refine Z.pl (R.eqa rfl rfl rfl rfl) ?_
        | refine Z.pl (R.nea rfl rfl rfl rfl) ?_
        | refine Z.ix rfl rfl rfl (by omega) ?_
        | refine Z.ia rfl rfl rfl (by omega) ?_
        | refine Z.bu rfl rfl ?_
        | refine Z.pl (R.max2 rfl rfl) ?_
        | refine Z.pl (R.cap rfl rfl) ?_
        | refine Z.pl R.mf ?_
        | (refine Z.eff (Z.bs hS rfl rfl rfl ?_) rfl; clear hS; intro g w hS hge)
        | refine Z.gT rfl rfl ?_
        | refine Z.gF rfl rfl ?_
        | refine Z.gF0 rfl rfl ?_
        | (refine Z.gS rfl rfl ?_ ?_ <;> intro hb <;> (try simp only [decide_eq_true_eq, decide_eq_false_iff_not, Bool.not_eq_true', Bool.not_eq_false', Int.not_lt, Int.not_le] at hb) <;> (try (exfalso; first | omega | exact hb trivial)))
        | with_reducible refine Z.seq ?_
        | with_reducible refine Z.reg ?_
        | with_reducible refine Z.nil ?_
        | with_reducible refine Z.skip ?_
        | with_reducible refine Z.exit ?_
        | with_reducible refine Z.ret ?_
        | with_reducible refine Z.block ?_
        | with_reducible refine Z.thN ?_
        | with_reducible refine Z.thU ?_
        | with_reducible refine Z.thE ?_
        | with_reducible refine Z.thR ?_
        | with_reducible refine Z.blN ?_
        | with_reducible refine Z.blR ?_
        | with_reducible refine Z.blE ?_
        | (with_reducible refine Z.blX ?_ ?_; rotate_left; rfl)
        | refine Z.brT rfl ?_
        | refine Z.brF rfl ?_
        | (refine Z.br rfl ?_ ?_ <;> intro hb <;> (try simp only [decide_eq_true_eq, decide_eq_false_iff_not, Bool.not_eq_true', Bool.not_eq_false', Int.not_lt, Int.not_le] at hb) <;> (try (exfalso; first | omega | exact hb trivial))))
      refine Z.eff (Z.cl (gaccepts_z gp P v u _ _ _ hS (by omega)) rfl ?_) rfl
      clear hS
      rintro e w ⟨rfl, hS⟩
      refine ⟨_, rfl, ?_⟩
      rw [hdec]
      repeat' (first
        | refine Z.pr rfl ?_
        | refine Z.eff (Z.ld hS rfl (by repeat (first | exact At.here | apply At.next)) rfl ?_) rfl
        | refine Z.eff (Z.ldR rfl (by assumption) rfl ?_) rfl
        | refine Z.eff (Z.ldE rfl (by assumption) rfl ?_) rfl
        | refine Z.sum rfl (by constructor <;> omega) ?_
        | (refine Z.eff (Z.st hS rfl (by repeat (first | exact At.here | apply At.next)) rfl rfl ?_) rfl; clear hS; intro w hS)
        | (refine Z.eff (Z.al hS ?_) rfl; clear hS; intro g w hS hge)
        | (refine Z.eff (Z.bx hS rfl ?_) rfl; clear hS; intro g w hS hge)
        | refine Z.ixn rfl rfl rfl (by omega) ?_
        | refine Z.pl (R.upto rfl rfl rfl (by omega)) ?_
        | refine Z.pl (R.sinceL rfl rfl rfl (by omega) (by omega)) ?_
        | refine Z.pl (R.since rfl rfl rfl (by omega)) ?_
        | refine Z.pl (R.span rfl rfl rfl rfl (by omega) (by omega)) ?_
        | refine Z.pl (R.whole rfl rfl) ?_
        | refine Z.pl (R.eqa rfl rfl rfl rfl) ?_
        | refine Z.pl (R.nea rfl rfl rfl rfl) ?_
        | refine Z.ix rfl rfl rfl (by omega) ?_
        | refine Z.ia rfl rfl rfl (by omega) ?_
        | refine Z.bu rfl rfl ?_
        | refine Z.pl (R.max2 rfl rfl) ?_
        | refine Z.pl (R.cap rfl rfl) ?_
        | refine Z.pl R.mf ?_
        | (refine Z.eff (Z.bs hS rfl rfl rfl ?_) rfl; clear hS; intro g w hS hge)
        | refine Z.gT rfl rfl ?_
        | refine Z.gF rfl rfl ?_
        | refine Z.gF0 rfl rfl ?_
        | (refine Z.gS rfl rfl ?_ ?_ <;> intro hb <;> (try simp only [decide_eq_true_eq, decide_eq_false_iff_not, Bool.not_eq_true', Bool.not_eq_false', Int.not_lt, Int.not_le] at hb) <;> (try (exfalso; first | omega | exact hb trivial)))
        | with_reducible refine Z.seq ?_
        | with_reducible refine Z.reg ?_
        | with_reducible refine Z.nil ?_
        | with_reducible refine Z.skip ?_
        | with_reducible refine Z.exit ?_
        | with_reducible refine Z.ret ?_
        | with_reducible refine Z.block ?_
        | with_reducible refine Z.thN ?_
        | with_reducible refine Z.thU ?_
        | with_reducible refine Z.thE ?_
        | with_reducible refine Z.thR ?_
        | with_reducible refine Z.blN ?_
        | with_reducible refine Z.blR ?_
        | with_reducible refine Z.blE ?_
        | (with_reducible refine Z.blX ?_ ?_; rotate_left; rfl)
        | refine Z.brT rfl ?_
        | refine Z.brF rfl ?_
        | (refine Z.br rfl ?_ ?_ <;> intro hb <;> (try simp only [decide_eq_true_eq, decide_eq_false_iff_not, Bool.not_eq_true', Bool.not_eq_false', Int.not_lt, Int.not_le] at hb) <;> (try (exfalso; first | omega | exact hb trivial))))
      first | refine Z.done hS Try.results9 (Z.RV.tmp rfl Z.RV.nil) ?_ | refine Z.doneN hS Try.results9 (Z.RV.tmp rfl Z.RV.nil) ?_
      exact ⟨rfl, hS.chg⟩
set_option maxRecDepth 100000 in
theorem gateScans_lifted (os : Os) (started : os.Started) (H : Type) (enc : TypeId × Value → H) :
    ReturnsInHanded {} Try.checked os 9 .any (Rows.gateScansSpec.pre6 enc Try.prog Try.f9 Rows.gateScansRow.domain false) (Rows.gateScansSpec.post enc Try.prog Try.f9 false Rows.gateScansRow.fresh Rows.gateScansRow.handsOn Rows.gateScansRow.again) := by
  refine returnsInHanded_of_change (C := Try.checked) Try.own started (by kernel_rfl) Try.func9
    (ChangeSpec.witness6 (enc := enc) (C := Try.checked) false ⟨#[], #[.slice none 0 0, .int .i64 0, .int .i64 0], []⟩ 8 (by kernel_rfl) (by kernel_rfl) (by kernel_rfl) (by kernel_rfl)) ?_
  intro W base args ds gs before hval0 hW _ _
  have hval : ∀ (j : Nat) t v, Try.f9.params[j]? = some t → args[j]? = some v → Value.okWide Try.prog W .any base t v := hval0
  have hW0 := hW
  obtain ⟨p, q, hA0, hV, hpq, _, _⟩ := hW
  obtain ⟨la⟩ := args
  have hA : DataW.TrodAll enc Try.prog W 0 (fun _ => true) true [22, 3, 3] la ds p := by have := hA0; rw [Try.params9] at this; exact this
  rw [Try.params9] at hval
  obtain ⟨v0, la0, d0, ds0, p0, q0, rfl, rfl, rfl, h0, hA⟩ := trodAll_cons hA
  obtain ⟨v1, la1, d1, ds1, p1, q1, rfl, rfl, rfl, h1, hA⟩ := trodAll_cons hA
  obtain ⟨v2, la2, d2, ds2, p2, q2, rfl, rfl, rfl, h2, hA⟩ := trodAll_cons hA
  obtain ⟨rfl, rfl, rfl⟩ := trodAll_nil hA
  obtain ⟨l0, A0, cap0, rfl, hr0⟩ := arg_ints (hval 0 _ _ rfl rfl) h0
  obtain ⟨z1, rfl, hr1⟩ := arg_int (hval 1 _ _ rfl rfl) h1
  obtain ⟨z2, rfl, hr2⟩ := arg_int (hval 2 _ _ rfl rfl) h2
  have fin : Calls Try.prog 9 _ W fun e W' => e = .returned (.bool true) ∧ Chg [] W W' := scans_z l0 A0 cap0 z1 z2 W hr0 hr1 hr2
  refine fin.mono fun e W' ⟨he, hc⟩ => ⟨_, he, ?_⟩
  exact law_post Try.laidOut (by rw [Try.params9]; intro t ht; simp only [List.mem_cons, List.not_mem_nil, or_false] at ht; rcases ht with rfl | rfl | rfl <;> exact ⟨by kernel_rfl, of_decide_eq_true (by kernel_rfl)⟩) rfl rfl Try.underlying4 rfl hW0 hc.below
theorem gateScans_holds : Rows.GateScansSaid :=
  OpenClaim.holds_of_wide 9 Try.f9 rfl rfl rfl rfl rfl rfl rfl ⟨rfl, rfl, rfl, rfl, rfl⟩ rfl rfl rfl rfl rfl (by kernel_rfl) Try.func9 (by kernel_rfl)
    (of_decide_eq_true (by kernel_rfl)) (by unfold Func.isWrapper; rw [if_neg (of_decide_eq_false (by kernel_rfl))]; exact ⟨rfl, rfl⟩)
    (fun os started H enc _ => gateScans_lifted os started H enc)
end Go.Proofs.Ytppbjlakbmgfdaa
