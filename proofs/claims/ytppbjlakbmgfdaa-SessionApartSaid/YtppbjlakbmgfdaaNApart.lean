/-
  SessionApart: for every input the call returns true, and the arguments read afterwards as they read before.
-/
import Derived.Test.YtppbjlakbmgfdaaNLists
namespace Go.Proofs.Ytppbjlakbmgfdaa
open Go.RowKit Go.ChangeShapes Go.WideShapes Go.ChangeAt
set_option linter.unusedSimpArgs false
set_option linter.unusedVariables false

theorem head_of {w : World} {g T : Nat} {cs l : List Value} (hb : Blk w g T cs.toArray) (h : cs.take l.length = l) : w.rangeAt g 0 l := range_blk hb fun j u hu => by
  rw [← h, List.getElem?_take] at hu
  split at hu
  · simpa using hu
  · cases hu
def Ch.head (x : Ch) : List Value := [.int .i64 x.epoch, .int .i64 x.seq, .int .i64 x.kind, .int .i64 x.client]
def Ch.nth (x : Ch) (k : Int) : Ch := ⟨x.epoch, x.seq, x.kind, x.client, k, x.item, x.key, x.value⟩

set_option maxHeartbeats 4000000 in
theorem apart_z (l : List Int) (A : Option Addr) (cap : Nat) (x y : Ch) (r : World) (hr : Rd r 1 A l.length (l.map (Value.int .i64))) :
    Calls Try.prog 5 #[.slice A l.length cap, x.val, y.val] r fun e w' => e = .returned (.bool true) ∧ Chg [] r w' := by
  have hS := Sep.root r
  have hlen := hist_len l
  have hfold := hist_folds l
  refine Z.enter Try.func5 Try.ntmps5 rfl rfl ?_
  repeat' (first
    | refine Z.pr rfl ?_
    | refine Z.eff (Z.ld hS rfl (by repeat (first | exact At.here | apply At.next)) rfl ?_) rfl
    | refine Z.eff (Z.ldR rfl (by assumption) rfl ?_) rfl
    | refine Z.eff (Z.ldE rfl (by assumption) rfl ?_) rfl
    | refine Z.sum rfl (by constructor <;> omega) ?_
    | (refine Z.eff (Z.st hS rfl (by repeat (first | exact At.here | apply At.next)) rfl rfl ?_) rfl; clear hS; intro w hS)
    | (refine Z.eff (Z.al hS ?_) rfl; clear hS; intro g w hS hge)
    | (refine Z.eff (Z.bx hS rfl ?_) rfl; clear hS; intro g w hS hge)
    | refine Z.ixn rfl rfl rfl (by omega) ?_
    | refine Z.pl (R.upto rfl rfl rfl (by omega)) ?_
    | refine Z.pl (R.since rfl rfl rfl (by omega)) ?_
    | refine Z.pl (R.span rfl rfl rfl rfl (by omega) (by omega)) ?_
    | refine Z.pl (R.whole rfl rfl) ?_
    | refine Z.pl (R.eqa rfl rfl rfl rfl) ?_
    | refine Z.pl (R.nea rfl rfl rfl rfl) ?_
    | refine Z.ix rfl rfl rfl (by omega) ?_
    | refine Z.ia rfl rfl rfl (by omega) ?_
    | refine Z.bu rfl rfl ?_
    | (refine Z.eff (Z.bs hS rfl rfl rfl ?_) rfl; clear hS; intro g w hS hge)
    | refine Z.gT rfl rfl ?_
    | refine Z.gF rfl rfl ?_
    | refine Z.gF0 rfl rfl ?_
    | (refine Z.gS rfl rfl ?_ ?_ <;> intro hb <;> (try simp only [decide_eq_true_eq, decide_eq_false_iff_not, Bool.not_eq_true', Bool.not_eq_false', Int.not_lt, Int.not_le] at hb) <;> (try (exfalso; first | omega | exact hb trivial)))
    | with_reducible refine Z.seq ?_
    | with_reducible refine Z.reg ?_
    | with_reducible refine Z.nil ?_
    | with_reducible refine Z.skip ?_
    | with_reducible refine Z.exit ?_
    | with_reducible refine Z.ret ?_
    | with_reducible refine Z.block ?_
    | with_reducible refine Z.thN ?_
    | with_reducible refine Z.thU ?_
    | with_reducible refine Z.thE ?_
    | with_reducible refine Z.thR ?_
    | with_reducible refine Z.blN ?_
    | with_reducible refine Z.blR ?_
    | with_reducible refine Z.blE ?_
    | (with_reducible refine Z.blX ?_ ?_; rotate_left; rfl)
    | refine Z.brT rfl ?_
    | refine Z.brF rfl ?_
    | (refine Z.br rfl ?_ ?_ <;> intro hb <;> (try simp only [decide_eq_true_eq, decide_eq_false_iff_not, Bool.not_eq_true', Bool.not_eq_false', Int.not_lt, Int.not_le] at hb) <;> (try (exfalso; first | omega | exact hb trivial))))
  rename_i gx _ _
  rename Nat => gy
  refine Z.eff (Z.cl (awake_z _ _ _ hS) rfl ?_) rfl
  clear hS
  rintro e w ⟨rfl, hS⟩
  refine ⟨_, rfl, ?_⟩
  repeat' (first
    | refine Z.pr rfl ?_
    | refine Z.eff (Z.ld hS rfl (by repeat (first | exact At.here | apply At.next)) rfl ?_) rfl
    | refine Z.eff (Z.ldR rfl (by assumption) rfl ?_) rfl
    | refine Z.eff (Z.ldE rfl (by assumption) rfl ?_) rfl
    | refine Z.sum rfl (by constructor <;> omega) ?_
    | (refine Z.eff (Z.st hS rfl (by repeat (first | exact At.here | apply At.next)) rfl rfl ?_) rfl; clear hS; intro w hS)
    | (refine Z.eff (Z.al hS ?_) rfl; clear hS; intro g w hS hge)
    | (refine Z.eff (Z.bx hS rfl ?_) rfl; clear hS; intro g w hS hge)
    | refine Z.ixn rfl rfl rfl (by omega) ?_
    | refine Z.pl (R.upto rfl rfl rfl (by omega)) ?_
    | refine Z.pl (R.since rfl rfl rfl (by omega)) ?_
    | refine Z.pl (R.span rfl rfl rfl rfl (by omega) (by omega)) ?_
    | refine Z.pl (R.whole rfl rfl) ?_
    | refine Z.pl (R.eqa rfl rfl rfl rfl) ?_
    | refine Z.pl (R.nea rfl rfl rfl rfl) ?_
    | refine Z.ix rfl rfl rfl (by omega) ?_
    | refine Z.ia rfl rfl rfl (by omega) ?_
    | refine Z.bu rfl rfl ?_
    | (refine Z.eff (Z.bs hS rfl rfl rfl ?_) rfl; clear hS; intro g w hS hge)
    | refine Z.gT rfl rfl ?_
    | refine Z.gF rfl rfl ?_
    | refine Z.gF0 rfl rfl ?_
    | (refine Z.gS rfl rfl ?_ ?_ <;> intro hb <;> (try simp only [decide_eq_true_eq, decide_eq_false_iff_not, Bool.not_eq_true', Bool.not_eq_false', Int.not_lt, Int.not_le] at hb) <;> (try (exfalso; first | omega | exact hb trivial)))
    | with_reducible refine Z.seq ?_
    | with_reducible refine Z.reg ?_
    | with_reducible refine Z.nil ?_
    | with_reducible refine Z.skip ?_
    | with_reducible refine Z.exit ?_
    | with_reducible refine Z.ret ?_
    | with_reducible refine Z.block ?_
    | with_reducible refine Z.thN ?_
    | with_reducible refine Z.thU ?_
    | with_reducible refine Z.thE ?_
    | with_reducible refine Z.thR ?_
    | with_reducible refine Z.blN ?_
    | with_reducible refine Z.blR ?_
    | with_reducible refine Z.blE ?_
    | (with_reducible refine Z.blX ?_ ?_; rotate_left; rfl)
    | refine Z.brT rfl ?_
    | refine Z.brF rfl ?_
    | (refine Z.br rfl ?_ ?_ <;> intro hb <;> (try simp only [decide_eq_true_eq, decide_eq_false_iff_not, Bool.not_eq_true', Bool.not_eq_false', Int.not_lt, Int.not_le] at hb) <;> (try (exfalso; first | omega | exact hb trivial))))
  refine Z.eff (Z.cl (light_q _ _ _ _) rfl ?_) rfl
  rintro e w' ⟨rfl, hC⟩
  refine ⟨_, rfl, ?_⟩
  replace hS := hS.ext hC
  clear hC
  repeat' (first
    | refine Z.pr rfl ?_
    | refine Z.eff (Z.ld hS rfl (by repeat (first | exact At.here | apply At.next)) rfl ?_) rfl
    | refine Z.eff (Z.ldR rfl (by assumption) rfl ?_) rfl
    | refine Z.eff (Z.ldE rfl (by assumption) rfl ?_) rfl
    | refine Z.sum rfl (by constructor <;> omega) ?_
    | (refine Z.eff (Z.st hS rfl (by repeat (first | exact At.here | apply At.next)) rfl rfl ?_) rfl; clear hS; intro w hS)
    | (refine Z.eff (Z.al hS ?_) rfl; clear hS; intro g w hS hge)
    | (refine Z.eff (Z.bx hS rfl ?_) rfl; clear hS; intro g w hS hge)
    | refine Z.ixn rfl rfl rfl (by omega) ?_
    | refine Z.pl (R.upto rfl rfl rfl (by omega)) ?_
    | refine Z.pl (R.since rfl rfl rfl (by omega)) ?_
    | refine Z.pl (R.span rfl rfl rfl rfl (by omega) (by omega)) ?_
    | refine Z.pl (R.whole rfl rfl) ?_
    | refine Z.pl (R.eqa rfl rfl rfl rfl) ?_
    | refine Z.pl (R.nea rfl rfl rfl rfl) ?_
    | refine Z.ix rfl rfl rfl (by omega) ?_
    | refine Z.ia rfl rfl rfl (by omega) ?_
    | refine Z.bu rfl rfl ?_
    | (refine Z.eff (Z.bs hS rfl rfl rfl ?_) rfl; clear hS; intro g w hS hge)
    | refine Z.gT rfl rfl ?_
    | refine Z.gF rfl rfl ?_
    | refine Z.gF0 rfl rfl ?_
    | (refine Z.gS rfl rfl ?_ ?_ <;> intro hb <;> (try simp only [decide_eq_true_eq, decide_eq_false_iff_not, Bool.not_eq_true', Bool.not_eq_false', Int.not_lt, Int.not_le] at hb) <;> (try (exfalso; first | omega | exact hb trivial)))
    | with_reducible refine Z.seq ?_
    | with_reducible refine Z.reg ?_
    | with_reducible refine Z.nil ?_
    | with_reducible refine Z.skip ?_
    | with_reducible refine Z.exit ?_
    | with_reducible refine Z.ret ?_
    | with_reducible refine Z.block ?_
    | with_reducible refine Z.thN ?_
    | with_reducible refine Z.thU ?_
    | with_reducible refine Z.thE ?_
    | with_reducible refine Z.thR ?_
    | with_reducible refine Z.blN ?_
    | with_reducible refine Z.blR ?_
    | with_reducible refine Z.blE ?_
    | (with_reducible refine Z.blX ?_ ?_; rotate_left; rfl)
    | refine Z.brT rfl ?_
    | refine Z.brF rfl ?_
    | (refine Z.br rfl ?_ ?_ <;> intro hb <;> (try simp only [decide_eq_true_eq, decide_eq_false_iff_not, Bool.not_eq_true', Bool.not_eq_false', Int.not_lt, Int.not_le] at hb) <;> (try (exfalso; first | omega | exact hb trivial))))
  · first | refine Z.done hS Try.results5 (Z.RV.tmp rfl Z.RV.nil) ?_ | refine Z.doneN hS Try.results5 (Z.RV.tmp rfl Z.RV.nil) ?_
    exact ⟨rfl, hS.chg⟩
  refine Z.eff (Z.cl (short_z x _ _ _ hS) rfl ?_) rfl
  clear hS
  rintro e w ⟨b, rfl, hS⟩
  refine ⟨_, rfl, ?_⟩
  cases b
  · repeat' (first
      | refine Z.pr rfl ?_
      | refine Z.eff (Z.ld hS rfl (by repeat (first | exact At.here | apply At.next)) rfl ?_) rfl
      | refine Z.eff (Z.ldR rfl (by assumption) rfl ?_) rfl
      | refine Z.eff (Z.ldE rfl (by assumption) rfl ?_) rfl
      | refine Z.sum rfl (by constructor <;> omega) ?_
      | (refine Z.eff (Z.st hS rfl (by repeat (first | exact At.here | apply At.next)) rfl rfl ?_) rfl; clear hS; intro w hS)
      | (refine Z.eff (Z.al hS ?_) rfl; clear hS; intro g w hS hge)
      | (refine Z.eff (Z.bx hS rfl ?_) rfl; clear hS; intro g w hS hge)
      | refine Z.ixn rfl rfl rfl (by omega) ?_
      | refine Z.pl (R.upto rfl rfl rfl (by omega)) ?_
      | refine Z.pl (R.since rfl rfl rfl (by omega)) ?_
      | refine Z.pl (R.span rfl rfl rfl rfl (by omega) (by omega)) ?_
      | refine Z.pl (R.whole rfl rfl) ?_
      | refine Z.pl (R.eqa rfl rfl rfl rfl) ?_
      | refine Z.pl (R.nea rfl rfl rfl rfl) ?_
      | refine Z.ix rfl rfl rfl (by omega) ?_
      | refine Z.ia rfl rfl rfl (by omega) ?_
      | refine Z.bu rfl rfl ?_
      | (refine Z.eff (Z.bs hS rfl rfl rfl ?_) rfl; clear hS; intro g w hS hge)
      | refine Z.gT rfl rfl ?_
      | refine Z.gF rfl rfl ?_
      | refine Z.gF0 rfl rfl ?_
      | (refine Z.gS rfl rfl ?_ ?_ <;> intro hb <;> (try simp only [decide_eq_true_eq, decide_eq_false_iff_not, Bool.not_eq_true', Bool.not_eq_false', Int.not_lt, Int.not_le] at hb) <;> (try (exfalso; first | omega | exact hb trivial)))
      | with_reducible refine Z.seq ?_
      | with_reducible refine Z.reg ?_
      | with_reducible refine Z.nil ?_
      | with_reducible refine Z.skip ?_
      | with_reducible refine Z.exit ?_
      | with_reducible refine Z.ret ?_
      | with_reducible refine Z.block ?_
      | with_reducible refine Z.thN ?_
      | with_reducible refine Z.thU ?_
      | with_reducible refine Z.thE ?_
      | with_reducible refine Z.thR ?_
      | with_reducible refine Z.blN ?_
      | with_reducible refine Z.blR ?_
      | with_reducible refine Z.blE ?_
      | (with_reducible refine Z.blX ?_ ?_; rotate_left; rfl)
      | refine Z.brT rfl ?_
      | refine Z.brF rfl ?_
      | (refine Z.br rfl ?_ ?_ <;> intro hb <;> (try simp only [decide_eq_true_eq, decide_eq_false_iff_not, Bool.not_eq_true', Bool.not_eq_false', Int.not_lt, Int.not_le] at hb) <;> (try (exfalso; first | omega | exact hb trivial))))
    first | refine Z.done hS Try.results5 (Z.RV.tmp rfl Z.RV.nil) ?_ | refine Z.doneN hS Try.results5 (Z.RV.tmp rfl Z.RV.nil) ?_
    exact ⟨rfl, hS.chg⟩
  repeat' (first
    | refine Z.pr rfl ?_
    | refine Z.eff (Z.ld hS rfl (by repeat (first | exact At.here | apply At.next)) rfl ?_) rfl
    | refine Z.eff (Z.ldR rfl (by assumption) rfl ?_) rfl
    | refine Z.eff (Z.ldE rfl (by assumption) rfl ?_) rfl
    | refine Z.sum rfl (by constructor <;> omega) ?_
    | (refine Z.eff (Z.st hS rfl (by repeat (first | exact At.here | apply At.next)) rfl rfl ?_) rfl; clear hS; intro w hS)
    | (refine Z.eff (Z.al hS ?_) rfl; clear hS; intro g w hS hge)
    | (refine Z.eff (Z.bx hS rfl ?_) rfl; clear hS; intro g w hS hge)
    | refine Z.ixn rfl rfl rfl (by omega) ?_
    | refine Z.pl (R.upto rfl rfl rfl (by omega)) ?_
    | refine Z.pl (R.since rfl rfl rfl (by omega)) ?_
    | refine Z.pl (R.span rfl rfl rfl rfl (by omega) (by omega)) ?_
    | refine Z.pl (R.whole rfl rfl) ?_
    | refine Z.pl (R.eqa rfl rfl rfl rfl) ?_
    | refine Z.pl (R.nea rfl rfl rfl rfl) ?_
    | refine Z.ix rfl rfl rfl (by omega) ?_
    | refine Z.ia rfl rfl rfl (by omega) ?_
    | refine Z.bu rfl rfl ?_
    | (refine Z.eff (Z.bs hS rfl rfl rfl ?_) rfl; clear hS; intro g w hS hge)
    | refine Z.gT rfl rfl ?_
    | refine Z.gF rfl rfl ?_
    | refine Z.gF0 rfl rfl ?_
    | (refine Z.gS rfl rfl ?_ ?_ <;> intro hb <;> (try simp only [decide_eq_true_eq, decide_eq_false_iff_not, Bool.not_eq_true', Bool.not_eq_false', Int.not_lt, Int.not_le] at hb) <;> (try (exfalso; first | omega | exact hb trivial)))
    | with_reducible refine Z.seq ?_
    | with_reducible refine Z.reg ?_
    | with_reducible refine Z.nil ?_
    | with_reducible refine Z.skip ?_
    | with_reducible refine Z.exit ?_
    | with_reducible refine Z.ret ?_
    | with_reducible refine Z.block ?_
    | with_reducible refine Z.thN ?_
    | with_reducible refine Z.thU ?_
    | with_reducible refine Z.thE ?_
    | with_reducible refine Z.thR ?_
    | with_reducible refine Z.blN ?_
    | with_reducible refine Z.blR ?_
    | with_reducible refine Z.blE ?_
    | (with_reducible refine Z.blX ?_ ?_; rotate_left; rfl)
    | refine Z.brT rfl ?_
    | refine Z.brF rfl ?_
    | (refine Z.br rfl ?_ ?_ <;> intro hb <;> (try simp only [decide_eq_true_eq, decide_eq_false_iff_not, Bool.not_eq_true', Bool.not_eq_false', Int.not_lt, Int.not_le] at hb) <;> (try (exfalso; first | omega | exact hb trivial))))
  refine Z.eff (Z.cl (short_z y _ _ _ hS) rfl ?_) rfl
  clear hS
  rintro e w ⟨b, rfl, hS⟩
  refine ⟨_, rfl, ?_⟩
  cases b
  · repeat' (first
      | refine Z.pr rfl ?_
      | refine Z.eff (Z.ld hS rfl (by repeat (first | exact At.here | apply At.next)) rfl ?_) rfl
      | refine Z.eff (Z.ldR rfl (by assumption) rfl ?_) rfl
      | refine Z.eff (Z.ldE rfl (by assumption) rfl ?_) rfl
      | refine Z.sum rfl (by constructor <;> omega) ?_
      | (refine Z.eff (Z.st hS rfl (by repeat (first | exact At.here | apply At.next)) rfl rfl ?_) rfl; clear hS; intro w hS)
      | (refine Z.eff (Z.al hS ?_) rfl; clear hS; intro g w hS hge)
      | (refine Z.eff (Z.bx hS rfl ?_) rfl; clear hS; intro g w hS hge)
      | refine Z.ixn rfl rfl rfl (by omega) ?_
      | refine Z.pl (R.upto rfl rfl rfl (by omega)) ?_
      | refine Z.pl (R.since rfl rfl rfl (by omega)) ?_
      | refine Z.pl (R.span rfl rfl rfl rfl (by omega) (by omega)) ?_
      | refine Z.pl (R.whole rfl rfl) ?_
      | refine Z.pl (R.eqa rfl rfl rfl rfl) ?_
      | refine Z.pl (R.nea rfl rfl rfl rfl) ?_
      | refine Z.ix rfl rfl rfl (by omega) ?_
      | refine Z.ia rfl rfl rfl (by omega) ?_
      | refine Z.bu rfl rfl ?_
      | (refine Z.eff (Z.bs hS rfl rfl rfl ?_) rfl; clear hS; intro g w hS hge)
      | refine Z.gT rfl rfl ?_
      | refine Z.gF rfl rfl ?_
      | refine Z.gF0 rfl rfl ?_
      | (refine Z.gS rfl rfl ?_ ?_ <;> intro hb <;> (try simp only [decide_eq_true_eq, decide_eq_false_iff_not, Bool.not_eq_true', Bool.not_eq_false', Int.not_lt, Int.not_le] at hb) <;> (try (exfalso; first | omega | exact hb trivial)))
      | with_reducible refine Z.seq ?_
      | with_reducible refine Z.reg ?_
      | with_reducible refine Z.nil ?_
      | with_reducible refine Z.skip ?_
      | with_reducible refine Z.exit ?_
      | with_reducible refine Z.ret ?_
      | with_reducible refine Z.block ?_
      | with_reducible refine Z.thN ?_
      | with_reducible refine Z.thU ?_
      | with_reducible refine Z.thE ?_
      | with_reducible refine Z.thR ?_
      | with_reducible refine Z.blN ?_
      | with_reducible refine Z.blR ?_
      | with_reducible refine Z.blE ?_
      | (with_reducible refine Z.blX ?_ ?_; rotate_left; rfl)
      | refine Z.brT rfl ?_
      | refine Z.brF rfl ?_
      | (refine Z.br rfl ?_ ?_ <;> intro hb <;> (try simp only [decide_eq_true_eq, decide_eq_false_iff_not, Bool.not_eq_true', Bool.not_eq_false', Int.not_lt, Int.not_le] at hb) <;> (try (exfalso; first | omega | exact hb trivial))))
    first | refine Z.done hS Try.results5 (Z.RV.tmp rfl Z.RV.nil) ?_ | refine Z.doneN hS Try.results5 (Z.RV.tmp rfl Z.RV.nil) ?_
    exact ⟨rfl, hS.chg⟩
  repeat' (first
    | refine Z.pr rfl ?_
    | refine Z.eff (Z.ld hS rfl (by repeat (first | exact At.here | apply At.next)) rfl ?_) rfl
    | refine Z.eff (Z.ldR rfl (by assumption) rfl ?_) rfl
    | refine Z.eff (Z.ldE rfl (by assumption) rfl ?_) rfl
    | refine Z.sum rfl (by constructor <;> omega) ?_
    | (refine Z.eff (Z.st hS rfl (by repeat (first | exact At.here | apply At.next)) rfl rfl ?_) rfl; clear hS; intro w hS)
    | (refine Z.eff (Z.al hS ?_) rfl; clear hS; intro g w hS hge)
    | (refine Z.eff (Z.bx hS rfl ?_) rfl; clear hS; intro g w hS hge)
    | refine Z.ixn rfl rfl rfl (by omega) ?_
    | refine Z.pl (R.upto rfl rfl rfl (by omega)) ?_
    | refine Z.pl (R.since rfl rfl rfl (by omega)) ?_
    | refine Z.pl (R.span rfl rfl rfl rfl (by omega) (by omega)) ?_
    | refine Z.pl (R.whole rfl rfl) ?_
    | refine Z.pl (R.eqa rfl rfl rfl rfl) ?_
    | refine Z.pl (R.nea rfl rfl rfl rfl) ?_
    | refine Z.ix rfl rfl rfl (by omega) ?_
    | refine Z.ia rfl rfl rfl (by omega) ?_
    | refine Z.bu rfl rfl ?_
    | (refine Z.eff (Z.bs hS rfl rfl rfl ?_) rfl; clear hS; intro g w hS hge)
    | refine Z.gT rfl rfl ?_
    | refine Z.gF rfl rfl ?_
    | refine Z.gF0 rfl rfl ?_
    | (refine Z.gS rfl rfl ?_ ?_ <;> intro hb <;> (try simp only [decide_eq_true_eq, decide_eq_false_iff_not, Bool.not_eq_true', Bool.not_eq_false', Int.not_lt, Int.not_le] at hb) <;> (try (exfalso; first | omega | exact hb trivial)))
    | with_reducible refine Z.seq ?_
    | with_reducible refine Z.reg ?_
    | with_reducible refine Z.nil ?_
    | with_reducible refine Z.skip ?_
    | with_reducible refine Z.exit ?_
    | with_reducible refine Z.ret ?_
    | with_reducible refine Z.block ?_
    | with_reducible refine Z.thN ?_
    | with_reducible refine Z.thU ?_
    | with_reducible refine Z.thE ?_
    | with_reducible refine Z.thR ?_
    | with_reducible refine Z.blN ?_
    | with_reducible refine Z.blR ?_
    | with_reducible refine Z.blE ?_
    | (with_reducible refine Z.blX ?_ ?_; rotate_left; rfl)
    | refine Z.brT rfl ?_
    | refine Z.brF rfl ?_
    | (refine Z.br rfl ?_ ?_ <;> intro hb <;> (try simp only [decide_eq_true_eq, decide_eq_false_iff_not, Bool.not_eq_true', Bool.not_eq_false', Int.not_lt, Int.not_le] at hb) <;> (try (exfalso; first | omega | exact hb trivial))))
  · first | refine Z.done hS Try.results5 (Z.RV.tmp rfl Z.RV.nil) ?_ | refine Z.doneN hS Try.results5 (Z.RV.tmp rfl Z.RV.nil) ?_
    exact ⟨rfl, hS.chg⟩
  have hne : x.client ≠ y.client := by omega
  refine Z.eff (Z.cl (history_z l A cap _ _ _ hS hr (by omega)) rfl ?_) rfl
  clear hS
  rintro e w ⟨v, rfl, hS⟩
  refine ⟨_, rfl, ?_⟩
  obtain ⟨Ah, ch, rfl, hch⟩ := (hS.slrows .here).mform
  generalize (hist l).h = h at *
  repeat' (first
    | refine Z.pr rfl ?_
    | refine Z.eff (Z.ld hS rfl (by repeat (first | exact At.here | apply At.next)) rfl ?_) rfl
    | refine Z.eff (Z.ldR rfl (by assumption) rfl ?_) rfl
    | refine Z.eff (Z.ldE rfl (by assumption) rfl ?_) rfl
    | refine Z.sum rfl (by constructor <;> omega) ?_
    | (refine Z.eff (Z.st hS rfl (by repeat (first | exact At.here | apply At.next)) rfl rfl ?_) rfl; clear hS; intro w hS)
    | (refine Z.eff (Z.al hS ?_) rfl; clear hS; intro g w hS hge)
    | (refine Z.eff (Z.bx hS rfl ?_) rfl; clear hS; intro g w hS hge)
    | refine Z.ixn rfl rfl rfl (by omega) ?_
    | refine Z.pl (R.upto rfl rfl rfl (by omega)) ?_
    | refine Z.pl (R.since rfl rfl rfl (by omega)) ?_
    | refine Z.pl (R.span rfl rfl rfl rfl (by omega) (by omega)) ?_
    | refine Z.pl (R.whole rfl rfl) ?_
    | refine Z.pl (R.eqa rfl rfl rfl rfl) ?_
    | refine Z.pl (R.nea rfl rfl rfl rfl) ?_
    | refine Z.ix rfl rfl rfl (by omega) ?_
    | refine Z.ia rfl rfl rfl (by omega) ?_
    | refine Z.bu rfl rfl ?_
    | (refine Z.eff (Z.bs hS rfl rfl rfl ?_) rfl; clear hS; intro g w hS hge)
    | refine Z.gT rfl rfl ?_
    | refine Z.gF rfl rfl ?_
    | refine Z.gF0 rfl rfl ?_
    | (refine Z.gS rfl rfl ?_ ?_ <;> intro hb <;> (try simp only [decide_eq_true_eq, decide_eq_false_iff_not, Bool.not_eq_true', Bool.not_eq_false', Int.not_lt, Int.not_le] at hb) <;> (try (exfalso; first | omega | exact hb trivial)))
    | with_reducible refine Z.seq ?_
    | with_reducible refine Z.reg ?_
    | with_reducible refine Z.nil ?_
    | with_reducible refine Z.skip ?_
    | with_reducible refine Z.exit ?_
    | with_reducible refine Z.ret ?_
    | with_reducible refine Z.block ?_
    | with_reducible refine Z.thN ?_
    | with_reducible refine Z.thU ?_
    | with_reducible refine Z.thE ?_
    | with_reducible refine Z.thR ?_
    | with_reducible refine Z.blN ?_
    | with_reducible refine Z.blR ?_
    | with_reducible refine Z.blE ?_
    | (with_reducible refine Z.blX ?_ ?_; rotate_left; rfl)
    | refine Z.brT rfl ?_
    | refine Z.brF rfl ?_
    | (refine Z.br rfl ?_ ?_ <;> intro hb <;> (try simp only [decide_eq_true_eq, decide_eq_false_iff_not, Bool.not_eq_true', Bool.not_eq_false', Int.not_lt, Int.not_le] at hb) <;> (try (exfalso; first | omega | exact hb trivial))))
  refine Z.eff (Z.cl (pfold_ok h _ _ _ _ hS (Reads.of_at (by repeat (first | exact At.here | apply At.next))) (by omega) hfold) rfl ?_) rfl
  clear hS
  rintro e w ⟨g1, rfl, hS⟩
  refine ⟨_, rfl, ?_⟩
  repeat' (first
    | refine Z.pr rfl ?_
    | refine Z.eff (Z.ld hS rfl (by repeat (first | exact At.here | apply At.next)) rfl ?_) rfl
    | refine Z.eff (Z.ldR rfl (by assumption) rfl ?_) rfl
    | refine Z.eff (Z.ldE rfl (by assumption) rfl ?_) rfl
    | refine Z.sum rfl (by constructor <;> omega) ?_
    | (refine Z.eff (Z.st hS rfl (by repeat (first | exact At.here | apply At.next)) rfl rfl ?_) rfl; clear hS; intro w hS)
    | (refine Z.eff (Z.al hS ?_) rfl; clear hS; intro g w hS hge)
    | (refine Z.eff (Z.bx hS rfl ?_) rfl; clear hS; intro g w hS hge)
    | refine Z.ixn rfl rfl rfl (by omega) ?_
    | refine Z.pl (R.upto rfl rfl rfl (by omega)) ?_
    | refine Z.pl (R.since rfl rfl rfl (by omega)) ?_
    | refine Z.pl (R.span rfl rfl rfl rfl (by omega) (by omega)) ?_
    | refine Z.pl (R.whole rfl rfl) ?_
    | refine Z.pl (R.eqa rfl rfl rfl rfl) ?_
    | refine Z.pl (R.nea rfl rfl rfl rfl) ?_
    | refine Z.ix rfl rfl rfl (by omega) ?_
    | refine Z.ia rfl rfl rfl (by omega) ?_
    | refine Z.bu rfl rfl ?_
    | (refine Z.eff (Z.bs hS rfl rfl rfl ?_) rfl; clear hS; intro g w hS hge)
    | refine Z.gT rfl rfl ?_
    | refine Z.gF rfl rfl ?_
    | refine Z.gF0 rfl rfl ?_
    | (refine Z.gS rfl rfl ?_ ?_ <;> intro hb <;> (try simp only [decide_eq_true_eq, decide_eq_false_iff_not, Bool.not_eq_true', Bool.not_eq_false', Int.not_lt, Int.not_le] at hb) <;> (try (exfalso; first | omega | exact hb trivial)))
    | with_reducible refine Z.seq ?_
    | with_reducible refine Z.reg ?_
    | with_reducible refine Z.nil ?_
    | with_reducible refine Z.skip ?_
    | with_reducible refine Z.exit ?_
    | with_reducible refine Z.ret ?_
    | with_reducible refine Z.block ?_
    | with_reducible refine Z.thN ?_
    | with_reducible refine Z.thU ?_
    | with_reducible refine Z.thE ?_
    | with_reducible refine Z.thR ?_
    | with_reducible refine Z.blN ?_
    | with_reducible refine Z.blR ?_
    | with_reducible refine Z.blE ?_
    | (with_reducible refine Z.blX ?_ ?_; rotate_left; rfl)
    | refine Z.brT rfl ?_
    | refine Z.brF rfl ?_
    | (refine Z.br rfl ?_ ?_ <;> intro hb <;> (try simp only [decide_eq_true_eq, decide_eq_false_iff_not, Bool.not_eq_true', Bool.not_eq_false', Int.not_lt, Int.not_le] at hb) <;> (try (exfalso; first | omega | exact hb trivial))))
  refine Z.eff (Z.cl (pfold_ok h _ _ _ _ hS (Reads.of_at (by repeat (first | exact At.here | apply At.next))) (by omega) hfold) rfl ?_) rfl
  clear hS
  rintro e w ⟨g2, rfl, hS⟩
  refine ⟨_, rfl, ?_⟩
  have hok := tabOf_ok h
  generalize tabOf h = t at *
  have hlx := lastB_in hok x.client
  have hly := lastB_in hok y.client
  repeat' (first
    | refine Z.pr rfl ?_
    | refine Z.eff (Z.ld hS rfl (by repeat (first | exact At.here | apply At.next)) rfl ?_) rfl
    | refine Z.eff (Z.ldR rfl (by assumption) rfl ?_) rfl
    | refine Z.eff (Z.ldE rfl (by assumption) rfl ?_) rfl
    | refine Z.sum rfl (by constructor <;> omega) ?_
    | (refine Z.eff (Z.st hS rfl (by repeat (first | exact At.here | apply At.next)) rfl rfl ?_) rfl; clear hS; intro w hS)
    | (refine Z.eff (Z.al hS ?_) rfl; clear hS; intro g w hS hge)
    | (refine Z.eff (Z.bx hS rfl ?_) rfl; clear hS; intro g w hS hge)
    | refine Z.ixn rfl rfl rfl (by omega) ?_
    | refine Z.pl (R.upto rfl rfl rfl (by omega)) ?_
    | refine Z.pl (R.since rfl rfl rfl (by omega)) ?_
    | refine Z.pl (R.span rfl rfl rfl rfl (by omega) (by omega)) ?_
    | refine Z.pl (R.whole rfl rfl) ?_
    | refine Z.pl (R.eqa rfl rfl rfl rfl) ?_
    | refine Z.pl (R.nea rfl rfl rfl rfl) ?_
    | refine Z.ix rfl rfl rfl (by omega) ?_
    | refine Z.ia rfl rfl rfl (by omega) ?_
    | refine Z.bu rfl rfl ?_
    | (refine Z.eff (Z.bs hS rfl rfl rfl ?_) rfl; clear hS; intro g w hS hge)
    | refine Z.gT rfl rfl ?_
    | refine Z.gF rfl rfl ?_
    | refine Z.gF0 rfl rfl ?_
    | (refine Z.gS rfl rfl ?_ ?_ <;> intro hb <;> (try simp only [decide_eq_true_eq, decide_eq_false_iff_not, Bool.not_eq_true', Bool.not_eq_false', Int.not_lt, Int.not_le] at hb) <;> (try (exfalso; first | omega | exact hb trivial)))
    | with_reducible refine Z.seq ?_
    | with_reducible refine Z.reg ?_
    | with_reducible refine Z.nil ?_
    | with_reducible refine Z.skip ?_
    | with_reducible refine Z.exit ?_
    | with_reducible refine Z.ret ?_
    | with_reducible refine Z.block ?_
    | with_reducible refine Z.thN ?_
    | with_reducible refine Z.thU ?_
    | with_reducible refine Z.thE ?_
    | with_reducible refine Z.thR ?_
    | with_reducible refine Z.blN ?_
    | with_reducible refine Z.blR ?_
    | with_reducible refine Z.blE ?_
    | (with_reducible refine Z.blX ?_ ?_; rotate_left; rfl)
    | refine Z.brT rfl ?_
    | refine Z.brF rfl ?_
    | (refine Z.br rfl ?_ ?_ <;> intro hb <;> (try simp only [decide_eq_true_eq, decide_eq_false_iff_not, Bool.not_eq_true', Bool.not_eq_false', Int.not_lt, Int.not_le] at hb) <;> (try (exfalso; first | omega | exact hb trivial))))
  refine Z.cut [60, 61, 62, 63, 64, 65, 66, 67, 68, 69, 70, 71] (fun w s => s = [] ∧ Sep r [] [PT g1 t, PT g2 t, .blk gx 30 (x.nth (lastB t x.client + 1)).cells, .blk gy 30 (y.nth (lastB t y.client + 1)).cells] w) ?_ ?_
  · refine D.start (fun W => W.rangeAt gx 0 x.head ∧ W.rangeAt gy 0 y.head) 13 14 (by kernel_rfl) rfl (⟨head_of (hS.drew.blk (by repeat (first | exact At.here | apply At.next))) rfl, head_of (hS.drew.blk (by repeat (first | exact At.here | apply At.next))) rfl⟩) ?_
    replace hS := hS.drew
    refine D.pr 0 1 rfl D.wantedN (by kernel_rfl) rfl ?_
    refine D.pr 1 3 rfl D.wantedN (by kernel_rfl) rfl ?_
    refine D.pr 5 35 rfl D.wantedN (by kernel_rfl) rfl ?_
    refine D.pr 6 99 rfl D.wantedN (by kernel_rfl) rfl ?_
    refine D.ldE (o := 0) (q := 3) 2 103 rfl D.wantedN (by kernel_rfl) rfl (fun W h => h.1) rfl ?_
    refine D.ldE (o := 0) (q := 3) 7 231 rfl D.wantedN (by kernel_rfl) rfl (fun W h => h.2) rfl ?_
    refine D.eff 3 239 rfl D.wantedN (by kernel_rfl) (by kernel_rfl) (fun _ _ h => h) ?_
    replace hS := hS.focus (R := PT g1 _) (by repeat (first | exact At.here | apply At.next))
    refine Z.cl (plast_z x.client hS) rfl ?_
    clear hS
    rintro e w ⟨rfl, hS⟩
    refine ⟨_, rfl, ?_⟩
    refine ⟨HM.s (⟨head_of (hS.blk (by repeat (first | exact At.here | apply At.next))) rfl, head_of (hS.blk (by repeat (first | exact At.here | apply At.next))) rfl⟩), ?_⟩
    first | refine D.sum 4 255 rfl D.wantedN (by kernel_rfl) rfl (by constructor <;> omega) ?_ | refine D.sumW 4 255 rfl D.wantedN (by kernel_rfl) rfl ?_
    refine D.pr 10 1279 rfl D.wantedN (by kernel_rfl) rfl ?_
    refine D.eff 8 1535 rfl D.wantedN (by kernel_rfl) (by kernel_rfl) (fun _ _ h => h) ?_
    replace hS := hS.focus (R := PT g1 _) (by repeat (first | exact At.here | apply At.next))
    refine Z.cl (plast_z y.client hS) rfl ?_
    clear hS
    rintro e w ⟨rfl, hS⟩
    refine ⟨_, rfl, ?_⟩
    refine ⟨HM.s (⟨head_of (hS.blk (by repeat (first | exact At.here | apply At.next))) rfl, head_of (hS.blk (by repeat (first | exact At.here | apply At.next))) rfl⟩), ?_⟩
    first | refine D.sum 9 2047 rfl D.wantedN (by kernel_rfl) rfl (by constructor <;> omega) ?_ | refine D.sumW 9 2047 rfl D.wantedN (by kernel_rfl) rfl ?_
    refine D.eff 11 4095 rfl D.wantedN (by kernel_rfl) (by kernel_rfl) (fun _ _ h => h) ?_
    refine Z.st hS rfl (by repeat (first | exact At.here | apply At.next)) rfl rfl ?_
    clear hS; intro w hS
    refine ⟨HM.s (⟨head_of (hS.blk (by repeat (first | exact At.here | apply At.next))) rfl, head_of (hS.blk (by repeat (first | exact At.here | apply At.next))) rfl⟩), ?_⟩
    refine D.pr 12 8191 rfl D.wantedN (by kernel_rfl) rfl ?_
    refine D.eff 13 16383 rfl D.wantedN (by kernel_rfl) (by kernel_rfl) (fun _ _ h => h) ?_
    refine Z.st hS rfl (by repeat (first | exact At.here | apply At.next)) rfl rfl ?_
    clear hS; intro w hS
    refine ⟨HM.last (by kernel_rfl), ?_⟩
    refine D.done (by kernel_rfl) ?_
    refine Z.cutE [] (by repeat (first | with_reducible exact Same.mix | ((with_reducible refine Same.upd ?_ ?_); · rfl) | ((with_reducible refine Same.cons ?_ ?_); · rfl) | with_reducible exact Same.refl | with_reducible refine Same.nil ?_ | ((with_reducible refine Same.mixS ?_ ?_); · rfl))) (by repeat (first | exact trivial | refine ⟨rfl, ?_⟩)) ?_
    exact ⟨rfl, hS.sub (by repeat (first | exact Sub.rest | exact Sub.nil | exact .skip .rest | exact .skip (.skip .rest) | exact .skip (.skip (.skip .rest)) | apply Sub.keep | refine Sub.cons (by repeat (first | exact At.here | apply At.next)) ?_ | apply Sub.skip))⟩
  clear hS
  rintro f1 w _ ⟨rfl, hS⟩
  repeat' (first
    | refine Z.pr rfl ?_
    | refine Z.eff (Z.ld hS rfl (by repeat (first | exact At.here | apply At.next)) rfl ?_) rfl
    | refine Z.eff (Z.ldR rfl (by assumption) rfl ?_) rfl
    | refine Z.eff (Z.ldE rfl (by assumption) rfl ?_) rfl
    | refine Z.sum rfl (by constructor <;> omega) ?_
    | (refine Z.eff (Z.st hS rfl (by repeat (first | exact At.here | apply At.next)) rfl rfl ?_) rfl; clear hS; intro w hS)
    | (refine Z.eff (Z.al hS ?_) rfl; clear hS; intro g w hS hge)
    | (refine Z.eff (Z.bx hS rfl ?_) rfl; clear hS; intro g w hS hge)
    | refine Z.ixn rfl rfl rfl (by omega) ?_
    | refine Z.pl (R.upto rfl rfl rfl (by omega)) ?_
    | refine Z.pl (R.since rfl rfl rfl (by omega)) ?_
    | refine Z.pl (R.span rfl rfl rfl rfl (by omega) (by omega)) ?_
    | refine Z.pl (R.whole rfl rfl) ?_
    | refine Z.pl (R.eqa rfl rfl rfl rfl) ?_
    | refine Z.pl (R.nea rfl rfl rfl rfl) ?_
    | refine Z.ix rfl rfl rfl (by omega) ?_
    | refine Z.ia rfl rfl rfl (by omega) ?_
    | refine Z.bu rfl rfl ?_
    | (refine Z.eff (Z.bs hS rfl rfl rfl ?_) rfl; clear hS; intro g w hS hge)
    | refine Z.gT rfl rfl ?_
    | refine Z.gF rfl rfl ?_
    | refine Z.gF0 rfl rfl ?_
    | (refine Z.gS rfl rfl ?_ ?_ <;> intro hb <;> (try simp only [decide_eq_true_eq, decide_eq_false_iff_not, Bool.not_eq_true', Bool.not_eq_false', Int.not_lt, Int.not_le] at hb) <;> (try (exfalso; first | omega | exact hb trivial)))
    | with_reducible refine Z.seq ?_
    | with_reducible refine Z.reg ?_
    | with_reducible refine Z.nil ?_
    | with_reducible refine Z.skip ?_
    | with_reducible refine Z.exit ?_
    | with_reducible refine Z.ret ?_
    | with_reducible refine Z.block ?_
    | with_reducible refine Z.thN ?_
    | with_reducible refine Z.thU ?_
    | with_reducible refine Z.thE ?_
    | with_reducible refine Z.thR ?_
    | with_reducible refine Z.blN ?_
    | with_reducible refine Z.blR ?_
    | with_reducible refine Z.blE ?_
    | (with_reducible refine Z.blX ?_ ?_; rotate_left; rfl)
    | refine Z.brT rfl ?_
    | refine Z.brF rfl ?_
    | (refine Z.br rfl ?_ ?_ <;> intro hb <;> (try simp only [decide_eq_true_eq, decide_eq_false_iff_not, Bool.not_eq_true', Bool.not_eq_false', Int.not_lt, Int.not_le] at hb) <;> (try (exfalso; first | omega | exact hb trivial))))
  obtain ⟨x', hx'⟩ : ∃ z, x.nth (lastB t x.client + 1) = z := ⟨_, rfl⟩
  obtain ⟨y', hy'⟩ : ∃ z, y.nth (lastB t y.client + 1) = z := ⟨_, rfl⟩
  have hne' : x'.client ≠ y'.client := by rw [← hx', ← hy']; exact hne
  rw [hx', hy'] at hS
  clear hx' hy' hlx hly hne
  have hap := tApp_apart (t := t) hne'
  obtain ⟨⟨T1, e1⟩, h1⟩ : ∃ R, tApp t x' = R := ⟨_, rfl⟩
  obtain ⟨⟨T2, e2⟩, h2⟩ : ∃ R, tApp t y' = R := ⟨_, rfl⟩
  have hok1 : T1.ok := by have := tApp_ok (x := x') hok; rw [h1] at this; exact this
  have hok2 : T2.ok := by have := tApp_ok (x := y') hok; rw [h2] at this; exact this
  simp only [h1, h2] at hap
  obtain ⟨⟨T3, e3⟩, h3⟩ : ∃ R, tApp T1 y' = R := ⟨_, rfl⟩
  obtain ⟨⟨T4, e4⟩, h4⟩ : ∃ R, tApp T2 x' = R := ⟨_, rfl⟩
  simp only [h3, h4] at hap
  obtain ⟨rfl, rfl, hsame⟩ := hap
  refine D.startS (Lr := [.blk gx 30 x'.cells, .blk gy 30 y'.cells]) (hS.sub (by repeat (first | exact Sub.rest | exact Sub.nil | exact .skip .rest | exact .skip (.skip .rest) | exact .skip (.skip (.skip .rest)) | apply Sub.keep | refine Sub.cons (by repeat (first | exact At.here | apply At.next)) ?_ | apply Sub.skip))) 8 8 (by kernel_rfl) rfl ?_
  replace hS := hS.drew
  refine D.pr 0 1 rfl D.wantedN (by kernel_rfl) rfl ?_
  refine D.pr 3 9 rfl D.wantedN (by kernel_rfl) rfl ?_
  refine D.ld 1 11 rfl D.wantedN (by kernel_rfl) rfl (fun W h => h.blk (by repeat (first | exact At.here | apply At.next))) rfl ?_
  refine D.ld 4 27 rfl D.wantedN (by kernel_rfl) rfl (fun W h => h.blk (by repeat (first | exact At.here | apply At.next))) rfl ?_
  refine D.eff 2 31 rfl D.wantedN (by kernel_rfl) (by kernel_rfl) (fun _ _ h => h) ?_
  replace hS := hS.focus (R := PT g1 _) (by repeat (first | exact At.here | apply At.next))
  refine Z.cl (papply_z x' (T1, _) h1 hS hok) rfl ?_
  clear hS
  rintro e w ⟨rfl, hS⟩
  refine ⟨_, rfl, ?_⟩
  refine ⟨HM.s (hS.sub (by repeat (first | exact Sub.rest | exact Sub.nil | exact .skip .rest | exact .skip (.skip .rest) | exact .skip (.skip (.skip .rest)) | apply Sub.keep | refine Sub.cons (by repeat (first | exact At.here | apply At.next)) ?_ | apply Sub.skip))), ?_⟩
  refine D.eff 5 63 rfl D.wantedN (by kernel_rfl) (by kernel_rfl) (fun _ _ h => h) ?_
  replace hS := hS.focus (R := PT g1 _) (by repeat (first | exact At.here | apply At.next))
  refine Z.cl (papply_z y' (T3, _) h3 hS hok1) rfl ?_
  clear hS
  rintro e w ⟨rfl, hS⟩
  refine ⟨_, rfl, ?_⟩
  refine ⟨HM.s (hS.sub (by repeat (first | exact Sub.rest | exact Sub.nil | exact .skip .rest | exact .skip (.skip .rest) | exact .skip (.skip (.skip .rest)) | apply Sub.keep | refine Sub.cons (by repeat (first | exact At.here | apply At.next)) ?_ | apply Sub.skip))), ?_⟩
  refine D.pr 6 127 rfl D.wantedN (by kernel_rfl) rfl ?_
  refine D.pr 7 255 rfl D.wantedN (by kernel_rfl) rfl ?_
  refine D.done (by kernel_rfl) ?_
  repeat' (first
    | refine Z.pr rfl ?_
    | refine Z.eff (Z.ld hS rfl (by repeat (first | exact At.here | apply At.next)) rfl ?_) rfl
    | refine Z.eff (Z.ldR rfl (by assumption) rfl ?_) rfl
    | refine Z.eff (Z.ldE rfl (by assumption) rfl ?_) rfl
    | refine Z.sum rfl (by constructor <;> omega) ?_
    | (refine Z.eff (Z.st hS rfl (by repeat (first | exact At.here | apply At.next)) rfl rfl ?_) rfl; clear hS; intro w hS)
    | (refine Z.eff (Z.al hS ?_) rfl; clear hS; intro g w hS hge)
    | (refine Z.eff (Z.bx hS rfl ?_) rfl; clear hS; intro g w hS hge)
    | refine Z.ixn rfl rfl rfl (by omega) ?_
    | refine Z.pl (R.upto rfl rfl rfl (by omega)) ?_
    | refine Z.pl (R.since rfl rfl rfl (by omega)) ?_
    | refine Z.pl (R.span rfl rfl rfl rfl (by omega) (by omega)) ?_
    | refine Z.pl (R.whole rfl rfl) ?_
    | refine Z.pl (R.eqa rfl rfl rfl rfl) ?_
    | refine Z.pl (R.nea rfl rfl rfl rfl) ?_
    | refine Z.ix rfl rfl rfl (by omega) ?_
    | refine Z.ia rfl rfl rfl (by omega) ?_
    | refine Z.bu rfl rfl ?_
    | (refine Z.eff (Z.bs hS rfl rfl rfl ?_) rfl; clear hS; intro g w hS hge)
    | refine Z.gT rfl rfl ?_
    | refine Z.gF rfl rfl ?_
    | refine Z.gF0 rfl rfl ?_
    | (refine Z.gS rfl rfl ?_ ?_ <;> intro hb <;> (try simp only [decide_eq_true_eq, decide_eq_false_iff_not, Bool.not_eq_true', Bool.not_eq_false', Int.not_lt, Int.not_le] at hb) <;> (try (exfalso; first | omega | exact hb trivial)))
    | with_reducible refine Z.seq ?_
    | with_reducible refine Z.reg ?_
    | with_reducible refine Z.nil ?_
    | with_reducible refine Z.skip ?_
    | with_reducible refine Z.exit ?_
    | with_reducible refine Z.ret ?_
    | with_reducible refine Z.block ?_
    | with_reducible refine Z.thN ?_
    | with_reducible refine Z.thU ?_
    | with_reducible refine Z.thE ?_
    | with_reducible refine Z.thR ?_
    | with_reducible refine Z.blN ?_
    | with_reducible refine Z.blR ?_
    | with_reducible refine Z.blE ?_
    | (with_reducible refine Z.blX ?_ ?_; rotate_left; rfl)
    | refine Z.brT rfl ?_
    | refine Z.brF rfl ?_
    | (refine Z.br rfl ?_ ?_ <;> intro hb <;> (try simp only [decide_eq_true_eq, decide_eq_false_iff_not, Bool.not_eq_true', Bool.not_eq_false', Int.not_lt, Int.not_le] at hb) <;> (try (exfalso; first | omega | exact hb trivial))))
  refine D.startS (Lr := [.blk gx 30 x'.cells, .blk gy 30 y'.cells]) (hS.sub (by repeat (first | exact Sub.rest | exact Sub.nil | exact .skip .rest | exact .skip (.skip .rest) | exact .skip (.skip (.skip .rest)) | apply Sub.keep | refine Sub.cons (by repeat (first | exact At.here | apply At.next)) ?_ | apply Sub.skip))) 8 8 (by kernel_rfl) rfl ?_
  replace hS := hS.drew
  refine D.pr 0 1 rfl D.wantedN (by kernel_rfl) rfl ?_
  refine D.pr 3 9 rfl D.wantedN (by kernel_rfl) rfl ?_
  refine D.ld 1 11 rfl D.wantedN (by kernel_rfl) rfl (fun W h => h.blk (by repeat (first | exact At.here | apply At.next))) rfl ?_
  refine D.ld 4 27 rfl D.wantedN (by kernel_rfl) rfl (fun W h => h.blk (by repeat (first | exact At.here | apply At.next))) rfl ?_
  refine D.eff 2 31 rfl D.wantedN (by kernel_rfl) (by kernel_rfl) (fun _ _ h => h) ?_
  replace hS := hS.focus (R := PT g2 _) (by repeat (first | exact At.here | apply At.next))
  refine Z.cl (papply_z y' (T2, _) h2 hS hok) rfl ?_
  clear hS
  rintro e w ⟨rfl, hS⟩
  refine ⟨_, rfl, ?_⟩
  refine ⟨HM.s (hS.sub (by repeat (first | exact Sub.rest | exact Sub.nil | exact .skip .rest | exact .skip (.skip .rest) | exact .skip (.skip (.skip .rest)) | apply Sub.keep | refine Sub.cons (by repeat (first | exact At.here | apply At.next)) ?_ | apply Sub.skip))), ?_⟩
  refine D.eff 5 63 rfl D.wantedN (by kernel_rfl) (by kernel_rfl) (fun _ _ h => h) ?_
  replace hS := hS.focus (R := PT g2 _) (by repeat (first | exact At.here | apply At.next))
  refine Z.cl (papply_z x' (T4, _) h4 hS hok2) rfl ?_
  clear hS
  rintro e w ⟨rfl, hS⟩
  refine ⟨_, rfl, ?_⟩
  refine ⟨HM.s (hS.sub (by repeat (first | exact Sub.rest | exact Sub.nil | exact .skip .rest | exact .skip (.skip .rest) | exact .skip (.skip (.skip .rest)) | apply Sub.keep | refine Sub.cons (by repeat (first | exact At.here | apply At.next)) ?_ | apply Sub.skip))), ?_⟩
  refine D.pr 6 127 rfl D.wantedN (by kernel_rfl) rfl ?_
  refine D.pr 7 255 rfl D.wantedN (by kernel_rfl) rfl ?_
  refine D.done (by kernel_rfl) ?_
  repeat' (first
    | refine Z.pr rfl ?_
    | refine Z.eff (Z.ld hS rfl (by repeat (first | exact At.here | apply At.next)) rfl ?_) rfl
    | refine Z.eff (Z.ldR rfl (by assumption) rfl ?_) rfl
    | refine Z.eff (Z.ldE rfl (by assumption) rfl ?_) rfl
    | refine Z.sum rfl (by constructor <;> omega) ?_
    | (refine Z.eff (Z.st hS rfl (by repeat (first | exact At.here | apply At.next)) rfl rfl ?_) rfl; clear hS; intro w hS)
    | (refine Z.eff (Z.al hS ?_) rfl; clear hS; intro g w hS hge)
    | (refine Z.eff (Z.bx hS rfl ?_) rfl; clear hS; intro g w hS hge)
    | refine Z.ixn rfl rfl rfl (by omega) ?_
    | refine Z.pl (R.upto rfl rfl rfl (by omega)) ?_
    | refine Z.pl (R.since rfl rfl rfl (by omega)) ?_
    | refine Z.pl (R.span rfl rfl rfl rfl (by omega) (by omega)) ?_
    | refine Z.pl (R.whole rfl rfl) ?_
    | refine Z.pl (R.eqa rfl rfl rfl rfl) ?_
    | refine Z.pl (R.nea rfl rfl rfl rfl) ?_
    | refine Z.ix rfl rfl rfl (by omega) ?_
    | refine Z.ia rfl rfl rfl (by omega) ?_
    | refine Z.bu rfl rfl ?_
    | (refine Z.eff (Z.bs hS rfl rfl rfl ?_) rfl; clear hS; intro g w hS hge)
    | refine Z.gT rfl rfl ?_
    | refine Z.gF rfl rfl ?_
    | refine Z.gF0 rfl rfl ?_
    | (refine Z.gS rfl rfl ?_ ?_ <;> intro hb <;> (try simp only [decide_eq_true_eq, decide_eq_false_iff_not, Bool.not_eq_true', Bool.not_eq_false', Int.not_lt, Int.not_le] at hb) <;> (try (exfalso; first | omega | exact hb trivial)))
    | with_reducible refine Z.seq ?_
    | with_reducible refine Z.reg ?_
    | with_reducible refine Z.nil ?_
    | with_reducible refine Z.skip ?_
    | with_reducible refine Z.exit ?_
    | with_reducible refine Z.ret ?_
    | with_reducible refine Z.block ?_
    | with_reducible refine Z.thN ?_
    | with_reducible refine Z.thU ?_
    | with_reducible refine Z.thE ?_
    | with_reducible refine Z.thR ?_
    | with_reducible refine Z.blN ?_
    | with_reducible refine Z.blR ?_
    | with_reducible refine Z.blE ?_
    | (with_reducible refine Z.blX ?_ ?_; rotate_left; rfl)
    | refine Z.brT rfl ?_
    | refine Z.brF rfl ?_
    | (refine Z.br rfl ?_ ?_ <;> intro hb <;> (try simp only [decide_eq_true_eq, decide_eq_false_iff_not, Bool.not_eq_true', Bool.not_eq_false', Int.not_lt, Int.not_le] at hb) <;> (try (exfalso; first | omega | exact hb trivial))))
  replace hS := hS.focus (R := PT g2 _) (by repeat (first | exact At.here | apply At.next))
  replace hS := hS.focus (R := PT g1 _) (by repeat (first | exact At.here | apply At.next))
  refine Z.eff (Z.cl (psame_z T3 T4 g1 g2 _ _ _ hS) rfl ?_) rfl
  clear hS
  rintro e w ⟨rfl, hS⟩
  refine ⟨_, rfl, ?_⟩
  rw [hsame]
  repeat' (first
    | refine Z.pr rfl ?_
    | refine Z.eff (Z.ld hS rfl (by repeat (first | exact At.here | apply At.next)) rfl ?_) rfl
    | refine Z.eff (Z.ldR rfl (by assumption) rfl ?_) rfl
    | refine Z.eff (Z.ldE rfl (by assumption) rfl ?_) rfl
    | refine Z.sum rfl (by constructor <;> omega) ?_
    | (refine Z.eff (Z.st hS rfl (by repeat (first | exact At.here | apply At.next)) rfl rfl ?_) rfl; clear hS; intro w hS)
    | (refine Z.eff (Z.al hS ?_) rfl; clear hS; intro g w hS hge)
    | (refine Z.eff (Z.bx hS rfl ?_) rfl; clear hS; intro g w hS hge)
    | refine Z.ixn rfl rfl rfl (by omega) ?_
    | refine Z.pl (R.upto rfl rfl rfl (by omega)) ?_
    | refine Z.pl (R.since rfl rfl rfl (by omega)) ?_
    | refine Z.pl (R.span rfl rfl rfl rfl (by omega) (by omega)) ?_
    | refine Z.pl (R.whole rfl rfl) ?_
    | refine Z.pl (R.eqa rfl rfl rfl rfl) ?_
    | refine Z.pl (R.nea rfl rfl rfl rfl) ?_
    | refine Z.ix rfl rfl rfl (by omega) ?_
    | refine Z.ia rfl rfl rfl (by omega) ?_
    | refine Z.bu rfl rfl ?_
    | (refine Z.eff (Z.bs hS rfl rfl rfl ?_) rfl; clear hS; intro g w hS hge)
    | refine Z.gT rfl rfl ?_
    | refine Z.gF rfl rfl ?_
    | refine Z.gF0 rfl rfl ?_
    | (refine Z.gS rfl rfl ?_ ?_ <;> intro hb <;> (try simp only [decide_eq_true_eq, decide_eq_false_iff_not, Bool.not_eq_true', Bool.not_eq_false', Int.not_lt, Int.not_le] at hb) <;> (try (exfalso; first | omega | exact hb trivial)))
    | with_reducible refine Z.seq ?_
    | with_reducible refine Z.reg ?_
    | with_reducible refine Z.nil ?_
    | with_reducible refine Z.skip ?_
    | with_reducible refine Z.exit ?_
    | with_reducible refine Z.ret ?_
    | with_reducible refine Z.block ?_
    | with_reducible refine Z.thN ?_
    | with_reducible refine Z.thU ?_
    | with_reducible refine Z.thE ?_
    | with_reducible refine Z.thR ?_
    | with_reducible refine Z.blN ?_
    | with_reducible refine Z.blR ?_
    | with_reducible refine Z.blE ?_
    | (with_reducible refine Z.blX ?_ ?_; rotate_left; rfl)
    | refine Z.brT rfl ?_
    | refine Z.brF rfl ?_
    | (refine Z.br rfl ?_ ?_ <;> intro hb <;> (try simp only [decide_eq_true_eq, decide_eq_false_iff_not, Bool.not_eq_true', Bool.not_eq_false', Int.not_lt, Int.not_le] at hb) <;> (try (exfalso; first | omega | exact hb trivial))))
  first | refine Z.done hS Try.results5 (Z.RV.tmp rfl Z.RV.nil) ?_ | refine Z.doneN hS Try.results5 (Z.RV.tmp rfl Z.RV.nil) ?_
  exact ⟨rfl, hS.chg⟩
set_option maxRecDepth 100000 in
theorem sessionApart_lifted (os : Os) (started : os.Started) (H : Type) (enc : TypeId × Value → H) :
    ReturnsInHanded {} Try.checked os 5 .any (Rows.sessionApartSpec.pre6 enc Try.prog Try.f5 Rows.sessionApartRow.domain false) (Rows.sessionApartSpec.post enc Try.prog Try.f5 false Rows.sessionApartRow.fresh Rows.sessionApartRow.handsOn Rows.sessionApartRow.again) := by
  refine returnsInHanded_of_change (C := Try.checked) Try.own started (by kernel_rfl) Try.func5
    (ChangeSpec.witness6 (enc := enc) (C := Try.checked) false ⟨#[], #[.slice none 0 0, .agg #[.int .i64 0, .int .i64 0, .int .i64 0, .int .i64 0, .int .i64 0, .int .i64 0, .string ⟨#[]⟩, .string ⟨#[]⟩], .agg #[.int .i64 0, .int .i64 0, .int .i64 0, .int .i64 0, .int .i64 0, .int .i64 0, .string ⟨#[]⟩, .string ⟨#[]⟩]], []⟩ 8 (by kernel_rfl) (by kernel_rfl) (by kernel_rfl) (by kernel_rfl)) ?_
  intro W base args ds gs before hval0 hW _ _
  have hval : ∀ (j : Nat) t v, Try.f5.params[j]? = some t → args[j]? = some v → Value.okWide Try.prog W .any base t v := hval0
  have hW0 := hW
  obtain ⟨p, q, hA0, hV, hpq, _, _⟩ := hW
  obtain ⟨la⟩ := args
  have hA : DataW.TrodAll enc Try.prog W 0 (fun _ => true) true [22, 30, 30] la ds p := by have := hA0; rw [Try.params5] at this; exact this
  rw [Try.params5] at hval
  obtain ⟨v0, la0, d0, ds0, p0, q0, rfl, rfl, rfl, h0, hA⟩ := trodAll_cons hA
  obtain ⟨v1, la1, d1, ds1, p1, q1, rfl, rfl, rfl, h1, hA⟩ := trodAll_cons hA
  obtain ⟨v2, la2, d2, ds2, p2, q2, rfl, rfl, rfl, h2, hA⟩ := trodAll_cons hA
  obtain ⟨rfl, rfl, rfl⟩ := trodAll_nil hA
  obtain ⟨l0, A0, cap0, rfl, hr0⟩ := arg_ints (hval 0 _ _ rfl rfl) h0
  obtain ⟨x1, rfl⟩ := arg_change (hval 1 _ _ rfl rfl) h1
  obtain ⟨x2, rfl⟩ := arg_change (hval 2 _ _ rfl rfl) h2
  have fin : Calls Try.prog 5 _ W fun e W' => e = .returned (.bool true) ∧ Chg [] W W' := apart_z l0 A0 cap0 x1 x2 W hr0  
  refine fin.mono fun e W' ⟨he, hc⟩ => ⟨_, he, ?_⟩
  exact law_post Try.laidOut (by rw [Try.params5]; intro t ht; simp only [List.mem_cons, List.not_mem_nil, or_false] at ht; rcases ht with rfl | rfl | rfl <;> exact ⟨by kernel_rfl, of_decide_eq_true (by kernel_rfl)⟩) rfl rfl Try.underlying4 rfl hW0 hc.below
theorem sessionApart_holds : Rows.SessionApartSaid :=
  OpenClaim.holds_of_wide 5 Try.f5 rfl rfl rfl rfl rfl rfl rfl ⟨rfl, rfl, rfl, rfl, rfl⟩ rfl rfl rfl rfl rfl (by kernel_rfl) Try.func5 (by kernel_rfl)
    (of_decide_eq_true (by kernel_rfl)) (by unfold Func.isWrapper; rw [if_neg (of_decide_eq_false (by kernel_rfl))]; exact ⟨rfl, rfl⟩)
    (fun os started H enc _ => sessionApart_lifted os started H enc)
end Go.Proofs.Ytppbjlakbmgfdaa
