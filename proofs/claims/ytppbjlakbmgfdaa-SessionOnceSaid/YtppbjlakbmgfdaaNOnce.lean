/-
  SessionOnce: for every input the call returns true, and the arguments read afterwards as they read before.
-/
import Derived.Test.YtppbjlakbmgfdaaNLists
namespace Go.Proofs.Ytppbjlakbmgfdaa
open Go.RowKit Go.ChangeShapes Go.WideShapes Go.ChangeAt
set_option linter.unusedSimpArgs false
set_option linter.unusedVariables false

set_option maxHeartbeats 4000000 in
theorem once_z (raw : List Ch) (v : Value) (l : List Int) (A : Option Addr) (cap : Nat) (r : World) (hraw : Rows' r 8 v (raw.map Ch.cells)) (hr : Rd r 1 A l.length (l.map (Value.int .i64))) :
    Calls Try.prog 4 #[v, .slice A l.length cap] r fun e w' => e = .returned (.bool true) ∧ Chg [] r w' := by
  have hS := Sep.root r
  have hlen := hist_len l
  obtain ⟨Ar, cr, rfl, hcr⟩ := hraw.mform
  refine Z.enter Try.func4 Try.ntmps4 rfl rfl ?_
  repeat' (first
    | refine Z.pr rfl ?_
    | refine Z.eff (Z.ld hS rfl (by repeat (first | exact At.here | apply At.next)) rfl ?_) rfl
    | refine Z.eff (Z.ldR rfl (by assumption) rfl ?_) rfl
    | refine Z.eff (Z.ldE rfl (by assumption) rfl ?_) rfl
    | refine Z.sum rfl (by constructor <;> omega) ?_
    | (refine Z.eff (Z.st hS rfl (by repeat (first | exact At.here | apply At.next)) rfl rfl ?_) rfl; clear hS; intro w hS)
    | (refine Z.eff (Z.al hS ?_) rfl; clear hS; intro g w hS hge)
    | (refine Z.eff (Z.bx hS rfl ?_) rfl; clear hS; intro g w hS hge)
    | refine Z.ixn rfl rfl rfl (by omega) ?_
    | refine Z.pl (R.upto rfl rfl rfl (by omega)) ?_
    | refine Z.pl (R.since rfl rfl rfl (by omega)) ?_
    | refine Z.pl (R.span rfl rfl rfl rfl (by omega) (by omega)) ?_
    | refine Z.pl (R.whole rfl rfl) ?_
    | refine Z.pl (R.eqa rfl rfl rfl rfl) ?_
    | refine Z.pl (R.nea rfl rfl rfl rfl) ?_
    | refine Z.ix rfl rfl rfl (by omega) ?_
    | refine Z.ia rfl rfl rfl (by omega) ?_
    | refine Z.bu rfl rfl ?_
    | (refine Z.eff (Z.bs hS rfl rfl rfl ?_) rfl; clear hS; intro g w hS hge)
    | refine Z.gT rfl rfl ?_
    | refine Z.gF rfl rfl ?_
    | refine Z.gF0 rfl rfl ?_
    | (refine Z.gS rfl rfl ?_ ?_ <;> intro hb <;> (try simp only [decide_eq_true_eq, decide_eq_false_iff_not, Bool.not_eq_true', Bool.not_eq_false', Int.not_lt, Int.not_le] at hb) <;> (try (exfalso; first | omega | exact hb trivial)))
    | with_reducible refine Z.seq ?_
    | with_reducible refine Z.reg ?_
    | with_reducible refine Z.nil ?_
    | with_reducible refine Z.skip ?_
    | with_reducible refine Z.exit ?_
    | with_reducible refine Z.ret ?_
    | with_reducible refine Z.block ?_
    | with_reducible refine Z.thN ?_
    | with_reducible refine Z.thU ?_
    | with_reducible refine Z.thE ?_
    | with_reducible refine Z.thR ?_
    | with_reducible refine Z.blN ?_
    | with_reducible refine Z.blR ?_
    | with_reducible refine Z.blE ?_
    | (with_reducible refine Z.blX ?_ ?_; rotate_left; rfl)
    | refine Z.brT rfl ?_
    | refine Z.brF rfl ?_
    | (refine Z.br rfl ?_ ?_ <;> intro hb <;> (try simp only [decide_eq_true_eq, decide_eq_false_iff_not, Bool.not_eq_true', Bool.not_eq_false', Int.not_lt, Int.not_le] at hb) <;> (try (exfalso; first | omega | exact hb trivial))))
  refine Z.eff (Z.cl (awake_z _ _ _ hS) rfl ?_) rfl
  clear hS
  rintro e w ⟨rfl, hS⟩
  refine ⟨_, rfl, ?_⟩
  repeat' (first
    | refine Z.pr rfl ?_
    | refine Z.eff (Z.ld hS rfl (by repeat (first | exact At.here | apply At.next)) rfl ?_) rfl
    | refine Z.eff (Z.ldR rfl (by assumption) rfl ?_) rfl
    | refine Z.eff (Z.ldE rfl (by assumption) rfl ?_) rfl
    | refine Z.sum rfl (by constructor <;> omega) ?_
    | (refine Z.eff (Z.st hS rfl (by repeat (first | exact At.here | apply At.next)) rfl rfl ?_) rfl; clear hS; intro w hS)
    | (refine Z.eff (Z.al hS ?_) rfl; clear hS; intro g w hS hge)
    | (refine Z.eff (Z.bx hS rfl ?_) rfl; clear hS; intro g w hS hge)
    | refine Z.ixn rfl rfl rfl (by omega) ?_
    | refine Z.pl (R.upto rfl rfl rfl (by omega)) ?_
    | refine Z.pl (R.since rfl rfl rfl (by omega)) ?_
    | refine Z.pl (R.span rfl rfl rfl rfl (by omega) (by omega)) ?_
    | refine Z.pl (R.whole rfl rfl) ?_
    | refine Z.pl (R.eqa rfl rfl rfl rfl) ?_
    | refine Z.pl (R.nea rfl rfl rfl rfl) ?_
    | refine Z.ix rfl rfl rfl (by omega) ?_
    | refine Z.ia rfl rfl rfl (by omega) ?_
    | refine Z.bu rfl rfl ?_
    | (refine Z.eff (Z.bs hS rfl rfl rfl ?_) rfl; clear hS; intro g w hS hge)
    | refine Z.gT rfl rfl ?_
    | refine Z.gF rfl rfl ?_
    | refine Z.gF0 rfl rfl ?_
    | (refine Z.gS rfl rfl ?_ ?_ <;> intro hb <;> (try simp only [decide_eq_true_eq, decide_eq_false_iff_not, Bool.not_eq_true', Bool.not_eq_false', Int.not_lt, Int.not_le] at hb) <;> (try (exfalso; first | omega | exact hb trivial)))
    | with_reducible refine Z.seq ?_
    | with_reducible refine Z.reg ?_
    | with_reducible refine Z.nil ?_
    | with_reducible refine Z.skip ?_
    | with_reducible refine Z.exit ?_
    | with_reducible refine Z.ret ?_
    | with_reducible refine Z.block ?_
    | with_reducible refine Z.thN ?_
    | with_reducible refine Z.thU ?_
    | with_reducible refine Z.thE ?_
    | with_reducible refine Z.thR ?_
    | with_reducible refine Z.blN ?_
    | with_reducible refine Z.blR ?_
    | with_reducible refine Z.blE ?_
    | (with_reducible refine Z.blX ?_ ?_; rotate_left; rfl)
    | refine Z.brT rfl ?_
    | refine Z.brF rfl ?_
    | (refine Z.br rfl ?_ ?_ <;> intro hb <;> (try simp only [decide_eq_true_eq, decide_eq_false_iff_not, Bool.not_eq_true', Bool.not_eq_false', Int.not_lt, Int.not_le] at hb) <;> (try (exfalso; first | omega | exact hb trivial))))
  refine Z.eff (Z.cl (few_z raw _ 60 _ _ _ hS (Reads.root hraw) (by omega)) rfl ?_) rfl
  clear hS
  rintro e w ⟨b, rfl, hfew, hS⟩
  refine ⟨_, rfl, ?_⟩
  cases b
  · repeat' (first
      | refine Z.pr rfl ?_
      | refine Z.eff (Z.ld hS rfl (by repeat (first | exact At.here | apply At.next)) rfl ?_) rfl
      | refine Z.eff (Z.ldR rfl (by assumption) rfl ?_) rfl
      | refine Z.eff (Z.ldE rfl (by assumption) rfl ?_) rfl
      | refine Z.sum rfl (by constructor <;> omega) ?_
      | (refine Z.eff (Z.st hS rfl (by repeat (first | exact At.here | apply At.next)) rfl rfl ?_) rfl; clear hS; intro w hS)
      | (refine Z.eff (Z.al hS ?_) rfl; clear hS; intro g w hS hge)
      | (refine Z.eff (Z.bx hS rfl ?_) rfl; clear hS; intro g w hS hge)
      | refine Z.ixn rfl rfl rfl (by omega) ?_
      | refine Z.pl (R.upto rfl rfl rfl (by omega)) ?_
      | refine Z.pl (R.since rfl rfl rfl (by omega)) ?_
      | refine Z.pl (R.span rfl rfl rfl rfl (by omega) (by omega)) ?_
      | refine Z.pl (R.whole rfl rfl) ?_
      | refine Z.pl (R.eqa rfl rfl rfl rfl) ?_
      | refine Z.pl (R.nea rfl rfl rfl rfl) ?_
      | refine Z.ix rfl rfl rfl (by omega) ?_
      | refine Z.ia rfl rfl rfl (by omega) ?_
      | refine Z.bu rfl rfl ?_
      | (refine Z.eff (Z.bs hS rfl rfl rfl ?_) rfl; clear hS; intro g w hS hge)
      | refine Z.gT rfl rfl ?_
      | refine Z.gF rfl rfl ?_
      | refine Z.gF0 rfl rfl ?_
      | (refine Z.gS rfl rfl ?_ ?_ <;> intro hb <;> (try simp only [decide_eq_true_eq, decide_eq_false_iff_not, Bool.not_eq_true', Bool.not_eq_false', Int.not_lt, Int.not_le] at hb) <;> (try (exfalso; first | omega | exact hb trivial)))
      | with_reducible refine Z.seq ?_
      | with_reducible refine Z.reg ?_
      | with_reducible refine Z.nil ?_
      | with_reducible refine Z.skip ?_
      | with_reducible refine Z.exit ?_
      | with_reducible refine Z.ret ?_
      | with_reducible refine Z.block ?_
      | with_reducible refine Z.thN ?_
      | with_reducible refine Z.thU ?_
      | with_reducible refine Z.thE ?_
      | with_reducible refine Z.thR ?_
      | with_reducible refine Z.blN ?_
      | with_reducible refine Z.blR ?_
      | with_reducible refine Z.blE ?_
      | (with_reducible refine Z.blX ?_ ?_; rotate_left; rfl)
      | refine Z.brT rfl ?_
      | refine Z.brF rfl ?_
      | (refine Z.br rfl ?_ ?_ <;> intro hb <;> (try simp only [decide_eq_true_eq, decide_eq_false_iff_not, Bool.not_eq_true', Bool.not_eq_false', Int.not_lt, Int.not_le] at hb) <;> (try (exfalso; first | omega | exact hb trivial))))
    first | refine Z.done hS Try.results4 (Z.RV.tmp rfl Z.RV.nil) ?_ | refine Z.doneN hS Try.results4 (Z.RV.tmp rfl Z.RV.nil) ?_
    exact ⟨rfl, hS.chg⟩
  replace hfew := hfew rfl
  repeat' (first
    | refine Z.pr rfl ?_
    | refine Z.eff (Z.ld hS rfl (by repeat (first | exact At.here | apply At.next)) rfl ?_) rfl
    | refine Z.eff (Z.ldR rfl (by assumption) rfl ?_) rfl
    | refine Z.eff (Z.ldE rfl (by assumption) rfl ?_) rfl
    | refine Z.sum rfl (by constructor <;> omega) ?_
    | (refine Z.eff (Z.st hS rfl (by repeat (first | exact At.here | apply At.next)) rfl rfl ?_) rfl; clear hS; intro w hS)
    | (refine Z.eff (Z.al hS ?_) rfl; clear hS; intro g w hS hge)
    | (refine Z.eff (Z.bx hS rfl ?_) rfl; clear hS; intro g w hS hge)
    | refine Z.ixn rfl rfl rfl (by omega) ?_
    | refine Z.pl (R.upto rfl rfl rfl (by omega)) ?_
    | refine Z.pl (R.since rfl rfl rfl (by omega)) ?_
    | refine Z.pl (R.span rfl rfl rfl rfl (by omega) (by omega)) ?_
    | refine Z.pl (R.whole rfl rfl) ?_
    | refine Z.pl (R.eqa rfl rfl rfl rfl) ?_
    | refine Z.pl (R.nea rfl rfl rfl rfl) ?_
    | refine Z.ix rfl rfl rfl (by omega) ?_
    | refine Z.ia rfl rfl rfl (by omega) ?_
    | refine Z.bu rfl rfl ?_
    | (refine Z.eff (Z.bs hS rfl rfl rfl ?_) rfl; clear hS; intro g w hS hge)
    | refine Z.gT rfl rfl ?_
    | refine Z.gF rfl rfl ?_
    | refine Z.gF0 rfl rfl ?_
    | (refine Z.gS rfl rfl ?_ ?_ <;> intro hb <;> (try simp only [decide_eq_true_eq, decide_eq_false_iff_not, Bool.not_eq_true', Bool.not_eq_false', Int.not_lt, Int.not_le] at hb) <;> (try (exfalso; first | omega | exact hb trivial)))
    | with_reducible refine Z.seq ?_
    | with_reducible refine Z.reg ?_
    | with_reducible refine Z.nil ?_
    | with_reducible refine Z.skip ?_
    | with_reducible refine Z.exit ?_
    | with_reducible refine Z.ret ?_
    | with_reducible refine Z.block ?_
    | with_reducible refine Z.thN ?_
    | with_reducible refine Z.thU ?_
    | with_reducible refine Z.thE ?_
    | with_reducible refine Z.thR ?_
    | with_reducible refine Z.blN ?_
    | with_reducible refine Z.blR ?_
    | with_reducible refine Z.blE ?_
    | (with_reducible refine Z.blX ?_ ?_; rotate_left; rfl)
    | refine Z.brT rfl ?_
    | refine Z.brF rfl ?_
    | (refine Z.br rfl ?_ ?_ <;> intro hb <;> (try simp only [decide_eq_true_eq, decide_eq_false_iff_not, Bool.not_eq_true', Bool.not_eq_false', Int.not_lt, Int.not_le] at hb) <;> (try (exfalso; first | omega | exact hb trivial))))
  refine Z.eff (Z.cl (light_q _ _ _ _) rfl ?_) rfl
  rintro e w' ⟨rfl, hC⟩
  refine ⟨_, rfl, ?_⟩
  replace hS := hS.ext hC
  clear hC
  repeat' (first
    | refine Z.pr rfl ?_
    | refine Z.eff (Z.ld hS rfl (by repeat (first | exact At.here | apply At.next)) rfl ?_) rfl
    | refine Z.eff (Z.ldR rfl (by assumption) rfl ?_) rfl
    | refine Z.eff (Z.ldE rfl (by assumption) rfl ?_) rfl
    | refine Z.sum rfl (by constructor <;> omega) ?_
    | (refine Z.eff (Z.st hS rfl (by repeat (first | exact At.here | apply At.next)) rfl rfl ?_) rfl; clear hS; intro w hS)
    | (refine Z.eff (Z.al hS ?_) rfl; clear hS; intro g w hS hge)
    | (refine Z.eff (Z.bx hS rfl ?_) rfl; clear hS; intro g w hS hge)
    | refine Z.ixn rfl rfl rfl (by omega) ?_
    | refine Z.pl (R.upto rfl rfl rfl (by omega)) ?_
    | refine Z.pl (R.since rfl rfl rfl (by omega)) ?_
    | refine Z.pl (R.span rfl rfl rfl rfl (by omega) (by omega)) ?_
    | refine Z.pl (R.whole rfl rfl) ?_
    | refine Z.pl (R.eqa rfl rfl rfl rfl) ?_
    | refine Z.pl (R.nea rfl rfl rfl rfl) ?_
    | refine Z.ix rfl rfl rfl (by omega) ?_
    | refine Z.ia rfl rfl rfl (by omega) ?_
    | refine Z.bu rfl rfl ?_
    | (refine Z.eff (Z.bs hS rfl rfl rfl ?_) rfl; clear hS; intro g w hS hge)
    | refine Z.gT rfl rfl ?_
    | refine Z.gF rfl rfl ?_
    | refine Z.gF0 rfl rfl ?_
    | (refine Z.gS rfl rfl ?_ ?_ <;> intro hb <;> (try simp only [decide_eq_true_eq, decide_eq_false_iff_not, Bool.not_eq_true', Bool.not_eq_false', Int.not_lt, Int.not_le] at hb) <;> (try (exfalso; first | omega | exact hb trivial)))
    | with_reducible refine Z.seq ?_
    | with_reducible refine Z.reg ?_
    | with_reducible refine Z.nil ?_
    | with_reducible refine Z.skip ?_
    | with_reducible refine Z.exit ?_
    | with_reducible refine Z.ret ?_
    | with_reducible refine Z.block ?_
    | with_reducible refine Z.thN ?_
    | with_reducible refine Z.thU ?_
    | with_reducible refine Z.thE ?_
    | with_reducible refine Z.thR ?_
    | with_reducible refine Z.blN ?_
    | with_reducible refine Z.blR ?_
    | with_reducible refine Z.blE ?_
    | (with_reducible refine Z.blX ?_ ?_; rotate_left; rfl)
    | refine Z.brT rfl ?_
    | refine Z.brF rfl ?_
    | (refine Z.br rfl ?_ ?_ <;> intro hb <;> (try simp only [decide_eq_true_eq, decide_eq_false_iff_not, Bool.not_eq_true', Bool.not_eq_false', Int.not_lt, Int.not_le] at hb) <;> (try (exfalso; first | omega | exact hb trivial))))
  · first | refine Z.done hS Try.results4 (Z.RV.tmp rfl Z.RV.nil) ?_ | refine Z.doneN hS Try.results4 (Z.RV.tmp rfl Z.RV.nil) ?_
    exact ⟨rfl, hS.chg⟩
  refine Z.eff (Z.cl (history_z l A cap _ _ _ hS hr (by omega)) rfl ?_) rfl
  clear hS
  rintro e w ⟨v, rfl, hS⟩
  refine ⟨_, rfl, ?_⟩
  obtain ⟨Ah, ch, rfl, hch⟩ := (hS.slrows .here).mform
  generalize (hist l).h = h at *
  repeat' (first
    | refine Z.pr rfl ?_
    | refine Z.eff (Z.ld hS rfl (by repeat (first | exact At.here | apply At.next)) rfl ?_) rfl
    | refine Z.eff (Z.ldR rfl (by assumption) rfl ?_) rfl
    | refine Z.eff (Z.ldE rfl (by assumption) rfl ?_) rfl
    | refine Z.sum rfl (by constructor <;> omega) ?_
    | (refine Z.eff (Z.st hS rfl (by repeat (first | exact At.here | apply At.next)) rfl rfl ?_) rfl; clear hS; intro w hS)
    | (refine Z.eff (Z.al hS ?_) rfl; clear hS; intro g w hS hge)
    | (refine Z.eff (Z.bx hS rfl ?_) rfl; clear hS; intro g w hS hge)
    | refine Z.ixn rfl rfl rfl (by omega) ?_
    | refine Z.pl (R.upto rfl rfl rfl (by omega)) ?_
    | refine Z.pl (R.since rfl rfl rfl (by omega)) ?_
    | refine Z.pl (R.span rfl rfl rfl rfl (by omega) (by omega)) ?_
    | refine Z.pl (R.whole rfl rfl) ?_
    | refine Z.pl (R.eqa rfl rfl rfl rfl) ?_
    | refine Z.pl (R.nea rfl rfl rfl rfl) ?_
    | refine Z.ix rfl rfl rfl (by omega) ?_
    | refine Z.ia rfl rfl rfl (by omega) ?_
    | refine Z.bu rfl rfl ?_
    | (refine Z.eff (Z.bs hS rfl rfl rfl ?_) rfl; clear hS; intro g w hS hge)
    | refine Z.gT rfl rfl ?_
    | refine Z.gF rfl rfl ?_
    | refine Z.gF0 rfl rfl ?_
    | (refine Z.gS rfl rfl ?_ ?_ <;> intro hb <;> (try simp only [decide_eq_true_eq, decide_eq_false_iff_not, Bool.not_eq_true', Bool.not_eq_false', Int.not_lt, Int.not_le] at hb) <;> (try (exfalso; first | omega | exact hb trivial)))
    | with_reducible refine Z.seq ?_
    | with_reducible refine Z.reg ?_
    | with_reducible refine Z.nil ?_
    | with_reducible refine Z.skip ?_
    | with_reducible refine Z.exit ?_
    | with_reducible refine Z.ret ?_
    | with_reducible refine Z.block ?_
    | with_reducible refine Z.thN ?_
    | with_reducible refine Z.thU ?_
    | with_reducible refine Z.thE ?_
    | with_reducible refine Z.thR ?_
    | with_reducible refine Z.blN ?_
    | with_reducible refine Z.blR ?_
    | with_reducible refine Z.blE ?_
    | (with_reducible refine Z.blX ?_ ?_; rotate_left; rfl)
    | refine Z.brT rfl ?_
    | refine Z.brF rfl ?_
    | (refine Z.br rfl ?_ ?_ <;> intro hb <;> (try simp only [decide_eq_true_eq, decide_eq_false_iff_not, Bool.not_eq_true', Bool.not_eq_false', Int.not_lt, Int.not_le] at hb) <;> (try (exfalso; first | omega | exact hb trivial))))
  have hall : ∀ p, p ∈ [(⟨Ar, raw.length, cr, raw⟩ : LS), ⟨Ah, h.length, ch, h⟩] → p.n = p.l.length ∧ p.l.length ≤ 1000 ∧ Reads r [Res.sl 30 8 (.slice Ah h.length ch) (h.map Ch.cells)] 8 (.slice p.A p.n p.c) (p.l.map Ch.cells) := by
    intro p hp
    simp only [List.mem_cons, List.not_mem_nil, or_false] at hp
    rcases hp with rfl | rfl
    · exact ⟨rfl, by simp only; omega, Reads.root hraw⟩
    · exact ⟨rfl, by simp only; omega, Reads.of_at (by repeat (first | exact At.here | apply At.next))⟩
  have hls : ([(⟨Ar, raw.length, cr, raw⟩ : LS), ⟨Ah, h.length, ch, h⟩]).length = 2 := rfl
  replace hS := mk_sl (sz := 1) (n := 2) (rows := ([(⟨Ar, raw.length, cr, raw⟩ : LS), ⟨Ah, h.length, ch, h⟩]).map LS.cells) hS rfl (by omega) (by decide) LS.row_ok rfl
  generalize [(⟨Ar, raw.length, cr, raw⟩ : LS), ⟨Ah, h.length, ch, h⟩] = ls at *
  generalize [Res.sl 30 8 (.slice Ah h.length ch) (h.map Ch.cells)] = FF at *
  rename Nat => gl
  refine Z.lpS [4, 6, 7, 8, 9, 10, 12, 13, 29, 30, 31, 32, 33, 34, 35, 36, 37, 38, 39, 40, 41, 42, 43, 44, 45, 46, 47, 48, 49, 50, 51, 52, 53, 54, 55, 56, 57, 58, 59, 60, 61, 62, 63, 64, 65, 66, 67, 68, 69, 70, 71, 72, 73, 74, 75, 76, 77, 78, 79, 80, 81, 82, 83] (fun m w s => ∃ q : Nat, s = [(29, .int .i64 q)] ∧ q ≤ ls.length ∧ m = ls.length - q ∧ Sep r [] (.sl 25 1 (.slice (some ⟨gl, 0, none⟩) 2 2) (ls.map LS.cells) :: FF) w) _ [(29, .int .i64 (0 : Nat))] (by repeat (first | exact trivial | refine ⟨rfl, ?_⟩)) ⟨0, rfl, by omega, rfl, hS⟩ ?_
  clear hS
  rintro m f0 w _ ⟨q, rfl, hq, rfl, hS⟩
  by_cases hlt : q < ls.length
  · have hra := (hS.slrows .here).elem (by omega) hlt
    obtain ⟨hyn, hyl, hy⟩ := hall ls[q] (by simp)
    replace hra : w.rangeAt gl (0 + q * 1) [.slice ls[q].A ls[q].n ls[q].c] := hra
    generalize ls[q].n = ny at *
    generalize ls[q].A = Ay at *
    generalize ls[q].c = cy at *
    generalize ls[q].l = y at *
    subst hyn
    repeat' (first
      | refine Z.pr rfl ?_
      | refine Z.eff (Z.ld hS rfl (by repeat (first | exact At.here | apply At.next)) rfl ?_) rfl
      | refine Z.eff (Z.ldR rfl (by assumption) rfl ?_) rfl
      | refine Z.eff (Z.ldE rfl (by assumption) rfl ?_) rfl
      | refine Z.sum rfl (by constructor <;> omega) ?_
      | (refine Z.eff (Z.st hS rfl (by repeat (first | exact At.here | apply At.next)) rfl rfl ?_) rfl; clear hS; intro w hS)
      | (refine Z.eff (Z.al hS ?_) rfl; clear hS; intro g w hS hge)
      | (refine Z.eff (Z.bx hS rfl ?_) rfl; clear hS; intro g w hS hge)
      | refine Z.ixn rfl rfl rfl (by omega) ?_
      | refine Z.pl (R.upto rfl rfl rfl (by omega)) ?_
      | refine Z.pl (R.since rfl rfl rfl (by omega)) ?_
      | refine Z.pl (R.span rfl rfl rfl rfl (by omega) (by omega)) ?_
      | refine Z.pl (R.whole rfl rfl) ?_
      | refine Z.pl (R.eqa rfl rfl rfl rfl) ?_
      | refine Z.pl (R.nea rfl rfl rfl rfl) ?_
      | refine Z.ix rfl rfl rfl (by omega) ?_
      | refine Z.ia rfl rfl rfl (by omega) ?_
      | refine Z.bu rfl rfl ?_
      | (refine Z.eff (Z.bs hS rfl rfl rfl ?_) rfl; clear hS; intro g w hS hge)
      | refine Z.gT rfl rfl ?_
      | refine Z.gF rfl rfl ?_
      | refine Z.gF0 rfl rfl ?_
      | (refine Z.gS rfl rfl ?_ ?_ <;> intro hb <;> (try simp only [decide_eq_true_eq, decide_eq_false_iff_not, Bool.not_eq_true', Bool.not_eq_false', Int.not_lt, Int.not_le] at hb) <;> (try (exfalso; first | omega | exact hb trivial)))
      | with_reducible refine Z.seq ?_
      | with_reducible refine Z.reg ?_
      | with_reducible refine Z.nil ?_
      | with_reducible refine Z.skip ?_
      | with_reducible refine Z.exit ?_
      | with_reducible refine Z.ret ?_
      | with_reducible refine Z.block ?_
      | with_reducible refine Z.thN ?_
      | with_reducible refine Z.thU ?_
      | with_reducible refine Z.thE ?_
      | with_reducible refine Z.thR ?_
      | with_reducible refine Z.blN ?_
      | with_reducible refine Z.blR ?_
      | with_reducible refine Z.blE ?_
      | (with_reducible refine Z.blX ?_ ?_; rotate_left; rfl)
      | refine Z.brT rfl ?_
      | refine Z.brF rfl ?_
      | (refine Z.br rfl ?_ ?_ <;> intro hb <;> (try simp only [decide_eq_true_eq, decide_eq_false_iff_not, Bool.not_eq_true', Bool.not_eq_false', Int.not_lt, Int.not_le] at hb) <;> (try (exfalso; first | omega | exact hb trivial))))
    refine Z.eff (Z.cl (pfold_z y _ _ _ _ hS (hy.cons _) (by omega)) rfl ?_) rfl
    clear hS hra
    rintro e w ⟨q1, e1, hF1, ⟨rfl, g1, rfl, hS⟩ | ⟨h0, rfl, hS⟩⟩
    · refine ⟨_, rfl, ?_⟩
      have hF : ∀ j (hj : j < y.length), (tApp (tabOf (y.take j)) y[j]).2 = 0 := by
        rcases hF1.stop with ⟨rfl, _⟩ | ⟨_, _, h⟩
        · exact fun j hj => hF1.ok j hj hj
        · exact absurd rfl h
      repeat' (first
        | refine Z.pr rfl ?_
        | refine Z.eff (Z.ld hS rfl (by repeat (first | exact At.here | apply At.next)) rfl ?_) rfl
        | refine Z.eff (Z.ldR rfl (by assumption) rfl ?_) rfl
        | refine Z.eff (Z.ldE rfl (by assumption) rfl ?_) rfl
        | refine Z.sum rfl (by constructor <;> omega) ?_
        | (refine Z.eff (Z.st hS rfl (by repeat (first | exact At.here | apply At.next)) rfl rfl ?_) rfl; clear hS; intro w hS)
        | (refine Z.eff (Z.al hS ?_) rfl; clear hS; intro g w hS hge)
        | (refine Z.eff (Z.bx hS rfl ?_) rfl; clear hS; intro g w hS hge)
        | refine Z.ixn rfl rfl rfl (by omega) ?_
        | refine Z.pl (R.upto rfl rfl rfl (by omega)) ?_
        | refine Z.pl (R.since rfl rfl rfl (by omega)) ?_
        | refine Z.pl (R.span rfl rfl rfl rfl (by omega) (by omega)) ?_
        | refine Z.pl (R.whole rfl rfl) ?_
        | refine Z.pl (R.eqa rfl rfl rfl rfl) ?_
        | refine Z.pl (R.nea rfl rfl rfl rfl) ?_
        | refine Z.ix rfl rfl rfl (by omega) ?_
        | refine Z.ia rfl rfl rfl (by omega) ?_
        | refine Z.bu rfl rfl ?_
        | (refine Z.eff (Z.bs hS rfl rfl rfl ?_) rfl; clear hS; intro g w hS hge)
        | refine Z.gT rfl rfl ?_
        | refine Z.gF rfl rfl ?_
        | refine Z.gF0 rfl rfl ?_
        | (refine Z.gS rfl rfl ?_ ?_ <;> intro hb <;> (try simp only [decide_eq_true_eq, decide_eq_false_iff_not, Bool.not_eq_true', Bool.not_eq_false', Int.not_lt, Int.not_le] at hb) <;> (try (exfalso; first | omega | exact hb trivial)))
        | with_reducible refine Z.seq ?_
        | with_reducible refine Z.reg ?_
        | with_reducible refine Z.nil ?_
        | with_reducible refine Z.skip ?_
        | with_reducible refine Z.exit ?_
        | with_reducible refine Z.ret ?_
        | with_reducible refine Z.block ?_
        | with_reducible refine Z.thN ?_
        | with_reducible refine Z.thU ?_
        | with_reducible refine Z.thE ?_
        | with_reducible refine Z.thR ?_
        | with_reducible refine Z.blN ?_
        | with_reducible refine Z.blR ?_
        | with_reducible refine Z.blE ?_
        | (with_reducible refine Z.blX ?_ ?_; rotate_left; rfl)
        | refine Z.brT rfl ?_
        | refine Z.brF rfl ?_
        | (refine Z.br rfl ?_ ?_ <;> intro hb <;> (try simp only [decide_eq_true_eq, decide_eq_false_iff_not, Bool.not_eq_true', Bool.not_eq_false', Int.not_lt, Int.not_le] at hb) <;> (try (exfalso; first | omega | exact hb trivial))))
      rename Nat => gn
      refine Z.lpS [4, 12, 43, 44, 45, 46, 47, 48, 49, 50, 51, 52, 53, 54, 55, 56, 57, 58, 59, 60, 61, 62, 63, 64, 65, 66, 67, 68, 69, 70, 71] (fun m w s => ∃ p : Nat, s = [(43, .int .i64 p)] ∧ p ≤ y.length ∧ m = y.length - p ∧ Sep r [] (PT g1 (tabOf y) :: .blk gn 41 (cntC (tabOf (y.take p))) :: .sl 25 1 (.slice (some ⟨gl, 0, none⟩) 2 2) (ls.map LS.cells) :: FF) w) _ [(43, .int .i64 (0 : Nat))] (by repeat (first | exact trivial | refine ⟨rfl, ?_⟩)) ⟨0, rfl, by omega, rfl, hS.sub (by repeat (first | exact Sub.rest | exact Sub.nil | exact .skip .rest | exact .skip (.skip .rest) | exact .skip (.skip (.skip .rest)) | apply Sub.keep | refine Sub.cons (by repeat (first | exact At.here | apply At.next)) ?_ | apply Sub.skip))⟩ ?_
      clear hS
      rintro m f1 w _ ⟨p, rfl, hp, rfl, hS⟩
      by_cases hlp : p < y.length
      · obtain ⟨gb, o, rfl, _, hra⟩ := (hy [_, _, _] w hS).mat (by omega) hlp
        have hz := hF p hlp
        obtain ⟨hval, hnum, hT⟩ := tApp_zero hz
        have hbd := valid_bounds hval
        have hok := tabOf_ok (y.take p) (y[p].client - 1).toNat
        have htk := tabOf_take hlp
        rw [hT] at htk
        have hc1 : ¬ y[p].client < 1 := by omega
        have hc2 : ¬ 8 < y[p].client := by omega
        repeat' (first
          | refine Z.pr rfl ?_
          | refine Z.eff (Z.ld hS rfl (by repeat (first | exact At.here | apply At.next)) rfl ?_) rfl
          | refine Z.eff (Z.ldR rfl (by assumption) rfl ?_) rfl
          | refine Z.eff (Z.ldE rfl (by assumption) rfl ?_) rfl
          | refine Z.sum rfl (by constructor <;> omega) ?_
          | (refine Z.eff (Z.st hS rfl (by repeat (first | exact At.here | apply At.next)) rfl rfl ?_) rfl; clear hS; intro w hS)
          | (refine Z.eff (Z.al hS ?_) rfl; clear hS; intro g w hS hge)
          | (refine Z.eff (Z.bx hS rfl ?_) rfl; clear hS; intro g w hS hge)
          | refine Z.ixn rfl rfl rfl (by omega) ?_
          | refine Z.pl (R.upto rfl rfl rfl (by omega)) ?_
          | refine Z.pl (R.since rfl rfl rfl (by omega)) ?_
          | refine Z.pl (R.span rfl rfl rfl rfl (by omega) (by omega)) ?_
          | refine Z.pl (R.whole rfl rfl) ?_
          | refine Z.pl (R.eqa rfl rfl rfl rfl) ?_
          | refine Z.pl (R.nea rfl rfl rfl rfl) ?_
          | refine Z.ix rfl rfl rfl (by omega) ?_
          | refine Z.ia rfl rfl rfl (by omega) ?_
          | refine Z.bu rfl rfl ?_
          | (refine Z.eff (Z.bs hS rfl rfl rfl ?_) rfl; clear hS; intro g w hS hge)
          | refine Z.gT rfl rfl ?_
          | refine Z.gF rfl rfl ?_
          | refine Z.gF0 rfl rfl ?_
          | (refine Z.gS rfl rfl ?_ ?_ <;> intro hb <;> (try simp only [decide_eq_true_eq, decide_eq_false_iff_not, Bool.not_eq_true', Bool.not_eq_false', Int.not_lt, Int.not_le] at hb) <;> (try (exfalso; first | omega | exact hb trivial)))
          | with_reducible refine Z.seq ?_
          | with_reducible refine Z.reg ?_
          | with_reducible refine Z.nil ?_
          | with_reducible refine Z.skip ?_
          | with_reducible refine Z.exit ?_
          | with_reducible refine Z.ret ?_
          | with_reducible refine Z.block ?_
          | with_reducible refine Z.thN ?_
          | with_reducible refine Z.thU ?_
          | with_reducible refine Z.thE ?_
          | with_reducible refine Z.thR ?_
          | with_reducible refine Z.blN ?_
          | with_reducible refine Z.blR ?_
          | with_reducible refine Z.blE ?_
          | (with_reducible refine Z.blX ?_ ?_; rotate_left; rfl)
          | refine Z.brT rfl ?_
          | refine Z.brF rfl ?_
          | (refine Z.br rfl ?_ ?_ <;> intro hb <;> (try simp only [decide_eq_true_eq, decide_eq_false_iff_not, Bool.not_eq_true', Bool.not_eq_false', Int.not_lt, Int.not_le] at hb) <;> (try (exfalso; first | omega | exact hb trivial))))
        rename Nat => gx
        refine D.startS hS 18 18 (by kernel_rfl) rfl ?_
        replace hS := hS.drew
        refine D.pr 0 1 rfl D.wantedN (by kernel_rfl) rfl ?_
        refine D.ld 1 3 rfl D.wantedN (by kernel_rfl) rfl (fun W h => h.blk (by repeat (first | exact At.here | apply At.next))) rfl ?_
        refine D.pr 2 7 rfl D.wantedN (by kernel_rfl) rfl ?_
        refine D.pr 3 15 rfl D.wantedN (by kernel_rfl) rfl ?_
        refine D.slot 50 rfl (fun hb => by exfalso; (try simp only [decide_eq_true_eq, decide_eq_false_iff_not, Bool.not_eq_true', Bool.not_eq_false', Int.not_lt, Int.not_le] at hb) <;> first | omega | exact hb trivial) (fun hb => ?_)
        (try simp only [decide_eq_true_eq, decide_eq_false_iff_not, Bool.not_eq_true', Bool.not_eq_false', Int.not_lt, Int.not_le] at hb)
        refine D.pr 4 31 rfl (D.wantedT rfl rfl) (by kernel_rfl) rfl ?_
        refine D.ld 5 63 rfl (D.wantedT rfl rfl) (by kernel_rfl) rfl (fun W h => h.blk (by repeat (first | exact At.here | apply At.next))) rfl ?_
        refine D.pr 6 127 rfl (D.wantedT rfl rfl) (by kernel_rfl) rfl ?_
        refine D.pr 7 255 rfl D.wantedN (by kernel_rfl) rfl ?_
        refine D.pr 8 511 rfl D.wantedN (by kernel_rfl) rfl ?_
        refine D.slot 55 rfl (fun hb => by exfalso; (try simp only [decide_eq_true_eq, decide_eq_false_iff_not, Bool.not_eq_true', Bool.not_eq_false', Int.not_lt, Int.not_le] at hb) <;> first | omega | exact hb trivial) (fun hb => ?_)
        (try simp only [decide_eq_true_eq, decide_eq_false_iff_not, Bool.not_eq_true', Bool.not_eq_false', Int.not_lt, Int.not_le] at hb)
        refine D.pr 9 1023 rfl (D.wantedT rfl rfl) (by kernel_rfl) rfl ?_
        refine D.pr 11 3071 rfl (D.wantedT rfl rfl) (by kernel_rfl) rfl ?_
        refine D.ld 10 4095 rfl (D.wantedT rfl rfl) (by kernel_rfl) rfl (fun W h => h.blk (by repeat (first | exact At.here | apply At.next))) rfl ?_
        refine D.ld 12 8191 rfl (D.wantedT rfl rfl) (by kernel_rfl) rfl (fun W h => h.blk (by repeat (first | exact At.here | apply At.next))) rfl ?_
        first | refine D.ixn 13 16383 rfl (D.wantedT rfl rfl) (by kernel_rfl) rfl rfl rfl (by omega) ?_ | refine D.ix 13 16383 rfl (D.wantedT rfl rfl) (by kernel_rfl) rfl rfl rfl (by omega) ?_ | refine D.ia 13 16383 rfl (D.wantedT rfl rfl) (by kernel_rfl) rfl rfl rfl (by omega) ?_
        refine D.ldR 14 32767 rfl (D.wantedT rfl rfl) (by kernel_rfl) rfl (fun W h => range_blk (h.blk (by repeat (first | exact At.here | apply At.next))) (cnt_at _ (by omega) (by omega))) rfl ?_
        first | refine D.sum 15 65535 rfl (D.wantedT rfl rfl) (by kernel_rfl) rfl (by constructor <;> omega) ?_ | refine D.sumW 15 65535 rfl (D.wantedT rfl rfl) (by kernel_rfl) rfl ?_
        first | refine D.pr 16 131071 rfl (D.wantedT rfl rfl) (by kernel_rfl) rfl ?_ | refine D.pl 16 131071 rfl (D.wantedT rfl rfl) (by kernel_rfl) (R.nea rfl rfl rfl rfl) ?_
        refine D.pr 17 262143 rfl D.wantedN (by kernel_rfl) rfl ?_
        refine D.done (by kernel_rfl) ?_
        repeat' (first
          | refine Z.pr rfl ?_
          | refine Z.eff (Z.ld hS rfl (by repeat (first | exact At.here | apply At.next)) rfl ?_) rfl
          | refine Z.eff (Z.ldR rfl (by assumption) rfl ?_) rfl
          | refine Z.eff (Z.ldE rfl (by assumption) rfl ?_) rfl
          | refine Z.sum rfl (by constructor <;> omega) ?_
          | (refine Z.eff (Z.st hS rfl (by repeat (first | exact At.here | apply At.next)) rfl rfl ?_) rfl; clear hS; intro w hS)
          | (refine Z.eff (Z.al hS ?_) rfl; clear hS; intro g w hS hge)
          | (refine Z.eff (Z.bx hS rfl ?_) rfl; clear hS; intro g w hS hge)
          | refine Z.ixn rfl rfl rfl (by omega) ?_
          | refine Z.pl (R.upto rfl rfl rfl (by omega)) ?_
          | refine Z.pl (R.since rfl rfl rfl (by omega)) ?_
          | refine Z.pl (R.span rfl rfl rfl rfl (by omega) (by omega)) ?_
          | refine Z.pl (R.whole rfl rfl) ?_
          | refine Z.pl (R.eqa rfl rfl rfl rfl) ?_
          | refine Z.pl (R.nea rfl rfl rfl rfl) ?_
          | refine Z.ix rfl rfl rfl (by omega) ?_
          | refine Z.ia rfl rfl rfl (by omega) ?_
          | refine Z.bu rfl rfl ?_
          | (refine Z.eff (Z.bs hS rfl rfl rfl ?_) rfl; clear hS; intro g w hS hge)
          | refine Z.gT rfl rfl ?_
          | refine Z.gF rfl rfl ?_
          | refine Z.gF0 rfl rfl ?_
          | (refine Z.gS rfl rfl ?_ ?_ <;> intro hb <;> (try simp only [decide_eq_true_eq, decide_eq_false_iff_not, Bool.not_eq_true', Bool.not_eq_false', Int.not_lt, Int.not_le] at hb) <;> (try (exfalso; first | omega | exact hb trivial)))
          | with_reducible refine Z.seq ?_
          | with_reducible refine Z.reg ?_
          | with_reducible refine Z.nil ?_
          | with_reducible refine Z.skip ?_
          | with_reducible refine Z.exit ?_
          | with_reducible refine Z.ret ?_
          | with_reducible refine Z.block ?_
          | with_reducible refine Z.thN ?_
          | with_reducible refine Z.thU ?_
          | with_reducible refine Z.thE ?_
          | with_reducible refine Z.thR ?_
          | with_reducible refine Z.blN ?_
          | with_reducible refine Z.blR ?_
          | with_reducible refine Z.blE ?_
          | (with_reducible refine Z.blX ?_ ?_; rotate_left; rfl)
          | refine Z.brT rfl ?_
          | refine Z.brF rfl ?_
          | (refine Z.br rfl ?_ ?_ <;> intro hb <;> (try simp only [decide_eq_true_eq, decide_eq_false_iff_not, Bool.not_eq_true', Bool.not_eq_false', Int.not_lt, Int.not_le] at hb) <;> (try (exfalso; first | omega | exact hb trivial))))
        have hcn := range_blk (hS.blk (g := gn) (by repeat (first | exact At.here | apply At.next))) (cnt_at (tabOf (y.take p)) (c := y[p].client) (by omega) (by omega))
        repeat' (first
          | refine Z.pr rfl ?_
          | refine Z.eff (Z.ld hS rfl (by repeat (first | exact At.here | apply At.next)) rfl ?_) rfl
          | refine Z.eff (Z.ldR rfl (by assumption) rfl ?_) rfl
          | refine Z.eff (Z.ldE rfl (by assumption) rfl ?_) rfl
          | refine Z.sum rfl (by constructor <;> omega) ?_
          | (refine Z.eff (Z.st hS rfl (by repeat (first | exact At.here | apply At.next)) rfl rfl ?_) rfl; clear hS; intro w hS)
          | (refine Z.eff (Z.al hS ?_) rfl; clear hS; intro g w hS hge)
          | (refine Z.eff (Z.bx hS rfl ?_) rfl; clear hS; intro g w hS hge)
          | refine Z.ixn rfl rfl rfl (by omega) ?_
          | refine Z.pl (R.upto rfl rfl rfl (by omega)) ?_
          | refine Z.pl (R.since rfl rfl rfl (by omega)) ?_
          | refine Z.pl (R.span rfl rfl rfl rfl (by omega) (by omega)) ?_
          | refine Z.pl (R.whole rfl rfl) ?_
          | refine Z.pl (R.eqa rfl rfl rfl rfl) ?_
          | refine Z.pl (R.nea rfl rfl rfl rfl) ?_
          | refine Z.ix rfl rfl rfl (by omega) ?_
          | refine Z.ia rfl rfl rfl (by omega) ?_
          | refine Z.bu rfl rfl ?_
          | (refine Z.eff (Z.bs hS rfl rfl rfl ?_) rfl; clear hS; intro g w hS hge)
          | refine Z.gT rfl rfl ?_
          | refine Z.gF rfl rfl ?_
          | refine Z.gF0 rfl rfl ?_
          | (refine Z.gS rfl rfl ?_ ?_ <;> intro hb <;> (try simp only [decide_eq_true_eq, decide_eq_false_iff_not, Bool.not_eq_true', Bool.not_eq_false', Int.not_lt, Int.not_le] at hb) <;> (try (exfalso; first | omega | exact hb trivial)))
          | with_reducible refine Z.seq ?_
          | with_reducible refine Z.reg ?_
          | with_reducible refine Z.nil ?_
          | with_reducible refine Z.skip ?_
          | with_reducible refine Z.exit ?_
          | with_reducible refine Z.ret ?_
          | with_reducible refine Z.block ?_
          | with_reducible refine Z.thN ?_
          | with_reducible refine Z.thU ?_
          | with_reducible refine Z.thE ?_
          | with_reducible refine Z.thR ?_
          | with_reducible refine Z.blN ?_
          | with_reducible refine Z.blR ?_
          | with_reducible refine Z.blE ?_
          | (with_reducible refine Z.blX ?_ ?_; rotate_left; rfl)
          | refine Z.brT rfl ?_
          | refine Z.brF rfl ?_
          | (refine Z.br rfl ?_ ?_ <;> intro hb <;> (try simp only [decide_eq_true_eq, decide_eq_false_iff_not, Bool.not_eq_true', Bool.not_eq_false', Int.not_lt, Int.not_le] at hb) <;> (try (exfalso; first | omega | exact hb trivial))))
        refine Z.eff (Z.st hS rfl (by repeat (first | exact At.here | apply At.next)) rfl (cnt_set (tabOf (y.take p)) (tabOf (y.take p)).r (by omega) (by omega)) ?_) rfl
        clear hS hcn; intro w hS
        repeat' (first
          | refine Z.pr rfl ?_
          | refine Z.eff (Z.ld hS rfl (by repeat (first | exact At.here | apply At.next)) rfl ?_) rfl
          | refine Z.eff (Z.ldR rfl (by assumption) rfl ?_) rfl
          | refine Z.eff (Z.ldE rfl (by assumption) rfl ?_) rfl
          | refine Z.sum rfl (by constructor <;> omega) ?_
          | (refine Z.eff (Z.st hS rfl (by repeat (first | exact At.here | apply At.next)) rfl rfl ?_) rfl; clear hS; intro w hS)
          | (refine Z.eff (Z.al hS ?_) rfl; clear hS; intro g w hS hge)
          | (refine Z.eff (Z.bx hS rfl ?_) rfl; clear hS; intro g w hS hge)
          | refine Z.ixn rfl rfl rfl (by omega) ?_
          | refine Z.pl (R.upto rfl rfl rfl (by omega)) ?_
          | refine Z.pl (R.since rfl rfl rfl (by omega)) ?_
          | refine Z.pl (R.span rfl rfl rfl rfl (by omega) (by omega)) ?_
          | refine Z.pl (R.whole rfl rfl) ?_
          | refine Z.pl (R.eqa rfl rfl rfl rfl) ?_
          | refine Z.pl (R.nea rfl rfl rfl rfl) ?_
          | refine Z.ix rfl rfl rfl (by omega) ?_
          | refine Z.ia rfl rfl rfl (by omega) ?_
          | refine Z.bu rfl rfl ?_
          | (refine Z.eff (Z.bs hS rfl rfl rfl ?_) rfl; clear hS; intro g w hS hge)
          | refine Z.gT rfl rfl ?_
          | refine Z.gF rfl rfl ?_
          | refine Z.gF0 rfl rfl ?_
          | (refine Z.gS rfl rfl ?_ ?_ <;> intro hb <;> (try simp only [decide_eq_true_eq, decide_eq_false_iff_not, Bool.not_eq_true', Bool.not_eq_false', Int.not_lt, Int.not_le] at hb) <;> (try (exfalso; first | omega | exact hb trivial)))
          | with_reducible refine Z.seq ?_
          | with_reducible refine Z.reg ?_
          | with_reducible refine Z.nil ?_
          | with_reducible refine Z.skip ?_
          | with_reducible refine Z.exit ?_
          | with_reducible refine Z.ret ?_
          | with_reducible refine Z.block ?_
          | with_reducible refine Z.thN ?_
          | with_reducible refine Z.thU ?_
          | with_reducible refine Z.thE ?_
          | with_reducible refine Z.thR ?_
          | with_reducible refine Z.blN ?_
          | with_reducible refine Z.blR ?_
          | with_reducible refine Z.blE ?_
          | (with_reducible refine Z.blX ?_ ?_; rotate_left; rfl)
          | refine Z.brT rfl ?_
          | refine Z.brF rfl ?_
          | (refine Z.br rfl ?_ ?_ <;> intro hb <;> (try simp only [decide_eq_true_eq, decide_eq_false_iff_not, Bool.not_eq_true', Bool.not_eq_false', Int.not_lt, Int.not_le] at hb) <;> (try (exfalso; first | omega | exact hb trivial))))
        refine Z.againS (y.length - (p + 1)) [(43, .int .i64 (p + 1 : Nat))] (by omega) (by repeat (first | with_reducible exact Same.mix | ((with_reducible refine Same.upd ?_ ?_); · rfl) | ((with_reducible refine Same.cons ?_ ?_); · rfl) | with_reducible exact Same.refl | with_reducible refine Same.nil ?_ | ((with_reducible refine Same.mixS ?_ ?_); · rfl))) (by repeat (first | exact trivial | refine ⟨rfl, ?_⟩)) ?_
        refine ⟨p + 1, rfl, by omega, rfl, ?_⟩
        have e : cntC (tabOf (y.take (p + 1))) = cntC ⟨upd (tabOf (y.take p)).n (y[p].client - 1).toNat ((tabOf (y.take p)).n (y[p].client - 1).toNat + 1), (tabOf (y.take p)).r⟩ := by
          rw [htk]
          simp only [cntC]
          rw [hnum]
        rw [e]
        exact hS.sub (by repeat (first | exact Sub.rest | exact Sub.nil | exact .skip .rest | exact .skip (.skip .rest) | exact .skip (.skip (.skip .rest)) | apply Sub.keep | refine Sub.cons (by repeat (first | exact At.here | apply At.next)) ?_ | apply Sub.skip))
      · have hpe : p = y.length := by omega
        subst hpe
        rw [List.take_length] at hS
        repeat' (first
          | refine Z.pr rfl ?_
          | refine Z.eff (Z.ld hS rfl (by repeat (first | exact At.here | apply At.next)) rfl ?_) rfl
          | refine Z.eff (Z.ldR rfl (by assumption) rfl ?_) rfl
          | refine Z.eff (Z.ldE rfl (by assumption) rfl ?_) rfl
          | refine Z.sum rfl (by constructor <;> omega) ?_
          | (refine Z.eff (Z.st hS rfl (by repeat (first | exact At.here | apply At.next)) rfl rfl ?_) rfl; clear hS; intro w hS)
          | (refine Z.eff (Z.al hS ?_) rfl; clear hS; intro g w hS hge)
          | (refine Z.eff (Z.bx hS rfl ?_) rfl; clear hS; intro g w hS hge)
          | refine Z.ixn rfl rfl rfl (by omega) ?_
          | refine Z.pl (R.upto rfl rfl rfl (by omega)) ?_
          | refine Z.pl (R.since rfl rfl rfl (by omega)) ?_
          | refine Z.pl (R.span rfl rfl rfl rfl (by omega) (by omega)) ?_
          | refine Z.pl (R.whole rfl rfl) ?_
          | refine Z.pl (R.eqa rfl rfl rfl rfl) ?_
          | refine Z.pl (R.nea rfl rfl rfl rfl) ?_
          | refine Z.ix rfl rfl rfl (by omega) ?_
          | refine Z.ia rfl rfl rfl (by omega) ?_
          | refine Z.bu rfl rfl ?_
          | (refine Z.eff (Z.bs hS rfl rfl rfl ?_) rfl; clear hS; intro g w hS hge)
          | refine Z.gT rfl rfl ?_
          | refine Z.gF rfl rfl ?_
          | refine Z.gF0 rfl rfl ?_
          | (refine Z.gS rfl rfl ?_ ?_ <;> intro hb <;> (try simp only [decide_eq_true_eq, decide_eq_false_iff_not, Bool.not_eq_true', Bool.not_eq_false', Int.not_lt, Int.not_le] at hb) <;> (try (exfalso; first | omega | exact hb trivial)))
          | with_reducible refine Z.seq ?_
          | with_reducible refine Z.reg ?_
          | with_reducible refine Z.nil ?_
          | with_reducible refine Z.skip ?_
          | with_reducible refine Z.exit ?_
          | with_reducible refine Z.ret ?_
          | with_reducible refine Z.block ?_
          | with_reducible refine Z.thN ?_
          | with_reducible refine Z.thU ?_
          | with_reducible refine Z.thE ?_
          | with_reducible refine Z.thR ?_
          | with_reducible refine Z.blN ?_
          | with_reducible refine Z.blR ?_
          | with_reducible refine Z.blE ?_
          | (with_reducible refine Z.blX ?_ ?_; rotate_left; rfl)
          | refine Z.brT rfl ?_
          | refine Z.brF rfl ?_
          | (refine Z.br rfl ?_ ?_ <;> intro hb <;> (try simp only [decide_eq_true_eq, decide_eq_false_iff_not, Bool.not_eq_true', Bool.not_eq_false', Int.not_lt, Int.not_le] at hb) <;> (try (exfalso; first | omega | exact hb trivial))))
        refine Z.lpS [4, 13, 72, 73, 74, 75, 76, 77, 78, 79, 80, 81, 82] (fun m w s => ∃ c : Nat, s = [(13, .int .i64 c)] ∧ 1 ≤ c ∧ c ≤ 9 ∧ m = 9 - c ∧ Sep r [] (PT g1 (tabOf y) :: .blk gn 41 (cntC (tabOf y)) :: .sl 25 1 (.slice (some ⟨gl, 0, none⟩) 2 2) (ls.map LS.cells) :: FF) w) _ [(13, .int .i64 (1 : Nat))] (by repeat (first | exact trivial | refine ⟨rfl, ?_⟩)) ⟨1, rfl, by omega, by omega, rfl, hS⟩ ?_
        clear hS
        rintro m f2 w _ ⟨c, rfl, hc1, hc9, rfl, hS⟩
        by_cases hlc : c ≤ 8
        · have hl : lastB (tabOf y) c = (tabOf y).n ((c : Int) - 1).toNat := by unfold lastB; rw [if_neg (by omega)]
          repeat' (first
            | refine Z.pr rfl ?_
            | refine Z.eff (Z.ld hS rfl (by repeat (first | exact At.here | apply At.next)) rfl ?_) rfl
            | refine Z.eff (Z.ldR rfl (by assumption) rfl ?_) rfl
            | refine Z.eff (Z.ldE rfl (by assumption) rfl ?_) rfl
            | refine Z.sum rfl (by constructor <;> omega) ?_
            | (refine Z.eff (Z.st hS rfl (by repeat (first | exact At.here | apply At.next)) rfl rfl ?_) rfl; clear hS; intro w hS)
            | (refine Z.eff (Z.al hS ?_) rfl; clear hS; intro g w hS hge)
            | (refine Z.eff (Z.bx hS rfl ?_) rfl; clear hS; intro g w hS hge)
            | refine Z.ixn rfl rfl rfl (by omega) ?_
            | refine Z.pl (R.upto rfl rfl rfl (by omega)) ?_
            | refine Z.pl (R.since rfl rfl rfl (by omega)) ?_
            | refine Z.pl (R.span rfl rfl rfl rfl (by omega) (by omega)) ?_
            | refine Z.pl (R.whole rfl rfl) ?_
            | refine Z.pl (R.eqa rfl rfl rfl rfl) ?_
            | refine Z.pl (R.nea rfl rfl rfl rfl) ?_
            | refine Z.ix rfl rfl rfl (by omega) ?_
            | refine Z.ia rfl rfl rfl (by omega) ?_
            | refine Z.bu rfl rfl ?_
            | (refine Z.eff (Z.bs hS rfl rfl rfl ?_) rfl; clear hS; intro g w hS hge)
            | refine Z.gT rfl rfl ?_
            | refine Z.gF rfl rfl ?_
            | refine Z.gF0 rfl rfl ?_
            | (refine Z.gS rfl rfl ?_ ?_ <;> intro hb <;> (try simp only [decide_eq_true_eq, decide_eq_false_iff_not, Bool.not_eq_true', Bool.not_eq_false', Int.not_lt, Int.not_le] at hb) <;> (try (exfalso; first | omega | exact hb trivial)))
            | with_reducible refine Z.seq ?_
            | with_reducible refine Z.reg ?_
            | with_reducible refine Z.nil ?_
            | with_reducible refine Z.skip ?_
            | with_reducible refine Z.exit ?_
            | with_reducible refine Z.ret ?_
            | with_reducible refine Z.block ?_
            | with_reducible refine Z.thN ?_
            | with_reducible refine Z.thU ?_
            | with_reducible refine Z.thE ?_
            | with_reducible refine Z.thR ?_
            | with_reducible refine Z.blN ?_
            | with_reducible refine Z.blR ?_
            | with_reducible refine Z.blE ?_
            | (with_reducible refine Z.blX ?_ ?_; rotate_left; rfl)
            | refine Z.brT rfl ?_
            | refine Z.brF rfl ?_
            | (refine Z.br rfl ?_ ?_ <;> intro hb <;> (try simp only [decide_eq_true_eq, decide_eq_false_iff_not, Bool.not_eq_true', Bool.not_eq_false', Int.not_lt, Int.not_le] at hb) <;> (try (exfalso; first | omega | exact hb trivial))))
          refine D.startS (Lr := [.blk gn 41 (cntC (tabOf y))]) (hS.sub (by repeat (first | exact Sub.rest | exact Sub.nil | exact .skip .rest | exact .skip (.skip .rest) | exact .skip (.skip (.skip .rest)) | apply Sub.keep | refine Sub.cons (by repeat (first | exact At.here | apply At.next)) ?_ | apply Sub.skip))) 7 7 (by kernel_rfl) rfl ?_
          replace hS := hS.drew
          refine D.pr 0 1 rfl D.wantedN (by kernel_rfl) rfl ?_
          refine D.pr 1 3 rfl D.wantedN (by kernel_rfl) rfl ?_
          refine D.pr 3 11 rfl D.wantedN (by kernel_rfl) rfl ?_
          first | refine D.ixn 4 27 rfl D.wantedN (by kernel_rfl) rfl rfl rfl (by omega) ?_ | refine D.ix 4 27 rfl D.wantedN (by kernel_rfl) rfl rfl rfl (by omega) ?_ | refine D.ia 4 27 rfl D.wantedN (by kernel_rfl) rfl rfl rfl (by omega) ?_
          refine D.ldR 5 59 rfl D.wantedN (by kernel_rfl) rfl (fun W h => range_blk (h.blk (by repeat (first | exact At.here | apply At.next))) (cnt_at _ (by omega) (by omega))) rfl ?_
          refine D.eff 2 63 rfl D.wantedN (by kernel_rfl) (by kernel_rfl) (fun _ _ h => h) ?_
          replace hS := hS.focus (R := PT g1 _) (by repeat (first | exact At.here | apply At.next))
          refine Z.cl (plast_z c hS) rfl ?_
          clear hS
          rintro e w ⟨rfl, hS⟩
          refine ⟨_, rfl, ?_⟩
          rw [hl]
          refine ⟨HM.s (hS.sub (by repeat (first | exact Sub.rest | exact Sub.nil | exact .skip .rest | exact .skip (.skip .rest) | exact .skip (.skip (.skip .rest)) | apply Sub.keep | refine Sub.cons (by repeat (first | exact At.here | apply At.next)) ?_ | apply Sub.skip))), ?_⟩
          first | refine D.pr 6 127 rfl D.wantedN (by kernel_rfl) rfl ?_ | refine D.pl 6 127 rfl D.wantedN (by kernel_rfl) (R.nea rfl rfl rfl rfl) ?_
          refine D.done (by kernel_rfl) ?_
          repeat' (first
            | refine Z.pr rfl ?_
            | refine Z.eff (Z.ld hS rfl (by repeat (first | exact At.here | apply At.next)) rfl ?_) rfl
            | refine Z.eff (Z.ldR rfl (by assumption) rfl ?_) rfl
            | refine Z.eff (Z.ldE rfl (by assumption) rfl ?_) rfl
            | refine Z.sum rfl (by constructor <;> omega) ?_
            | (refine Z.eff (Z.st hS rfl (by repeat (first | exact At.here | apply At.next)) rfl rfl ?_) rfl; clear hS; intro w hS)
            | (refine Z.eff (Z.al hS ?_) rfl; clear hS; intro g w hS hge)
            | (refine Z.eff (Z.bx hS rfl ?_) rfl; clear hS; intro g w hS hge)
            | refine Z.ixn rfl rfl rfl (by omega) ?_
            | refine Z.pl (R.upto rfl rfl rfl (by omega)) ?_
            | refine Z.pl (R.since rfl rfl rfl (by omega)) ?_
            | refine Z.pl (R.span rfl rfl rfl rfl (by omega) (by omega)) ?_
            | refine Z.pl (R.whole rfl rfl) ?_
            | refine Z.pl (R.eqa rfl rfl rfl rfl) ?_
            | refine Z.pl (R.nea rfl rfl rfl rfl) ?_
            | refine Z.ix rfl rfl rfl (by omega) ?_
            | refine Z.ia rfl rfl rfl (by omega) ?_
            | refine Z.bu rfl rfl ?_
            | (refine Z.eff (Z.bs hS rfl rfl rfl ?_) rfl; clear hS; intro g w hS hge)
            | refine Z.gT rfl rfl ?_
            | refine Z.gF rfl rfl ?_
            | refine Z.gF0 rfl rfl ?_
            | (refine Z.gS rfl rfl ?_ ?_ <;> intro hb <;> (try simp only [decide_eq_true_eq, decide_eq_false_iff_not, Bool.not_eq_true', Bool.not_eq_false', Int.not_lt, Int.not_le] at hb) <;> (try (exfalso; first | omega | exact hb trivial)))
            | with_reducible refine Z.seq ?_
            | with_reducible refine Z.reg ?_
            | with_reducible refine Z.nil ?_
            | with_reducible refine Z.skip ?_
            | with_reducible refine Z.exit ?_
            | with_reducible refine Z.ret ?_
            | with_reducible refine Z.block ?_
            | with_reducible refine Z.thN ?_
            | with_reducible refine Z.thU ?_
            | with_reducible refine Z.thE ?_
            | with_reducible refine Z.thR ?_
            | with_reducible refine Z.blN ?_
            | with_reducible refine Z.blR ?_
            | with_reducible refine Z.blE ?_
            | (with_reducible refine Z.blX ?_ ?_; rotate_left; rfl)
            | refine Z.brT rfl ?_
            | refine Z.brF rfl ?_
            | (refine Z.br rfl ?_ ?_ <;> intro hb <;> (try simp only [decide_eq_true_eq, decide_eq_false_iff_not, Bool.not_eq_true', Bool.not_eq_false', Int.not_lt, Int.not_le] at hb) <;> (try (exfalso; first | omega | exact hb trivial))))
          refine Z.againS (9 - (c + 1)) [(13, .int .i64 (c + 1 : Nat))] (by omega) (by repeat (first | with_reducible exact Same.mix | ((with_reducible refine Same.upd ?_ ?_); · rfl) | ((with_reducible refine Same.cons ?_ ?_); · rfl) | with_reducible exact Same.refl | with_reducible refine Same.nil ?_ | ((with_reducible refine Same.mixS ?_ ?_); · rfl))) (by repeat (first | exact trivial | refine ⟨rfl, ?_⟩)) ?_
          exact ⟨c + 1, rfl, by omega, by omega, rfl, hS.sub (by repeat (first | exact Sub.rest | exact Sub.nil | exact .skip .rest | exact .skip (.skip .rest) | exact .skip (.skip (.skip .rest)) | apply Sub.keep | refine Sub.cons (by repeat (first | exact At.here | apply At.next)) ?_ | apply Sub.skip))⟩
        · repeat' (first
            | refine Z.pr rfl ?_
            | refine Z.eff (Z.ld hS rfl (by repeat (first | exact At.here | apply At.next)) rfl ?_) rfl
            | refine Z.eff (Z.ldR rfl (by assumption) rfl ?_) rfl
            | refine Z.eff (Z.ldE rfl (by assumption) rfl ?_) rfl
            | refine Z.sum rfl (by constructor <;> omega) ?_
            | (refine Z.eff (Z.st hS rfl (by repeat (first | exact At.here | apply At.next)) rfl rfl ?_) rfl; clear hS; intro w hS)
            | (refine Z.eff (Z.al hS ?_) rfl; clear hS; intro g w hS hge)
            | (refine Z.eff (Z.bx hS rfl ?_) rfl; clear hS; intro g w hS hge)
            | refine Z.ixn rfl rfl rfl (by omega) ?_
            | refine Z.pl (R.upto rfl rfl rfl (by omega)) ?_
            | refine Z.pl (R.since rfl rfl rfl (by omega)) ?_
            | refine Z.pl (R.span rfl rfl rfl rfl (by omega) (by omega)) ?_
            | refine Z.pl (R.whole rfl rfl) ?_
            | refine Z.pl (R.eqa rfl rfl rfl rfl) ?_
            | refine Z.pl (R.nea rfl rfl rfl rfl) ?_
            | refine Z.ix rfl rfl rfl (by omega) ?_
            | refine Z.ia rfl rfl rfl (by omega) ?_
            | refine Z.bu rfl rfl ?_
            | (refine Z.eff (Z.bs hS rfl rfl rfl ?_) rfl; clear hS; intro g w hS hge)
            | refine Z.gT rfl rfl ?_
            | refine Z.gF rfl rfl ?_
            | refine Z.gF0 rfl rfl ?_
            | (refine Z.gS rfl rfl ?_ ?_ <;> intro hb <;> (try simp only [decide_eq_true_eq, decide_eq_false_iff_not, Bool.not_eq_true', Bool.not_eq_false', Int.not_lt, Int.not_le] at hb) <;> (try (exfalso; first | omega | exact hb trivial)))
            | with_reducible refine Z.seq ?_
            | with_reducible refine Z.reg ?_
            | with_reducible refine Z.nil ?_
            | with_reducible refine Z.skip ?_
            | with_reducible refine Z.exit ?_
            | with_reducible refine Z.ret ?_
            | with_reducible refine Z.block ?_
            | with_reducible refine Z.thN ?_
            | with_reducible refine Z.thU ?_
            | with_reducible refine Z.thE ?_
            | with_reducible refine Z.thR ?_
            | with_reducible refine Z.blN ?_
            | with_reducible refine Z.blR ?_
            | with_reducible refine Z.blE ?_
            | (with_reducible refine Z.blX ?_ ?_; rotate_left; rfl)
            | refine Z.brT rfl ?_
            | refine Z.brF rfl ?_
            | (refine Z.br rfl ?_ ?_ <;> intro hb <;> (try simp only [decide_eq_true_eq, decide_eq_false_iff_not, Bool.not_eq_true', Bool.not_eq_false', Int.not_lt, Int.not_le] at hb) <;> (try (exfalso; first | omega | exact hb trivial))))
          refine Z.againS (ls.length - (q + 1)) [(29, .int .i64 (q + 1 : Nat))] (by omega) (by repeat (first | with_reducible exact Same.mix | ((with_reducible refine Same.upd ?_ ?_); · rfl) | ((with_reducible refine Same.cons ?_ ?_); · rfl) | with_reducible exact Same.refl | with_reducible refine Same.nil ?_ | ((with_reducible refine Same.mixS ?_ ?_); · rfl))) (by repeat (first | exact trivial | refine ⟨rfl, ?_⟩)) ?_
          exact ⟨q + 1, rfl, by omega, rfl, hS.sub (by repeat (first | exact Sub.rest | exact Sub.nil | exact .skip .rest | exact .skip (.skip .rest) | exact .skip (.skip (.skip .rest)) | apply Sub.keep | refine Sub.cons (by repeat (first | exact At.here | apply At.next)) ?_ | apply Sub.skip))⟩
    · refine ⟨_, rfl, ?_⟩
      repeat' (first
        | refine Z.pr rfl ?_
        | refine Z.eff (Z.ld hS rfl (by repeat (first | exact At.here | apply At.next)) rfl ?_) rfl
        | refine Z.eff (Z.ldR rfl (by assumption) rfl ?_) rfl
        | refine Z.eff (Z.ldE rfl (by assumption) rfl ?_) rfl
        | refine Z.sum rfl (by constructor <;> omega) ?_
        | (refine Z.eff (Z.st hS rfl (by repeat (first | exact At.here | apply At.next)) rfl rfl ?_) rfl; clear hS; intro w hS)
        | (refine Z.eff (Z.al hS ?_) rfl; clear hS; intro g w hS hge)
        | (refine Z.eff (Z.bx hS rfl ?_) rfl; clear hS; intro g w hS hge)
        | refine Z.ixn rfl rfl rfl (by omega) ?_
        | refine Z.pl (R.upto rfl rfl rfl (by omega)) ?_
        | refine Z.pl (R.since rfl rfl rfl (by omega)) ?_
        | refine Z.pl (R.span rfl rfl rfl rfl (by omega) (by omega)) ?_
        | refine Z.pl (R.whole rfl rfl) ?_
        | refine Z.pl (R.eqa rfl rfl rfl rfl) ?_
        | refine Z.pl (R.nea rfl rfl rfl rfl) ?_
        | refine Z.ix rfl rfl rfl (by omega) ?_
        | refine Z.ia rfl rfl rfl (by omega) ?_
        | refine Z.bu rfl rfl ?_
        | (refine Z.eff (Z.bs hS rfl rfl rfl ?_) rfl; clear hS; intro g w hS hge)
        | refine Z.gT rfl rfl ?_
        | refine Z.gF rfl rfl ?_
        | refine Z.gF0 rfl rfl ?_
        | (refine Z.gS rfl rfl ?_ ?_ <;> intro hb <;> (try simp only [decide_eq_true_eq, decide_eq_false_iff_not, Bool.not_eq_true', Bool.not_eq_false', Int.not_lt, Int.not_le] at hb) <;> (try (exfalso; first | omega | exact hb trivial)))
        | with_reducible refine Z.seq ?_
        | with_reducible refine Z.reg ?_
        | with_reducible refine Z.nil ?_
        | with_reducible refine Z.skip ?_
        | with_reducible refine Z.exit ?_
        | with_reducible refine Z.ret ?_
        | with_reducible refine Z.block ?_
        | with_reducible refine Z.thN ?_
        | with_reducible refine Z.thU ?_
        | with_reducible refine Z.thE ?_
        | with_reducible refine Z.thR ?_
        | with_reducible refine Z.blN ?_
        | with_reducible refine Z.blR ?_
        | with_reducible refine Z.blE ?_
        | (with_reducible refine Z.blX ?_ ?_; rotate_left; rfl)
        | refine Z.brT rfl ?_
        | refine Z.brF rfl ?_
        | (refine Z.br rfl ?_ ?_ <;> intro hb <;> (try simp only [decide_eq_true_eq, decide_eq_false_iff_not, Bool.not_eq_true', Bool.not_eq_false', Int.not_lt, Int.not_le] at hb) <;> (try (exfalso; first | omega | exact hb trivial))))
      refine Z.againS (ls.length - (q + 1)) [(29, .int .i64 (q + 1 : Nat))] (by omega) (by repeat (first | with_reducible exact Same.mix | ((with_reducible refine Same.upd ?_ ?_); · rfl) | ((with_reducible refine Same.cons ?_ ?_); · rfl) | with_reducible exact Same.refl | with_reducible refine Same.nil ?_ | ((with_reducible refine Same.mixS ?_ ?_); · rfl))) (by repeat (first | exact trivial | refine ⟨rfl, ?_⟩)) ?_
      exact ⟨q + 1, rfl, by omega, rfl, hS.sub (by repeat (first | exact Sub.rest | exact Sub.nil | exact .skip .rest | exact .skip (.skip .rest) | exact .skip (.skip (.skip .rest)) | apply Sub.keep | refine Sub.cons (by repeat (first | exact At.here | apply At.next)) ?_ | apply Sub.skip))⟩
  · repeat' (first
      | refine Z.pr rfl ?_
      | refine Z.eff (Z.ld hS rfl (by repeat (first | exact At.here | apply At.next)) rfl ?_) rfl
      | refine Z.eff (Z.ldR rfl (by assumption) rfl ?_) rfl
      | refine Z.eff (Z.ldE rfl (by assumption) rfl ?_) rfl
      | refine Z.sum rfl (by constructor <;> omega) ?_
      | (refine Z.eff (Z.st hS rfl (by repeat (first | exact At.here | apply At.next)) rfl rfl ?_) rfl; clear hS; intro w hS)
      | (refine Z.eff (Z.al hS ?_) rfl; clear hS; intro g w hS hge)
      | (refine Z.eff (Z.bx hS rfl ?_) rfl; clear hS; intro g w hS hge)
      | refine Z.ixn rfl rfl rfl (by omega) ?_
      | refine Z.pl (R.upto rfl rfl rfl (by omega)) ?_
      | refine Z.pl (R.since rfl rfl rfl (by omega)) ?_
      | refine Z.pl (R.span rfl rfl rfl rfl (by omega) (by omega)) ?_
      | refine Z.pl (R.whole rfl rfl) ?_
      | refine Z.pl (R.eqa rfl rfl rfl rfl) ?_
      | refine Z.pl (R.nea rfl rfl rfl rfl) ?_
      | refine Z.ix rfl rfl rfl (by omega) ?_
      | refine Z.ia rfl rfl rfl (by omega) ?_
      | refine Z.bu rfl rfl ?_
      | (refine Z.eff (Z.bs hS rfl rfl rfl ?_) rfl; clear hS; intro g w hS hge)
      | refine Z.gT rfl rfl ?_
      | refine Z.gF rfl rfl ?_
      | refine Z.gF0 rfl rfl ?_
      | (refine Z.gS rfl rfl ?_ ?_ <;> intro hb <;> (try simp only [decide_eq_true_eq, decide_eq_false_iff_not, Bool.not_eq_true', Bool.not_eq_false', Int.not_lt, Int.not_le] at hb) <;> (try (exfalso; first | omega | exact hb trivial)))
      | with_reducible refine Z.seq ?_
      | with_reducible refine Z.reg ?_
      | with_reducible refine Z.nil ?_
      | with_reducible refine Z.skip ?_
      | with_reducible refine Z.exit ?_
      | with_reducible refine Z.ret ?_
      | with_reducible refine Z.block ?_
      | with_reducible refine Z.thN ?_
      | with_reducible refine Z.thU ?_
      | with_reducible refine Z.thE ?_
      | with_reducible refine Z.thR ?_
      | with_reducible refine Z.blN ?_
      | with_reducible refine Z.blR ?_
      | with_reducible refine Z.blE ?_
      | (with_reducible refine Z.blX ?_ ?_; rotate_left; rfl)
      | refine Z.brT rfl ?_
      | refine Z.brF rfl ?_
      | (refine Z.br rfl ?_ ?_ <;> intro hb <;> (try simp only [decide_eq_true_eq, decide_eq_false_iff_not, Bool.not_eq_true', Bool.not_eq_false', Int.not_lt, Int.not_le] at hb) <;> (try (exfalso; first | omega | exact hb trivial))))
    first | refine Z.done hS Try.results4 (Z.RV.tmp rfl Z.RV.nil) ?_ | refine Z.doneN hS Try.results4 (Z.RV.tmp rfl Z.RV.nil) ?_
    exact ⟨rfl, hS.chg⟩
set_option maxRecDepth 100000 in
theorem sessionOnce_lifted (os : Os) (started : os.Started) (H : Type) (enc : TypeId × Value → H) :
    ReturnsInHanded {} Try.checked os 4 .any (Rows.sessionOnceSpec.pre6 enc Try.prog Try.f4 Rows.sessionOnceRow.domain false) (Rows.sessionOnceSpec.post enc Try.prog Try.f4 false Rows.sessionOnceRow.fresh Rows.sessionOnceRow.handsOn Rows.sessionOnceRow.again) := by
  refine returnsInHanded_of_change (C := Try.checked) Try.own started (by kernel_rfl) Try.func4
    (ChangeSpec.witness6 (enc := enc) (C := Try.checked) false ⟨#[], #[.slice none 0 0, .slice none 0 0], []⟩ 8 (by kernel_rfl) (by kernel_rfl) (by kernel_rfl) (by kernel_rfl)) ?_
  intro W base args ds gs before hval0 hW _ _
  have hval : ∀ (j : Nat) t v, Try.f4.params[j]? = some t → args[j]? = some v → Value.okWide Try.prog W .any base t v := hval0
  have hW0 := hW
  obtain ⟨p, q, hA0, hV, hpq, _, _⟩ := hW
  obtain ⟨la⟩ := args
  have hA : DataW.TrodAll enc Try.prog W 0 (fun _ => true) true [25, 22] la ds p := by have := hA0; rw [Try.params4] at this; exact this
  rw [Try.params4] at hval
  obtain ⟨v0, la0, d0, ds0, p0, q0, rfl, rfl, rfl, h0, hA⟩ := trodAll_cons hA
  obtain ⟨v1, la1, d1, ds1, p1, q1, rfl, rfl, rfl, h1, hA⟩ := trodAll_cons hA
  obtain ⟨rfl, rfl, rfl⟩ := trodAll_nil hA
  obtain ⟨l0, A0, cap0, rfl, hr0⟩ := arg_changes (hval 0 _ _ rfl rfl) h0
  obtain ⟨l1, A1, cap1, rfl, hr1⟩ := arg_ints (hval 1 _ _ rfl rfl) h1
  have fin : Calls Try.prog 4 _ W fun e W' => e = .returned (.bool true) ∧ Chg [] W W' := once_z l0 _ l1 A1 cap1 W hr0 hr1
  refine fin.mono fun e W' ⟨he, hc⟩ => ⟨_, he, ?_⟩
  exact law_post Try.laidOut (by rw [Try.params4]; intro t ht; simp only [List.mem_cons, List.not_mem_nil, or_false] at ht; rcases ht with rfl | rfl <;> exact ⟨by kernel_rfl, of_decide_eq_true (by kernel_rfl)⟩) rfl rfl Try.underlying4 rfl hW0 hc.below
theorem sessionOnce_holds : Rows.SessionOnceSaid :=
  OpenClaim.holds_of_wide 4 Try.f4 rfl rfl rfl rfl rfl rfl rfl ⟨rfl, rfl, rfl, rfl, rfl⟩ rfl rfl rfl rfl rfl (by kernel_rfl) Try.func4 (by kernel_rfl)
    (of_decide_eq_true (by kernel_rfl)) (by unfold Func.isWrapper; rw [if_neg (of_decide_eq_false (by kernel_rfl))]; exact ⟨rfl, rfl⟩)
    (fun os started H enc _ => sessionOnce_lifted os started H enc)
end Go.Proofs.Ytppbjlakbmgfdaa
