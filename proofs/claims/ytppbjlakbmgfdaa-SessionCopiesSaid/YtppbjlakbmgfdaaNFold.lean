/-
  The session package and its reference: Fold, Lasts, Same, Copy; what the statements compare.
-/
import Derived.Test.YtppbjlakbmgfdaaNReplies
import Derived.Test.YtppbjlakbmgfdaaZj
namespace Go.Proofs.Ytppbjlakbmgfdaa
open Go.RowKit
set_option linter.unusedSimpArgs false
set_option linter.unusedVariables false
attribute [local irreducible] Res.blk Res.sl Res.all Res.ex Res.pure Res.star

/-- The reference's table as a resource. -/
def RT (g : Nat) (t : Tab) : Res := .blk g 58 t.cells.toList
section
variable {r w : World} {F : List Res} {g : Nat} {t : Tab}
theorem rfind_z (cl nu : Int) (R : Rep × Int) (hR : findB t cl nu = R) (hS : Sep r [] (RT g t :: F) w) (hok : t.ok) :
    Calls Try.prog 52 #[.pointer (some ⟨g, 0, none⟩), .int .i64 cl, .int .i64 nu] w fun e w' => e = .returned (.tuple #[R.1.val, .int .i64 R.2]) ∧ Sep r [] (RT g t :: F) w' := by
  subst hR
  exact (find_any g t cl nu w (Sep.blk hS .here) hok).mono fun _ _ ⟨h1, h2⟩ => ⟨h1, hS.ext h2⟩
theorem rlast_z (cl : Int) (hS : Sep r [] (RT g t :: F) w) :
    Calls Try.prog 53 #[.pointer (some ⟨g, 0, none⟩), .int .i64 cl] w fun e w' => e = .returned (.int .i64 (lastB t cl)) ∧ Sep r [] (RT g t :: F) w' :=
  (last_any g t cl w (Sep.blk hS .here)).mono fun _ _ ⟨h1, h2⟩ => ⟨h1, h2 ▸ hS⟩
theorem rapply_z (x : Ch) (R : Tab × Int) (hR : tApp t x = R) (hS : Sep r [] (RT g t :: F) w) (hok : t.ok) :
    Calls Try.prog 26 #[.pointer (some ⟨g, 0, none⟩), x.val] w fun e w' => e = .returned (.int .i64 R.2) ∧ Sep r [] (RT g R.1 :: F) w' := by
  subst hR
  exact (tapply_any g t x w (Sep.blk hS .here) hok).mono fun _ _ ⟨h1, h2, h3⟩ => ⟨h1, Sep.put hS .here h3 h2⟩
end

/-- Where Fold ends: after q changes, with the answer e to the next one (or 0 at the end). -/
structure Folds (h : List Ch) (q : Nat) (e : Int) : Prop where
  le : q ≤ h.length
  ok : ∀ j (hj : j < h.length), j < q → (tApp (tabOf (h.take j)) h[j]).2 = 0
  stop : (q = h.length ∧ e = 0) ∨ ∃ hq : q < h.length, e = (tApp (tabOf (h.take q)) h[q]).2 ∧ e ≠ 0
theorem Folds.one {h : List Ch} {q q' : Nat} {e e' : Int} (a : Folds h q e) (b : Folds h q' e') : q = q' ∧ e = e' := by
  have key : ∀ {q q' : Nat} {e e' : Int}, Folds h q e → Folds h q' e' → q' ≤ q := by
    intro q q' e e' a b
    rcases Nat.lt_or_ge q q' with hlt | hge
    · exfalso
      rcases a.stop with ⟨h1, _⟩ | ⟨hq, h1, h2⟩
      · have := b.le; omega
      · exact h2 (h1.trans (b.ok q hq hlt))
    · exact hge
  have hq : q = q' := Nat.le_antisymm (key b a) (key a b)
  subst hq
  refine ⟨rfl, ?_⟩
  rcases a.stop with ⟨h1, rfl⟩ | ⟨hq, h1, h2⟩
  · rcases b.stop with ⟨_, rfl⟩ | ⟨hq', _⟩
    · rfl
    · omega
  · rcases b.stop with ⟨h3, _⟩ | ⟨_, h3, _⟩
    · omega
    · rw [h1, h3]
theorem hist_folds (l : List Int) : Folds (hist l).h (hist l).h.length 0 := ⟨Nat.le_refl _, fun j hj _ => (hist_good l).tab.2 j hj, .inl ⟨rfl, rfl⟩⟩

set_option maxHeartbeats 1000000 in
theorem pfold_z (h : List Ch) (v : Value) (r : World) (F : List Res) (w : World) (hS : Sep r [] F w) (hrd : Reads r F 8 v (h.map Ch.cells)) (hl : h.length ≤ 1000) :
    Calls Try.prog 21 #[v] w fun ex w' => ∃ q e, Folds h q e ∧
      ((e = 0 ∧ ∃ g, ex = .returned (.tuple #[.pointer (some ⟨g, 0, none⟩), .int .i64 (h.length : Int), .int .i64 0]) ∧ Sep r [] (PT g (tabOf h) :: F) w') ∨
        (e ≠ 0 ∧ ex = .returned (.tuple #[.pointer none, .int .i64 (q : Int), .int .i64 e]) ∧ Sep r [] F w')) := by
  obtain ⟨A, c, rfl, hc⟩ := (hrd [] w hS).mform
  refine Z.enter Try.func21 Try.ntmps21 rfl rfl ?_
  repeat' (first
    | refine Z.pr rfl ?_
    | refine Z.eff (Z.ld hS rfl (by repeat (first | exact At.here | apply At.next)) rfl ?_) rfl
    | refine Z.eff (Z.ldR rfl (by assumption) rfl ?_) rfl
    | refine Z.eff (Z.ldE rfl (by assumption) rfl ?_) rfl
    | refine Z.sum rfl (by constructor <;> omega) ?_
    | (refine Z.eff (Z.st hS rfl (by repeat (first | exact At.here | apply At.next)) rfl rfl ?_) rfl; clear hS; intro w hS)
    | (refine Z.eff (Z.al hS ?_) rfl; clear hS; intro g w hS hge)
    | (refine Z.eff (Z.bx hS rfl ?_) rfl; clear hS; intro g w hS hge)
    | refine Z.ixn rfl rfl rfl (by omega) ?_
    | refine Z.pl (R.upto rfl rfl rfl (by omega)) ?_
    | refine Z.pl (R.since rfl rfl rfl (by omega)) ?_
    | refine Z.pl (R.span rfl rfl rfl rfl (by omega) (by omega)) ?_
    | refine Z.pl (R.whole rfl rfl) ?_
    | refine Z.pl (R.eqa rfl rfl rfl rfl) ?_
    | refine Z.pl (R.nea rfl rfl rfl rfl) ?_
    | refine Z.ix rfl rfl rfl (by omega) ?_
    | refine Z.ia rfl rfl rfl (by omega) ?_
    | refine Z.bu rfl rfl ?_
    | (refine Z.eff (Z.bs hS rfl rfl rfl ?_) rfl; clear hS; intro g w hS hge)
    | refine Z.gT rfl rfl ?_
    | refine Z.gF rfl rfl ?_
    | refine Z.gF0 rfl rfl ?_
    | (refine Z.gS rfl rfl ?_ ?_ <;> intro hb <;> (try simp only [decide_eq_true_eq, decide_eq_false_iff_not, Bool.not_eq_true', Bool.not_eq_false', Int.not_lt, Int.not_le] at hb) <;> (try (exfalso; omega)))
    | with_reducible refine Z.seq ?_
    | with_reducible refine Z.reg ?_
    | with_reducible refine Z.nil ?_
    | with_reducible refine Z.skip ?_
    | with_reducible refine Z.exit ?_
    | with_reducible refine Z.ret ?_
    | with_reducible refine Z.block ?_
    | with_reducible refine Z.thN ?_
    | with_reducible refine Z.thU ?_
    | with_reducible refine Z.thE ?_
    | with_reducible refine Z.thR ?_
    | with_reducible refine Z.blN ?_
    | with_reducible refine Z.blR ?_
    | with_reducible refine Z.blE ?_
    | (with_reducible refine Z.blX ?_ ?_; rotate_left; rfl)
    | refine Z.brT rfl ?_
    | refine Z.brF rfl ?_
    | (refine Z.br rfl ?_ ?_ <;> intro hb <;> (try simp only [decide_eq_true_eq, decide_eq_false_iff_not, Bool.not_eq_true', Bool.not_eq_false', Int.not_lt, Int.not_le] at hb) <;> (try (exfalso; omega))))
  refine Z.eff (Z.cl (pnew_z hS) rfl ?_) rfl
  clear hS
  rintro e w ⟨g1, rfl, hS⟩
  refine ⟨_, rfl, ?_⟩
  repeat' (first
    | refine Z.pr rfl ?_
    | refine Z.eff (Z.ld hS rfl (by repeat (first | exact At.here | apply At.next)) rfl ?_) rfl
    | refine Z.eff (Z.ldR rfl (by assumption) rfl ?_) rfl
    | refine Z.eff (Z.ldE rfl (by assumption) rfl ?_) rfl
    | refine Z.sum rfl (by constructor <;> omega) ?_
    | (refine Z.eff (Z.st hS rfl (by repeat (first | exact At.here | apply At.next)) rfl rfl ?_) rfl; clear hS; intro w hS)
    | (refine Z.eff (Z.al hS ?_) rfl; clear hS; intro g w hS hge)
    | (refine Z.eff (Z.bx hS rfl ?_) rfl; clear hS; intro g w hS hge)
    | refine Z.ixn rfl rfl rfl (by omega) ?_
    | refine Z.pl (R.upto rfl rfl rfl (by omega)) ?_
    | refine Z.pl (R.since rfl rfl rfl (by omega)) ?_
    | refine Z.pl (R.span rfl rfl rfl rfl (by omega) (by omega)) ?_
    | refine Z.pl (R.whole rfl rfl) ?_
    | refine Z.pl (R.eqa rfl rfl rfl rfl) ?_
    | refine Z.pl (R.nea rfl rfl rfl rfl) ?_
    | refine Z.ix rfl rfl rfl (by omega) ?_
    | refine Z.ia rfl rfl rfl (by omega) ?_
    | refine Z.bu rfl rfl ?_
    | (refine Z.eff (Z.bs hS rfl rfl rfl ?_) rfl; clear hS; intro g w hS hge)
    | refine Z.gT rfl rfl ?_
    | refine Z.gF rfl rfl ?_
    | refine Z.gF0 rfl rfl ?_
    | (refine Z.gS rfl rfl ?_ ?_ <;> intro hb <;> (try simp only [decide_eq_true_eq, decide_eq_false_iff_not, Bool.not_eq_true', Bool.not_eq_false', Int.not_lt, Int.not_le] at hb) <;> (try (exfalso; omega)))
    | with_reducible refine Z.seq ?_
    | with_reducible refine Z.reg ?_
    | with_reducible refine Z.nil ?_
    | with_reducible refine Z.skip ?_
    | with_reducible refine Z.exit ?_
    | with_reducible refine Z.ret ?_
    | with_reducible refine Z.block ?_
    | with_reducible refine Z.thN ?_
    | with_reducible refine Z.thU ?_
    | with_reducible refine Z.thE ?_
    | with_reducible refine Z.thR ?_
    | with_reducible refine Z.blN ?_
    | with_reducible refine Z.blR ?_
    | with_reducible refine Z.blE ?_
    | (with_reducible refine Z.blX ?_ ?_; rotate_left; rfl)
    | refine Z.brT rfl ?_
    | refine Z.brF rfl ?_
    | (refine Z.br rfl ?_ ?_ <;> intro hb <;> (try simp only [decide_eq_true_eq, decide_eq_false_iff_not, Bool.not_eq_true', Bool.not_eq_false', Int.not_lt, Int.not_le] at hb) <;> (try (exfalso; omega))))
  refine Z.lpS [2, 3, 4, 6, 7, 8, 12, 13, 14, 15, 16, 17, 18, 19, 20, 21, 22, 23, 24] (fun m w s => ∃ q : Nat, s = [(12, .int .i64 q)] ∧ q ≤ h.length ∧ (∀ j (hj : j < h.length), j < q → (tApp (tabOf (h.take j)) h[j]).2 = 0) ∧ m = h.length - q ∧ Sep r [] (PT g1 (tabOf (h.take q)) :: F) w) _ [(12, .int .i64 (0 : Nat))] (by repeat (first | exact trivial | refine ⟨rfl, ?_⟩)) ⟨0, rfl, by omega, by intro j _ h; omega, rfl, hS⟩ ?_
  clear hS
  rintro m f0 w _ ⟨q, rfl, hq, hall, rfl, hS⟩
  by_cases hlt : q < h.length
  · obtain ⟨gb, o, rfl, _, hra⟩ := (hrd [_] w hS).mat (by omega) hlt
    have hok := tabOf_ok (h.take q)
    repeat' (first
      | refine Z.pr rfl ?_
      | refine Z.eff (Z.ld hS rfl (by repeat (first | exact At.here | apply At.next)) rfl ?_) rfl
      | refine Z.eff (Z.ldR rfl (by assumption) rfl ?_) rfl
      | refine Z.eff (Z.ldE rfl (by assumption) rfl ?_) rfl
      | refine Z.sum rfl (by constructor <;> omega) ?_
      | (refine Z.eff (Z.st hS rfl (by repeat (first | exact At.here | apply At.next)) rfl rfl ?_) rfl; clear hS; intro w hS)
      | (refine Z.eff (Z.al hS ?_) rfl; clear hS; intro g w hS hge)
      | (refine Z.eff (Z.bx hS rfl ?_) rfl; clear hS; intro g w hS hge)
      | refine Z.ixn rfl rfl rfl (by omega) ?_
      | refine Z.pl (R.upto rfl rfl rfl (by omega)) ?_
      | refine Z.pl (R.since rfl rfl rfl (by omega)) ?_
      | refine Z.pl (R.span rfl rfl rfl rfl (by omega) (by omega)) ?_
      | refine Z.pl (R.whole rfl rfl) ?_
      | refine Z.pl (R.eqa rfl rfl rfl rfl) ?_
      | refine Z.pl (R.nea rfl rfl rfl rfl) ?_
      | refine Z.ix rfl rfl rfl (by omega) ?_
      | refine Z.ia rfl rfl rfl (by omega) ?_
      | refine Z.bu rfl rfl ?_
      | (refine Z.eff (Z.bs hS rfl rfl rfl ?_) rfl; clear hS; intro g w hS hge)
      | refine Z.gT rfl rfl ?_
      | refine Z.gF rfl rfl ?_
      | refine Z.gF0 rfl rfl ?_
      | (refine Z.gS rfl rfl ?_ ?_ <;> intro hb <;> (try simp only [decide_eq_true_eq, decide_eq_false_iff_not, Bool.not_eq_true', Bool.not_eq_false', Int.not_lt, Int.not_le] at hb) <;> (try (exfalso; omega)))
      | with_reducible refine Z.seq ?_
      | with_reducible refine Z.reg ?_
      | with_reducible refine Z.nil ?_
      | with_reducible refine Z.skip ?_
      | with_reducible refine Z.exit ?_
      | with_reducible refine Z.ret ?_
      | with_reducible refine Z.block ?_
      | with_reducible refine Z.thN ?_
      | with_reducible refine Z.thU ?_
      | with_reducible refine Z.thE ?_
      | with_reducible refine Z.thR ?_
      | with_reducible refine Z.blN ?_
      | with_reducible refine Z.blR ?_
      | with_reducible refine Z.blE ?_
      | (with_reducible refine Z.blX ?_ ?_; rotate_left; rfl)
      | refine Z.brT rfl ?_
      | refine Z.brF rfl ?_
      | (refine Z.br rfl ?_ ?_ <;> intro hb <;> (try simp only [decide_eq_true_eq, decide_eq_false_iff_not, Bool.not_eq_true', Bool.not_eq_false', Int.not_lt, Int.not_le] at hb) <;> (try (exfalso; omega))))
    replace hS := hS.focus (R := PT g1 _) (by repeat (first | exact At.here | apply At.next))
    refine Z.eff (Z.cl (papply_z h[q] _ rfl hS hok) rfl ?_) rfl
    clear hS
    rintro e w ⟨rfl, hS⟩
    refine ⟨_, rfl, ?_⟩
    repeat' (first
      | refine Z.pr rfl ?_
      | refine Z.eff (Z.ld hS rfl (by repeat (first | exact At.here | apply At.next)) rfl ?_) rfl
      | refine Z.eff (Z.ldR rfl (by assumption) rfl ?_) rfl
      | refine Z.eff (Z.ldE rfl (by assumption) rfl ?_) rfl
      | refine Z.sum rfl (by constructor <;> omega) ?_
      | (refine Z.eff (Z.st hS rfl (by repeat (first | exact At.here | apply At.next)) rfl rfl ?_) rfl; clear hS; intro w hS)
      | (refine Z.eff (Z.al hS ?_) rfl; clear hS; intro g w hS hge)
      | (refine Z.eff (Z.bx hS rfl ?_) rfl; clear hS; intro g w hS hge)
      | refine Z.ixn rfl rfl rfl (by omega) ?_
      | refine Z.pl (R.upto rfl rfl rfl (by omega)) ?_
      | refine Z.pl (R.since rfl rfl rfl (by omega)) ?_
      | refine Z.pl (R.span rfl rfl rfl rfl (by omega) (by omega)) ?_
      | refine Z.pl (R.whole rfl rfl) ?_
      | refine Z.pl (R.eqa rfl rfl rfl rfl) ?_
      | refine Z.pl (R.nea rfl rfl rfl rfl) ?_
      | refine Z.ix rfl rfl rfl (by omega) ?_
      | refine Z.ia rfl rfl rfl (by omega) ?_
      | refine Z.bu rfl rfl ?_
      | (refine Z.eff (Z.bs hS rfl rfl rfl ?_) rfl; clear hS; intro g w hS hge)
      | refine Z.gT rfl rfl ?_
      | refine Z.gF rfl rfl ?_
      | refine Z.gF0 rfl rfl ?_
      | (refine Z.gS rfl rfl ?_ ?_ <;> intro hb <;> (try simp only [decide_eq_true_eq, decide_eq_false_iff_not, Bool.not_eq_true', Bool.not_eq_false', Int.not_lt, Int.not_le] at hb) <;> (try (exfalso; omega)))
      | with_reducible refine Z.seq ?_
      | with_reducible refine Z.reg ?_
      | with_reducible refine Z.nil ?_
      | with_reducible refine Z.skip ?_
      | with_reducible refine Z.exit ?_
      | with_reducible refine Z.ret ?_
      | with_reducible refine Z.block ?_
      | with_reducible refine Z.thN ?_
      | with_reducible refine Z.thU ?_
      | with_reducible refine Z.thE ?_
      | with_reducible refine Z.thR ?_
      | with_reducible refine Z.blN ?_
      | with_reducible refine Z.blR ?_
      | with_reducible refine Z.blE ?_
      | (with_reducible refine Z.blX ?_ ?_; rotate_left; rfl)
      | refine Z.brT rfl ?_
      | refine Z.brF rfl ?_
      | (refine Z.br rfl ?_ ?_ <;> intro hb <;> (try simp only [decide_eq_true_eq, decide_eq_false_iff_not, Bool.not_eq_true', Bool.not_eq_false', Int.not_lt, Int.not_le] at hb) <;> (try (exfalso; omega))))
    · first | refine Z.done hS Try.results21 (Z.RV.tmp rfl (Z.RV.tmp rfl (Z.RV.tmp rfl Z.RV.nil))) ?_ | refine Z.doneN hS Try.results21 (Z.RV.tmp rfl (Z.RV.tmp rfl (Z.RV.tmp rfl Z.RV.nil))) ?_
      exact ⟨q, _, ⟨hq, hall, .inr ⟨hlt, rfl, hb⟩⟩, .inr ⟨hb, rfl, hS.sub (by repeat (first | exact Sub.rest | exact Sub.nil | exact .skip .rest | exact .skip (.skip .rest) | exact .skip (.skip (.skip .rest)) | apply Sub.keep | refine Sub.cons (by repeat (first | exact At.here | apply At.next)) ?_ | apply Sub.skip))⟩⟩
    · refine Z.againS (h.length - (q + 1)) [(12, .int .i64 (q + 1 : Nat))] (by omega) (by repeat (first | exact Same.mix | refine Same.upd rfl ?_ | refine Same.cons rfl ?_ | exact Same.refl | refine Same.nil ?_)) (by repeat (first | exact trivial | refine ⟨rfl, ?_⟩)) ?_
      refine ⟨q + 1, rfl, by omega, fun j hj hjq => ?_, rfl, ?_⟩
      · rcases Nat.lt_or_ge j q with h1 | h1
        · exact hall j hj h1
        · have : j = q := by omega
          subst this
          exact hb
      · rw [tabOf_take hlt]
        exact hS.sub (by repeat (first | exact Sub.rest | exact Sub.nil | exact .skip .rest | exact .skip (.skip .rest) | exact .skip (.skip (.skip .rest)) | apply Sub.keep | refine Sub.cons (by repeat (first | exact At.here | apply At.next)) ?_ | apply Sub.skip))
  · repeat' (first
      | refine Z.pr rfl ?_
      | refine Z.eff (Z.ld hS rfl (by repeat (first | exact At.here | apply At.next)) rfl ?_) rfl
      | refine Z.eff (Z.ldR rfl (by assumption) rfl ?_) rfl
      | refine Z.eff (Z.ldE rfl (by assumption) rfl ?_) rfl
      | refine Z.sum rfl (by constructor <;> omega) ?_
      | (refine Z.eff (Z.st hS rfl (by repeat (first | exact At.here | apply At.next)) rfl rfl ?_) rfl; clear hS; intro w hS)
      | (refine Z.eff (Z.al hS ?_) rfl; clear hS; intro g w hS hge)
      | (refine Z.eff (Z.bx hS rfl ?_) rfl; clear hS; intro g w hS hge)
      | refine Z.ixn rfl rfl rfl (by omega) ?_
      | refine Z.pl (R.upto rfl rfl rfl (by omega)) ?_
      | refine Z.pl (R.since rfl rfl rfl (by omega)) ?_
      | refine Z.pl (R.span rfl rfl rfl rfl (by omega) (by omega)) ?_
      | refine Z.pl (R.whole rfl rfl) ?_
      | refine Z.pl (R.eqa rfl rfl rfl rfl) ?_
      | refine Z.pl (R.nea rfl rfl rfl rfl) ?_
      | refine Z.ix rfl rfl rfl (by omega) ?_
      | refine Z.ia rfl rfl rfl (by omega) ?_
      | refine Z.bu rfl rfl ?_
      | (refine Z.eff (Z.bs hS rfl rfl rfl ?_) rfl; clear hS; intro g w hS hge)
      | refine Z.gT rfl rfl ?_
      | refine Z.gF rfl rfl ?_
      | refine Z.gF0 rfl rfl ?_
      | (refine Z.gS rfl rfl ?_ ?_ <;> intro hb <;> (try simp only [decide_eq_true_eq, decide_eq_false_iff_not, Bool.not_eq_true', Bool.not_eq_false', Int.not_lt, Int.not_le] at hb) <;> (try (exfalso; omega)))
      | with_reducible refine Z.seq ?_
      | with_reducible refine Z.reg ?_
      | with_reducible refine Z.nil ?_
      | with_reducible refine Z.skip ?_
      | with_reducible refine Z.exit ?_
      | with_reducible refine Z.ret ?_
      | with_reducible refine Z.block ?_
      | with_reducible refine Z.thN ?_
      | with_reducible refine Z.thU ?_
      | with_reducible refine Z.thE ?_
      | with_reducible refine Z.thR ?_
      | with_reducible refine Z.blN ?_
      | with_reducible refine Z.blR ?_
      | with_reducible refine Z.blE ?_
      | (with_reducible refine Z.blX ?_ ?_; rotate_left; rfl)
      | refine Z.brT rfl ?_
      | refine Z.brF rfl ?_
      | (refine Z.br rfl ?_ ?_ <;> intro hb <;> (try simp only [decide_eq_true_eq, decide_eq_false_iff_not, Bool.not_eq_true', Bool.not_eq_false', Int.not_lt, Int.not_le] at hb) <;> (try (exfalso; omega))))
    first | refine Z.done hS Try.results21 (Z.RV.tmp rfl (Z.RV.tmp rfl (Z.RV.tmp rfl Z.RV.nil))) ?_ | refine Z.doneN hS Try.results21 (Z.RV.tmp rfl (Z.RV.tmp rfl (Z.RV.tmp rfl Z.RV.nil))) ?_
    have : q = h.length := by omega
    subst this
    rw [List.take_length] at hS
    exact ⟨_, _, ⟨Nat.le_refl _, hall, .inl ⟨rfl, rfl⟩⟩, .inl ⟨rfl, _, rfl, hS⟩⟩

set_option maxHeartbeats 1000000 in
theorem rfold_z (h : List Ch) (v : Value) (r : World) (F : List Res) (w : World) (hS : Sep r [] F w) (hrd : Reads r F 8 v (h.map Ch.cells)) (hl : h.length ≤ 1000) :
    Calls Try.prog 25 #[v] w fun ex w' => ∃ q e, Folds h q e ∧
      ((e = 0 ∧ ∃ g, ex = .returned (.tuple #[.pointer (some ⟨g, 0, none⟩), .int .i64 (h.length : Int), .int .i64 0]) ∧ Sep r [] (RT g (tabOf h) :: F) w') ∨
        (e ≠ 0 ∧ ex = .returned (.tuple #[.pointer none, .int .i64 (q : Int), .int .i64 e]) ∧ Sep r [] F w')) := by
  obtain ⟨A, c, rfl, hc⟩ := (hrd [] w hS).mform
  refine Z.enter Try.func25 Try.ntmps25 rfl rfl ?_
  repeat' (first
    | refine Z.pr rfl ?_
    | refine Z.eff (Z.ld hS rfl (by repeat (first | exact At.here | apply At.next)) rfl ?_) rfl
    | refine Z.eff (Z.ldR rfl (by assumption) rfl ?_) rfl
    | refine Z.eff (Z.ldE rfl (by assumption) rfl ?_) rfl
    | refine Z.sum rfl (by constructor <;> omega) ?_
    | (refine Z.eff (Z.st hS rfl (by repeat (first | exact At.here | apply At.next)) rfl rfl ?_) rfl; clear hS; intro w hS)
    | (refine Z.eff (Z.al hS ?_) rfl; clear hS; intro g w hS hge)
    | (refine Z.eff (Z.bx hS rfl ?_) rfl; clear hS; intro g w hS hge)
    | refine Z.ixn rfl rfl rfl (by omega) ?_
    | refine Z.pl (R.upto rfl rfl rfl (by omega)) ?_
    | refine Z.pl (R.since rfl rfl rfl (by omega)) ?_
    | refine Z.pl (R.span rfl rfl rfl rfl (by omega) (by omega)) ?_
    | refine Z.pl (R.whole rfl rfl) ?_
    | refine Z.pl (R.eqa rfl rfl rfl rfl) ?_
    | refine Z.pl (R.nea rfl rfl rfl rfl) ?_
    | refine Z.ix rfl rfl rfl (by omega) ?_
    | refine Z.ia rfl rfl rfl (by omega) ?_
    | refine Z.bu rfl rfl ?_
    | (refine Z.eff (Z.bs hS rfl rfl rfl ?_) rfl; clear hS; intro g w hS hge)
    | refine Z.gT rfl rfl ?_
    | refine Z.gF rfl rfl ?_
    | refine Z.gF0 rfl rfl ?_
    | (refine Z.gS rfl rfl ?_ ?_ <;> intro hb <;> (try simp only [decide_eq_true_eq, decide_eq_false_iff_not, Bool.not_eq_true', Bool.not_eq_false', Int.not_lt, Int.not_le] at hb) <;> (try (exfalso; omega)))
    | with_reducible refine Z.seq ?_
    | with_reducible refine Z.reg ?_
    | with_reducible refine Z.nil ?_
    | with_reducible refine Z.skip ?_
    | with_reducible refine Z.exit ?_
    | with_reducible refine Z.ret ?_
    | with_reducible refine Z.block ?_
    | with_reducible refine Z.thN ?_
    | with_reducible refine Z.thU ?_
    | with_reducible refine Z.thE ?_
    | with_reducible refine Z.thR ?_
    | with_reducible refine Z.blN ?_
    | with_reducible refine Z.blR ?_
    | with_reducible refine Z.blE ?_
    | (with_reducible refine Z.blX ?_ ?_; rotate_left; rfl)
    | refine Z.brT rfl ?_
    | refine Z.brF rfl ?_
    | (refine Z.br rfl ?_ ?_ <;> intro hb <;> (try simp only [decide_eq_true_eq, decide_eq_false_iff_not, Bool.not_eq_true', Bool.not_eq_false', Int.not_lt, Int.not_le] at hb) <;> (try (exfalso; omega))))
  rename Nat => g1
  refine Z.lpS [2, 3, 4, 6, 7, 8, 13, 14, 15, 16, 17, 18, 19, 20, 21, 22, 23, 24, 25] (fun m w s => ∃ q : Nat, s = [(13, .int .i64 q)] ∧ q ≤ h.length ∧ (∀ j (hj : j < h.length), j < q → (tApp (tabOf (h.take j)) h[j]).2 = 0) ∧ m = h.length - q ∧ Sep r [] (RT g1 (tabOf (h.take q)) :: F) w) _ [(13, .int .i64 (0 : Nat))] (by repeat (first | exact trivial | refine ⟨rfl, ?_⟩)) ⟨0, rfl, by omega, by intro j _ h; omega, rfl, hS⟩ ?_
  clear hS
  rintro m f0 w _ ⟨q, rfl, hq, hall, rfl, hS⟩
  by_cases hlt : q < h.length
  · obtain ⟨gb, o, rfl, _, hra⟩ := (hrd [_] w hS).mat (by omega) hlt
    have hok := tabOf_ok (h.take q)
    repeat' (first
      | refine Z.pr rfl ?_
      | refine Z.eff (Z.ld hS rfl (by repeat (first | exact At.here | apply At.next)) rfl ?_) rfl
      | refine Z.eff (Z.ldR rfl (by assumption) rfl ?_) rfl
      | refine Z.eff (Z.ldE rfl (by assumption) rfl ?_) rfl
      | refine Z.sum rfl (by constructor <;> omega) ?_
      | (refine Z.eff (Z.st hS rfl (by repeat (first | exact At.here | apply At.next)) rfl rfl ?_) rfl; clear hS; intro w hS)
      | (refine Z.eff (Z.al hS ?_) rfl; clear hS; intro g w hS hge)
      | (refine Z.eff (Z.bx hS rfl ?_) rfl; clear hS; intro g w hS hge)
      | refine Z.ixn rfl rfl rfl (by omega) ?_
      | refine Z.pl (R.upto rfl rfl rfl (by omega)) ?_
      | refine Z.pl (R.since rfl rfl rfl (by omega)) ?_
      | refine Z.pl (R.span rfl rfl rfl rfl (by omega) (by omega)) ?_
      | refine Z.pl (R.whole rfl rfl) ?_
      | refine Z.pl (R.eqa rfl rfl rfl rfl) ?_
      | refine Z.pl (R.nea rfl rfl rfl rfl) ?_
      | refine Z.ix rfl rfl rfl (by omega) ?_
      | refine Z.ia rfl rfl rfl (by omega) ?_
      | refine Z.bu rfl rfl ?_
      | (refine Z.eff (Z.bs hS rfl rfl rfl ?_) rfl; clear hS; intro g w hS hge)
      | refine Z.gT rfl rfl ?_
      | refine Z.gF rfl rfl ?_
      | refine Z.gF0 rfl rfl ?_
      | (refine Z.gS rfl rfl ?_ ?_ <;> intro hb <;> (try simp only [decide_eq_true_eq, decide_eq_false_iff_not, Bool.not_eq_true', Bool.not_eq_false', Int.not_lt, Int.not_le] at hb) <;> (try (exfalso; omega)))
      | with_reducible refine Z.seq ?_
      | with_reducible refine Z.reg ?_
      | with_reducible refine Z.nil ?_
      | with_reducible refine Z.skip ?_
      | with_reducible refine Z.exit ?_
      | with_reducible refine Z.ret ?_
      | with_reducible refine Z.block ?_
      | with_reducible refine Z.thN ?_
      | with_reducible refine Z.thU ?_
      | with_reducible refine Z.thE ?_
      | with_reducible refine Z.thR ?_
      | with_reducible refine Z.blN ?_
      | with_reducible refine Z.blR ?_
      | with_reducible refine Z.blE ?_
      | (with_reducible refine Z.blX ?_ ?_; rotate_left; rfl)
      | refine Z.brT rfl ?_
      | refine Z.brF rfl ?_
      | (refine Z.br rfl ?_ ?_ <;> intro hb <;> (try simp only [decide_eq_true_eq, decide_eq_false_iff_not, Bool.not_eq_true', Bool.not_eq_false', Int.not_lt, Int.not_le] at hb) <;> (try (exfalso; omega))))
    replace hS := hS.focus (R := RT g1 _) (by repeat (first | exact At.here | apply At.next))
    refine Z.eff (Z.cl (rapply_z h[q] _ rfl hS hok) rfl ?_) rfl
    clear hS
    rintro e w ⟨rfl, hS⟩
    refine ⟨_, rfl, ?_⟩
    repeat' (first
      | refine Z.pr rfl ?_
      | refine Z.eff (Z.ld hS rfl (by repeat (first | exact At.here | apply At.next)) rfl ?_) rfl
      | refine Z.eff (Z.ldR rfl (by assumption) rfl ?_) rfl
      | refine Z.eff (Z.ldE rfl (by assumption) rfl ?_) rfl
      | refine Z.sum rfl (by constructor <;> omega) ?_
      | (refine Z.eff (Z.st hS rfl (by repeat (first | exact At.here | apply At.next)) rfl rfl ?_) rfl; clear hS; intro w hS)
      | (refine Z.eff (Z.al hS ?_) rfl; clear hS; intro g w hS hge)
      | (refine Z.eff (Z.bx hS rfl ?_) rfl; clear hS; intro g w hS hge)
      | refine Z.ixn rfl rfl rfl (by omega) ?_
      | refine Z.pl (R.upto rfl rfl rfl (by omega)) ?_
      | refine Z.pl (R.since rfl rfl rfl (by omega)) ?_
      | refine Z.pl (R.span rfl rfl rfl rfl (by omega) (by omega)) ?_
      | refine Z.pl (R.whole rfl rfl) ?_
      | refine Z.pl (R.eqa rfl rfl rfl rfl) ?_
      | refine Z.pl (R.nea rfl rfl rfl rfl) ?_
      | refine Z.ix rfl rfl rfl (by omega) ?_
      | refine Z.ia rfl rfl rfl (by omega) ?_
      | refine Z.bu rfl rfl ?_
      | (refine Z.eff (Z.bs hS rfl rfl rfl ?_) rfl; clear hS; intro g w hS hge)
      | refine Z.gT rfl rfl ?_
      | refine Z.gF rfl rfl ?_
      | refine Z.gF0 rfl rfl ?_
      | (refine Z.gS rfl rfl ?_ ?_ <;> intro hb <;> (try simp only [decide_eq_true_eq, decide_eq_false_iff_not, Bool.not_eq_true', Bool.not_eq_false', Int.not_lt, Int.not_le] at hb) <;> (try (exfalso; omega)))
      | with_reducible refine Z.seq ?_
      | with_reducible refine Z.reg ?_
      | with_reducible refine Z.nil ?_
      | with_reducible refine Z.skip ?_
      | with_reducible refine Z.exit ?_
      | with_reducible refine Z.ret ?_
      | with_reducible refine Z.block ?_
      | with_reducible refine Z.thN ?_
      | with_reducible refine Z.thU ?_
      | with_reducible refine Z.thE ?_
      | with_reducible refine Z.thR ?_
      | with_reducible refine Z.blN ?_
      | with_reducible refine Z.blR ?_
      | with_reducible refine Z.blE ?_
      | (with_reducible refine Z.blX ?_ ?_; rotate_left; rfl)
      | refine Z.brT rfl ?_
      | refine Z.brF rfl ?_
      | (refine Z.br rfl ?_ ?_ <;> intro hb <;> (try simp only [decide_eq_true_eq, decide_eq_false_iff_not, Bool.not_eq_true', Bool.not_eq_false', Int.not_lt, Int.not_le] at hb) <;> (try (exfalso; omega))))
    · first | refine Z.done hS Try.results25 (Z.RV.tmp rfl (Z.RV.tmp rfl (Z.RV.tmp rfl Z.RV.nil))) ?_ | refine Z.doneN hS Try.results25 (Z.RV.tmp rfl (Z.RV.tmp rfl (Z.RV.tmp rfl Z.RV.nil))) ?_
      exact ⟨q, _, ⟨hq, hall, .inr ⟨hlt, rfl, hb⟩⟩, .inr ⟨hb, rfl, hS.sub (by repeat (first | exact Sub.rest | exact Sub.nil | exact .skip .rest | exact .skip (.skip .rest) | exact .skip (.skip (.skip .rest)) | apply Sub.keep | refine Sub.cons (by repeat (first | exact At.here | apply At.next)) ?_ | apply Sub.skip))⟩⟩
    · refine Z.againS (h.length - (q + 1)) [(13, .int .i64 (q + 1 : Nat))] (by omega) (by repeat (first | exact Same.mix | refine Same.upd rfl ?_ | refine Same.cons rfl ?_ | exact Same.refl | refine Same.nil ?_)) (by repeat (first | exact trivial | refine ⟨rfl, ?_⟩)) ?_
      refine ⟨q + 1, rfl, by omega, fun j hj hjq => ?_, rfl, ?_⟩
      · rcases Nat.lt_or_ge j q with h1 | h1
        · exact hall j hj h1
        · have : j = q := by omega
          subst this
          exact hb
      · rw [tabOf_take hlt]
        exact hS.sub (by repeat (first | exact Sub.rest | exact Sub.nil | exact .skip .rest | exact .skip (.skip .rest) | exact .skip (.skip (.skip .rest)) | apply Sub.keep | refine Sub.cons (by repeat (first | exact At.here | apply At.next)) ?_ | apply Sub.skip))
  · repeat' (first
      | refine Z.pr rfl ?_
      | refine Z.eff (Z.ld hS rfl (by repeat (first | exact At.here | apply At.next)) rfl ?_) rfl
      | refine Z.eff (Z.ldR rfl (by assumption) rfl ?_) rfl
      | refine Z.eff (Z.ldE rfl (by assumption) rfl ?_) rfl
      | refine Z.sum rfl (by constructor <;> omega) ?_
      | (refine Z.eff (Z.st hS rfl (by repeat (first | exact At.here | apply At.next)) rfl rfl ?_) rfl; clear hS; intro w hS)
      | (refine Z.eff (Z.al hS ?_) rfl; clear hS; intro g w hS hge)
      | (refine Z.eff (Z.bx hS rfl ?_) rfl; clear hS; intro g w hS hge)
      | refine Z.ixn rfl rfl rfl (by omega) ?_
      | refine Z.pl (R.upto rfl rfl rfl (by omega)) ?_
      | refine Z.pl (R.since rfl rfl rfl (by omega)) ?_
      | refine Z.pl (R.span rfl rfl rfl rfl (by omega) (by omega)) ?_
      | refine Z.pl (R.whole rfl rfl) ?_
      | refine Z.pl (R.eqa rfl rfl rfl rfl) ?_
      | refine Z.pl (R.nea rfl rfl rfl rfl) ?_
      | refine Z.ix rfl rfl rfl (by omega) ?_
      | refine Z.ia rfl rfl rfl (by omega) ?_
      | refine Z.bu rfl rfl ?_
      | (refine Z.eff (Z.bs hS rfl rfl rfl ?_) rfl; clear hS; intro g w hS hge)
      | refine Z.gT rfl rfl ?_
      | refine Z.gF rfl rfl ?_
      | refine Z.gF0 rfl rfl ?_
      | (refine Z.gS rfl rfl ?_ ?_ <;> intro hb <;> (try simp only [decide_eq_true_eq, decide_eq_false_iff_not, Bool.not_eq_true', Bool.not_eq_false', Int.not_lt, Int.not_le] at hb) <;> (try (exfalso; omega)))
      | with_reducible refine Z.seq ?_
      | with_reducible refine Z.reg ?_
      | with_reducible refine Z.nil ?_
      | with_reducible refine Z.skip ?_
      | with_reducible refine Z.exit ?_
      | with_reducible refine Z.ret ?_
      | with_reducible refine Z.block ?_
      | with_reducible refine Z.thN ?_
      | with_reducible refine Z.thU ?_
      | with_reducible refine Z.thE ?_
      | with_reducible refine Z.thR ?_
      | with_reducible refine Z.blN ?_
      | with_reducible refine Z.blR ?_
      | with_reducible refine Z.blE ?_
      | (with_reducible refine Z.blX ?_ ?_; rotate_left; rfl)
      | refine Z.brT rfl ?_
      | refine Z.brF rfl ?_
      | (refine Z.br rfl ?_ ?_ <;> intro hb <;> (try simp only [decide_eq_true_eq, decide_eq_false_iff_not, Bool.not_eq_true', Bool.not_eq_false', Int.not_lt, Int.not_le] at hb) <;> (try (exfalso; omega))))
    first | refine Z.done hS Try.results25 (Z.RV.tmp rfl (Z.RV.tmp rfl (Z.RV.tmp rfl Z.RV.nil))) ?_ | refine Z.doneN hS Try.results25 (Z.RV.tmp rfl (Z.RV.tmp rfl (Z.RV.tmp rfl Z.RV.nil))) ?_
    have : q = h.length := by omega
    subst this
    rw [List.take_length] at hS
    exact ⟨_, _, ⟨Nat.le_refl _, hall, .inl ⟨rfl, rfl⟩⟩, .inl ⟨rfl, _, rfl, hS⟩⟩
end Go.Proofs.Ytppbjlakbmgfdaa
