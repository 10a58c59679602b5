/-
  The program's queue: New, Apply, Items, Fold.
-/
import Derived.Test.YtpaoommfcmeagaaNQs
namespace Go.Proofs.Ytpaoommfcmeagaa
open Go.RowKit
set_option linter.unusedSimpArgs false
set_option linter.unusedVariables false
attribute [local irreducible] Res.blk Res.sl Res.all Res.ex Res.pure Res.star

/-- The program's queue as a resource. -/
def PQ (g : Nat) (q : Qu) : Res := .ex fun A => .ex fun c => .ex fun B => .ex fun d => .all [.blk g 76 [.slice A q.l.length c, .slice B q.r.length d, .int .i64 q.most], .sl 52 2 (.slice A q.l.length c) (q.l.map It.cells), .sl 54 4 (.slice B q.r.length d) (q.r.map Le.cells)]
theorem Sep.PQ_open {r w : World} {M : List Nat} {F : List Res} {g : Nat} {q : Qu} : Sep r M (PQ g q :: F) w ↔ ∃ A c B d, Sep r M (.blk g 76 [.slice A q.l.length c, .slice B q.r.length d, .int .i64 q.most] :: .sl 52 2 (.slice A q.l.length c) (q.l.map It.cells) :: .sl 54 4 (.slice B q.r.length d) (q.r.map Le.cells) :: F) w := by
  simp only [PQ, Sep.ex_open, Sep.all_open, List.cons_append, List.nil_append]
def Qu.zero : Qu := ⟨[], [], 0⟩

theorem pqnew_z (r : World) (F : List Res) (w : World) (hS : Sep r [] F w) : Calls Try.prog 12 #[] w fun e w' => ∃ g, e = .returned (.pointer (some ⟨g, 0, none⟩)) ∧ Sep r [] (PQ g .zero :: F) w' := by
  refine Z.enter Try.func12 Try.ntmps12 rfl rfl ?_
  repeat' (first
    | refine Z.pr rfl ?_ | refine Sh.la hS ?_ | refine Sh.lb ?_ | refine Sh.lc ?_ | refine Sh.su ?_
    | (refine Sh.sa hS ?_; clear hS; intro w hS)
    | ((first | refine Sh.aa hS ?_ | refine Sh.ab hS ?_ | refine Sh.ac hS ?_); clear hS; intro g w hS hge)
    | refine Sh.ix ?_ | refine Sh.up ?_ | refine Sh.sl1 ?_ | refine Sh.sl2 ?_ | refine Sh.sl5 ?_ | refine Sh.sl3 ?_ | refine Sh.sl4 ?_ | refine Sh.eq ?_ | refine Sh.ne ?_ | refine Sh.ix2 ?_ | refine Sh.ix3 ?_
    | refine Z.bu rfl rfl ?_ | refine Z.pl (R.max2 rfl rfl) ?_ | refine Z.pl (R.cap rfl rfl) ?_ | refine Z.pl R.mf ?_
    | refine Z.gT rfl rfl ?_ | refine Z.gF rfl rfl ?_ | refine Z.gF0 rfl rfl ?_ | refine Z.gU rfl rfl ?_
    | with_reducible (first | refine Z.seq ?_ | refine Z.reg ?_ | refine Z.nil ?_ | refine Z.skip ?_ | refine Z.exit ?_ | refine Z.ret ?_ | refine Z.block ?_ | refine Z.thN ?_ | refine Z.thU ?_ | refine Z.thE ?_ | refine Z.thR ?_ | refine Z.blN ?_ | refine Z.blR ?_ | refine Z.blE ?_ | refine Z.label ?_ | refine Z.scope ?_ | refine Z.ngN ?_ | refine Z.ngR ?_ | refine Z.ngE ?_)
    | ((with_reducible refine Z.blX ?_ ?_); rotate_left; rfl)
    | refine Z.brT rfl ?_ | refine Z.brF rfl ?_
    | ((first | refine Z.gS rfl rfl ?_ ?_ | refine Z.br rfl ?_ ?_) <;> intro hb <;> (try simp only [decide_eq_true_eq, decide_eq_false_iff_not, Bool.not_eq_true', Bool.not_eq_false', Int.not_lt, Int.not_le] at hb) <;> (try (exfalso; first | omega | exact hb trivial))))
  first | refine Z.done hS Try.results12 (Z.RV.tmp rfl Z.RV.nil) ?_ | refine Z.doneN hS Try.results12 (Z.RV.tmp rfl Z.RV.nil) ?_
  replace hS := Z.nilsl (Z.nilsl hS 52 2 none) 54 4 none
  exact ⟨_, rfl, Sep.PQ_open.2 ⟨none, 0, none, 0, hS.sb⟩⟩
theorem pqitems_z (g : Nat) (q : Qu) (r : World) (F : List Res) (w : World) (hS : Sep r [] (PQ g q :: F) w) (hl : q.l.length ≤ 100000) : Calls Try.prog 16 #[.pointer (some ⟨g, 0, none⟩)] w fun e w' => ∃ A c, e = .returned (.slice A q.l.length c) ∧ Sep r [] (.sl 52 2 (.slice A q.l.length c) (q.l.map It.cells) :: PQ g q :: F) w' := by
  obtain ⟨A, c, B, d, hS⟩ := Sep.PQ_open.1 hS
  refine Z.enter Try.func16 Try.ntmps16 rfl rfl ?_
  repeat' (first
    | refine Z.pr rfl ?_ | refine Sh.la hS ?_ | refine Sh.lb ?_ | refine Sh.lc ?_ | refine Sh.su ?_
    | (refine Sh.sa hS ?_; clear hS; intro w hS)
    | ((first | refine Sh.aa hS ?_ | refine Sh.ab hS ?_ | refine Sh.ac hS ?_); clear hS; intro g w hS hge)
    | refine Sh.ix ?_ | refine Sh.up ?_ | refine Sh.sl1 ?_ | refine Sh.sl2 ?_ | refine Sh.sl5 ?_ | refine Sh.sl3 ?_ | refine Sh.sl4 ?_ | refine Sh.eq ?_ | refine Sh.ne ?_ | refine Sh.ix2 ?_ | refine Sh.ix3 ?_
    | refine Z.bu rfl rfl ?_ | refine Z.pl (R.max2 rfl rfl) ?_ | refine Z.pl (R.cap rfl rfl) ?_ | refine Z.pl R.mf ?_
    | refine Z.gT rfl rfl ?_ | refine Z.gF rfl rfl ?_ | refine Z.gF0 rfl rfl ?_ | refine Z.gU rfl rfl ?_
    | with_reducible (first | refine Z.seq ?_ | refine Z.reg ?_ | refine Z.nil ?_ | refine Z.skip ?_ | refine Z.exit ?_ | refine Z.ret ?_ | refine Z.block ?_ | refine Z.thN ?_ | refine Z.thU ?_ | refine Z.thE ?_ | refine Z.thR ?_ | refine Z.blN ?_ | refine Z.blR ?_ | refine Z.blE ?_ | refine Z.label ?_ | refine Z.scope ?_ | refine Z.ngN ?_ | refine Z.ngR ?_ | refine Z.ngE ?_)
    | ((with_reducible refine Z.blX ?_ ?_); rotate_left; rfl)
    | refine Z.brT rfl ?_ | refine Z.brF rfl ?_
    | ((first | refine Z.gS rfl rfl ?_ ?_ | refine Z.br rfl ?_ ?_) <;> intro hb <;> (try simp only [decide_eq_true_eq, decide_eq_false_iff_not, Bool.not_eq_true', Bool.not_eq_false', Int.not_lt, Int.not_le] at hb) <;> (try (exfalso; first | omega | exact hb trivial))))
  refine Z.eff (Z.cl (it_clone q.l _ _ _ _ hS (Reads.of_at (by repeat (first | exact At.here | apply At.next))) hl) rfl ?_) rfl
  clear hS
  rintro e w ⟨A1, c1, rfl, hS⟩
  refine ⟨_, rfl, ?_⟩
  repeat' (first
    | refine Z.pr rfl ?_ | refine Sh.la hS ?_ | refine Sh.lb ?_ | refine Sh.lc ?_ | refine Sh.su ?_
    | (refine Sh.sa hS ?_; clear hS; intro w hS)
    | ((first | refine Sh.aa hS ?_ | refine Sh.ab hS ?_ | refine Sh.ac hS ?_); clear hS; intro g w hS hge)
    | refine Sh.ix ?_ | refine Sh.up ?_ | refine Sh.sl1 ?_ | refine Sh.sl2 ?_ | refine Sh.sl5 ?_ | refine Sh.sl3 ?_ | refine Sh.sl4 ?_ | refine Sh.eq ?_ | refine Sh.ne ?_ | refine Sh.ix2 ?_ | refine Sh.ix3 ?_
    | refine Z.bu rfl rfl ?_ | refine Z.pl (R.max2 rfl rfl) ?_ | refine Z.pl (R.cap rfl rfl) ?_ | refine Z.pl R.mf ?_
    | refine Z.gT rfl rfl ?_ | refine Z.gF rfl rfl ?_ | refine Z.gF0 rfl rfl ?_ | refine Z.gU rfl rfl ?_
    | with_reducible (first | refine Z.seq ?_ | refine Z.reg ?_ | refine Z.nil ?_ | refine Z.skip ?_ | refine Z.exit ?_ | refine Z.ret ?_ | refine Z.block ?_ | refine Z.thN ?_ | refine Z.thU ?_ | refine Z.thE ?_ | refine Z.thR ?_ | refine Z.blN ?_ | refine Z.blR ?_ | refine Z.blE ?_ | refine Z.label ?_ | refine Z.scope ?_ | refine Z.ngN ?_ | refine Z.ngR ?_ | refine Z.ngE ?_)
    | ((with_reducible refine Z.blX ?_ ?_); rotate_left; rfl)
    | refine Z.brT rfl ?_ | refine Z.brF rfl ?_
    | ((first | refine Z.gS rfl rfl ?_ ?_ | refine Z.br rfl ?_ ?_) <;> intro hb <;> (try simp only [decide_eq_true_eq, decide_eq_false_iff_not, Bool.not_eq_true', Bool.not_eq_false', Int.not_lt, Int.not_le] at hb) <;> (try (exfalso; first | omega | exact hb trivial))))
  first | refine Z.done hS Try.results16 (Z.RV.tmp rfl Z.RV.nil) ?_ | refine Z.doneN hS Try.results16 (Z.RV.tmp rfl Z.RV.nil) ?_
  exact ⟨_, _, rfl, (Sep.PQ_open.2 ⟨A, c, B, d, hS.sub (L' := .blk g _ _ :: .sl _ 2 (.slice A q.l.length c) _ :: .sl _ 4 (.slice B q.r.length d) _ :: .sl _ 2 (.slice A1 q.l.length c1) (q.l.map It.cells) :: F) (by repeat (first | exact Sub.rest | exact Sub.nil | exact .skip .rest | exact .skip (.skip .rest) | exact .skip (.skip (.skip .rest)) | apply Sub.keep | refine Sub.cons (by repeat (first | exact At.here | apply At.next)) ?_ | apply Sub.skip))⟩).sub (by repeat (first | exact Sub.rest | exact Sub.nil | exact .skip .rest | exact .skip (.skip .rest) | exact .skip (.skip (.skip .rest)) | apply Sub.keep | refine Sub.cons (by repeat (first | exact At.here | apply At.next)) ?_ | apply Sub.skip))⟩
theorem pqforget_z (g : Nat) (q : Qu) (r : World) (F : List Res) (w : World) (hS : Sep r [] (PQ g q :: F) w) : Calls Try.prog 32 #[.pointer (some ⟨g, 0, none⟩)] w fun e w' => ∃ v, e = .returned v ∧ Sep r [] (PQ g ⟨q.l, [], q.most⟩ :: F) w' := by
  obtain ⟨A, c, B, d, hS⟩ := Sep.PQ_open.1 hS
  refine Z.enter Try.func32 Try.ntmps32 rfl rfl ?_
  repeat' (first
    | refine Z.pr rfl ?_ | refine Sh.la hS ?_ | refine Sh.lb ?_ | refine Sh.lc ?_ | refine Sh.su ?_
    | (refine Sh.sa hS ?_; clear hS; intro w hS)
    | ((first | refine Sh.aa hS ?_ | refine Sh.ab hS ?_ | refine Sh.ac hS ?_); clear hS; intro g w hS hge)
    | refine Sh.ix ?_ | refine Sh.up ?_ | refine Sh.sl1 ?_ | refine Sh.sl2 ?_ | refine Sh.sl5 ?_ | refine Sh.sl3 ?_ | refine Sh.sl4 ?_ | refine Sh.eq ?_ | refine Sh.ne ?_ | refine Sh.ix2 ?_ | refine Sh.ix3 ?_
    | refine Z.bu rfl rfl ?_ | refine Z.pl (R.max2 rfl rfl) ?_ | refine Z.pl (R.cap rfl rfl) ?_ | refine Z.pl R.mf ?_
    | refine Z.gT rfl rfl ?_ | refine Z.gF rfl rfl ?_ | refine Z.gF0 rfl rfl ?_ | refine Z.gU rfl rfl ?_
    | with_reducible (first | refine Z.seq ?_ | refine Z.reg ?_ | refine Z.nil ?_ | refine Z.skip ?_ | refine Z.exit ?_ | refine Z.ret ?_ | refine Z.block ?_ | refine Z.thN ?_ | refine Z.thU ?_ | refine Z.thE ?_ | refine Z.thR ?_ | refine Z.blN ?_ | refine Z.blR ?_ | refine Z.blE ?_ | refine Z.label ?_ | refine Z.scope ?_ | refine Z.ngN ?_ | refine Z.ngR ?_ | refine Z.ngE ?_)
    | ((with_reducible refine Z.blX ?_ ?_); rotate_left; rfl)
    | refine Z.brT rfl ?_ | refine Z.brF rfl ?_
    | ((first | refine Z.gS rfl rfl ?_ ?_ | refine Z.br rfl ?_ ?_) <;> intro hb <;> (try simp only [decide_eq_true_eq, decide_eq_false_iff_not, Bool.not_eq_true', Bool.not_eq_false', Int.not_lt, Int.not_le] at hb) <;> (try (exfalso; first | omega | exact hb trivial))))
  first | refine Z.done hS Try.results32 Z.RV.nil ?_ | refine Z.doneN hS Try.results32 Z.RV.nil ?_
  exact ⟨_, rfl, Sep.PQ_open.2 ⟨A, c, none, 0, (Z.nilsl hS 54 4 none).sub (by repeat (first | exact Sub.rest | exact Sub.nil | exact .skip .rest | exact .skip (.skip .rest) | exact .skip (.skip (.skip .rest)) | apply Sub.keep | refine Sub.cons (by repeat (first | exact At.here | apply At.next)) ?_ | apply Sub.skip))⟩⟩
theorem qapply1_z (gx : Nat) (t : It) (x : Ch) (r : World) (F : List Res) (w : World) (hS : Sep r [] F w) {k : List Res} (ha : At F k (.blk gx 29 x.cells)) : Calls Try.prog 44 #[t.val, .pointer (some ⟨gx, 0, none⟩)] w fun e w' => e = .returned (.bool (decide (t.number = x.item))) ∧ Sep r [] F w' := by
  refine Z.enter Try.func44 Try.ntmps44 rfl rfl ?_
  repeat' (first
    | refine Z.pr rfl ?_ | refine Sh.la hS ?_ | refine Sh.lb ?_ | refine Sh.lc ?_ | refine Sh.su ?_
    | (refine Sh.sa hS ?_; clear hS; intro w hS)
    | ((first | refine Sh.aa hS ?_ | refine Sh.ab hS ?_ | refine Sh.ac hS ?_); clear hS; intro g w hS hge)
    | refine Sh.ix ?_ | refine Sh.up ?_ | refine Sh.sl1 ?_ | refine Sh.sl2 ?_ | refine Sh.sl5 ?_ | refine Sh.sl3 ?_ | refine Sh.sl4 ?_ | refine Sh.eq ?_ | refine Sh.ne ?_ | refine Sh.ix2 ?_ | refine Sh.ix3 ?_
    | refine Z.bu rfl rfl ?_ | refine Z.pl (R.max2 rfl rfl) ?_ | refine Z.pl (R.cap rfl rfl) ?_ | refine Z.pl R.mf ?_
    | refine Z.gT rfl rfl ?_ | refine Z.gF rfl rfl ?_ | refine Z.gF0 rfl rfl ?_ | refine Z.gU rfl rfl ?_
    | with_reducible (first | refine Z.seq ?_ | refine Z.reg ?_ | refine Z.nil ?_ | refine Z.skip ?_ | refine Z.exit ?_ | refine Z.ret ?_ | refine Z.block ?_ | refine Z.thN ?_ | refine Z.thU ?_ | refine Z.thE ?_ | refine Z.thR ?_ | refine Z.blN ?_ | refine Z.blR ?_ | refine Z.blE ?_ | refine Z.label ?_ | refine Z.scope ?_ | refine Z.ngN ?_ | refine Z.ngR ?_ | refine Z.ngE ?_)
    | ((with_reducible refine Z.blX ?_ ?_); rotate_left; rfl)
    | refine Z.brT rfl ?_ | refine Z.brF rfl ?_
    | ((first | refine Z.gS rfl rfl ?_ ?_ | refine Z.br rfl ?_ ?_) <;> intro hb <;> (try simp only [decide_eq_true_eq, decide_eq_false_iff_not, Bool.not_eq_true', Bool.not_eq_false', Int.not_lt, Int.not_le] at hb) <;> (try (exfalso; first | omega | exact hb trivial))))
  refine Z.eff (Z.ld hS rfl (At.next ha) rfl ?_) rfl
  repeat' (first
    | refine Z.pr rfl ?_ | refine Sh.la hS ?_ | refine Sh.lb ?_ | refine Sh.lc ?_ | refine Sh.su ?_
    | (refine Sh.sa hS ?_; clear hS; intro w hS)
    | ((first | refine Sh.aa hS ?_ | refine Sh.ab hS ?_ | refine Sh.ac hS ?_); clear hS; intro g w hS hge)
    | refine Sh.ix ?_ | refine Sh.up ?_ | refine Sh.sl1 ?_ | refine Sh.sl2 ?_ | refine Sh.sl5 ?_ | refine Sh.sl3 ?_ | refine Sh.sl4 ?_ | refine Sh.eq ?_ | refine Sh.ne ?_ | refine Sh.ix2 ?_ | refine Sh.ix3 ?_
    | refine Z.bu rfl rfl ?_ | refine Z.pl (R.max2 rfl rfl) ?_ | refine Z.pl (R.cap rfl rfl) ?_ | refine Z.pl R.mf ?_
    | refine Z.gT rfl rfl ?_ | refine Z.gF rfl rfl ?_ | refine Z.gF0 rfl rfl ?_ | refine Z.gU rfl rfl ?_
    | with_reducible (first | refine Z.seq ?_ | refine Z.reg ?_ | refine Z.nil ?_ | refine Z.skip ?_ | refine Z.exit ?_ | refine Z.ret ?_ | refine Z.block ?_ | refine Z.thN ?_ | refine Z.thU ?_ | refine Z.thE ?_ | refine Z.thR ?_ | refine Z.blN ?_ | refine Z.blR ?_ | refine Z.blE ?_ | refine Z.label ?_ | refine Z.scope ?_ | refine Z.ngN ?_ | refine Z.ngR ?_ | refine Z.ngE ?_)
    | ((with_reducible refine Z.blX ?_ ?_); rotate_left; rfl)
    | refine Z.brT rfl ?_ | refine Z.brF rfl ?_
    | ((first | refine Z.gS rfl rfl ?_ ?_ | refine Z.br rfl ?_ ?_) <;> intro hb <;> (try simp only [decide_eq_true_eq, decide_eq_false_iff_not, Bool.not_eq_true', Bool.not_eq_false', Int.not_lt, Int.not_le] at hb) <;> (try (exfalso; first | omega | exact hb trivial))))
  first | refine Z.done hS Try.results44 (Z.RV.tmp rfl Z.RV.nil) ?_ | refine Z.doneN hS Try.results44 (Z.RV.tmp rfl Z.RV.nil) ?_
  exact ⟨rfl, hS.sb⟩
theorem qapply2_z (gx : Nat) (t : Le) (x : Ch) (r : World) (F : List Res) (w : World) (hS : Sep r [] F w) {k : List Res} (ha : At F k (.blk gx 29 x.cells)) : Calls Try.prog 47 #[t.val, .pointer (some ⟨gx, 0, none⟩)] w fun e w' => e = .returned (.bool (decide (t.item = x.item))) ∧ Sep r [] F w' := by
  refine Z.enter Try.func47 Try.ntmps47 rfl rfl ?_
  repeat' (first
    | refine Z.pr rfl ?_ | refine Sh.la hS ?_ | refine Sh.lb ?_ | refine Sh.lc ?_ | refine Sh.su ?_
    | (refine Sh.sa hS ?_; clear hS; intro w hS)
    | ((first | refine Sh.aa hS ?_ | refine Sh.ab hS ?_ | refine Sh.ac hS ?_); clear hS; intro g w hS hge)
    | refine Sh.ix ?_ | refine Sh.up ?_ | refine Sh.sl1 ?_ | refine Sh.sl2 ?_ | refine Sh.sl5 ?_ | refine Sh.sl3 ?_ | refine Sh.sl4 ?_ | refine Sh.eq ?_ | refine Sh.ne ?_ | refine Sh.ix2 ?_ | refine Sh.ix3 ?_
    | refine Z.bu rfl rfl ?_ | refine Z.pl (R.max2 rfl rfl) ?_ | refine Z.pl (R.cap rfl rfl) ?_ | refine Z.pl R.mf ?_
    | refine Z.gT rfl rfl ?_ | refine Z.gF rfl rfl ?_ | refine Z.gF0 rfl rfl ?_ | refine Z.gU rfl rfl ?_
    | with_reducible (first | refine Z.seq ?_ | refine Z.reg ?_ | refine Z.nil ?_ | refine Z.skip ?_ | refine Z.exit ?_ | refine Z.ret ?_ | refine Z.block ?_ | refine Z.thN ?_ | refine Z.thU ?_ | refine Z.thE ?_ | refine Z.thR ?_ | refine Z.blN ?_ | refine Z.blR ?_ | refine Z.blE ?_ | refine Z.label ?_ | refine Z.scope ?_ | refine Z.ngN ?_ | refine Z.ngR ?_ | refine Z.ngE ?_)
    | ((with_reducible refine Z.blX ?_ ?_); rotate_left; rfl)
    | refine Z.brT rfl ?_ | refine Z.brF rfl ?_
    | ((first | refine Z.gS rfl rfl ?_ ?_ | refine Z.br rfl ?_ ?_) <;> intro hb <;> (try simp only [decide_eq_true_eq, decide_eq_false_iff_not, Bool.not_eq_true', Bool.not_eq_false', Int.not_lt, Int.not_le] at hb) <;> (try (exfalso; first | omega | exact hb trivial))))
  refine Z.eff (Z.ld hS rfl (At.next ha) rfl ?_) rfl
  repeat' (first
    | refine Z.pr rfl ?_ | refine Sh.la hS ?_ | refine Sh.lb ?_ | refine Sh.lc ?_ | refine Sh.su ?_
    | (refine Sh.sa hS ?_; clear hS; intro w hS)
    | ((first | refine Sh.aa hS ?_ | refine Sh.ab hS ?_ | refine Sh.ac hS ?_); clear hS; intro g w hS hge)
    | refine Sh.ix ?_ | refine Sh.up ?_ | refine Sh.sl1 ?_ | refine Sh.sl2 ?_ | refine Sh.sl5 ?_ | refine Sh.sl3 ?_ | refine Sh.sl4 ?_ | refine Sh.eq ?_ | refine Sh.ne ?_ | refine Sh.ix2 ?_ | refine Sh.ix3 ?_
    | refine Z.bu rfl rfl ?_ | refine Z.pl (R.max2 rfl rfl) ?_ | refine Z.pl (R.cap rfl rfl) ?_ | refine Z.pl R.mf ?_
    | refine Z.gT rfl rfl ?_ | refine Z.gF rfl rfl ?_ | refine Z.gF0 rfl rfl ?_ | refine Z.gU rfl rfl ?_
    | with_reducible (first | refine Z.seq ?_ | refine Z.reg ?_ | refine Z.nil ?_ | refine Z.skip ?_ | refine Z.exit ?_ | refine Z.ret ?_ | refine Z.block ?_ | refine Z.thN ?_ | refine Z.thU ?_ | refine Z.thE ?_ | refine Z.thR ?_ | refine Z.blN ?_ | refine Z.blR ?_ | refine Z.blE ?_ | refine Z.label ?_ | refine Z.scope ?_ | refine Z.ngN ?_ | refine Z.ngR ?_ | refine Z.ngE ?_)
    | ((with_reducible refine Z.blX ?_ ?_); rotate_left; rfl)
    | refine Z.brT rfl ?_ | refine Z.brF rfl ?_
    | ((first | refine Z.gS rfl rfl ?_ ?_ | refine Z.br rfl ?_ ?_) <;> intro hb <;> (try simp only [decide_eq_true_eq, decide_eq_false_iff_not, Bool.not_eq_true', Bool.not_eq_false', Int.not_lt, Int.not_le] at hb) <;> (try (exfalso; first | omega | exact hb trivial))))
  first | refine Z.done hS Try.results47 (Z.RV.tmp rfl Z.RV.nil) ?_ | refine Z.doneN hS Try.results47 (Z.RV.tmp rfl Z.RV.nil) ?_
  exact ⟨rfl, hS.sb⟩
theorem qidx_first : ∀ {l : List It} {n : Int} {q : Nat} (hq : q < l.length), l[q].number = n → (∀ y, y ∈ l.take q → y.number ≠ n) → qidx l n = q
  | x :: l, n, 0, _, h, _ => by simp at h; simp [qidx, h]
  | x :: l, n, q + 1, hq, h, hno => by
    have h0 : x.number ≠ n := hno x (by simp)
    have := qidx_first (l := l) (n := n) (q := q) (by simpa using hq) (by simpa using h) (fun y hy => hno y (by simp [hy]))
    simp [qidx, h0, this]
theorem qidx_none : ∀ {l : List It} {n : Int}, (∀ y, y ∈ l → y.number ≠ n) → qidx l n = l.length
  | [], _, _ => rfl
  | x :: l, n, hno => by
    have h0 : x.number ≠ n := hno x (by simp)
    have := qidx_none (l := l) (n := n) (fun y hy => hno y (by simp [hy]))
    simp [qidx, h0, this]
set_option maxHeartbeats 4000000 in
theorem pqapply_z (gq : Nat) (q : Qu) (x : Ch) (r : World) (F : List Res) (w : World) (hS : Sep r [] (PQ gq q :: F) w) (hl : q.l.length ≤ 1000) (hl' : q.r.length ≤ 1000) :
    Calls Try.prog 13 #[.pointer (some ⟨gq, 0, none⟩), x.val] w fun e w' => e = .returned (.int .i64 (qApp q x).2) ∧ Sep r [] (PQ gq (qApp q x).1 :: F) w' := by
  obtain ⟨A, c, B, d, hS⟩ := Sep.PQ_open.1 hS
  refine Z.enter Try.func13 Try.ntmps13 rfl rfl ?_
  repeat' (first
    | refine Z.pr rfl ?_ | refine Sh.la hS ?_ | refine Sh.lb ?_ | refine Sh.lc ?_ | refine Sh.su ?_
    | (refine Sh.sa hS ?_; clear hS; intro w hS)
    | ((first | refine Sh.aa hS ?_ | refine Sh.ab hS ?_ | refine Sh.ac hS ?_); clear hS; intro g w hS hge)
    | refine Sh.ix ?_ | refine Sh.up ?_ | refine Sh.sl1 ?_ | refine Sh.sl2 ?_ | refine Sh.sl5 ?_ | refine Sh.sl3 ?_ | refine Sh.sl4 ?_ | refine Sh.eq ?_ | refine Sh.ne ?_ | refine Sh.ix2 ?_ | refine Sh.ix3 ?_
    | refine Z.bu rfl rfl ?_ | refine Z.pl (R.max2 rfl rfl) ?_ | refine Z.pl (R.cap rfl rfl) ?_ | refine Z.pl R.mf ?_
    | refine Z.gT rfl rfl ?_ | refine Z.gF rfl rfl ?_ | refine Z.gF0 rfl rfl ?_ | refine Z.gU rfl rfl ?_
    | with_reducible (first | refine Z.seq ?_ | refine Z.reg ?_ | refine Z.nil ?_ | refine Z.skip ?_ | refine Z.exit ?_ | refine Z.ret ?_ | refine Z.block ?_ | refine Z.thN ?_ | refine Z.thU ?_ | refine Z.thE ?_ | refine Z.thR ?_ | refine Z.blN ?_ | refine Z.blR ?_ | refine Z.blE ?_ | refine Z.label ?_ | refine Z.scope ?_ | refine Z.ngN ?_ | refine Z.ngR ?_ | refine Z.ngE ?_)
    | ((with_reducible refine Z.blX ?_ ?_); rotate_left; rfl)
    | refine Z.brT rfl ?_ | refine Z.brF rfl ?_
    | ((first | refine Z.gS rfl rfl ?_ ?_ | refine Z.br rfl ?_ ?_) <;> intro hb <;> (try simp only [decide_eq_true_eq, decide_eq_false_iff_not, Bool.not_eq_true', Bool.not_eq_false', Int.not_lt, Int.not_le] at hb) <;> (try (exfalso; first | omega | exact hb trivial))))
  rename Nat => gx
  refine Z.eff (Z.cl (svalid_any x _) rfl ?_) rfl
  rintro e w' ⟨rfl, hC⟩
  refine ⟨_, rfl, ?_⟩
  replace hS := hS.ext hC
  clear hC
  repeat' (first
    | refine Z.pr rfl ?_ | refine Sh.la hS ?_ | refine Sh.lb ?_ | refine Sh.lc ?_ | refine Sh.su ?_
    | (refine Sh.sa hS ?_; clear hS; intro w hS)
    | ((first | refine Sh.aa hS ?_ | refine Sh.ab hS ?_ | refine Sh.ac hS ?_); clear hS; intro g w hS hge)
    | refine Sh.ix ?_ | refine Sh.up ?_ | refine Sh.sl1 ?_ | refine Sh.sl2 ?_ | refine Sh.sl5 ?_ | refine Sh.sl3 ?_ | refine Sh.sl4 ?_ | refine Sh.eq ?_ | refine Sh.ne ?_ | refine Sh.ix2 ?_ | refine Sh.ix3 ?_
    | refine Z.bu rfl rfl ?_ | refine Z.pl (R.max2 rfl rfl) ?_ | refine Z.pl (R.cap rfl rfl) ?_ | refine Z.pl R.mf ?_
    | refine Z.gT rfl rfl ?_ | refine Z.gF rfl rfl ?_ | refine Z.gF0 rfl rfl ?_ | refine Z.gU rfl rfl ?_
    | with_reducible (first | refine Z.seq ?_ | refine Z.reg ?_ | refine Z.nil ?_ | refine Z.skip ?_ | refine Z.exit ?_ | refine Z.ret ?_ | refine Z.block ?_ | refine Z.thN ?_ | refine Z.thU ?_ | refine Z.thE ?_ | refine Z.thR ?_ | refine Z.blN ?_ | refine Z.blR ?_ | refine Z.blE ?_ | refine Z.label ?_ | refine Z.scope ?_ | refine Z.ngN ?_ | refine Z.ngR ?_ | refine Z.ngE ?_)
    | ((with_reducible refine Z.blX ?_ ?_); rotate_left; rfl)
    | refine Z.brT rfl ?_ | refine Z.brF rfl ?_
    | ((first | refine Z.gS rfl rfl ?_ ?_ | refine Z.br rfl ?_ ?_) <;> intro hb <;> (try simp only [decide_eq_true_eq, decide_eq_false_iff_not, Bool.not_eq_true', Bool.not_eq_false', Int.not_lt, Int.not_le] at hb) <;> (try (exfalso; first | omega | exact hb trivial))))
  · first | refine Z.done hS Try.results13 (Z.RV.tmp rfl Z.RV.nil) ?_ | refine Z.doneN hS Try.results13 (Z.RV.tmp rfl Z.RV.nil) ?_
    have e : qApp q x = (q, 1) := by simp [qApp, hb]
    rw [e]
    exact ⟨rfl, Sep.PQ_open.2 ⟨A, c, B, d, hS.sb⟩⟩
  · -- push
    rename x.kind = 3 => hk
    rename validB x = true => hv
    refine D.startS hS 7 7 (by kernel_rfl) rfl ?_
    replace hS := hS.drew
    refine Sh.dp 0 1 ?_
    refine Sh.dp 2 5 ?_
    refine Sh.dp 3 13 ?_
    refine Sh.dp 4 29 ?_
    refine Sh.dl 1 31 ?_
    refine Sh.dl 5 63 ?_
    refine Sh.dp 6 127 ?_
    refine D.done (by kernel_rfl) ?_
    repeat' (first
      | refine Z.pr rfl ?_ | refine Sh.la hS ?_ | refine Sh.lb ?_ | refine Sh.lc ?_ | refine Sh.su ?_
      | (refine Sh.sa hS ?_; clear hS; intro w hS)
      | ((first | refine Sh.aa hS ?_ | refine Sh.ab hS ?_ | refine Sh.ac hS ?_); clear hS; intro g w hS hge)
      | refine Sh.ix ?_ | refine Sh.up ?_ | refine Sh.sl1 ?_ | refine Sh.sl2 ?_ | refine Sh.sl5 ?_ | refine Sh.sl3 ?_ | refine Sh.sl4 ?_ | refine Sh.eq ?_ | refine Sh.ne ?_ | refine Sh.ix2 ?_ | refine Sh.ix3 ?_
      | refine Z.bu rfl rfl ?_ | refine Z.pl (R.max2 rfl rfl) ?_ | refine Z.pl (R.cap rfl rfl) ?_ | refine Z.pl R.mf ?_
      | refine Z.gT rfl rfl ?_ | refine Z.gF rfl rfl ?_ | refine Z.gF0 rfl rfl ?_ | refine Z.gU rfl rfl ?_
      | with_reducible (first | refine Z.seq ?_ | refine Z.reg ?_ | refine Z.nil ?_ | refine Z.skip ?_ | refine Z.exit ?_ | refine Z.ret ?_ | refine Z.block ?_ | refine Z.thN ?_ | refine Z.thU ?_ | refine Z.thE ?_ | refine Z.thR ?_ | refine Z.blN ?_ | refine Z.blR ?_ | refine Z.blE ?_ | refine Z.label ?_ | refine Z.scope ?_ | refine Z.ngN ?_ | refine Z.ngR ?_ | refine Z.ngE ?_)
      | ((with_reducible refine Z.blX ?_ ?_); rotate_left; rfl)
      | refine Z.brT rfl ?_ | refine Z.brF rfl ?_
      | ((first | refine Z.gS rfl rfl ?_ ?_ | refine Z.br rfl ?_ ?_) <;> intro hb <;> (try simp only [decide_eq_true_eq, decide_eq_false_iff_not, Bool.not_eq_true', Bool.not_eq_false', Int.not_lt, Int.not_le] at hb) <;> (try (exfalso; first | omega | exact hb trivial))))
    · first | refine Z.done hS Try.results13 (Z.RV.tmp rfl Z.RV.nil) ?_ | refine Z.doneN hS Try.results13 (Z.RV.tmp rfl Z.RV.nil) ?_
      have e : qApp q x = (q, 36) := by simp [qApp, hv, hk, hb]
      rw [e]
      exact ⟨rfl, Sep.PQ_open.2 ⟨A, c, B, d, hS.sb⟩⟩
    · first | refine Z.done hS Try.results13 (Z.RV.tmp rfl Z.RV.nil) ?_ | refine Z.doneN hS Try.results13 (Z.RV.tmp rfl Z.RV.nil) ?_
      have h1 : ¬ x.seq ≤ q.most := by omega
      have h2 : 16 ≤ q.l.length := by omega
      have e : qApp q x = (q, 33) := by simp [qApp, hv, hk, h1, h2]
      rw [e]
      exact ⟨rfl, Sep.PQ_open.2 ⟨A, c, B, d, hS.sb⟩⟩
    · have h1 : ¬ x.seq ≤ q.most := by omega
      have h2 : ¬ 16 ≤ q.l.length := by omega
      have e : qApp q x = (⟨q.l ++ [⟨x.seq, x.value⟩], q.r, x.seq⟩, 0) := by simp [qApp, hv, hk, h1, h2]
      rw [e]
      refine D.startS (Lr := [.blk gx 29 x.cells, .blk gq 76 [.slice A q.l.length c, .slice B q.r.length d, .int .i64 q.most]]) (hS.sb) 14 15 (by kernel_rfl) rfl ?_
      replace hS := hS.drew
      refine Sh.dp 0 1 ?_
      refine Sh.dp 1 3 ?_
      refine Sh.dp 2 7 ?_
      refine Sh.dp 3 15 ?_
      refine Sh.dp 5 47 ?_
      refine Sh.dp 7 175 ?_
      refine Sh.dl 4 191 ?_
      refine Sh.dl 6 255 ?_
      refine Sh.dl 8 511 ?_
      refine D.bu 9 1023 rfl D.wantedN (by kernel_rfl) rfl rfl ?_
      refine D.eff 10 2047 rfl D.wantedN (by kernel_rfl) (by kernel_rfl) (fun _ _ h => h) ?_
      refine Z.bs hS rfl rfl rfl ?_
      clear hS; intro g w hS hge
      refine ⟨HM.s (hS.sb), ?_⟩
      refine D.eff 11 4095 rfl D.wantedN (by kernel_rfl) (by kernel_rfl) (fun _ _ h => h) ?_
      refine Z.apm (l' := [(⟨x.seq, x.value⟩ : It)]) hS rfl rfl rfl (by repeat (first | exact At.here | apply At.next)) (hS.lit1 (by repeat (first | exact At.here | apply At.next)) rfl rfl) (by (try simp only [maxLen, List.length_take, List.length_drop, List.length_append, List.length_cons, List.length_nil, List.length_map]); omega) (by (try simp only [maxLen, List.length_take, List.length_drop, List.length_append, List.length_cons, List.length_nil, List.length_map]); omega) ?_
      clear hS; intro A1 c1 w hS
      refine ⟨HM.s (hS.sb), ?_⟩
      refine Sh.dp 12 8191 ?_
      refine Sh.dp 13 16383 ?_
      refine D.eff 14 32767 rfl D.wantedN (by kernel_rfl) (by kernel_rfl) (fun _ _ h => h) ?_
      refine Z.st hS rfl (by repeat (first | exact At.here | apply At.next)) rfl rfl ?_
      clear hS; intro w hS
      refine ⟨HM.last (by kernel_rfl), ?_⟩
      refine D.done (by kernel_rfl) ?_
      repeat' (first
        | refine Z.pr rfl ?_ | refine Sh.la hS ?_ | refine Sh.lb ?_ | refine Sh.lc ?_ | refine Sh.su ?_
        | (refine Sh.sa hS ?_; clear hS; intro w hS)
        | ((first | refine Sh.aa hS ?_ | refine Sh.ab hS ?_ | refine Sh.ac hS ?_); clear hS; intro g w hS hge)
        | refine Sh.ix ?_ | refine Sh.up ?_ | refine Sh.sl1 ?_ | refine Sh.sl2 ?_ | refine Sh.sl5 ?_ | refine Sh.sl3 ?_ | refine Sh.sl4 ?_ | refine Sh.eq ?_ | refine Sh.ne ?_ | refine Sh.ix2 ?_ | refine Sh.ix3 ?_
        | refine Z.bu rfl rfl ?_ | refine Z.pl (R.max2 rfl rfl) ?_ | refine Z.pl (R.cap rfl rfl) ?_ | refine Z.pl R.mf ?_
        | refine Z.gT rfl rfl ?_ | refine Z.gF rfl rfl ?_ | refine Z.gF0 rfl rfl ?_ | refine Z.gU rfl rfl ?_
        | with_reducible (first | refine Z.seq ?_ | refine Z.reg ?_ | refine Z.nil ?_ | refine Z.skip ?_ | refine Z.exit ?_ | refine Z.ret ?_ | refine Z.block ?_ | refine Z.thN ?_ | refine Z.thU ?_ | refine Z.thE ?_ | refine Z.thR ?_ | refine Z.blN ?_ | refine Z.blR ?_ | refine Z.blE ?_ | refine Z.label ?_ | refine Z.scope ?_ | refine Z.ngN ?_ | refine Z.ngR ?_ | refine Z.ngE ?_)
        | ((with_reducible refine Z.blX ?_ ?_); rotate_left; rfl)
        | refine Z.brT rfl ?_ | refine Z.brF rfl ?_
        | ((first | refine Z.gS rfl rfl ?_ ?_ | refine Z.br rfl ?_ ?_) <;> intro hb <;> (try simp only [decide_eq_true_eq, decide_eq_false_iff_not, Bool.not_eq_true', Bool.not_eq_false', Int.not_lt, Int.not_le] at hb) <;> (try (exfalso; first | omega | exact hb trivial))))
      first | refine Z.done hS Try.results13 (Z.RV.tmp rfl Z.RV.nil) ?_ | refine Z.doneN hS Try.results13 (Z.RV.tmp rfl Z.RV.nil) ?_
      refine ⟨rfl, Sep.PQ_open.2 ⟨A1, c1, B, d, ?_⟩⟩
      simp only [List.length_append, List.length_singleton]
      exact hS.sb
  · -- done
    rename x.kind = 4 => hk
    rename validB x = true => hv
    have hk3 : ¬ x.kind = 3 := by omega
    refine Z.eff (Z.cl (it_index (fun t => decide (t.number = x.item)) 44 [.pointer (some ⟨gx, 0, none⟩)] q.l _ _ _ _ hS (Reads.of_at (by repeat (first | exact At.here | apply At.next))) (by omega) (fun L w t h => qapply1_z gx t x r _ w h (at_app L (by repeat (first | exact At.here | apply At.next))))) rfl ?_) rfl
    clear hS
    rintro e w ⟨k, rfl, hS, hk1⟩
    refine ⟨_, rfl, ?_⟩
    rcases hk1 with ⟨rfl, hno⟩ | ⟨i, hi, rfl, hpi, hno⟩
    · have hq : qat q.l x.item = -1 := by
        unfold qat
        rw [qidx_none fun y hy => by have := hno y hy; simpa using this, if_neg (by omega)]
      repeat' (first
        | refine Z.pr rfl ?_ | refine Sh.la hS ?_ | refine Sh.lb ?_ | refine Sh.lc ?_ | refine Sh.su ?_
        | (refine Sh.sa hS ?_; clear hS; intro w hS)
        | ((first | refine Sh.aa hS ?_ | refine Sh.ab hS ?_ | refine Sh.ac hS ?_); clear hS; intro g w hS hge)
        | refine Sh.ix ?_ | refine Sh.up ?_ | refine Sh.sl1 ?_ | refine Sh.sl2 ?_ | refine Sh.sl5 ?_ | refine Sh.sl3 ?_ | refine Sh.sl4 ?_ | refine Sh.eq ?_ | refine Sh.ne ?_ | refine Sh.ix2 ?_ | refine Sh.ix3 ?_
        | refine Z.bu rfl rfl ?_ | refine Z.pl (R.max2 rfl rfl) ?_ | refine Z.pl (R.cap rfl rfl) ?_ | refine Z.pl R.mf ?_
        | refine Z.gT rfl rfl ?_ | refine Z.gF rfl rfl ?_ | refine Z.gF0 rfl rfl ?_ | refine Z.gU rfl rfl ?_
        | with_reducible (first | refine Z.seq ?_ | refine Z.reg ?_ | refine Z.nil ?_ | refine Z.skip ?_ | refine Z.exit ?_ | refine Z.ret ?_ | refine Z.block ?_ | refine Z.thN ?_ | refine Z.thU ?_ | refine Z.thE ?_ | refine Z.thR ?_ | refine Z.blN ?_ | refine Z.blR ?_ | refine Z.blE ?_ | refine Z.label ?_ | refine Z.scope ?_ | refine Z.ngN ?_ | refine Z.ngR ?_ | refine Z.ngE ?_)
        | ((with_reducible refine Z.blX ?_ ?_); rotate_left; rfl)
        | refine Z.brT rfl ?_ | refine Z.brF rfl ?_
        | ((first | refine Z.gS rfl rfl ?_ ?_ | refine Z.br rfl ?_ ?_) <;> intro hb <;> (try simp only [decide_eq_true_eq, decide_eq_false_iff_not, Bool.not_eq_true', Bool.not_eq_false', Int.not_lt, Int.not_le] at hb) <;> (try (exfalso; first | omega | exact hb trivial))))
      first | refine Z.done hS Try.results13 (Z.RV.tmp rfl Z.RV.nil) ?_ | refine Z.doneN hS Try.results13 (Z.RV.tmp rfl Z.RV.nil) ?_
      have e : qApp q x = (q, 34) := by simp [qApp, hv, hk, hk3, hq]
      rw [e]
      exact ⟨rfl, Sep.PQ_open.2 ⟨A, c, B, d, hS.sb⟩⟩
    · have hq : qat q.l x.item = i := by
        unfold qat
        rw [qidx_first hi (by simpa using hpi) (fun y hy => by have := hno y hy; simpa using this), if_pos hi]
      have e : qApp q x = (⟨q.l.take i ++ q.l.drop (i + 1), without q.r x.item, q.most⟩, 0) := by
        have h0 : ¬ (i : Int) < 0 := by omega
        simp [qApp, hv, hk, hk3, hq, h0]
      rw [e]
      have ew : without q.r x.item = q.r.filter fun t => !decide (t.item = x.item) := by
        unfold without
        rfl
      rw [ew]
      repeat' (first
        | refine Z.pr rfl ?_ | refine Sh.la hS ?_ | refine Sh.lb ?_ | refine Sh.lc ?_ | refine Sh.su ?_
        | (refine Sh.sa hS ?_; clear hS; intro w hS)
        | ((first | refine Sh.aa hS ?_ | refine Sh.ab hS ?_ | refine Sh.ac hS ?_); clear hS; intro g w hS hge)
        | refine Sh.ix ?_ | refine Sh.up ?_ | refine Sh.sl1 ?_ | refine Sh.sl2 ?_ | refine Sh.sl5 ?_ | refine Sh.sl3 ?_ | refine Sh.sl4 ?_ | refine Sh.eq ?_ | refine Sh.ne ?_ | refine Sh.ix2 ?_ | refine Sh.ix3 ?_
        | refine Z.bu rfl rfl ?_ | refine Z.pl (R.max2 rfl rfl) ?_ | refine Z.pl (R.cap rfl rfl) ?_ | refine Z.pl R.mf ?_
        | refine Z.gT rfl rfl ?_ | refine Z.gF rfl rfl ?_ | refine Z.gF0 rfl rfl ?_ | refine Z.gU rfl rfl ?_
        | with_reducible (first | refine Z.seq ?_ | refine Z.reg ?_ | refine Z.nil ?_ | refine Z.skip ?_ | refine Z.exit ?_ | refine Z.ret ?_ | refine Z.block ?_ | refine Z.thN ?_ | refine Z.thU ?_ | refine Z.thE ?_ | refine Z.thR ?_ | refine Z.blN ?_ | refine Z.blR ?_ | refine Z.blE ?_ | refine Z.label ?_ | refine Z.scope ?_ | refine Z.ngN ?_ | refine Z.ngR ?_ | refine Z.ngE ?_)
        | ((with_reducible refine Z.blX ?_ ?_); rotate_left; rfl)
        | refine Z.brT rfl ?_ | refine Z.brF rfl ?_
        | ((first | refine Z.gS rfl rfl ?_ ?_ | refine Z.br rfl ?_ ?_) <;> intro hb <;> (try simp only [decide_eq_true_eq, decide_eq_false_iff_not, Bool.not_eq_true', Bool.not_eq_false', Int.not_lt, Int.not_le] at hb) <;> (try (exfalso; first | omega | exact hb trivial))))
      replace hS := hS.fo (R := .sl 52 2 _ _)
      refine Z.eff (Z.cl (it_del q.l i A c _ _ _ hS hi (by omega)) rfl ?_) rfl
      clear hS
      rintro e w ⟨A1, c1, rfl, hS⟩
      refine ⟨_, rfl, ?_⟩
      repeat' (first
        | refine Z.pr rfl ?_ | refine Sh.la hS ?_ | refine Sh.lb ?_ | refine Sh.lc ?_ | refine Sh.su ?_
        | (refine Sh.sa hS ?_; clear hS; intro w hS)
        | ((first | refine Sh.aa hS ?_ | refine Sh.ab hS ?_ | refine Sh.ac hS ?_); clear hS; intro g w hS hge)
        | refine Sh.ix ?_ | refine Sh.up ?_ | refine Sh.sl1 ?_ | refine Sh.sl2 ?_ | refine Sh.sl5 ?_ | refine Sh.sl3 ?_ | refine Sh.sl4 ?_ | refine Sh.eq ?_ | refine Sh.ne ?_ | refine Sh.ix2 ?_ | refine Sh.ix3 ?_
        | refine Z.bu rfl rfl ?_ | refine Z.pl (R.max2 rfl rfl) ?_ | refine Z.pl (R.cap rfl rfl) ?_ | refine Z.pl R.mf ?_
        | refine Z.gT rfl rfl ?_ | refine Z.gF rfl rfl ?_ | refine Z.gF0 rfl rfl ?_ | refine Z.gU rfl rfl ?_
        | with_reducible (first | refine Z.seq ?_ | refine Z.reg ?_ | refine Z.nil ?_ | refine Z.skip ?_ | refine Z.exit ?_ | refine Z.ret ?_ | refine Z.block ?_ | refine Z.thN ?_ | refine Z.thU ?_ | refine Z.thE ?_ | refine Z.thR ?_ | refine Z.blN ?_ | refine Z.blR ?_ | refine Z.blE ?_ | refine Z.label ?_ | refine Z.scope ?_ | refine Z.ngN ?_ | refine Z.ngR ?_ | refine Z.ngE ?_)
        | ((with_reducible refine Z.blX ?_ ?_); rotate_left; rfl)
        | refine Z.brT rfl ?_ | refine Z.brF rfl ?_
        | ((first | refine Z.gS rfl rfl ?_ ?_ | refine Z.br rfl ?_ ?_) <;> intro hb <;> (try simp only [decide_eq_true_eq, decide_eq_false_iff_not, Bool.not_eq_true', Bool.not_eq_false', Int.not_lt, Int.not_le] at hb) <;> (try (exfalso; first | omega | exact hb trivial))))
      replace hS := hS.fo (R := .sl 54 4 _ _)
      refine Z.eff (Z.cl (le_delete (fun t => decide (t.item = x.item)) 47 [.pointer (some ⟨gx, 0, none⟩)] q.r B d _ _ _ hS (by omega) (fun L w t h => qapply2_z gx t x r _ w h (at_app L (by repeat (first | exact At.here | apply At.next))))) rfl ?_) rfl
      clear hS
      rintro e w ⟨B1, d1, rfl, hS⟩
      refine ⟨_, rfl, ?_⟩
      repeat' (first
        | refine Z.pr rfl ?_ | refine Sh.la hS ?_ | refine Sh.lb ?_ | refine Sh.lc ?_ | refine Sh.su ?_
        | (refine Sh.sa hS ?_; clear hS; intro w hS)
        | ((first | refine Sh.aa hS ?_ | refine Sh.ab hS ?_ | refine Sh.ac hS ?_); clear hS; intro g w hS hge)
        | refine Sh.ix ?_ | refine Sh.up ?_ | refine Sh.sl1 ?_ | refine Sh.sl2 ?_ | refine Sh.sl5 ?_ | refine Sh.sl3 ?_ | refine Sh.sl4 ?_ | refine Sh.eq ?_ | refine Sh.ne ?_ | refine Sh.ix2 ?_ | refine Sh.ix3 ?_
        | refine Z.bu rfl rfl ?_ | refine Z.pl (R.max2 rfl rfl) ?_ | refine Z.pl (R.cap rfl rfl) ?_ | refine Z.pl R.mf ?_
        | refine Z.gT rfl rfl ?_ | refine Z.gF rfl rfl ?_ | refine Z.gF0 rfl rfl ?_ | refine Z.gU rfl rfl ?_
        | with_reducible (first | refine Z.seq ?_ | refine Z.reg ?_ | refine Z.nil ?_ | refine Z.skip ?_ | refine Z.exit ?_ | refine Z.ret ?_ | refine Z.block ?_ | refine Z.thN ?_ | refine Z.thU ?_ | refine Z.thE ?_ | refine Z.thR ?_ | refine Z.blN ?_ | refine Z.blR ?_ | refine Z.blE ?_ | refine Z.label ?_ | refine Z.scope ?_ | refine Z.ngN ?_ | refine Z.ngR ?_ | refine Z.ngE ?_)
        | ((with_reducible refine Z.blX ?_ ?_); rotate_left; rfl)
        | refine Z.brT rfl ?_ | refine Z.brF rfl ?_
        | ((first | refine Z.gS rfl rfl ?_ ?_ | refine Z.br rfl ?_ ?_) <;> intro hb <;> (try simp only [decide_eq_true_eq, decide_eq_false_iff_not, Bool.not_eq_true', Bool.not_eq_false', Int.not_lt, Int.not_le] at hb) <;> (try (exfalso; first | omega | exact hb trivial))))
      first | refine Z.done hS Try.results13 (Z.RV.tmp rfl Z.RV.nil) ?_ | refine Z.doneN hS Try.results13 (Z.RV.tmp rfl Z.RV.nil) ?_
      exact ⟨rfl, Sep.PQ_open.2 ⟨A1, c1, B1, d1, hS.sb⟩⟩
  · first | refine Z.done hS Try.results13 (Z.RV.tmp rfl Z.RV.nil) ?_ | refine Z.doneN hS Try.results13 (Z.RV.tmp rfl Z.RV.nil) ?_
    rename validB x = true => hv
    have h3 : ¬ x.kind = 3 := by omega
    have h4 : ¬ x.kind = 4 := by omega
    have e : qApp q x = (q, 0) := by simp [qApp, hv, h3, h4]
    rw [e]
    exact ⟨rfl, Sep.PQ_open.2 ⟨A, c, B, d, hS.sb⟩⟩
end Go.Proofs.Ytpaoommfcmeagaa
