/-
  The walk of Change of the mill, which makes a change that a copy accepts, as a rule.
-/
import Derived.Test.YtabpapdickolgaaNCApp
import Derived.Test.YtabpapdickolgaaNTape
namespace Go.Proofs.Ytabpapdickolgaa
open Go.RowKit
set_option linter.unusedSimpArgs false
set_option linter.unusedVariables false
attribute [local irreducible] Res.blk Res.sl Res.all Res.ex Res.pure Res.star

/-- What Change makes, and where the tape stands behind. -/
def mkKind (l : List Int) (i : Nat) (c : Cp) : Int :=
  if 1 + nxt l i 4 = 4 ∧ c.q.l.length = 0 then 3 else if 1 + nxt l i 4 = 2 ∧ c.s.length = 0 then 1 else 1 + nxt l i 4
def mkChange (l : List Int) (i : Nat) (c : Cp) (ep : Int) : Ch × Nat :=
  let cl := 1 + nxt l (adv l i) 4
  let j := adv l (adv l i)
  let k := mkKind l i c
  let x : Ch := ⟨ep, (c.h.length : Int) + 1, k, cl, lastB c.t cl + 1, 0, ⟨#[]⟩, ⟨#[]⟩⟩
  if k = 1 then ({ x with key := textOf l j 1 16, value := textOf l (textAdv l j 1 16) 0 64 }, textAdv l (textAdv l j 1 16) 0 64)
  else if k = 2 then ({ x with key := ((c.s[(nxt l j c.s.length).toNat]?).map (·.key)).getD ⟨#[]⟩ }, adv l j)
  else if k = 3 then ({ x with value := textOf l j 0 64 }, textAdv l j 0 64)
  else ({ x with item := ((c.q.l[(nxt l j c.q.l.length).toNat]?).map (·.number)).getD 0 }, adv l j)
theorem lastB_bd {t : Tab} (h : t.ok) (cl : Int) : 0 ≤ lastB t cl ∧ lastB t cl ≤ 1048576 := by
  unfold lastB
  split
  · omega
  · exact h _

set_option maxRecDepth 10000 in
set_option maxHeartbeats 4000000 in
theorem change_z (ga gc : Nat) (cell ten : Int) (vg : Value) (l : List Int) (i : Nat) (c : Cp) (ep : Int) (r : World) (F : List Res) (w : World) (hS : Sep r [] (TpR r ga l i :: CR gc cell ten vg c :: F) w) (hok : c.t.ok) (l1 : c.h.length ≤ 4000) (l2 : c.s.length ≤ 1000) (l3 : c.q.l.length ≤ 1000) :
    Calls Try.prog 61 #[.pointer (some ⟨ga, 0, none⟩), .pointer (some ⟨gc, 0, none⟩), .int .i64 ep] w fun e w' => e = .returned (mkChange l i c ep).1.val ∧ Sep r [] (TpR r ga l (mkChange l i c ep).2 :: CR gc cell ten vg c :: F) w' := by
  obtain ⟨vh, gs, gq, gt, vs, vl, vr, hS⟩ := Sep.CR_open.1 (hS.focus (.next .here))
  obtain ⟨Ah, ch, rfl, hch⟩ := (hS.slrows (.next .here)).mform
  obtain ⟨As, cs, rfl, hcs⟩ := (hS.slrows (.next (.next (.next .here)))).mform
  obtain ⟨Al, cl, rfl, hcl⟩ := (hS.slrows (.next (.next (.next (.next (.next .here)))))).mform
  replace hS : Sep r [] (TpR r ga l i :: .blk gc 77 [.int .i64 cell, .int .i64 ten, .slice Ah c.h.length ch, .pointer (some ⟨gs, 0, none⟩), .pointer (some ⟨gq, 0, none⟩), .pointer (some ⟨gt, 0, none⟩), vg] :: .sl 23 8 (.slice Ah c.h.length ch) (c.h.map Ch.cells) :: .blk gs 47 [.slice As c.s.length cs] :: .sl 93 3 (.slice As c.s.length cs) (c.s.map Ce.cells) :: .blk gq 106 [.slice Al c.q.l.length cl, vr, .int .i64 c.q.most] :: .sl 127 2 (.slice Al c.q.l.length cl) (c.q.l.map It.cells) :: .sl 146 4 vr (c.q.r.map Le.cells) :: .blk gt 112 c.t.cells.toList :: F) w := hS.sb
  have hb4 := nxt_bd l i 4 (by omega)
  have hb4' := nxt_bd l (adv l i) 4 (by omega)
  have hlb := lastB_bd hok (1 + nxt l (adv l i) 4)
  refine Z.enter Try.func61 Try.ntmps61 rfl rfl ?_
  repeat' (first
    | refine Z.pr rfl ?_ | refine Sh.la hS ?_ | refine Sh.lb ?_ | refine Sh.lc ?_ | refine Sh.su ?_
    | (refine Sh.sa hS ?_; clear hS; intro w hS)
    | ((first | refine Sh.aa hS ?_ | refine Sh.ab hS ?_ | refine Sh.ac hS ?_); clear hS; intro g w hS hge)
    | refine Sh.ix ?_ | refine Sh.up ?_ | refine Sh.sl1 ?_ | refine Sh.sl2 ?_ | refine Sh.sl5 ?_ | refine Sh.sl3 ?_ | refine Sh.sl4 ?_ | refine Sh.eq ?_ | refine Sh.ne ?_ | refine Sh.ix2 ?_ | refine Sh.ix3 ?_
    | refine Z.bu rfl rfl ?_ | refine Z.pl (R.max2 rfl rfl) ?_ | refine Z.pl (R.cap rfl rfl) ?_ | refine Z.pl R.mf ?_
    | refine Z.gT rfl rfl ?_ | refine Z.gF rfl rfl ?_ | refine Z.gF0 rfl rfl ?_ | refine Z.gU rfl rfl ?_
    | with_reducible (first | refine Z.seq ?_ | refine Z.reg ?_ | refine Z.nil ?_ | refine Z.skip ?_ | refine Z.exit ?_ | refine Z.ret ?_ | refine Z.block ?_ | refine Z.thN ?_ | refine Z.thU ?_ | refine Z.thE ?_ | refine Z.thR ?_ | refine Z.blN ?_ | refine Z.blR ?_ | refine Z.blE ?_ | refine Z.label ?_ | refine Z.scope ?_ | refine Z.ngN ?_ | refine Z.ngR ?_ | refine Z.ngE ?_)
    | ((with_reducible refine Z.blX ?_ ?_); rotate_left; rfl)
    | refine Z.brT rfl ?_ | refine Z.brF rfl ?_
    | ((first | refine Z.gS rfl rfl ?_ ?_ | refine Z.br rfl ?_ ?_) <;> intro hb <;> (try simp only [decide_eq_true_eq, decide_eq_false_iff_not, Bool.not_eq_true', Bool.not_eq_false', Int.not_lt, Int.not_le] at hb) <;> (try (exfalso; first | omega | exact hb trivial))))
  rename Nat => g6
  refine Z.cut [7, 8, 9, 10, 11, 12, 13, 14, 15, 16, 17, 18, 19] (fun w s => ∃ g7, s = [(7, .pointer (some ⟨g7, 0, none⟩))] ∧ Sep r [] (.blk g7 23 [.int .i64 ep, .int .i64 ((c.h.length : Int) + 1), .int .i64 (1 + nxt l i 4), .int .i64 (1 + nxt l (adv l i) 4), .int .i64 0, .int .i64 0, .string ⟨#[]⟩, .string ⟨#[]⟩] ::
    .blk g6 23 [.int .i64 0, .int .i64 0, .int .i64 0, .int .i64 0, .int .i64 0, .int .i64 0, .string ⟨#[]⟩, .string ⟨#[]⟩] :: TpR r ga l (adv l (adv l i)) :: .blk gc 77 [.int .i64 cell, .int .i64 ten, .slice Ah c.h.length ch, .pointer (some ⟨gs, 0, none⟩), .pointer (some ⟨gq, 0, none⟩), .pointer (some ⟨gt, 0, none⟩), vg] :: .sl 23 8 (.slice Ah c.h.length ch) (c.h.map Ch.cells) :: .blk gs 47 [.slice As c.s.length cs] :: .sl 93 3 (.slice As c.s.length cs) (c.s.map Ce.cells) :: .blk gq 106 [.slice Al c.q.l.length cl, vr, .int .i64 c.q.most] :: .sl 127 2 (.slice Al c.q.l.length cl) (c.q.l.map It.cells) :: .sl 146 4 vr (c.q.r.map Le.cells) :: .blk gt 112 c.t.cells.toList :: F) w) ?_ ?_
  · refine D.startS (Lr := (.blk gc 77 [.int .i64 cell, .int .i64 ten, .slice Ah c.h.length ch, .pointer (some ⟨gs, 0, none⟩), .pointer (some ⟨gq, 0, none⟩), .pointer (some ⟨gt, 0, none⟩), vg] :: .sl 23 8 (.slice Ah c.h.length ch) (c.h.map Ch.cells) :: .blk gs 47 [.slice As c.s.length cs] :: .sl 93 3 (.slice As c.s.length cs) (c.s.map Ce.cells) :: .blk gq 106 [.slice Al c.q.l.length cl, vr, .int .i64 c.q.most] :: .sl 127 2 (.slice Al c.q.l.length cl) (c.q.l.map It.cells) :: .sl 146 4 vr (c.q.r.map Le.cells) :: .blk gt 112 c.t.cells.toList :: F)) (hS.sb) 13 14 (by kernel_rfl) rfl ?_
    replace hS := hS.drew
    refine Sh.dp 0 1 ?_
    refine Sh.dp 1 3 ?_
    refine Sh.dp 2 7 ?_
    refine Sh.dp 3 15 ?_
    refine Sh.dp 7 143 ?_
    refine Sh.dp 9 655 ?_
    refine Sh.dl 4 671 ?_
    refine Sh.dp 5 703 ?_
    first | refine D.sum 6 767 rfl D.wantedN (by kernel_rfl) rfl (by constructor <;> omega) ?_ | refine D.sumW 6 767 rfl D.wantedN (by kernel_rfl) rfl ?_
    refine D.each [8, 12] (by kernel_rfl) rfl ?_
    refine D.econs 8 1023 rfl D.wantedN (by kernel_rfl) (fun _ _ h => h) ?_ ?_
    · replace hS := hS.fo (R := TpR r ga l _)
      refine Z.cl (range_z 1 4 hS (by omega) (by omega) (by omega)) rfl ?_
      clear hS
      rintro e w ⟨rfl, hS⟩
      refine ⟨_, rfl, ?_⟩
      refine ⟨HM.s (hS.sb), ?_⟩
      refine D.each [10, 12] (by kernel_rfl) rfl ?_
      refine D.econs 10 2047 rfl D.wantedN (by kernel_rfl) (fun _ _ h => h) ?_ ?_
      · replace hS := hS.fo (R := TpR r ga l _)
        refine Z.cl (range_z 1 4 hS (by omega) (by omega) (by omega)) rfl ?_
        clear hS
        rintro e w ⟨rfl, hS⟩
        refine ⟨_, rfl, ?_⟩
        refine ⟨HM.s (hS.sb), ?_⟩
        refine D.bu 11 4095 rfl D.wantedN (by kernel_rfl) rfl rfl ?_
        refine D.eff 12 8191 rfl D.wantedN (by kernel_rfl) (by kernel_rfl) (fun _ _ h => h) ?_
        refine Z.al hS ?_
        clear hS; intro g w hS hge
        refine ⟨HM.s (hS.sb), ?_⟩
        refine D.eff 13 16383 rfl D.wantedN (by kernel_rfl) (by kernel_rfl) (fun _ _ h => h) ?_
        refine Z.st hS rfl (by repeat (first | exact At.here | apply At.next)) rfl rfl ?_
        clear hS; intro w hS
        refine ⟨HM.last (by kernel_rfl), ?_⟩
        refine D.done (by kernel_rfl) ?_
        refine Sh.cut [(7, _)] ?_
        exact ⟨_, rfl, hS.sb⟩
      refine D.econs 12 5119 rfl D.wantedN (by kernel_rfl) (fun _ _ h => h) ?_ ?_
      · refine Z.al hS ?_
        clear hS; intro g w hS hge
        refine ⟨HM.s (hS.sb), ?_⟩
        refine D.eff 10 6143 rfl D.wantedN (by kernel_rfl) (by kernel_rfl) (fun _ _ h => h) ?_
        replace hS := hS.fo (R := TpR r ga l _)
        refine Z.cl (range_z 1 4 hS (by omega) (by omega) (by omega)) rfl ?_
        clear hS
        rintro e w ⟨rfl, hS⟩
        refine ⟨_, rfl, ?_⟩
        refine ⟨HM.s (hS.sb), ?_⟩
        refine D.bu 11 8191 rfl D.wantedN (by kernel_rfl) rfl rfl ?_
        refine D.eff 13 16383 rfl D.wantedN (by kernel_rfl) (by kernel_rfl) (fun _ _ h => h) ?_
        refine Z.st hS rfl (by repeat (first | exact At.here | apply At.next)) rfl rfl ?_
        clear hS; intro w hS
        refine ⟨HM.last (by kernel_rfl), ?_⟩
        refine D.done (by kernel_rfl) ?_
        refine Sh.cut [(7, _)] ?_
        exact ⟨_, rfl, hS.sb⟩
      exact D.enil
    refine D.econs 12 4863 rfl D.wantedN (by kernel_rfl) (fun _ _ h => h) ?_ ?_
    · refine Z.al hS ?_
      clear hS; intro g w hS hge
      refine ⟨HM.s (hS.sb), ?_⟩
      refine D.eff 8 5119 rfl D.wantedN (by kernel_rfl) (by kernel_rfl) (fun _ _ h => h) ?_
      replace hS := hS.fo (R := TpR r ga l _)
      refine Z.cl (range_z 1 4 hS (by omega) (by omega) (by omega)) rfl ?_
      clear hS
      rintro e w ⟨rfl, hS⟩
      refine ⟨_, rfl, ?_⟩
      refine ⟨HM.s (hS.sb), ?_⟩
      refine D.eff 10 6143 rfl D.wantedN (by kernel_rfl) (by kernel_rfl) (fun _ _ h => h) ?_
      replace hS := hS.fo (R := TpR r ga l _)
      refine Z.cl (range_z 1 4 hS (by omega) (by omega) (by omega)) rfl ?_
      clear hS
      rintro e w ⟨rfl, hS⟩
      refine ⟨_, rfl, ?_⟩
      refine ⟨HM.s (hS.sb), ?_⟩
      refine D.bu 11 8191 rfl D.wantedN (by kernel_rfl) rfl rfl ?_
      refine D.eff 13 16383 rfl D.wantedN (by kernel_rfl) (by kernel_rfl) (fun _ _ h => h) ?_
      refine Z.st hS rfl (by repeat (first | exact At.here | apply At.next)) rfl rfl ?_
      clear hS; intro w hS
      refine ⟨HM.last (by kernel_rfl), ?_⟩
      refine D.done (by kernel_rfl) ?_
      refine Sh.cut [(7, _)] ?_
      exact ⟨_, rfl, hS.sb⟩
    exact D.enil
  clear hS
  rintro f1 w _ ⟨g7, rfl, hS⟩
  repeat' (first
    | refine Z.pr rfl ?_ | refine Sh.la hS ?_ | refine Sh.lb ?_ | refine Sh.lc ?_ | refine Sh.su ?_
    | (refine Sh.sa hS ?_; clear hS; intro w hS)
    | ((first | refine Sh.aa hS ?_ | refine Sh.ab hS ?_ | refine Sh.ac hS ?_); clear hS; intro g w hS hge)
    | refine Sh.ix ?_ | refine Sh.up ?_ | refine Sh.sl1 ?_ | refine Sh.sl2 ?_ | refine Sh.sl5 ?_ | refine Sh.sl3 ?_ | refine Sh.sl4 ?_ | refine Sh.eq ?_ | refine Sh.ne ?_ | refine Sh.ix2 ?_ | refine Sh.ix3 ?_
    | refine Z.bu rfl rfl ?_ | refine Z.pl (R.max2 rfl rfl) ?_ | refine Z.pl (R.cap rfl rfl) ?_ | refine Z.pl R.mf ?_
    | refine Z.gT rfl rfl ?_ | refine Z.gF rfl rfl ?_ | refine Z.gF0 rfl rfl ?_ | refine Z.gU rfl rfl ?_
    | with_reducible (first | refine Z.seq ?_ | refine Z.reg ?_ | refine Z.nil ?_ | refine Z.skip ?_ | refine Z.exit ?_ | refine Z.ret ?_ | refine Z.block ?_ | refine Z.thN ?_ | refine Z.thU ?_ | refine Z.thE ?_ | refine Z.thR ?_ | refine Z.blN ?_ | refine Z.blR ?_ | refine Z.blE ?_ | refine Z.label ?_ | refine Z.scope ?_ | refine Z.ngN ?_ | refine Z.ngR ?_ | refine Z.ngE ?_)
    | ((with_reducible refine Z.blX ?_ ?_); rotate_left; rfl)
    | refine Z.brT rfl ?_ | refine Z.brF rfl ?_
    | ((first | refine Z.gS rfl rfl ?_ ?_ | refine Z.br rfl ?_ ?_) <;> intro hb <;> (try simp only [decide_eq_true_eq, decide_eq_false_iff_not, Bool.not_eq_true', Bool.not_eq_false', Int.not_lt, Int.not_le] at hb) <;> (try (exfalso; first | omega | exact hb trivial))))
  refine D.startS hS 9 10 (by kernel_rfl) rfl ?_
  replace hS := hS.drew
  refine Sh.dp 0 1 ?_
  refine Sh.dp 1 3 ?_
  refine Sh.dp 2 7 ?_
  refine Sh.dp 4 23 ?_
  refine Sh.dl 3 31 ?_
  refine Sh.dl 5 63 ?_
  refine D.eff 6 127 rfl D.wantedN (by kernel_rfl) (by kernel_rfl) (fun _ _ h => h) ?_
  refine Z.cl (last_any gt c.t _ _ (hS.bk)) rfl ?_
  rintro e w' ⟨rfl, rfl⟩
  refine ⟨_, rfl, ?_⟩
  refine ⟨HM.s (hS.sb), ?_⟩
  first | refine D.sum 7 255 rfl D.wantedN (by kernel_rfl) rfl (by constructor <;> omega) ?_ | refine D.sumW 7 255 rfl D.wantedN (by kernel_rfl) rfl ?_
  refine Sh.dp 8 511 ?_
  refine D.eff 9 1023 rfl D.wantedN (by kernel_rfl) (by kernel_rfl) (fun _ _ h => h) ?_
  refine Z.st hS rfl (by repeat (first | exact At.here | apply At.next)) rfl rfl ?_
  clear hS; intro w hS
  refine ⟨HM.last (by kernel_rfl), ?_⟩
  refine D.done (by kernel_rfl) ?_
  repeat' (first
    | refine Z.pr rfl ?_ | refine Sh.la hS ?_ | refine Sh.lb ?_ | refine Sh.lc ?_ | refine Sh.su ?_
    | (refine Sh.sa hS ?_; clear hS; intro w hS)
    | ((first | refine Sh.aa hS ?_ | refine Sh.ab hS ?_ | refine Sh.ac hS ?_); clear hS; intro g w hS hge)
    | refine Sh.ix ?_ | refine Sh.up ?_ | refine Sh.sl1 ?_ | refine Sh.sl2 ?_ | refine Sh.sl5 ?_ | refine Sh.sl3 ?_ | refine Sh.sl4 ?_ | refine Sh.eq ?_ | refine Sh.ne ?_ | refine Sh.ix2 ?_ | refine Sh.ix3 ?_
    | refine Z.bu rfl rfl ?_ | refine Z.pl (R.max2 rfl rfl) ?_ | refine Z.pl (R.cap rfl rfl) ?_ | refine Z.pl R.mf ?_
    | refine Z.gT rfl rfl ?_ | refine Z.gF rfl rfl ?_ | refine Z.gF0 rfl rfl ?_ | refine Z.gU rfl rfl ?_
    | with_reducible (first | refine Z.seq ?_ | refine Z.reg ?_ | refine Z.nil ?_ | refine Z.skip ?_ | refine Z.exit ?_ | refine Z.ret ?_ | refine Z.block ?_ | refine Z.thN ?_ | refine Z.thU ?_ | refine Z.thE ?_ | refine Z.thR ?_ | refine Z.blN ?_ | refine Z.blR ?_ | refine Z.blE ?_ | refine Z.label ?_ | refine Z.scope ?_ | refine Z.ngN ?_ | refine Z.ngR ?_ | refine Z.ngE ?_)
    | ((with_reducible refine Z.blX ?_ ?_); rotate_left; rfl)
    | refine Z.brT rfl ?_ | refine Z.brF rfl ?_
    | ((first | refine Z.gS rfl rfl ?_ ?_ | refine Z.br rfl ?_ ?_) <;> intro hb <;> (try simp only [decide_eq_true_eq, decide_eq_false_iff_not, Bool.not_eq_true', Bool.not_eq_false', Int.not_lt, Int.not_le] at hb) <;> (try (exfalso; first | omega | exact hb trivial))))
  · replace hS := hS.fo (R := TpR r ga l _)
    refine Z.eff (Z.cl (text_z 0 64 hS (by omega) (by omega) (by omega)) rfl ?_) rfl
    clear hS
    rintro e w ⟨rfl, hS⟩
    refine ⟨_, rfl, ?_⟩
    repeat' (first
      | refine Z.pr rfl ?_ | refine Sh.la hS ?_ | refine Sh.lb ?_ | refine Sh.lc ?_ | refine Sh.su ?_
      | (refine Sh.sa hS ?_; clear hS; intro w hS)
      | ((first | refine Sh.aa hS ?_ | refine Sh.ab hS ?_ | refine Sh.ac hS ?_); clear hS; intro g w hS hge)
      | refine Sh.ix ?_ | refine Sh.up ?_ | refine Sh.sl1 ?_ | refine Sh.sl2 ?_ | refine Sh.sl5 ?_ | refine Sh.sl3 ?_ | refine Sh.sl4 ?_ | refine Sh.eq ?_ | refine Sh.ne ?_ | refine Sh.ix2 ?_ | refine Sh.ix3 ?_
      | refine Z.bu rfl rfl ?_ | refine Z.pl (R.max2 rfl rfl) ?_ | refine Z.pl (R.cap rfl rfl) ?_ | refine Z.pl R.mf ?_
      | refine Z.gT rfl rfl ?_ | refine Z.gF rfl rfl ?_ | refine Z.gF0 rfl rfl ?_ | refine Z.gU rfl rfl ?_
      | with_reducible (first | refine Z.seq ?_ | refine Z.reg ?_ | refine Z.nil ?_ | refine Z.skip ?_ | refine Z.exit ?_ | refine Z.ret ?_ | refine Z.block ?_ | refine Z.thN ?_ | refine Z.thU ?_ | refine Z.thE ?_ | refine Z.thR ?_ | refine Z.blN ?_ | refine Z.blR ?_ | refine Z.blE ?_ | refine Z.label ?_ | refine Z.scope ?_ | refine Z.ngN ?_ | refine Z.ngR ?_ | refine Z.ngE ?_)
      | ((with_reducible refine Z.blX ?_ ?_); rotate_left; rfl)
      | refine Z.brT rfl ?_ | refine Z.brF rfl ?_
      | ((first | refine Z.gS rfl rfl ?_ ?_ | refine Z.br rfl ?_ ?_) <;> intro hb <;> (try simp only [decide_eq_true_eq, decide_eq_false_iff_not, Bool.not_eq_true', Bool.not_eq_false', Int.not_lt, Int.not_le] at hb) <;> (try (exfalso; first | omega | exact hb trivial))))
    first | refine Z.done hS Try.results61 (Z.RV.cell rfl (by repeat (first | exact At.here | apply At.next)) rfl Z.RV.nil) ?_ | refine Z.doneN hS Try.results61 (Z.RV.cell rfl (by repeat (first | exact At.here | apply At.next)) rfl Z.RV.nil) ?_
    have hk : mkKind l i c = 3 := by unfold mkKind; rw [if_pos ⟨by assumption, by omega⟩]
    have e : mkChange l i c ep = (⟨ep, (c.h.length : Int) + 1, 3, 1 + nxt l (adv l i) 4, lastB c.t (1 + nxt l (adv l i) 4) + 1, 0, ⟨#[]⟩, textOf l (adv l (adv l i)) 0 64⟩, textAdv l (adv l (adv l i)) 0 64) := by
      simp [mkChange, hk]
    rw [e]
    exact ⟨rfl, (Sep.CR_open.2 ⟨_, _, _, _, _, _, _, hS.sub (L' := .blk gc 77 [.int .i64 cell, .int .i64 ten, .slice Ah c.h.length ch, .pointer (some ⟨gs, 0, none⟩), .pointer (some ⟨gq, 0, none⟩), .pointer (some ⟨gt, 0, none⟩), vg] :: .sl 23 8 (.slice Ah c.h.length ch) (c.h.map Ch.cells) :: .blk gs 47 [.slice As c.s.length cs] :: .sl 93 3 (.slice As c.s.length cs) (c.s.map Ce.cells) :: .blk gq 106 [.slice Al c.q.l.length cl, vr, .int .i64 c.q.most] :: .sl 127 2 (.slice Al c.q.l.length cl) (c.q.l.map It.cells) :: .sl 146 4 vr (c.q.r.map Le.cells) :: .blk gt 112 c.t.cells.toList :: TpR r ga l _ :: F) (by repeat (first | exact Sub.rest | exact Sub.nil | exact .skip .rest | exact .skip (.skip .rest) | exact .skip (.skip (.skip .rest)) | apply Sub.keep | refine Sub.cons (by repeat (first | exact At.here | apply At.next)) ?_ | apply Sub.skip))⟩).swap⟩
  · have hq0 : 0 < c.q.l.length := by omega
    have hbn := nxt_bd l (adv l (adv l i)) c.q.l.length (by omega)
    obtain ⟨gb, o, rfl, _, _⟩ := (hS.slrows (e := 127) (v := .slice Al c.q.l.length cl) (by repeat (first | exact At.here | apply At.next))).mat (by omega) (q := (nxt l (adv l (adv l i)) c.q.l.length).toNat) (by omega)
    refine D.startS (Lr := (.blk g7 _ _ :: .blk g6 _ _ :: .blk gc 77 [.int .i64 cell, .int .i64 ten, .slice Ah c.h.length ch, .pointer (some ⟨gs, 0, none⟩), .pointer (some ⟨gq, 0, none⟩), .pointer (some ⟨gt, 0, none⟩), vg] :: .sl 23 8 (.slice Ah c.h.length ch) (c.h.map Ch.cells) :: .blk gs 47 [.slice As c.s.length cs] :: .sl 93 3 (.slice As c.s.length cs) (c.s.map Ce.cells) :: .blk gq 106 [.slice (some ⟨gb, o, none⟩) c.q.l.length cl, vr, .int .i64 c.q.most] :: .sl 127 2 (.slice (some ⟨gb, o, none⟩) c.q.l.length cl) (c.q.l.map It.cells) :: .sl 146 4 vr (c.q.r.map Le.cells) :: .blk gt 112 c.t.cells.toList :: F)) (hS.sb) 21 22 (by kernel_rfl) rfl ?_
    replace hS := hS.drew
    refine Sh.dp 0 1 ?_
    refine Sh.dp 1 3 ?_
    refine Sh.dp 2 7 ?_
    refine Sh.dp 7 135 ?_
    refine Sh.dp 8 391 ?_
    refine Sh.dp 9 903 ?_
    refine Sh.dp 10 1927 ?_
    refine Sh.dl 3 1935 ?_
    refine Sh.dp 4 1951 ?_
    refine Sh.dp 5 1983 ?_
    refine Sh.dl 6 2047 ?_
    refine Sh.dl 11 4095 ?_
    refine Sh.dp 12 8191 ?_
    refine Sh.dp 13 16383 ?_
    refine Sh.dl 14 32767 ?_
    refine Sh.dp 15 65535 ?_
    refine D.eff 16 131071 rfl D.wantedN (by kernel_rfl) (by kernel_rfl) (fun _ _ h => h) ?_
    replace hS := hS.fo (R := TpR r ga l _)
    refine Z.cl (next_z _ hS (by omega) (by omega)) rfl ?_
    clear hS
    rintro e w ⟨rfl, hS⟩
    refine ⟨_, rfl, ?_⟩
    refine ⟨HM.s (hS.sb), ?_⟩
    first | refine D.ixn 17 262143 rfl D.wantedN (by kernel_rfl) rfl rfl rfl (by omega) ?_ | refine D.ix 17 262143 rfl D.wantedN (by kernel_rfl) rfl rfl rfl (by omega) ?_ | refine D.ia 17 262143 rfl D.wantedN (by kernel_rfl) rfl rfl rfl (by omega) ?_
    refine Sh.dp 18 524287 ?_
    refine D.ldE 19 1048575 rfl D.wantedN (by kernel_rfl) rfl (fun W h => (h.slrows (e := 127) (v := .slice _ c.q.l.length cl) (by repeat (first | exact At.here | apply At.next))).elem (by omega) (q := (nxt l (adv l (adv l i)) c.q.l.length).toNat) (by omega)) rfl ?_
    refine Sh.dp 20 2097151 ?_
    refine D.eff 21 4194303 rfl D.wantedN (by kernel_rfl) (by kernel_rfl) (fun _ _ h => h) ?_
    refine Z.st hS rfl (by repeat (first | exact At.here | apply At.next)) rfl rfl ?_
    clear hS; intro w hS
    refine ⟨HM.last (by kernel_rfl), ?_⟩
    refine D.done (by kernel_rfl) ?_
    repeat' (first
      | refine Z.pr rfl ?_ | refine Sh.la hS ?_ | refine Sh.lb ?_ | refine Sh.lc ?_ | refine Sh.su ?_
      | (refine Sh.sa hS ?_; clear hS; intro w hS)
      | ((first | refine Sh.aa hS ?_ | refine Sh.ab hS ?_ | refine Sh.ac hS ?_); clear hS; intro g w hS hge)
      | refine Sh.ix ?_ | refine Sh.up ?_ | refine Sh.sl1 ?_ | refine Sh.sl2 ?_ | refine Sh.sl5 ?_ | refine Sh.sl3 ?_ | refine Sh.sl4 ?_ | refine Sh.eq ?_ | refine Sh.ne ?_ | refine Sh.ix2 ?_ | refine Sh.ix3 ?_
      | refine Z.bu rfl rfl ?_ | refine Z.pl (R.max2 rfl rfl) ?_ | refine Z.pl (R.cap rfl rfl) ?_ | refine Z.pl R.mf ?_
      | refine Z.gT rfl rfl ?_ | refine Z.gF rfl rfl ?_ | refine Z.gF0 rfl rfl ?_ | refine Z.gU rfl rfl ?_
      | with_reducible (first | refine Z.seq ?_ | refine Z.reg ?_ | refine Z.nil ?_ | refine Z.skip ?_ | refine Z.exit ?_ | refine Z.ret ?_ | refine Z.block ?_ | refine Z.thN ?_ | refine Z.thU ?_ | refine Z.thE ?_ | refine Z.thR ?_ | refine Z.blN ?_ | refine Z.blR ?_ | refine Z.blE ?_ | refine Z.label ?_ | refine Z.scope ?_ | refine Z.ngN ?_ | refine Z.ngR ?_ | refine Z.ngE ?_)
      | ((with_reducible refine Z.blX ?_ ?_); rotate_left; rfl)
      | refine Z.brT rfl ?_ | refine Z.brF rfl ?_
      | ((first | refine Z.gS rfl rfl ?_ ?_ | refine Z.br rfl ?_ ?_) <;> intro hb <;> (try simp only [decide_eq_true_eq, decide_eq_false_iff_not, Bool.not_eq_true', Bool.not_eq_false', Int.not_lt, Int.not_le] at hb) <;> (try (exfalso; first | omega | exact hb trivial))))
    first | refine Z.done hS Try.results61 (Z.RV.cell rfl (by repeat (first | exact At.here | apply At.next)) rfl Z.RV.nil) ?_ | refine Z.doneN hS Try.results61 (Z.RV.cell rfl (by repeat (first | exact At.here | apply At.next)) rfl Z.RV.nil) ?_
    have hk : mkKind l i c = 1 + nxt l i 4 := by unfold mkKind; rw [if_neg (by omega), if_neg (by omega)]
    have e : mkChange l i c ep = (⟨ep, (c.h.length : Int) + 1, 1 + nxt l i 4, 1 + nxt l (adv l i) 4, lastB c.t (1 + nxt l (adv l i) 4) + 1, (c.q.l[(nxt l (adv l (adv l i)) c.q.l.length).toNat]'(by omega)).number, ⟨#[]⟩, ⟨#[]⟩⟩, adv l (adv l (adv l i))) := by
      simp only [mkChange, hk]
      rw [if_neg (by omega), if_neg (by omega), if_neg (by omega), List.getElem?_eq_getElem (by omega)]
      rfl
    rw [e]
    exact ⟨rfl, (Sep.CR_open.2 ⟨_, _, _, _, _, _, _, hS.sub (L' := .blk gc 77 [.int .i64 cell, .int .i64 ten, .slice Ah c.h.length ch, .pointer (some ⟨gs, 0, none⟩), .pointer (some ⟨gq, 0, none⟩), .pointer (some ⟨gt, 0, none⟩), vg] :: .sl 23 8 (.slice Ah c.h.length ch) (c.h.map Ch.cells) :: .blk gs 47 [.slice As c.s.length cs] :: .sl 93 3 (.slice As c.s.length cs) (c.s.map Ce.cells) :: .blk gq 106 [.slice (some ⟨gb, o, none⟩) c.q.l.length cl, vr, .int .i64 c.q.most] :: .sl 127 2 (.slice (some ⟨gb, o, none⟩) c.q.l.length cl) (c.q.l.map It.cells) :: .sl 146 4 vr (c.q.r.map Le.cells) :: .blk gt 112 c.t.cells.toList :: TpR r ga l _ :: F) (by repeat (first | exact Sub.rest | exact Sub.nil | exact .skip .rest | exact .skip (.skip .rest) | exact .skip (.skip (.skip .rest)) | apply Sub.keep | refine Sub.cons (by repeat (first | exact At.here | apply At.next)) ?_ | apply Sub.skip))⟩).swap⟩
  · replace hS := hS.fo (R := TpR r ga l _)
    refine Z.eff (Z.cl (text_z 1 16 hS (by omega) (by omega) (by omega)) rfl ?_) rfl
    clear hS
    rintro e w ⟨rfl, hS⟩
    refine ⟨_, rfl, ?_⟩
    repeat' (first
      | refine Z.pr rfl ?_ | refine Sh.la hS ?_ | refine Sh.lb ?_ | refine Sh.lc ?_ | refine Sh.su ?_
      | (refine Sh.sa hS ?_; clear hS; intro w hS)
      | ((first | refine Sh.aa hS ?_ | refine Sh.ab hS ?_ | refine Sh.ac hS ?_); clear hS; intro g w hS hge)
      | refine Sh.ix ?_ | refine Sh.up ?_ | refine Sh.sl1 ?_ | refine Sh.sl2 ?_ | refine Sh.sl5 ?_ | refine Sh.sl3 ?_ | refine Sh.sl4 ?_ | refine Sh.eq ?_ | refine Sh.ne ?_ | refine Sh.ix2 ?_ | refine Sh.ix3 ?_
      | refine Z.bu rfl rfl ?_ | refine Z.pl (R.max2 rfl rfl) ?_ | refine Z.pl (R.cap rfl rfl) ?_ | refine Z.pl R.mf ?_
      | refine Z.gT rfl rfl ?_ | refine Z.gF rfl rfl ?_ | refine Z.gF0 rfl rfl ?_ | refine Z.gU rfl rfl ?_
      | with_reducible (first | refine Z.seq ?_ | refine Z.reg ?_ | refine Z.nil ?_ | refine Z.skip ?_ | refine Z.exit ?_ | refine Z.ret ?_ | refine Z.block ?_ | refine Z.thN ?_ | refine Z.thU ?_ | refine Z.thE ?_ | refine Z.thR ?_ | refine Z.blN ?_ | refine Z.blR ?_ | refine Z.blE ?_ | refine Z.label ?_ | refine Z.scope ?_ | refine Z.ngN ?_ | refine Z.ngR ?_ | refine Z.ngE ?_)
      | ((with_reducible refine Z.blX ?_ ?_); rotate_left; rfl)
      | refine Z.brT rfl ?_ | refine Z.brF rfl ?_
      | ((first | refine Z.gS rfl rfl ?_ ?_ | refine Z.br rfl ?_ ?_) <;> intro hb <;> (try simp only [decide_eq_true_eq, decide_eq_false_iff_not, Bool.not_eq_true', Bool.not_eq_false', Int.not_lt, Int.not_le] at hb) <;> (try (exfalso; first | omega | exact hb trivial))))
    replace hS := hS.fo (R := TpR r ga l _)
    refine Z.eff (Z.cl (text_z 0 64 hS (by omega) (by omega) (by omega)) rfl ?_) rfl
    clear hS
    rintro e w ⟨rfl, hS⟩
    refine ⟨_, rfl, ?_⟩
    repeat' (first
      | refine Z.pr rfl ?_ | refine Sh.la hS ?_ | refine Sh.lb ?_ | refine Sh.lc ?_ | refine Sh.su ?_
      | (refine Sh.sa hS ?_; clear hS; intro w hS)
      | ((first | refine Sh.aa hS ?_ | refine Sh.ab hS ?_ | refine Sh.ac hS ?_); clear hS; intro g w hS hge)
      | refine Sh.ix ?_ | refine Sh.up ?_ | refine Sh.sl1 ?_ | refine Sh.sl2 ?_ | refine Sh.sl5 ?_ | refine Sh.sl3 ?_ | refine Sh.sl4 ?_ | refine Sh.eq ?_ | refine Sh.ne ?_ | refine Sh.ix2 ?_ | refine Sh.ix3 ?_
      | refine Z.bu rfl rfl ?_ | refine Z.pl (R.max2 rfl rfl) ?_ | refine Z.pl (R.cap rfl rfl) ?_ | refine Z.pl R.mf ?_
      | refine Z.gT rfl rfl ?_ | refine Z.gF rfl rfl ?_ | refine Z.gF0 rfl rfl ?_ | refine Z.gU rfl rfl ?_
      | with_reducible (first | refine Z.seq ?_ | refine Z.reg ?_ | refine Z.nil ?_ | refine Z.skip ?_ | refine Z.exit ?_ | refine Z.ret ?_ | refine Z.block ?_ | refine Z.thN ?_ | refine Z.thU ?_ | refine Z.thE ?_ | refine Z.thR ?_ | refine Z.blN ?_ | refine Z.blR ?_ | refine Z.blE ?_ | refine Z.label ?_ | refine Z.scope ?_ | refine Z.ngN ?_ | refine Z.ngR ?_ | refine Z.ngE ?_)
      | ((with_reducible refine Z.blX ?_ ?_); rotate_left; rfl)
      | refine Z.brT rfl ?_ | refine Z.brF rfl ?_
      | ((first | refine Z.gS rfl rfl ?_ ?_ | refine Z.br rfl ?_ ?_) <;> intro hb <;> (try simp only [decide_eq_true_eq, decide_eq_false_iff_not, Bool.not_eq_true', Bool.not_eq_false', Int.not_lt, Int.not_le] at hb) <;> (try (exfalso; first | omega | exact hb trivial))))
    first | refine Z.done hS Try.results61 (Z.RV.cell rfl (by repeat (first | exact At.here | apply At.next)) rfl Z.RV.nil) ?_ | refine Z.doneN hS Try.results61 (Z.RV.cell rfl (by repeat (first | exact At.here | apply At.next)) rfl Z.RV.nil) ?_
    have hk : mkKind l i c = 1 := by unfold mkKind; rw [if_neg (by omega), if_pos ⟨by assumption, by omega⟩]
    have e : mkChange l i c ep = (⟨ep, (c.h.length : Int) + 1, 1, 1 + nxt l (adv l i) 4, lastB c.t (1 + nxt l (adv l i) 4) + 1, 0, textOf l (adv l (adv l i)) 1 16, textOf l (textAdv l (adv l (adv l i)) 1 16) 0 64⟩, textAdv l (textAdv l (adv l (adv l i)) 1 16) 0 64) := by
      simp [mkChange, hk]
    rw [e]
    exact ⟨rfl, (Sep.CR_open.2 ⟨_, _, _, _, _, _, _, hS.sub (L' := .blk gc 77 [.int .i64 cell, .int .i64 ten, .slice Ah c.h.length ch, .pointer (some ⟨gs, 0, none⟩), .pointer (some ⟨gq, 0, none⟩), .pointer (some ⟨gt, 0, none⟩), vg] :: .sl 23 8 (.slice Ah c.h.length ch) (c.h.map Ch.cells) :: .blk gs 47 [.slice As c.s.length cs] :: .sl 93 3 (.slice As c.s.length cs) (c.s.map Ce.cells) :: .blk gq 106 [.slice Al c.q.l.length cl, vr, .int .i64 c.q.most] :: .sl 127 2 (.slice Al c.q.l.length cl) (c.q.l.map It.cells) :: .sl 146 4 vr (c.q.r.map Le.cells) :: .blk gt 112 c.t.cells.toList :: TpR r ga l _ :: F) (by repeat (first | exact Sub.rest | exact Sub.nil | exact .skip .rest | exact .skip (.skip .rest) | exact .skip (.skip (.skip .rest)) | apply Sub.keep | refine Sub.cons (by repeat (first | exact At.here | apply At.next)) ?_ | apply Sub.skip))⟩).swap⟩
  · have hq0 : 0 < c.s.length := by omega
    have hbn := nxt_bd l (adv l (adv l i)) c.s.length (by omega)
    obtain ⟨gb, o, rfl, _, _⟩ := (hS.slrows (e := 93) (v := .slice As c.s.length cs) (by repeat (first | exact At.here | apply At.next))).mat (by omega) (q := (nxt l (adv l (adv l i)) c.s.length).toNat) (by omega)
    refine D.startS (Lr := (.blk g7 _ _ :: .blk g6 _ _ :: .blk gc 77 [.int .i64 cell, .int .i64 ten, .slice Ah c.h.length ch, .pointer (some ⟨gs, 0, none⟩), .pointer (some ⟨gq, 0, none⟩), .pointer (some ⟨gt, 0, none⟩), vg] :: .sl 23 8 (.slice Ah c.h.length ch) (c.h.map Ch.cells) :: .blk gs 47 [.slice (some ⟨gb, o, none⟩) c.s.length cs] :: .sl 93 3 (.slice (some ⟨gb, o, none⟩) c.s.length cs) (c.s.map Ce.cells) :: .blk gq 106 [.slice Al c.q.l.length cl, vr, .int .i64 c.q.most] :: .sl 127 2 (.slice Al c.q.l.length cl) (c.q.l.map It.cells) :: .sl 146 4 vr (c.q.r.map Le.cells) :: .blk gt 112 c.t.cells.toList :: F)) (hS.sb) 21 22 (by kernel_rfl) rfl ?_
    replace hS := hS.drew
    refine Sh.dp 0 1 ?_
    refine Sh.dp 1 3 ?_
    refine Sh.dp 2 7 ?_
    refine Sh.dp 7 135 ?_
    refine Sh.dp 8 391 ?_
    refine Sh.dp 9 903 ?_
    refine Sh.dp 10 1927 ?_
    refine Sh.dl 3 1935 ?_
    refine Sh.dp 4 1951 ?_
    refine Sh.dp 5 1983 ?_
    refine Sh.dl 6 2047 ?_
    refine Sh.dl 11 4095 ?_
    refine Sh.dp 12 8191 ?_
    refine Sh.dp 13 16383 ?_
    refine Sh.dl 14 32767 ?_
    refine Sh.dp 15 65535 ?_
    refine D.eff 16 131071 rfl D.wantedN (by kernel_rfl) (by kernel_rfl) (fun _ _ h => h) ?_
    replace hS := hS.fo (R := TpR r ga l _)
    refine Z.cl (next_z _ hS (by omega) (by omega)) rfl ?_
    clear hS
    rintro e w ⟨rfl, hS⟩
    refine ⟨_, rfl, ?_⟩
    refine ⟨HM.s (hS.sb), ?_⟩
    first | refine D.ixn 17 262143 rfl D.wantedN (by kernel_rfl) rfl rfl rfl (by omega) ?_ | refine D.ix 17 262143 rfl D.wantedN (by kernel_rfl) rfl rfl rfl (by omega) ?_ | refine D.ia 17 262143 rfl D.wantedN (by kernel_rfl) rfl rfl rfl (by omega) ?_
    refine Sh.dp 18 524287 ?_
    refine D.ldE 19 1048575 rfl D.wantedN (by kernel_rfl) rfl (fun W h => (h.slrows (e := 93) (v := .slice _ c.s.length cs) (by repeat (first | exact At.here | apply At.next))).elem (by omega) (q := (nxt l (adv l (adv l i)) c.s.length).toNat) (by omega)) rfl ?_
    refine Sh.dp 20 2097151 ?_
    refine D.eff 21 4194303 rfl D.wantedN (by kernel_rfl) (by kernel_rfl) (fun _ _ h => h) ?_
    refine Z.st hS rfl (by repeat (first | exact At.here | apply At.next)) rfl rfl ?_
    clear hS; intro w hS
    refine ⟨HM.last (by kernel_rfl), ?_⟩
    refine D.done (by kernel_rfl) ?_
    repeat' (first
      | refine Z.pr rfl ?_ | refine Sh.la hS ?_ | refine Sh.lb ?_ | refine Sh.lc ?_ | refine Sh.su ?_
      | (refine Sh.sa hS ?_; clear hS; intro w hS)
      | ((first | refine Sh.aa hS ?_ | refine Sh.ab hS ?_ | refine Sh.ac hS ?_); clear hS; intro g w hS hge)
      | refine Sh.ix ?_ | refine Sh.up ?_ | refine Sh.sl1 ?_ | refine Sh.sl2 ?_ | refine Sh.sl5 ?_ | refine Sh.sl3 ?_ | refine Sh.sl4 ?_ | refine Sh.eq ?_ | refine Sh.ne ?_ | refine Sh.ix2 ?_ | refine Sh.ix3 ?_
      | refine Z.bu rfl rfl ?_ | refine Z.pl (R.max2 rfl rfl) ?_ | refine Z.pl (R.cap rfl rfl) ?_ | refine Z.pl R.mf ?_
      | refine Z.gT rfl rfl ?_ | refine Z.gF rfl rfl ?_ | refine Z.gF0 rfl rfl ?_ | refine Z.gU rfl rfl ?_
      | with_reducible (first | refine Z.seq ?_ | refine Z.reg ?_ | refine Z.nil ?_ | refine Z.skip ?_ | refine Z.exit ?_ | refine Z.ret ?_ | refine Z.block ?_ | refine Z.thN ?_ | refine Z.thU ?_ | refine Z.thE ?_ | refine Z.thR ?_ | refine Z.blN ?_ | refine Z.blR ?_ | refine Z.blE ?_ | refine Z.label ?_ | refine Z.scope ?_ | refine Z.ngN ?_ | refine Z.ngR ?_ | refine Z.ngE ?_)
      | ((with_reducible refine Z.blX ?_ ?_); rotate_left; rfl)
      | refine Z.brT rfl ?_ | refine Z.brF rfl ?_
      | ((first | refine Z.gS rfl rfl ?_ ?_ | refine Z.br rfl ?_ ?_) <;> intro hb <;> (try simp only [decide_eq_true_eq, decide_eq_false_iff_not, Bool.not_eq_true', Bool.not_eq_false', Int.not_lt, Int.not_le] at hb) <;> (try (exfalso; first | omega | exact hb trivial))))
    first | refine Z.done hS Try.results61 (Z.RV.cell rfl (by repeat (first | exact At.here | apply At.next)) rfl Z.RV.nil) ?_ | refine Z.doneN hS Try.results61 (Z.RV.cell rfl (by repeat (first | exact At.here | apply At.next)) rfl Z.RV.nil) ?_
    have hk : mkKind l i c = 1 + nxt l i 4 := by unfold mkKind; rw [if_neg (by omega), if_neg (by omega)]
    have e : mkChange l i c ep = (⟨ep, (c.h.length : Int) + 1, 1 + nxt l i 4, 1 + nxt l (adv l i) 4, lastB c.t (1 + nxt l (adv l i) 4) + 1, 0, (c.s[(nxt l (adv l (adv l i)) c.s.length).toNat]'(by omega)).key, ⟨#[]⟩⟩, adv l (adv l (adv l i))) := by
      simp only [mkChange, hk]
      rw [if_neg (by omega), if_pos (by omega), List.getElem?_eq_getElem (by omega)]
      rfl
    rw [e]
    exact ⟨rfl, (Sep.CR_open.2 ⟨_, _, _, _, _, _, _, hS.sub (L' := .blk gc 77 [.int .i64 cell, .int .i64 ten, .slice Ah c.h.length ch, .pointer (some ⟨gs, 0, none⟩), .pointer (some ⟨gq, 0, none⟩), .pointer (some ⟨gt, 0, none⟩), vg] :: .sl 23 8 (.slice Ah c.h.length ch) (c.h.map Ch.cells) :: .blk gs 47 [.slice (some ⟨gb, o, none⟩) c.s.length cs] :: .sl 93 3 (.slice (some ⟨gb, o, none⟩) c.s.length cs) (c.s.map Ce.cells) :: .blk gq 106 [.slice Al c.q.l.length cl, vr, .int .i64 c.q.most] :: .sl 127 2 (.slice Al c.q.l.length cl) (c.q.l.map It.cells) :: .sl 146 4 vr (c.q.r.map Le.cells) :: .blk gt 112 c.t.cells.toList :: TpR r ga l _ :: F) (by repeat (first | exact Sub.rest | exact Sub.nil | exact .skip .rest | exact .skip (.skip .rest) | exact .skip (.skip (.skip .rest)) | apply Sub.keep | refine Sub.cons (by repeat (first | exact At.here | apply At.next)) ?_ | apply Sub.skip))⟩).swap⟩
  · replace hS := hS.fo (R := TpR r ga l _)
    refine Z.eff (Z.cl (text_z 1 16 hS (by omega) (by omega) (by omega)) rfl ?_) rfl
    clear hS
    rintro e w ⟨rfl, hS⟩
    refine ⟨_, rfl, ?_⟩
    repeat' (first
      | refine Z.pr rfl ?_ | refine Sh.la hS ?_ | refine Sh.lb ?_ | refine Sh.lc ?_ | refine Sh.su ?_
      | (refine Sh.sa hS ?_; clear hS; intro w hS)
      | ((first | refine Sh.aa hS ?_ | refine Sh.ab hS ?_ | refine Sh.ac hS ?_); clear hS; intro g w hS hge)
      | refine Sh.ix ?_ | refine Sh.up ?_ | refine Sh.sl1 ?_ | refine Sh.sl2 ?_ | refine Sh.sl5 ?_ | refine Sh.sl3 ?_ | refine Sh.sl4 ?_ | refine Sh.eq ?_ | refine Sh.ne ?_ | refine Sh.ix2 ?_ | refine Sh.ix3 ?_
      | refine Z.bu rfl rfl ?_ | refine Z.pl (R.max2 rfl rfl) ?_ | refine Z.pl (R.cap rfl rfl) ?_ | refine Z.pl R.mf ?_
      | refine Z.gT rfl rfl ?_ | refine Z.gF rfl rfl ?_ | refine Z.gF0 rfl rfl ?_ | refine Z.gU rfl rfl ?_
      | with_reducible (first | refine Z.seq ?_ | refine Z.reg ?_ | refine Z.nil ?_ | refine Z.skip ?_ | refine Z.exit ?_ | refine Z.ret ?_ | refine Z.block ?_ | refine Z.thN ?_ | refine Z.thU ?_ | refine Z.thE ?_ | refine Z.thR ?_ | refine Z.blN ?_ | refine Z.blR ?_ | refine Z.blE ?_ | refine Z.label ?_ | refine Z.scope ?_ | refine Z.ngN ?_ | refine Z.ngR ?_ | refine Z.ngE ?_)
      | ((with_reducible refine Z.blX ?_ ?_); rotate_left; rfl)
      | refine Z.brT rfl ?_ | refine Z.brF rfl ?_
      | ((first | refine Z.gS rfl rfl ?_ ?_ | refine Z.br rfl ?_ ?_) <;> intro hb <;> (try simp only [decide_eq_true_eq, decide_eq_false_iff_not, Bool.not_eq_true', Bool.not_eq_false', Int.not_lt, Int.not_le] at hb) <;> (try (exfalso; first | omega | exact hb trivial))))
    replace hS := hS.fo (R := TpR r ga l _)
    refine Z.eff (Z.cl (text_z 0 64 hS (by omega) (by omega) (by omega)) rfl ?_) rfl
    clear hS
    rintro e w ⟨rfl, hS⟩
    refine ⟨_, rfl, ?_⟩
    repeat' (first
      | refine Z.pr rfl ?_ | refine Sh.la hS ?_ | refine Sh.lb ?_ | refine Sh.lc ?_ | refine Sh.su ?_
      | (refine Sh.sa hS ?_; clear hS; intro w hS)
      | ((first | refine Sh.aa hS ?_ | refine Sh.ab hS ?_ | refine Sh.ac hS ?_); clear hS; intro g w hS hge)
      | refine Sh.ix ?_ | refine Sh.up ?_ | refine Sh.sl1 ?_ | refine Sh.sl2 ?_ | refine Sh.sl5 ?_ | refine Sh.sl3 ?_ | refine Sh.sl4 ?_ | refine Sh.eq ?_ | refine Sh.ne ?_ | refine Sh.ix2 ?_ | refine Sh.ix3 ?_
      | refine Z.bu rfl rfl ?_ | refine Z.pl (R.max2 rfl rfl) ?_ | refine Z.pl (R.cap rfl rfl) ?_ | refine Z.pl R.mf ?_
      | refine Z.gT rfl rfl ?_ | refine Z.gF rfl rfl ?_ | refine Z.gF0 rfl rfl ?_ | refine Z.gU rfl rfl ?_
      | with_reducible (first | refine Z.seq ?_ | refine Z.reg ?_ | refine Z.nil ?_ | refine Z.skip ?_ | refine Z.exit ?_ | refine Z.ret ?_ | refine Z.block ?_ | refine Z.thN ?_ | refine Z.thU ?_ | refine Z.thE ?_ | refine Z.thR ?_ | refine Z.blN ?_ | refine Z.blR ?_ | refine Z.blE ?_ | refine Z.label ?_ | refine Z.scope ?_ | refine Z.ngN ?_ | refine Z.ngR ?_ | refine Z.ngE ?_)
      | ((with_reducible refine Z.blX ?_ ?_); rotate_left; rfl)
      | refine Z.brT rfl ?_ | refine Z.brF rfl ?_
      | ((first | refine Z.gS rfl rfl ?_ ?_ | refine Z.br rfl ?_ ?_) <;> intro hb <;> (try simp only [decide_eq_true_eq, decide_eq_false_iff_not, Bool.not_eq_true', Bool.not_eq_false', Int.not_lt, Int.not_le] at hb) <;> (try (exfalso; first | omega | exact hb trivial))))
    first | refine Z.done hS Try.results61 (Z.RV.cell rfl (by repeat (first | exact At.here | apply At.next)) rfl Z.RV.nil) ?_ | refine Z.doneN hS Try.results61 (Z.RV.cell rfl (by repeat (first | exact At.here | apply At.next)) rfl Z.RV.nil) ?_
    have hk : mkKind l i c = 1 + nxt l i 4 := by unfold mkKind; rw [if_neg (by omega), if_neg (by omega)]
    have e : mkChange l i c ep = (⟨ep, (c.h.length : Int) + 1, 1 + nxt l i 4, 1 + nxt l (adv l i) 4, lastB c.t (1 + nxt l (adv l i) 4) + 1, 0, textOf l (adv l (adv l i)) 1 16, textOf l (textAdv l (adv l (adv l i)) 1 16) 0 64⟩, textAdv l (textAdv l (adv l (adv l i)) 1 16) 0 64) := by
      simp only [mkChange, hk]
      rw [if_pos (by omega)]
    rw [e]
    exact ⟨rfl, (Sep.CR_open.2 ⟨_, _, _, _, _, _, _, hS.sub (L' := .blk gc 77 [.int .i64 cell, .int .i64 ten, .slice Ah c.h.length ch, .pointer (some ⟨gs, 0, none⟩), .pointer (some ⟨gq, 0, none⟩), .pointer (some ⟨gt, 0, none⟩), vg] :: .sl 23 8 (.slice Ah c.h.length ch) (c.h.map Ch.cells) :: .blk gs 47 [.slice As c.s.length cs] :: .sl 93 3 (.slice As c.s.length cs) (c.s.map Ce.cells) :: .blk gq 106 [.slice Al c.q.l.length cl, vr, .int .i64 c.q.most] :: .sl 127 2 (.slice Al c.q.l.length cl) (c.q.l.map It.cells) :: .sl 146 4 vr (c.q.r.map Le.cells) :: .blk gt 112 c.t.cells.toList :: TpR r ga l _ :: F) (by repeat (first | exact Sub.rest | exact Sub.nil | exact .skip .rest | exact .skip (.skip .rest) | exact .skip (.skip (.skip .rest)) | apply Sub.keep | refine Sub.cons (by repeat (first | exact At.here | apply At.next)) ?_ | apply Sub.skip))⟩).swap⟩
  · replace hS := hS.fo (R := TpR r ga l _)
    refine Z.eff (Z.cl (text_z 0 64 hS (by omega) (by omega) (by omega)) rfl ?_) rfl
    clear hS
    rintro e w ⟨rfl, hS⟩
    refine ⟨_, rfl, ?_⟩
    repeat' (first
      | refine Z.pr rfl ?_ | refine Sh.la hS ?_ | refine Sh.lb ?_ | refine Sh.lc ?_ | refine Sh.su ?_
      | (refine Sh.sa hS ?_; clear hS; intro w hS)
      | ((first | refine Sh.aa hS ?_ | refine Sh.ab hS ?_ | refine Sh.ac hS ?_); clear hS; intro g w hS hge)
      | refine Sh.ix ?_ | refine Sh.up ?_ | refine Sh.sl1 ?_ | refine Sh.sl2 ?_ | refine Sh.sl5 ?_ | refine Sh.sl3 ?_ | refine Sh.sl4 ?_ | refine Sh.eq ?_ | refine Sh.ne ?_ | refine Sh.ix2 ?_ | refine Sh.ix3 ?_
      | refine Z.bu rfl rfl ?_ | refine Z.pl (R.max2 rfl rfl) ?_ | refine Z.pl (R.cap rfl rfl) ?_ | refine Z.pl R.mf ?_
      | refine Z.gT rfl rfl ?_ | refine Z.gF rfl rfl ?_ | refine Z.gF0 rfl rfl ?_ | refine Z.gU rfl rfl ?_
      | with_reducible (first | refine Z.seq ?_ | refine Z.reg ?_ | refine Z.nil ?_ | refine Z.skip ?_ | refine Z.exit ?_ | refine Z.ret ?_ | refine Z.block ?_ | refine Z.thN ?_ | refine Z.thU ?_ | refine Z.thE ?_ | refine Z.thR ?_ | refine Z.blN ?_ | refine Z.blR ?_ | refine Z.blE ?_ | refine Z.label ?_ | refine Z.scope ?_ | refine Z.ngN ?_ | refine Z.ngR ?_ | refine Z.ngE ?_)
      | ((with_reducible refine Z.blX ?_ ?_); rotate_left; rfl)
      | refine Z.brT rfl ?_ | refine Z.brF rfl ?_
      | ((first | refine Z.gS rfl rfl ?_ ?_ | refine Z.br rfl ?_ ?_) <;> intro hb <;> (try simp only [decide_eq_true_eq, decide_eq_false_iff_not, Bool.not_eq_true', Bool.not_eq_false', Int.not_lt, Int.not_le] at hb) <;> (try (exfalso; first | omega | exact hb trivial))))
    first | refine Z.done hS Try.results61 (Z.RV.cell rfl (by repeat (first | exact At.here | apply At.next)) rfl Z.RV.nil) ?_ | refine Z.doneN hS Try.results61 (Z.RV.cell rfl (by repeat (first | exact At.here | apply At.next)) rfl Z.RV.nil) ?_
    have hk : mkKind l i c = 1 + nxt l i 4 := by unfold mkKind; rw [if_neg (by omega), if_neg (by omega)]
    have e : mkChange l i c ep = (⟨ep, (c.h.length : Int) + 1, 1 + nxt l i 4, 1 + nxt l (adv l i) 4, lastB c.t (1 + nxt l (adv l i) 4) + 1, 0, ⟨#[]⟩, textOf l (adv l (adv l i)) 0 64⟩, textAdv l (adv l (adv l i)) 0 64) := by
      simp only [mkChange, hk]
      rw [if_neg (by omega), if_neg (by omega), if_pos (by omega)]
    rw [e]
    exact ⟨rfl, (Sep.CR_open.2 ⟨_, _, _, _, _, _, _, hS.sub (L' := .blk gc 77 [.int .i64 cell, .int .i64 ten, .slice Ah c.h.length ch, .pointer (some ⟨gs, 0, none⟩), .pointer (some ⟨gq, 0, none⟩), .pointer (some ⟨gt, 0, none⟩), vg] :: .sl 23 8 (.slice Ah c.h.length ch) (c.h.map Ch.cells) :: .blk gs 47 [.slice As c.s.length cs] :: .sl 93 3 (.slice As c.s.length cs) (c.s.map Ce.cells) :: .blk gq 106 [.slice Al c.q.l.length cl, vr, .int .i64 c.q.most] :: .sl 127 2 (.slice Al c.q.l.length cl) (c.q.l.map It.cells) :: .sl 146 4 vr (c.q.r.map Le.cells) :: .blk gt 112 c.t.cells.toList :: TpR r ga l _ :: F) (by repeat (first | exact Sub.rest | exact Sub.nil | exact .skip .rest | exact .skip (.skip .rest) | exact .skip (.skip (.skip .rest)) | apply Sub.keep | refine Sub.cons (by repeat (first | exact At.here | apply At.next)) ?_ | apply Sub.skip))⟩).swap⟩
end Go.Proofs.Ytabpapdickolgaa
