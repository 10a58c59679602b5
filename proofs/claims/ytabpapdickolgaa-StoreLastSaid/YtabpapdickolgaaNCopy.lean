/-
  The walks of the reference's copy of a tenant: New, Epoch.
-/
import Derived.Test.YtabpapdickolgaaNSApp
import Derived.Test.YtabpapdickolgaaNQApp
import Derived.Test.YtabpapdickolgaaTabApp
namespace Go.Proofs.Ytabpapdickolgaa
open Go.RowKit
set_option linter.unusedSimpArgs false
set_option linter.unusedVariables false
attribute [local irreducible] Res.blk Res.sl Res.all Res.ex Res.pure Res.star

/-- A copy of a tenant: its history, its store, its queue, its table. -/
structure Cp where
  h : List Ch
  s : List Ce
  q : Qu
  t : Tab
def Cp.zero : Cp := ⟨[], [], ⟨[], [], 0⟩, .zero⟩
/-- The resources of the reference's objects. -/
def SR (g : Nat) (l : List Ce) : Res := .ex fun v => .all [.blk g 47 [v], .sl 93 3 v (l.map Ce.cells)]
def QR (g : Nat) (q : Qu) : Res := .ex fun vl => .ex fun vr => .all [.blk g 106 [vl, vr, .int .i64 q.most], .sl 127 2 vl (q.l.map It.cells), .sl 146 4 vr (q.r.map Le.cells)]
def CR (g : Nat) (cell ten : Int) (vg : Value) (c : Cp) : Res := .ex fun vh => .ex fun gs => .ex fun gq => .ex fun gt => .ex fun vs => .ex fun vl => .ex fun vr =>
  .all [.blk g 77 [.int .i64 cell, .int .i64 ten, vh, .pointer (some ⟨gs, 0, none⟩), .pointer (some ⟨gq, 0, none⟩), .pointer (some ⟨gt, 0, none⟩), vg],
    .sl 23 8 vh (c.h.map Ch.cells), .blk gs 47 [vs], .sl 93 3 vs (c.s.map Ce.cells),
    .blk gq 106 [vl, vr, .int .i64 c.q.most], .sl 127 2 vl (c.q.l.map It.cells), .sl 146 4 vr (c.q.r.map Le.cells),
    .blk gt 112 c.t.cells.toList]
section
variable {r w : World} {M : List Nat} {F : List Res} {g : Nat}
theorem Sep.SR_open {l : List Ce} : Sep r M (SR g l :: F) w ↔ ∃ v, Sep r M (.blk g 47 [v] :: .sl 93 3 v (l.map Ce.cells) :: F) w := by
  simp only [SR, Sep.ex_open, Sep.all_open, List.cons_append, List.nil_append]
theorem Sep.QR_open {q : Qu} : Sep r M (QR g q :: F) w ↔ ∃ vl vr, Sep r M (.blk g 106 [vl, vr, .int .i64 q.most] :: .sl 127 2 vl (q.l.map It.cells) :: .sl 146 4 vr (q.r.map Le.cells) :: F) w := by
  simp only [QR, Sep.ex_open, Sep.all_open, List.cons_append, List.nil_append]
theorem Sep.CR_open {cell ten : Int} {vg : Value} {c : Cp} : Sep r M (CR g cell ten vg c :: F) w ↔ ∃ vh gs gq gt vs vl vr,
    Sep r M (.blk g 77 [.int .i64 cell, .int .i64 ten, vh, .pointer (some ⟨gs, 0, none⟩), .pointer (some ⟨gq, 0, none⟩), .pointer (some ⟨gt, 0, none⟩), vg] ::
    .sl 23 8 vh (c.h.map Ch.cells) :: .blk gs 47 [vs] :: .sl 93 3 vs (c.s.map Ce.cells) ::
    .blk gq 106 [vl, vr, .int .i64 c.q.most] :: .sl 127 2 vl (c.q.l.map It.cells) :: .sl 146 4 vr (c.q.r.map Le.cells) ::
    .blk gt 112 c.t.cells.toList :: F) w := by
  simp only [CR, Sep.ex_open, Sep.all_open, List.cons_append, List.nil_append]
end

/-- The epoch of the last change. -/
def epochOf (h : List Ch) : Int := match h.getLast? with | some x => x.epoch | none => 0
theorem epochOf_eq {h : List Ch} (h0 : 0 < h.length) : epochOf h = (h[h.length - 1]'(by omega)).epoch := by
  unfold epochOf
  rw [List.getLast?_eq_getElem?, List.getElem?_eq_getElem (by omega)]

set_option maxHeartbeats 1000000 in
theorem epoch_z (g : Nat) (v0 v1 vh v3 v4 v5 v6 : Value) (h : List Ch) (r : World) (F : List Res) (w : World) (hS : Sep r [] (.blk g 77 [v0, v1, vh, v3, v4, v5, v6] :: F) w) (hrd : Reads r F 8 vh (h.map Ch.cells)) (hl : h.length ≤ 5000) :
    Calls Try.prog 66 #[.pointer (some ⟨g, 0, none⟩)] w fun e w' => e = .returned (.int .i64 (epochOf h)) ∧ Sep r [] (.blk g 77 [v0, v1, vh, v3, v4, v5, v6] :: F) w' := by
  obtain ⟨A, c, rfl, hc⟩ := (hrd [_] w hS).mform
  refine Z.enter Try.func66 Try.ntmps66 rfl rfl ?_
  repeat' (first
    | refine Z.pr rfl ?_ | refine Sh.la hS ?_ | refine Sh.lb ?_ | refine Sh.lc ?_ | refine Sh.su ?_
    | (refine Sh.sa hS ?_; clear hS; intro w hS)
    | ((first | refine Sh.aa hS ?_ | refine Sh.ab hS ?_ | refine Sh.ac hS ?_); clear hS; intro g w hS hge)
    | refine Sh.ix ?_ | refine Sh.up ?_ | refine Sh.sl1 ?_ | refine Sh.sl2 ?_ | refine Sh.sl5 ?_ | refine Sh.sl3 ?_ | refine Sh.sl4 ?_ | refine Sh.eq ?_ | refine Sh.ne ?_ | refine Sh.ix2 ?_ | refine Sh.ix3 ?_
    | refine Z.bu rfl rfl ?_ | refine Z.pl (R.max2 rfl rfl) ?_ | refine Z.pl (R.cap rfl rfl) ?_ | refine Z.pl R.mf ?_
    | refine Z.gT rfl rfl ?_ | refine Z.gF rfl rfl ?_ | refine Z.gF0 rfl rfl ?_ | refine Z.gU rfl rfl ?_
    | with_reducible (first | refine Z.seq ?_ | refine Z.reg ?_ | refine Z.nil ?_ | refine Z.skip ?_ | refine Z.exit ?_ | refine Z.ret ?_ | refine Z.block ?_ | refine Z.thN ?_ | refine Z.thU ?_ | refine Z.thE ?_ | refine Z.thR ?_ | refine Z.blN ?_ | refine Z.blR ?_ | refine Z.blE ?_ | refine Z.label ?_ | refine Z.scope ?_ | refine Z.ngN ?_ | refine Z.ngR ?_ | refine Z.ngE ?_)
    | ((with_reducible refine Z.blX ?_ ?_); rotate_left; rfl)
    | refine Z.brT rfl ?_ | refine Z.brF rfl ?_
    | ((first | refine Z.gS rfl rfl ?_ ?_ | refine Z.br rfl ?_ ?_) <;> intro hb <;> (try simp only [decide_eq_true_eq, decide_eq_false_iff_not, Bool.not_eq_true', Bool.not_eq_false', Int.not_lt, Int.not_le] at hb) <;> (try (exfalso; first | omega | exact hb trivial))))
  · first | refine Z.done hS Try.results66 (Z.RV.tmp rfl Z.RV.nil) ?_ | refine Z.doneN hS Try.results66 (Z.RV.tmp rfl Z.RV.nil) ?_
    have : h = [] := List.eq_nil_of_length_eq_zero (by omega)
    exact ⟨by rw [this]; rfl, hS⟩
  · have h0 : 0 < h.length := by omega
    obtain ⟨gb, o, rfl, _, _⟩ := (hrd [_] w hS).mat (by omega) (q := h.length - 1) (by omega)
    have e0 : ((h.length : Int) - 1).toNat = h.length - 1 := by omega
    have hra : ∀ W, Sep r [] (.blk g 77 [v0, v1, .slice (some ⟨gb, o, none⟩) h.length c, v3, v4, v5, v6] :: F) W → W.rangeAt gb (o + ((h.length : Int) - 1).toNat * 8) (h[h.length - 1]'(by omega)).cells := fun W hW => by rw [e0]; exact (hrd [_] W hW).elem (by omega) (by omega)
    refine D.startS hS 14 14 (by kernel_rfl) rfl ?_
    replace hS := hS.drew
    refine Sh.dp 0 1 ?_
    refine Sh.dp 1 3 ?_
    refine Sh.dp 2 7 ?_
    refine Sh.dp 4 23 ?_
    refine Sh.dp 5 55 ?_
    refine Sh.dp 6 119 ?_
    refine Sh.dl 3 127 ?_
    refine Sh.dl 7 255 ?_
    refine Sh.dp 8 511 ?_
    first | refine D.sum 9 1023 rfl D.wantedN (by kernel_rfl) rfl (by constructor <;> omega) ?_ | refine D.sumW 9 1023 rfl D.wantedN (by kernel_rfl) rfl ?_
    first | refine D.ixn 10 2047 rfl D.wantedN (by kernel_rfl) rfl rfl rfl (by omega) ?_ | refine D.ix 10 2047 rfl D.wantedN (by kernel_rfl) rfl rfl rfl (by omega) ?_ | refine D.ia 10 2047 rfl D.wantedN (by kernel_rfl) rfl rfl rfl (by omega) ?_
    refine Sh.dp 11 4095 ?_
    refine D.ldE 12 8191 rfl D.wantedN (by kernel_rfl) rfl hra rfl ?_
    refine Sh.dp 13 16383 ?_
    refine D.done (by kernel_rfl) ?_
    repeat' (first
      | refine Z.pr rfl ?_ | refine Sh.la hS ?_ | refine Sh.lb ?_ | refine Sh.lc ?_ | refine Sh.su ?_
      | (refine Sh.sa hS ?_; clear hS; intro w hS)
      | ((first | refine Sh.aa hS ?_ | refine Sh.ab hS ?_ | refine Sh.ac hS ?_); clear hS; intro g w hS hge)
      | refine Sh.ix ?_ | refine Sh.up ?_ | refine Sh.sl1 ?_ | refine Sh.sl2 ?_ | refine Sh.sl5 ?_ | refine Sh.sl3 ?_ | refine Sh.sl4 ?_ | refine Sh.eq ?_ | refine Sh.ne ?_ | refine Sh.ix2 ?_ | refine Sh.ix3 ?_
      | refine Z.bu rfl rfl ?_ | refine Z.pl (R.max2 rfl rfl) ?_ | refine Z.pl (R.cap rfl rfl) ?_ | refine Z.pl R.mf ?_
      | refine Z.gT rfl rfl ?_ | refine Z.gF rfl rfl ?_ | refine Z.gF0 rfl rfl ?_ | refine Z.gU rfl rfl ?_
      | with_reducible (first | refine Z.seq ?_ | refine Z.reg ?_ | refine Z.nil ?_ | refine Z.skip ?_ | refine Z.exit ?_ | refine Z.ret ?_ | refine Z.block ?_ | refine Z.thN ?_ | refine Z.thU ?_ | refine Z.thE ?_ | refine Z.thR ?_ | refine Z.blN ?_ | refine Z.blR ?_ | refine Z.blE ?_ | refine Z.label ?_ | refine Z.scope ?_ | refine Z.ngN ?_ | refine Z.ngR ?_ | refine Z.ngE ?_)
      | ((with_reducible refine Z.blX ?_ ?_); rotate_left; rfl)
      | refine Z.brT rfl ?_ | refine Z.brF rfl ?_
      | ((first | refine Z.gS rfl rfl ?_ ?_ | refine Z.br rfl ?_ ?_) <;> intro hb <;> (try simp only [decide_eq_true_eq, decide_eq_false_iff_not, Bool.not_eq_true', Bool.not_eq_false', Int.not_lt, Int.not_le] at hb) <;> (try (exfalso; first | omega | exact hb trivial))))
    first | refine Z.done hS Try.results66 (Z.RV.tmp rfl Z.RV.nil) ?_ | refine Z.doneN hS Try.results66 (Z.RV.tmp rfl Z.RV.nil) ?_
    exact ⟨by rw [epochOf_eq h0]; rfl, hS⟩

set_option maxHeartbeats 1000000 in
theorem cnew_z (cell ten : Int) (r : World) (F : List Res) (w : World) (hS : Sep r [] F w) :
    Calls Try.prog 39 #[.int .i64 cell, .int .i64 ten] w fun e w' => ∃ g gg, e = .returned (.pointer (some ⟨g, 0, none⟩)) ∧
      Sep r [] (CR g cell ten (.pointer (some ⟨gg, 0, none⟩)) .zero :: .blk gg 115 [.int .i64 cell, .int .i64 0, .slice none 0 0] :: F) w' := by
  refine Z.enter Try.func39 Try.ntmps39 rfl rfl ?_
  repeat' (first
    | refine Z.pr rfl ?_ | refine Sh.la hS ?_ | refine Sh.lb ?_ | refine Sh.lc ?_ | refine Sh.su ?_
    | (refine Sh.sa hS ?_; clear hS; intro w hS)
    | ((first | refine Sh.aa hS ?_ | refine Sh.ab hS ?_ | refine Sh.ac hS ?_); clear hS; intro g w hS hge)
    | refine Sh.ix ?_ | refine Sh.up ?_ | refine Sh.sl1 ?_ | refine Sh.sl2 ?_ | refine Sh.sl5 ?_ | refine Sh.sl3 ?_ | refine Sh.sl4 ?_ | refine Sh.eq ?_ | refine Sh.ne ?_ | refine Sh.ix2 ?_ | refine Sh.ix3 ?_
    | refine Z.bu rfl rfl ?_ | refine Z.pl (R.max2 rfl rfl) ?_ | refine Z.pl (R.cap rfl rfl) ?_ | refine Z.pl R.mf ?_
    | refine Z.gT rfl rfl ?_ | refine Z.gF rfl rfl ?_ | refine Z.gF0 rfl rfl ?_ | refine Z.gU rfl rfl ?_
    | with_reducible (first | refine Z.seq ?_ | refine Z.reg ?_ | refine Z.nil ?_ | refine Z.skip ?_ | refine Z.exit ?_ | refine Z.ret ?_ | refine Z.block ?_ | refine Z.thN ?_ | refine Z.thU ?_ | refine Z.thE ?_ | refine Z.thR ?_ | refine Z.blN ?_ | refine Z.blR ?_ | refine Z.blE ?_ | refine Z.label ?_ | refine Z.scope ?_ | refine Z.ngN ?_ | refine Z.ngR ?_ | refine Z.ngE ?_)
    | ((with_reducible refine Z.blX ?_ ?_); rotate_left; rfl)
    | refine Z.brT rfl ?_ | refine Z.brF rfl ?_
    | ((first | refine Z.gS rfl rfl ?_ ?_ | refine Z.br rfl ?_ ?_) <;> intro hb <;> (try simp only [decide_eq_true_eq, decide_eq_false_iff_not, Bool.not_eq_true', Bool.not_eq_false', Int.not_lt, Int.not_le] at hb) <;> (try (exfalso; first | omega | exact hb trivial))))
  first | refine Z.done hS Try.results39 (Z.RV.tmp rfl Z.RV.nil) ?_ | refine Z.doneN hS Try.results39 (Z.RV.tmp rfl Z.RV.nil) ?_
  replace hS := Z.nilsl hS 23 8 none
  replace hS := Z.nilsl hS 93 3 none
  replace hS := Z.nilsl hS 127 2 none
  replace hS := Z.nilsl hS 146 4 none
  exact ⟨_, _, rfl, Sep.CR_open.2 ⟨_, _, _, _, _, _, _, hS.sb⟩⟩
/-! Apply of the parts, with one form of what is left. -/
theorem Sep.none {r w : World} {F : List Res} (h : Sep r [] F w) : Sep r [] (.pure True :: F) w := Sep.pure_open.2 ⟨trivial, h⟩
theorem Sep.swap {r w : World} {A B : Res} {F : List Res} (h : Sep r [] (A :: B :: F) w) : Sep r [] (B :: A :: F) w := h.sub (.cons (.next .here) .rest)
theorem sapply_u (gs : Nat) (l : List Ce) (v : Value) (x : Ch) (r : World) (F : List Res) (w : World) (hS : Sep r [] (.blk gs 47 [v] :: F) w) (hrd : Reads r F 3 v (l.map Ce.cells)) (hl : l.length ≤ 1000) :
    Calls Try.prog 26 #[.pointer (some ⟨gs, 0, none⟩), x.val] w fun e w' => e = .returned (.int .i64 (sApp l x).2) ∧
      ∃ v' Y, Sep r [] (.blk gs 47 [v'] :: Y :: F) w' ∧ ((v' = v ∧ (sApp l x).1 = l) ∨ Y = .sl 93 3 v' ((sApp l x).1.map Ce.cells)) := by
  refine (sapply_z gs l v x r F w hS hrd hl).mono ?_
  rintro e w' ⟨he, ⟨h1, hS⟩ | ⟨v', hS⟩⟩
  · exact ⟨he, v, _, hS.none.swap, .inl ⟨rfl, h1⟩⟩
  · exact ⟨he, v', _, hS, .inr rfl⟩
theorem qapply_u (gq : Nat) (q : Qu) (vl vr : Value) (x : Ch) (r : World) (F : List Res) (w : World) (hS : Sep r [] (.blk gq 106 [vl, vr, .int .i64 q.most] :: F) w) (hrd : Reads r F 2 vl (q.l.map It.cells)) (hrd' : Reads r F 4 vr (q.r.map Le.cells)) (hl : q.l.length ≤ 1000) (hl' : q.r.length ≤ 1000) :
    Calls Try.prog 69 #[.pointer (some ⟨gq, 0, none⟩), x.val] w fun e w' => e = .returned (.int .i64 (qApp q x).2) ∧
      ∃ v1 v2 Y1 Y2, Sep r [] (.blk gq 106 [v1, v2, .int .i64 (qApp q x).1.most] :: Y1 :: Y2 :: F) w' ∧ ((v1 = vl ∧ (qApp q x).1.l = q.l) ∨ Y1 = .sl 127 2 v1 ((qApp q x).1.l.map It.cells)) ∧ ((v2 = vr ∧ (qApp q x).1.r = q.r) ∨ Y2 = .sl 146 4 v2 ((qApp q x).1.r.map Le.cells)) := by
  refine (qapply_z gq q vl vr x r F w hS hrd hrd' hl hl').mono ?_
  rintro e w' ⟨he, ⟨h1, hS⟩ | ⟨h1, v1, hS⟩ | ⟨v1, v2, hS⟩⟩
  · exact ⟨he, vl, vr, .pure True, .pure True, by rw [h1]; exact hS.none.none.sub (.cons (.next (.next .here)) .rest), .inl ⟨rfl, by rw [h1]⟩, .inl ⟨rfl, by rw [h1]⟩⟩
  · exact ⟨he, v1, vr, _, .pure True, hS.none.sub (.cons (.next .here) (.cons (.next .here) .rest)), .inr rfl, .inl ⟨rfl, h1⟩⟩
  · exact ⟨he, v1, v2, _, _, hS, .inr rfl, .inr rfl⟩
end Go.Proofs.Ytabpapdickolgaa
