/-
  The walks of the reference's copy of a tenant: New, Epoch.
-/
import Derived.Test.YtppbjlakbmgfdaaNSApp
import Derived.Test.YtppbjlakbmgfdaaNQApp
import Derived.Test.YtppbjlakbmgfdaaTabApp
namespace Go.Proofs.Ytppbjlakbmgfdaa
open Go.RowKit
set_option linter.unusedSimpArgs false
set_option linter.unusedVariables false
attribute [local irreducible] Res.blk Res.sl Res.all Res.ex Res.pure Res.star

/-- A copy of a tenant: its history, its store, its queue, its table. -/
structure Cp where
  h : List Ch
  s : List Ce
  q : Qu
  t : Tab
def Cp.zero : Cp := ⟨[], [], ⟨[], [], 0⟩, .zero⟩
/-- The resources of the reference's objects. -/
def SR (g : Nat) (l : List Ce) : Res := .ex fun v => .all [.blk g 117 [v], .sl 135 3 v (l.map Ce.cells)]
def QR (g : Nat) (q : Qu) : Res := .ex fun vl => .ex fun vr => .all [.blk g 121 [vl, vr, .int .i64 q.most], .sl 137 2 vl (q.l.map It.cells), .sl 143 4 vr (q.r.map Le.cells)]
def CR (g : Nat) (cell ten : Int) (vg : Value) (c : Cp) : Res := .ex fun vh => .ex fun gs => .ex fun gq => .ex fun gt => .ex fun vs => .ex fun vl => .ex fun vr =>
  .all [.blk g 95 [.int .i64 cell, .int .i64 ten, vh, .pointer (some ⟨gs, 0, none⟩), .pointer (some ⟨gq, 0, none⟩), .pointer (some ⟨gt, 0, none⟩), vg],
    .sl 30 8 vh (c.h.map Ch.cells), .blk gs 117 [vs], .sl 135 3 vs (c.s.map Ce.cells),
    .blk gq 121 [vl, vr, .int .i64 c.q.most], .sl 137 2 vl (c.q.l.map It.cells), .sl 143 4 vr (c.q.r.map Le.cells),
    .blk gt 58 c.t.cells.toList]
section
variable {r w : World} {M : List Nat} {F : List Res} {g : Nat}
theorem Sep.SR_open {l : List Ce} : Sep r M (SR g l :: F) w ↔ ∃ v, Sep r M (.blk g 117 [v] :: .sl 135 3 v (l.map Ce.cells) :: F) w := by
  simp only [SR, Sep.ex_open, Sep.all_open, List.cons_append, List.nil_append]
theorem Sep.QR_open {q : Qu} : Sep r M (QR g q :: F) w ↔ ∃ vl vr, Sep r M (.blk g 121 [vl, vr, .int .i64 q.most] :: .sl 137 2 vl (q.l.map It.cells) :: .sl 143 4 vr (q.r.map Le.cells) :: F) w := by
  simp only [QR, Sep.ex_open, Sep.all_open, List.cons_append, List.nil_append]
theorem Sep.CR_open {cell ten : Int} {vg : Value} {c : Cp} : Sep r M (CR g cell ten vg c :: F) w ↔ ∃ vh gs gq gt vs vl vr,
    Sep r M (.blk g 95 [.int .i64 cell, .int .i64 ten, vh, .pointer (some ⟨gs, 0, none⟩), .pointer (some ⟨gq, 0, none⟩), .pointer (some ⟨gt, 0, none⟩), vg] ::
    .sl 30 8 vh (c.h.map Ch.cells) :: .blk gs 117 [vs] :: .sl 135 3 vs (c.s.map Ce.cells) ::
    .blk gq 121 [vl, vr, .int .i64 c.q.most] :: .sl 137 2 vl (c.q.l.map It.cells) :: .sl 143 4 vr (c.q.r.map Le.cells) ::
    .blk gt 58 c.t.cells.toList :: F) w := by
  simp only [CR, Sep.ex_open, Sep.all_open, List.cons_append, List.nil_append]
end

/-- The epoch of the last change. -/
def epochOf (h : List Ch) : Int := match h.getLast? with | some x => x.epoch | none => 0
theorem epochOf_eq {h : List Ch} (h0 : 0 < h.length) : epochOf h = (h[h.length - 1]'(by omega)).epoch := by
  unfold epochOf
  rw [List.getLast?_eq_getElem?, List.getElem?_eq_getElem (by omega)]

set_option maxHeartbeats 1000000 in
theorem epoch_z (g : Nat) (v0 v1 vh v3 v4 v5 v6 : Value) (h : List Ch) (r : World) (F : List Res) (w : World) (hS : Sep r [] (.blk g 95 [v0, v1, vh, v3, v4, v5, v6] :: F) w) (hrd : Reads r F 8 vh (h.map Ch.cells)) (hl : h.length ≤ 5000) :
    Calls Try.prog 88 #[.pointer (some ⟨g, 0, none⟩)] w fun e w' => e = .returned (.int .i64 (epochOf h)) ∧ Sep r [] (.blk g 95 [v0, v1, vh, v3, v4, v5, v6] :: F) w' := by
  obtain ⟨A, c, rfl, hc⟩ := (hrd [_] w hS).mform
  refine Z.enter Try.func88 Try.ntmps88 rfl rfl ?_
  repeat' (first
    | refine Z.pr rfl ?_
    | refine Z.eff (Z.ld hS rfl (by repeat (first | exact At.here | apply At.next)) rfl ?_) rfl
    | refine Z.eff (Z.ldR rfl (by assumption) rfl ?_) rfl
    | refine Z.eff (Z.ldE rfl (by assumption) rfl ?_) rfl
    | refine Z.sum rfl (by constructor <;> omega) ?_
    | (refine Z.eff (Z.st hS rfl (by repeat (first | exact At.here | apply At.next)) rfl rfl ?_) rfl; clear hS; intro w hS)
    | (refine Z.eff (Z.al hS ?_) rfl; clear hS; intro g w hS hge)
    | (refine Z.eff (Z.bx hS rfl ?_) rfl; clear hS; intro g w hS hge)
    | refine Z.ixn rfl rfl rfl (by omega) ?_
    | refine Z.pl (R.upto rfl rfl rfl (by omega)) ?_
    | refine Z.pl (R.since rfl rfl rfl (by omega)) ?_
    | refine Z.pl (R.span rfl rfl rfl rfl (by omega) (by omega)) ?_
    | refine Z.pl (R.whole rfl rfl) ?_
    | refine Z.pl (R.eqa rfl rfl rfl rfl) ?_
    | refine Z.pl (R.nea rfl rfl rfl rfl) ?_
    | refine Z.ix rfl rfl rfl (by omega) ?_
    | refine Z.ia rfl rfl rfl (by omega) ?_
    | refine Z.bu rfl rfl ?_
    | (refine Z.eff (Z.bs hS rfl rfl rfl ?_) rfl; clear hS; intro g w hS hge)
    | refine Z.gT rfl rfl ?_
    | refine Z.gF rfl rfl ?_
    | refine Z.gF0 rfl rfl ?_
    | (refine Z.gS rfl rfl ?_ ?_ <;> intro hb <;> (try simp only [decide_eq_true_eq, decide_eq_false_iff_not, Bool.not_eq_true', Bool.not_eq_false', Int.not_lt, Int.not_le] at hb) <;> (try (exfalso; omega)))
    | with_reducible refine Z.seq ?_
    | with_reducible refine Z.reg ?_
    | with_reducible refine Z.nil ?_
    | with_reducible refine Z.skip ?_
    | with_reducible refine Z.exit ?_
    | with_reducible refine Z.ret ?_
    | with_reducible refine Z.block ?_
    | with_reducible refine Z.thN ?_
    | with_reducible refine Z.thU ?_
    | with_reducible refine Z.thE ?_
    | with_reducible refine Z.thR ?_
    | with_reducible refine Z.blN ?_
    | with_reducible refine Z.blR ?_
    | with_reducible refine Z.blE ?_
    | (with_reducible refine Z.blX ?_ ?_; rotate_left; rfl)
    | refine Z.brT rfl ?_
    | refine Z.brF rfl ?_
    | (refine Z.br rfl ?_ ?_ <;> intro hb <;> (try simp only [decide_eq_true_eq, decide_eq_false_iff_not, Bool.not_eq_true', Bool.not_eq_false', Int.not_lt, Int.not_le] at hb) <;> (try (exfalso; omega))))
  · first | refine Z.done hS Try.results88 (Z.RV.tmp rfl Z.RV.nil) ?_ | refine Z.doneN hS Try.results88 (Z.RV.tmp rfl Z.RV.nil) ?_
    have : h = [] := List.eq_nil_of_length_eq_zero (by omega)
    exact ⟨by rw [this]; rfl, hS⟩
  · have h0 : 0 < h.length := by omega
    obtain ⟨gb, o, rfl, _, _⟩ := (hrd [_] w hS).mat (by omega) (q := h.length - 1) (by omega)
    have e0 : ((h.length : Int) - 1).toNat = h.length - 1 := by omega
    have hra : ∀ W, Sep r [] (.blk g 95 [v0, v1, .slice (some ⟨gb, o, none⟩) h.length c, v3, v4, v5, v6] :: F) W → W.rangeAt gb (o + ((h.length : Int) - 1).toNat * 8) (h[h.length - 1]'(by omega)).cells := fun W hW => by rw [e0]; exact (hrd [_] W hW).elem (by omega) (by omega)
    refine D.startS hS 14 14 (by kernel_rfl) rfl ?_
    replace hS := hS.drew
    refine D.pr 0 1 rfl D.wantedN (by kernel_rfl) rfl ?_
    refine D.pr 1 3 rfl D.wantedN (by kernel_rfl) rfl ?_
    refine D.pr 2 7 rfl D.wantedN (by kernel_rfl) rfl ?_
    refine D.pr 4 23 rfl D.wantedN (by kernel_rfl) rfl ?_
    refine D.pr 5 55 rfl D.wantedN (by kernel_rfl) rfl ?_
    refine D.pr 6 119 rfl D.wantedN (by kernel_rfl) rfl ?_
    refine D.ld 3 127 rfl D.wantedN (by kernel_rfl) rfl (fun W h => h.blk (by repeat (first | exact At.here | apply At.next))) rfl ?_
    refine D.ld 7 255 rfl D.wantedN (by kernel_rfl) rfl (fun W h => h.blk (by repeat (first | exact At.here | apply At.next))) rfl ?_
    refine D.pr 8 511 rfl D.wantedN (by kernel_rfl) rfl ?_
    first | refine D.sum 9 1023 rfl D.wantedN (by kernel_rfl) rfl (by constructor <;> omega) ?_ | refine D.sumW 9 1023 rfl D.wantedN (by kernel_rfl) rfl ?_
    first | refine D.ixn 10 2047 rfl D.wantedN (by kernel_rfl) rfl rfl rfl (by omega) ?_ | refine D.ix 10 2047 rfl D.wantedN (by kernel_rfl) rfl rfl rfl (by omega) ?_ | refine D.ia 10 2047 rfl D.wantedN (by kernel_rfl) rfl rfl rfl (by omega) ?_
    refine D.pr 11 4095 rfl D.wantedN (by kernel_rfl) rfl ?_
    refine D.ldE 12 8191 rfl D.wantedN (by kernel_rfl) rfl hra rfl ?_
    refine D.pr 13 16383 rfl D.wantedN (by kernel_rfl) rfl ?_
    refine D.done (by kernel_rfl) ?_
    repeat' (first
      | refine Z.pr rfl ?_
      | refine Z.eff (Z.ld hS rfl (by repeat (first | exact At.here | apply At.next)) rfl ?_) rfl
      | refine Z.eff (Z.ldR rfl (by assumption) rfl ?_) rfl
      | refine Z.eff (Z.ldE rfl (by assumption) rfl ?_) rfl
      | refine Z.sum rfl (by constructor <;> omega) ?_
      | (refine Z.eff (Z.st hS rfl (by repeat (first | exact At.here | apply At.next)) rfl rfl ?_) rfl; clear hS; intro w hS)
      | (refine Z.eff (Z.al hS ?_) rfl; clear hS; intro g w hS hge)
      | (refine Z.eff (Z.bx hS rfl ?_) rfl; clear hS; intro g w hS hge)
      | refine Z.ixn rfl rfl rfl (by omega) ?_
      | refine Z.pl (R.upto rfl rfl rfl (by omega)) ?_
      | refine Z.pl (R.since rfl rfl rfl (by omega)) ?_
      | refine Z.pl (R.span rfl rfl rfl rfl (by omega) (by omega)) ?_
      | refine Z.pl (R.whole rfl rfl) ?_
      | refine Z.pl (R.eqa rfl rfl rfl rfl) ?_
      | refine Z.pl (R.nea rfl rfl rfl rfl) ?_
      | refine Z.ix rfl rfl rfl (by omega) ?_
      | refine Z.ia rfl rfl rfl (by omega) ?_
      | refine Z.bu rfl rfl ?_
      | (refine Z.eff (Z.bs hS rfl rfl rfl ?_) rfl; clear hS; intro g w hS hge)
      | refine Z.gT rfl rfl ?_
      | refine Z.gF rfl rfl ?_
      | refine Z.gF0 rfl rfl ?_
      | (refine Z.gS rfl rfl ?_ ?_ <;> intro hb <;> (try simp only [decide_eq_true_eq, decide_eq_false_iff_not, Bool.not_eq_true', Bool.not_eq_false', Int.not_lt, Int.not_le] at hb) <;> (try (exfalso; omega)))
      | with_reducible refine Z.seq ?_
      | with_reducible refine Z.reg ?_
      | with_reducible refine Z.nil ?_
      | with_reducible refine Z.skip ?_
      | with_reducible refine Z.exit ?_
      | with_reducible refine Z.ret ?_
      | with_reducible refine Z.block ?_
      | with_reducible refine Z.thN ?_
      | with_reducible refine Z.thU ?_
      | with_reducible refine Z.thE ?_
      | with_reducible refine Z.thR ?_
      | with_reducible refine Z.blN ?_
      | with_reducible refine Z.blR ?_
      | with_reducible refine Z.blE ?_
      | (with_reducible refine Z.blX ?_ ?_; rotate_left; rfl)
      | refine Z.brT rfl ?_
      | refine Z.brF rfl ?_
      | (refine Z.br rfl ?_ ?_ <;> intro hb <;> (try simp only [decide_eq_true_eq, decide_eq_false_iff_not, Bool.not_eq_true', Bool.not_eq_false', Int.not_lt, Int.not_le] at hb) <;> (try (exfalso; omega))))
    first | refine Z.done hS Try.results88 (Z.RV.tmp rfl Z.RV.nil) ?_ | refine Z.doneN hS Try.results88 (Z.RV.tmp rfl Z.RV.nil) ?_
    exact ⟨by rw [epochOf_eq h0]; rfl, hS⟩

set_option maxHeartbeats 1000000 in
theorem cnew_z (cell ten : Int) (r : World) (F : List Res) (w : World) (hS : Sep r [] F w) :
    Calls Try.prog 47 #[.int .i64 cell, .int .i64 ten] w fun e w' => ∃ g gg, e = .returned (.pointer (some ⟨g, 0, none⟩)) ∧
      Sep r [] (CR g cell ten (.pointer (some ⟨gg, 0, none⟩)) .zero :: .blk gg 65 [.int .i64 cell, .int .i64 0, .slice none 0 0] :: F) w' := by
  refine Z.enter Try.func47 Try.ntmps47 rfl rfl ?_
  repeat' (first
    | refine Z.pr rfl ?_
    | refine Z.eff (Z.ld hS rfl (by repeat (first | exact At.here | apply At.next)) rfl ?_) rfl
    | refine Z.eff (Z.ldR rfl (by assumption) rfl ?_) rfl
    | refine Z.eff (Z.ldE rfl (by assumption) rfl ?_) rfl
    | refine Z.sum rfl (by constructor <;> omega) ?_
    | (refine Z.eff (Z.st hS rfl (by repeat (first | exact At.here | apply At.next)) rfl rfl ?_) rfl; clear hS; intro w hS)
    | (refine Z.eff (Z.al hS ?_) rfl; clear hS; intro g w hS hge)
    | (refine Z.eff (Z.bx hS rfl ?_) rfl; clear hS; intro g w hS hge)
    | refine Z.ixn rfl rfl rfl (by omega) ?_
    | refine Z.pl (R.upto rfl rfl rfl (by omega)) ?_
    | refine Z.pl (R.since rfl rfl rfl (by omega)) ?_
    | refine Z.pl (R.span rfl rfl rfl rfl (by omega) (by omega)) ?_
    | refine Z.pl (R.whole rfl rfl) ?_
    | refine Z.pl (R.eqa rfl rfl rfl rfl) ?_
    | refine Z.pl (R.nea rfl rfl rfl rfl) ?_
    | refine Z.ix rfl rfl rfl (by omega) ?_
    | refine Z.ia rfl rfl rfl (by omega) ?_
    | refine Z.bu rfl rfl ?_
    | (refine Z.eff (Z.bs hS rfl rfl rfl ?_) rfl; clear hS; intro g w hS hge)
    | refine Z.gT rfl rfl ?_
    | refine Z.gF rfl rfl ?_
    | refine Z.gF0 rfl rfl ?_
    | (refine Z.gS rfl rfl ?_ ?_ <;> intro hb <;> (try simp only [decide_eq_true_eq, decide_eq_false_iff_not, Bool.not_eq_true', Bool.not_eq_false', Int.not_lt, Int.not_le] at hb) <;> (try (exfalso; omega)))
    | with_reducible refine Z.seq ?_
    | with_reducible refine Z.reg ?_
    | with_reducible refine Z.nil ?_
    | with_reducible refine Z.skip ?_
    | with_reducible refine Z.exit ?_
    | with_reducible refine Z.ret ?_
    | with_reducible refine Z.block ?_
    | with_reducible refine Z.thN ?_
    | with_reducible refine Z.thU ?_
    | with_reducible refine Z.thE ?_
    | with_reducible refine Z.thR ?_
    | with_reducible refine Z.blN ?_
    | with_reducible refine Z.blR ?_
    | with_reducible refine Z.blE ?_
    | (with_reducible refine Z.blX ?_ ?_; rotate_left; rfl)
    | refine Z.brT rfl ?_
    | refine Z.brF rfl ?_
    | (refine Z.br rfl ?_ ?_ <;> intro hb <;> (try simp only [decide_eq_true_eq, decide_eq_false_iff_not, Bool.not_eq_true', Bool.not_eq_false', Int.not_lt, Int.not_le] at hb) <;> (try (exfalso; omega))))
  first | refine Z.done hS Try.results47 (Z.RV.tmp rfl Z.RV.nil) ?_ | refine Z.doneN hS Try.results47 (Z.RV.tmp rfl Z.RV.nil) ?_
  replace hS := Z.nilsl hS 30 8 none
  replace hS := Z.nilsl hS 135 3 none
  replace hS := Z.nilsl hS 137 2 none
  replace hS := Z.nilsl hS 143 4 none
  exact ⟨_, _, rfl, Sep.CR_open.2 ⟨_, _, _, _, _, _, _, hS.sub (by repeat (first | exact Sub.rest | exact Sub.nil | exact .skip .rest | exact .skip (.skip .rest) | exact .skip (.skip (.skip .rest)) | apply Sub.keep | refine Sub.cons (by repeat (first | exact At.here | apply At.next)) ?_ | apply Sub.skip))⟩⟩
/-! Apply of the parts, with one form of what is left. -/
theorem Sep.none {r w : World} {F : List Res} (h : Sep r [] F w) : Sep r [] (.pure True :: F) w := Sep.pure_open.2 ⟨trivial, h⟩
theorem Sep.swap {r w : World} {A B : Res} {F : List Res} (h : Sep r [] (A :: B :: F) w) : Sep r [] (B :: A :: F) w := h.sub (.cons (.next .here) .rest)
theorem sapply_u (gs : Nat) (l : List Ce) (v : Value) (x : Ch) (r : World) (F : List Res) (w : World) (hS : Sep r [] (.blk gs 117 [v] :: F) w) (hrd : Reads r F 3 v (l.map Ce.cells)) (hl : l.length ≤ 1000) :
    Calls Try.prog 90 #[.pointer (some ⟨gs, 0, none⟩), x.val] w fun e w' => e = .returned (.int .i64 (sApp l x).2) ∧
      ∃ v' Y, Sep r [] (.blk gs 117 [v'] :: Y :: F) w' ∧ ((v' = v ∧ (sApp l x).1 = l) ∨ Y = .sl 135 3 v' ((sApp l x).1.map Ce.cells)) := by
  refine (sapply_z gs l v x r F w hS hrd hl).mono ?_
  rintro e w' ⟨he, ⟨h1, hS⟩ | ⟨v', hS⟩⟩
  · exact ⟨he, v, _, hS.none.swap, .inl ⟨rfl, h1⟩⟩
  · exact ⟨he, v', _, hS, .inr rfl⟩
theorem qapply_u (gq : Nat) (q : Qu) (vl vr : Value) (x : Ch) (r : World) (F : List Res) (w : World) (hS : Sep r [] (.blk gq 121 [vl, vr, .int .i64 q.most] :: F) w) (hrd : Reads r F 2 vl (q.l.map It.cells)) (hrd' : Reads r F 4 vr (q.r.map Le.cells)) (hl : q.l.length ≤ 1000) (hl' : q.r.length ≤ 1000) :
    Calls Try.prog 91 #[.pointer (some ⟨gq, 0, none⟩), x.val] w fun e w' => e = .returned (.int .i64 (qApp q x).2) ∧
      ∃ v1 v2 Y1 Y2, Sep r [] (.blk gq 121 [v1, v2, .int .i64 (qApp q x).1.most] :: Y1 :: Y2 :: F) w' ∧ ((v1 = vl ∧ (qApp q x).1.l = q.l) ∨ Y1 = .sl 137 2 v1 ((qApp q x).1.l.map It.cells)) ∧ ((v2 = vr ∧ (qApp q x).1.r = q.r) ∨ Y2 = .sl 143 4 v2 ((qApp q x).1.r.map Le.cells)) := by
  refine (qapply_z gq q vl vr x r F w hS hrd hrd' hl hl').mono ?_
  rintro e w' ⟨he, ⟨h1, hS⟩ | ⟨h1, v1, hS⟩ | ⟨v1, v2, hS⟩⟩
  · exact ⟨he, vl, vr, .pure True, .pure True, by rw [h1]; exact hS.none.none.sub (.cons (.next (.next .here)) .rest), .inl ⟨rfl, by rw [h1]⟩, .inl ⟨rfl, by rw [h1]⟩⟩
  · exact ⟨he, v1, vr, _, .pure True, hS.none.sub (.cons (.next .here) (.cons (.next .here) .rest)), .inr rfl, .inl ⟨rfl, h1⟩⟩
  · exact ⟨he, v1, v2, _, _, hS, .inr rfl, .inr rfl⟩
end Go.Proofs.Ytppbjlakbmgfdaa
