/-
  The walks of the reference's copy of a tenant: New, Epoch.
  The walk of Apply of the reference's copy of a tenant.
-/
import Derived.Test.YtiabhlogadboeaaGreatV1
import Derived.Test.YtiabhlogadboeaaGreatQ1
import Derived.Test.YtiabhlogadboeaaGreatB1
namespace Go.Proofs.YtiabhlogadboeaaGreat
open Go.RowKit
set_option linter.unusedSimpArgs false
set_option linter.unusedVariables false
attribute [local irreducible] Res.blk Res.sl Res.all Res.ex Res.pure Res.star

/-- A copy of a tenant: its history, its store, its queue, its table. -/
structure Cp where
  h : List Ch
  s : List Ce
  q : Qu
  t : Tab
def Cp.zero : Cp := ⟨[], [], ⟨[], [], 0⟩, .zero⟩
/-- The resources of the reference's objects. -/
def SR (g : Nat) (l : List Ce) : Res := .ex fun v => .all [.blk g 139 [v], .sl 188 3 v (l.map Ce.cells)]
def QR (g : Nat) (q : Qu) : Res := .ex fun vl => .ex fun vr => .all [.blk g 144 [vl, vr, .int .i64 q.most], .sl 114 2 vl (q.l.map It.cells), .sl 126 4 vr (q.r.map Le.cells)]
def CR (g : Nat) (cell ten : Int) (vg : Value) (c : Cp) : Res := .ex fun vh => .ex fun gs => .ex fun gq => .ex fun gt => .ex fun vs => .ex fun vl => .ex fun vr =>
  .all [.blk g 54 [.int .i64 cell, .int .i64 ten, vh, .pointer (some ⟨gs, 0, none⟩), .pointer (some ⟨gq, 0, none⟩), .pointer (some ⟨gt, 0, none⟩), vg],
    .sl 90 8 vh (c.h.map Ch.cells), .blk gs 139 [vs], .sl 188 3 vs (c.s.map Ce.cells),
    .blk gq 144 [vl, vr, .int .i64 c.q.most], .sl 114 2 vl (c.q.l.map It.cells), .sl 126 4 vr (c.q.r.map Le.cells),
    .blk gt 136 c.t.cells.toList]
section
variable {r w : World} {M : List Nat} {F : List Res} {g : Nat}
theorem Sep.SR_open {l : List Ce} : Sep r M (SR g l :: F) w ↔ ∃ v, Sep r M (.blk g 139 [v] :: .sl 188 3 v (l.map Ce.cells) :: F) w := by
  simp only [SR, Sep.ex_open, Sep.all_open, List.cons_append, List.nil_append]
theorem Sep.QR_open {q : Qu} : Sep r M (QR g q :: F) w ↔ ∃ vl vr, Sep r M (.blk g 144 [vl, vr, .int .i64 q.most] :: .sl 114 2 vl (q.l.map It.cells) :: .sl 126 4 vr (q.r.map Le.cells) :: F) w := by
  simp only [QR, Sep.ex_open, Sep.all_open, List.cons_append, List.nil_append]
theorem Sep.CR_open {cell ten : Int} {vg : Value} {c : Cp} : Sep r M (CR g cell ten vg c :: F) w ↔ ∃ vh gs gq gt vs vl vr,
    Sep r M (.blk g 54 [.int .i64 cell, .int .i64 ten, vh, .pointer (some ⟨gs, 0, none⟩), .pointer (some ⟨gq, 0, none⟩), .pointer (some ⟨gt, 0, none⟩), vg] ::
    .sl 90 8 vh (c.h.map Ch.cells) :: .blk gs 139 [vs] :: .sl 188 3 vs (c.s.map Ce.cells) ::
    .blk gq 144 [vl, vr, .int .i64 c.q.most] :: .sl 114 2 vl (c.q.l.map It.cells) :: .sl 126 4 vr (c.q.r.map Le.cells) ::
    .blk gt 136 c.t.cells.toList :: F) w := by
  simp only [CR, Sep.ex_open, Sep.all_open, List.cons_append, List.nil_append]
end

/-- The epoch of the last change. -/
def epochOf (h : List Ch) : Int := match h.getLast? with | some x => x.epoch | none => 0
theorem epochOf_eq {h : List Ch} (h0 : 0 < h.length) : epochOf h = (h[h.length - 1]'(by omega)).epoch := by
  unfold epochOf
  rw [List.getLast?_eq_getElem?, List.getElem?_eq_getElem (by omega)]

set_option maxHeartbeats 1000000 in
theorem epoch_z (g : Nat) (v0 v1 vh v3 v4 v5 v6 : Value) (h : List Ch) (r : World) (F : List Res) (w : World) (hS : Sep r [] (.blk g 54 [v0, v1, vh, v3, v4, v5, v6] :: F) w) (hrd : Reads r F 8 vh (h.map Ch.cells)) (hl : h.length ≤ 5000) :
    Calls Tryz.prog 82 #[.pointer (some ⟨g, 0, none⟩)] w fun e w' => e = .returned (.int .i64 (epochOf h)) ∧ Sep r [] (.blk g 54 [v0, v1, vh, v3, v4, v5, v6] :: F) w' := by
  obtain ⟨A, c, rfl, hc⟩ := (hrd [_] w hS).mform
  refine Z.enter Tryz.func82 Tryz.ntmps82 rfl rfl ?_
  repeat' (first|refine K ?_|(refine Sh.sa hS ?_;clear hS;intro w hS)|(refine K3 ?_;clear hS;intro g w hS hge)|((first|refine GS ?_ ?_|refine VB ?_ ?_)<;>intro hb<;>(try simp only [J1,J2,J3,J4,J5,J6] at hb)<;>(try (exfalso;first|omega|exact hb trivial))))
  · refine Dnt Tryz.results82 ?_
    have : h = [] := List.eq_nil_of_length_eq_zero (by omega)
    exact ⟨by rw [this]; rfl, hS⟩
  · have h0 : 0 < h.length := by omega
    obtain ⟨gb, o, rfl, _, _⟩ := (hrd [_] w hS).mat (by omega) (q := h.length - 1) (by omega)
    have e0 : ((h.length : Int) - 1).toNat = h.length - 1 := by omega
    have hra : ∀ W, Sep r [] (.blk g 54 [v0, v1, .slice (some ⟨gb, o, none⟩) h.length c, v3, v4, v5, v6] :: F) W → W.rangeAt gb (o + ((h.length : Int) - 1).toNat * 8) (h[h.length - 1]'(by omega)).cells := fun W hW => by rw [e0]; exact (hrd [_] W hW).elem (by omega) (by omega)
    refine D.startS hS 14 14 (by kernel_rfl) rfl ?_
    replace hS := hS.drew
    refine Sh.dp 0 1 ?_
    refine Sh.dp 1 3 ?_
    refine Sh.dp 2 7 ?_
    refine Sh.dp 4 23 ?_
    refine Sh.dp 5 55 ?_
    refine Sh.dp 6 119 ?_
    refine Sh.dl 3 127 ?_
    refine Sh.dl 7 255 ?_
    refine Sh.dp 8 511 ?_
    first | refine D.sum 9 1023 rfl D.wantedN (by kernel_rfl) rfl (by constructor <;> omega) ?_ | refine D.sumW 9 1023 rfl D.wantedN (by kernel_rfl) rfl ?_
    first | refine D.ixn 10 2047 rfl D.wantedN (by kernel_rfl) rfl rfl rfl (by omega) ?_ | refine D.ix 10 2047 rfl D.wantedN (by kernel_rfl) rfl rfl rfl (by omega) ?_ | refine D.ia 10 2047 rfl D.wantedN (by kernel_rfl) rfl rfl rfl (by omega) ?_
    refine Sh.dp 11 4095 ?_
    refine D.ldE 12 8191 rfl D.wantedN (by kernel_rfl) rfl hra rfl ?_
    refine Sh.dp 13 16383 ?_
    refine D.done (by kernel_rfl) ?_
    repeat' (first|refine K ?_|(refine Sh.sa hS ?_;clear hS;intro w hS)|(refine K3 ?_;clear hS;intro g w hS hge)|((first|refine GS ?_ ?_|refine VB ?_ ?_)<;>intro hb<;>(try simp only [J1,J2,J3,J4,J5,J6] at hb)<;>(try (exfalso;first|omega|exact hb trivial))))
    refine Dnt Tryz.results82 ?_
    exact ⟨by rw [epochOf_eq h0]; rfl, hS⟩

set_option maxHeartbeats 1000000 in
theorem cnew_z (cell ten : Int) (r : World) (F : List Res) (w : World) (hS : Sep r [] F w) :
    Calls Tryz.prog 52 #[.int .i64 cell, .int .i64 ten] w fun e w' => ∃ g gg, e = .returned (.pointer (some ⟨g, 0, none⟩)) ∧
      Sep r [] (CR g cell ten (.pointer (some ⟨gg, 0, none⟩)) .zero :: .blk gg 47 [.int .i64 cell, .int .i64 0, .slice none 0 0] :: F) w' := by
  refine Z.enter Tryz.func52 Tryz.ntmps52 rfl rfl ?_
  repeat' (first|refine K ?_|(refine Sh.sa hS ?_;clear hS;intro w hS)|(refine K3 ?_;clear hS;intro g w hS hge)|((first|refine GS ?_ ?_|refine VB ?_ ?_)<;>intro hb<;>(try simp only [J1,J2,J3,J4,J5,J6] at hb)<;>(try (exfalso;first|omega|exact hb trivial))))
  refine Dnt Tryz.results52 ?_
  replace hS := Z.nilsl hS 90 8 none
  replace hS := Z.nilsl hS 188 3 none
  replace hS := Z.nilsl hS 114 2 none
  replace hS := Z.nilsl hS 126 4 none
  exact ⟨_, _, rfl, Sep.CR_open.2 ⟨_, _, _, _, _, _, _, hS.sb⟩⟩
/-! Apply of the parts, with one form of what is left. -/
theorem Sep.none {r w : World} {F : List Res} (h : Sep r [] F w) : Sep r [] (.pure True :: F) w := Sep.pure_open.2 ⟨trivial, h⟩
theorem Sep.swap {r w : World} {A B : Res} {F : List Res} (h : Sep r [] (A :: B :: F) w) : Sep r [] (B :: A :: F) w := h.sub (.cons (.next .here) .rest)
theorem sapply_u (gs : Nat) (l : List Ce) (v : Value) (x : Ch) (r : World) (F : List Res) (w : World) (hS : Sep r [] (.blk gs 139 [v] :: F) w) (hrd : Reads r F 3 v (l.map Ce.cells)) (hl : l.length ≤ 1000) :
    Calls Tryz.prog 85 #[.pointer (some ⟨gs, 0, none⟩), x.val] w fun e w' => e = .returned (.int .i64 (sApp l x).2) ∧
      ∃ v' Y, Sep r [] (.blk gs 139 [v'] :: Y :: F) w' ∧ ((v' = v ∧ (sApp l x).1 = l) ∨ Y = .sl 188 3 v' ((sApp l x).1.map Ce.cells)) := by
  refine (sapply_z gs l v x r F w hS hrd hl).mono ?_
  rintro e w' ⟨he, ⟨h1, hS⟩ | ⟨v', hS⟩⟩
  · exact ⟨he, v, _, hS.none.swap, .inl ⟨rfl, h1⟩⟩
  · exact ⟨he, v', _, hS, .inr rfl⟩
theorem qapply_u (gq : Nat) (q : Qu) (vl vr : Value) (x : Ch) (r : World) (F : List Res) (w : World) (hS : Sep r [] (.blk gq 144 [vl, vr, .int .i64 q.most] :: F) w) (hrd : Reads r F 2 vl (q.l.map It.cells)) (hrd' : Reads r F 4 vr (q.r.map Le.cells)) (hl : q.l.length ≤ 1000) (hl' : q.r.length ≤ 1000) :
    Calls Tryz.prog 86 #[.pointer (some ⟨gq, 0, none⟩), x.val] w fun e w' => e = .returned (.int .i64 (qApp q x).2) ∧
      ∃ v1 v2 Y1 Y2, Sep r [] (.blk gq 144 [v1, v2, .int .i64 (qApp q x).1.most] :: Y1 :: Y2 :: F) w' ∧ ((v1 = vl ∧ (qApp q x).1.l = q.l) ∨ Y1 = .sl 114 2 v1 ((qApp q x).1.l.map It.cells)) ∧ ((v2 = vr ∧ (qApp q x).1.r = q.r) ∨ Y2 = .sl 126 4 v2 ((qApp q x).1.r.map Le.cells)) := by
  refine (qapply_z gq q vl vr x r F w hS hrd hrd' hl hl').mono ?_
  rintro e w' ⟨he, ⟨h1, hS⟩ | ⟨h1, v1, hS⟩ | ⟨v1, v2, hS⟩⟩
  · exact ⟨he, vl, vr, .pure True, .pure True, by rw [h1]; exact hS.none.none.sub (.cons (.next (.next .here)) .rest), .inl ⟨rfl, by rw [h1]⟩, .inl ⟨rfl, by rw [h1]⟩⟩
  · exact ⟨he, v1, vr, _, .pure True, hS.none.sub (.cons (.next .here) (.cons (.next .here) .rest)), .inr rfl, .inl ⟨rfl, h1⟩⟩
  · exact ⟨he, v1, v2, _, _, hS, .inr rfl, .inr rfl⟩
end Go.Proofs.YtiabhlogadboeaaGreat

namespace Go.Proofs.YtiabhlogadboeaaGreat
open Go.RowKit
set_option linter.unusedSimpArgs false
set_option linter.unusedVariables false
attribute [local irreducible] Res.blk Res.sl Res.all Res.ex Res.pure Res.star

/-- What Apply makes of a copy, and what it answers. -/
def cApp (c : Cp) (x : Ch) : Cp × Int :=
  if validB x then
    if x.seq = (c.h.length : Int) + 1 ∧ epochOf c.h ≤ x.epoch then
      if (tApp c.t x).2 ≠ 0 then (c, (tApp c.t x).2)
      else if (sApp c.s x).2 ≠ 0 then (c, (sApp c.s x).2)
      else if (qApp c.q x).2 ≠ 0 then (c, (qApp c.q x).2)
      else (⟨c.h ++ [x], (sApp c.s x).1, (qApp c.q x).1, (tApp c.t x).1⟩, 0)
    else (c, 36)
  else (c, 1)

set_option maxRecDepth 10000 in
set_option maxHeartbeats 4000000 in
theorem capply_z (gc : Nat) (cell ten : Int) (vg : Value) (c : Cp) (x : Ch) (r : World) (F : List Res) (w : World) (hS : Sep r [] (CR gc cell ten vg c :: F) w) (hok : c.t.ok) (l1 : c.h.length ≤ 4000) (l2 : c.s.length ≤ 1000) (l3 : c.q.l.length ≤ 1000) (l4 : c.q.r.length ≤ 1000) :
    Calls Tryz.prog 47 #[.pointer (some ⟨gc, 0, none⟩), x.val] w fun e w' => e = .returned (.int .i64 (cApp c x).2) ∧ Sep r [] (CR gc cell ten vg (cApp c x).1 :: F) w' := by
  obtain ⟨vh, gs, gq, gt, vs, vl, vr, hS⟩ := Sep.CR_open.1 hS
  obtain ⟨Ah, ch, rfl, hch⟩ := (hS.slrows (.next .here)).mform
  obtain ⟨As, cs, rfl, hcs⟩ := (hS.slrows (.next (.next (.next .here)))).mform
  refine Z.enter Tryz.func47 Tryz.ntmps47 rfl rfl ?_
  repeat' (first|refine K ?_|(refine Sh.sa hS ?_;clear hS;intro w hS)|(refine K3 ?_;clear hS;intro g w hS hge)|((first|refine GS ?_ ?_|refine VB ?_ ?_)<;>intro hb<;>(try simp only [J1,J2,J3,J4,J5,J6] at hb)<;>(try (exfalso;first|omega|exact hb trivial))))
  rename Nat => gx
  refine Z.eff (Z.cl (valid_any x _) rfl ?_) rfl
  rintro e w' ⟨rfl, hC⟩
  refine ⟨_, rfl, ?_⟩
  replace hS := hS.ext hC
  clear hC
  repeat' (first|refine K ?_|(refine Sh.sa hS ?_;clear hS;intro w hS)|(refine K3 ?_;clear hS;intro g w hS hge)|((first|refine GS ?_ ?_|refine VB ?_ ?_)<;>intro hb<;>(try simp only [J1,J2,J3,J4,J5,J6] at hb)<;>(try (exfalso;first|omega|exact hb trivial))))
  · refine Dnt Tryz.results47 ?_
    have e : cApp c x = (c, 1) := by simp [cApp, hb]
    rw [e]
    exact ⟨rfl, Sep.CR_open.2 ⟨_, _, _, _, _, _, _, hS.sb⟩⟩
  refine Z.cut [13, 14, 15, 16, 17, 18, 19, 20, 21, 22, 23, 24, 25, 26, 27, 28] (fun w s => s = [(28, .bool (!decide (x.seq = (c.h.length : Int) + 1 ∧ epochOf c.h ≤ x.epoch)))] ∧ Sep r [] (.blk gx 90 x.cells.toArray.toList :: .blk gc 54 [.int .i64 cell, .int .i64 ten, .slice Ah c.h.length ch, .pointer (some ⟨gs, 0, none⟩), .pointer (some ⟨gq, 0, none⟩), .pointer (some ⟨gt, 0, none⟩), vg] :: .sl 90 8 (.slice Ah c.h.length ch) (c.h.map Ch.cells) :: .blk gs 139 [(.slice As c.s.length cs)] :: .sl 188 3 (.slice As c.s.length cs) (c.s.map Ce.cells) :: .blk gq 144 [vl, vr, .int .i64 c.q.most] :: .sl 114 2 vl (c.q.l.map It.cells) :: .sl 126 4 vr (c.q.r.map Le.cells) :: .blk gt 136 c.t.cells.toList :: F) w) ?_ ?_
  · refine D.startS hS 16 16 (by kernel_rfl) rfl ?_
    replace hS := hS.drew
    refine Sh.dp 0 1 ?_
    refine Sh.dp 2 5 ?_
    refine Sh.dp 3 13 ?_
    refine Sh.dp 4 29 ?_
    refine Sh.dl 1 31 ?_
    refine Sh.dl 5 63 ?_
    refine Sh.dp 6 127 ?_
    first | refine D.sum 7 255 rfl D.wantedN (by kernel_rfl) rfl (by constructor <;> omega) ?_ | refine D.sumW 7 255 rfl D.wantedN (by kernel_rfl) rfl ?_
    first | refine D.pr 8 511 rfl D.wantedN (by kernel_rfl) rfl ?_ | refine D.pl 8 511 rfl D.wantedN (by kernel_rfl) (R.nea rfl rfl rfl rfl) ?_
    refine Sh.dp 9 1023 ?_
    refine D.slot 22 rfl (fun hb => ?_) (fun hb => ?_)
    · (try simp only [decide_eq_true_eq, decide_eq_false_iff_not, Bool.not_eq_true', Bool.not_eq_false', Int.not_lt, Int.not_le] at hb)
      refine D.skF 10 2047 rfl (by kernel_rfl) rfl rfl ?_
      refine D.skF 11 4095 rfl (by kernel_rfl) rfl rfl ?_
      refine D.skF 12 8191 rfl (by kernel_rfl) rfl rfl ?_
      refine D.skF 13 16383 rfl (by kernel_rfl) rfl rfl ?_
      refine D.skF 14 32767 rfl (by kernel_rfl) rfl rfl ?_
      refine Sh.dp 15 65535 ?_
      refine D.done (by kernel_rfl) ?_
      refine Sh.cut [(28, _)] ?_
      refine ⟨?_, hS.sb⟩
      by_cases he : x.epoch < epochOf c.h
      · have he' : ¬ epochOf c.h ≤ x.epoch := by omega
        simp [hb, he, he']
      · have he' : epochOf c.h ≤ x.epoch := by omega
        simp [hb, he, he']
    · (try simp only [decide_eq_true_eq, decide_eq_false_iff_not, Bool.not_eq_true', Bool.not_eq_false', Int.not_lt, Int.not_le] at hb)
      refine Sh.dp 10 2047 ?_
      refine Sh.dp 12 6143 ?_
      refine Sh.dl 11 8191 ?_
      refine D.eff 13 16383 rfl (D.wantedT rfl rfl) (by kernel_rfl) (by kernel_rfl) (fun _ _ h => h) ?_
      refine WE.guard ?_
      replace hS := hS.fo (R := .blk gc _ _)
      refine Z.cl (epoch_z gc _ _ _ _ _ _ _ c.h r _ _ hS (Reads.of_at (by repeat (first | exact At.here | apply At.next))) (by omega)) rfl ?_
      clear hS
      rintro e w ⟨rfl, hS⟩
      refine ⟨_, rfl, ?_⟩
      refine ⟨HM.s (hS.sb), ?_⟩
      refine Sh.dp 14 32767 ?_
      refine Sh.dp 15 65535 ?_
      refine D.done (by kernel_rfl) ?_
      refine Sh.cut [(28, _)] ?_
      refine ⟨?_, hS.sb⟩
      by_cases he : x.epoch < epochOf c.h
      · have he' : ¬ epochOf c.h ≤ x.epoch := by omega
        simp [hb, he, he']
      · have he' : epochOf c.h ≤ x.epoch := by omega
        simp [hb, he, he']
  clear hS
  rintro g0 w _ ⟨rfl, hS⟩
  repeat' (first|refine K ?_|(refine Sh.sa hS ?_;clear hS;intro w hS)|(refine K3 ?_;clear hS;intro g w hS hge)|((first|refine GS ?_ ?_|refine VB ?_ ?_)<;>intro hb<;>(try simp only [J1,J2,J3,J4,J5,J6] at hb)<;>(try (exfalso;first|omega|exact hb trivial))))
  · refine Dnt Tryz.results47 ?_
    have e : cApp c x = (c, 36) := by simp only [cApp, *]; simp [hb]
    rw [e]
    exact ⟨rfl, Sep.CR_open.2 ⟨_, _, _, _, _, _, _, hS.sb⟩⟩
  refine Z.cut [5, 6, 7, 29, 30, 31, 32, 33, 34, 35, 36, 37, 38, 39, 40, 41, 42, 43, 44, 45, 46, 47, 48] (fun w s => ∃ gT gS gQ v1 v2, s = [(5, .pointer (some ⟨gT, 0, none⟩)), (6, .pointer (some ⟨gS, 0, none⟩)), (7, .pointer (some ⟨gQ, 0, none⟩))] ∧ Sep r [] (.blk gT 136 c.t.cells.toList :: .blk gS 139 [(.slice As c.s.length cs)] ::
    .blk gQ 144 [v1, v2, .int .i64 c.q.most] :: .sl 114 2 v1 (c.q.l.map It.cells) :: .sl 126 4 v2 (c.q.r.map Le.cells) :: .blk gx 90 x.cells.toArray.toList :: .blk gc 54 [.int .i64 cell, .int .i64 ten, .slice Ah c.h.length ch, .pointer (some ⟨gs, 0, none⟩), .pointer (some ⟨gq, 0, none⟩), .pointer (some ⟨gt, 0, none⟩), vg] :: .sl 90 8 (.slice Ah c.h.length ch) (c.h.map Ch.cells) :: .blk gs 139 [(.slice As c.s.length cs)] :: .sl 188 3 (.slice As c.s.length cs) (c.s.map Ce.cells) :: .blk gq 144 [vl, vr, .int .i64 c.q.most] :: .sl 114 2 vl (c.q.l.map It.cells) :: .sl 126 4 vr (c.q.r.map Le.cells) :: .blk gt 136 c.t.cells.toList :: F) w) ?_ ?_
  · refine D.startS hS 21 24 (by kernel_rfl) rfl ?_
    replace hS := hS.drew
    refine Sh.dp 0 1 ?_
    refine Sh.dp 1 3 ?_
    refine Sh.dp 2 7 ?_
    refine Sh.dp 6 71 ?_
    refine Sh.dp 7 199 ?_
    refine Sh.dp 8 455 ?_
    refine Sh.dp 15 33223 ?_
    refine Sh.dp 16 98759 ?_
    refine Sh.dp 17 229831 ?_
    refine Sh.dl 3 229839 ?_
    refine Sh.dp 4 229855 ?_
    refine Sh.dl 5 229887 ?_
    refine Sh.dl 9 230399 ?_
    refine Sh.dp 10 231423 ?_
    refine Sh.dp 11 233471 ?_
    refine Sh.dl 12 237567 ?_
    first | refine D.bu 13 245759 rfl D.wantedN (by kernel_rfl) rfl rfl ?_ | refine D.buA 13 245759 rfl D.wantedN (by kernel_rfl) rfl rfl ?_
    refine Sh.dl 18 507903 ?_
    refine D.each [14, 19, 20] (by kernel_rfl) rfl ?_
    refine D.econs 14 524287 rfl D.wantedN (by kernel_rfl) (fun _ _ h => h) ?_ ?_
    · refine Z.bx hS rfl ?_
      clear hS; intro g w hS hge
      refine ⟨HM.s (hS.sb), ?_⟩
      refine D.each [19, 20] (by kernel_rfl) rfl ?_
      refine D.econs 19 1048575 rfl D.wantedN (by kernel_rfl) (fun _ _ h => h) ?_ ?_
      · replace hS := hS.fo (R := .blk gq _ _)
        refine Z.cl (qcopy_z gq c.q.l c.q.r _ _ _ r _ _ hS (Reads.of_at (by repeat (first | exact At.here | apply At.next))) (Reads.of_at (by repeat (first | exact At.here | apply At.next))) l3 l4) rfl ?_
        clear hS
        rintro e w ⟨gQ, v1, v2, rfl, hS⟩
        refine ⟨_, rfl, ?_⟩
        refine ⟨HM.s (hS.sb), ?_⟩
        refine D.eff 20 2097151 rfl D.wantedN (by kernel_rfl) (by kernel_rfl) (fun _ _ h => h) ?_
        refine Z.al hS ?_
        clear hS; intro g w hS hge
        refine ⟨HM.s (hS.sb), ?_⟩
        refine D.eff 21 4194303 rfl D.wantedN (by kernel_rfl) (by kernel_rfl) (fun _ _ h => h) ?_
        refine Z.st hS rfl (by repeat (first | exact At.here | apply At.next)) rfl rfl ?_
        clear hS; intro w hS
        refine ⟨HM.last (by kernel_rfl), ?_⟩
        refine Sh.dp 22 8388607 ?_
        refine Sh.dp 23 16777215 ?_
        refine D.done (by kernel_rfl) ?_
        refine Sh.cut [(5, _), (6, _), (7, _)] ?_
        exact ⟨_, _, _, _, _, rfl, hS.sb⟩
      refine D.econs 20 1572863 rfl D.wantedN (by kernel_rfl) (fun _ _ h => h) ?_ ?_
      · refine Z.al hS ?_
        clear hS; intro g w hS hge
        refine ⟨HM.s (hS.sb), ?_⟩
        refine D.eff 19 2097151 rfl D.wantedN (by kernel_rfl) (by kernel_rfl) (fun _ _ h => h) ?_
        replace hS := hS.fo (R := .blk gq _ _)
        refine Z.cl (qcopy_z gq c.q.l c.q.r _ _ _ r _ _ hS (Reads.of_at (by repeat (first | exact At.here | apply At.next))) (Reads.of_at (by repeat (first | exact At.here | apply At.next))) l3 l4) rfl ?_
        clear hS
        rintro e w ⟨gQ, v1, v2, rfl, hS⟩
        refine ⟨_, rfl, ?_⟩
        refine ⟨HM.s (hS.sb), ?_⟩
        refine D.eff 21 4194303 rfl D.wantedN (by kernel_rfl) (by kernel_rfl) (fun _ _ h => h) ?_
        refine Z.st hS rfl (by repeat (first | exact At.here | apply At.next)) rfl rfl ?_
        clear hS; intro w hS
        refine ⟨HM.last (by kernel_rfl), ?_⟩
        refine Sh.dp 22 8388607 ?_
        refine Sh.dp 23 16777215 ?_
        refine D.done (by kernel_rfl) ?_
        refine Sh.cut [(5, _), (6, _), (7, _)] ?_
        exact ⟨_, _, _, _, _, rfl, hS.sb⟩
      exact D.enil
    refine D.econs 19 1032191 rfl D.wantedN (by kernel_rfl) (fun _ _ h => h) ?_ ?_
    · replace hS := hS.fo (R := .blk gq _ _)
      refine Z.cl (qcopy_z gq c.q.l c.q.r _ _ _ r _ _ hS (Reads.of_at (by repeat (first | exact At.here | apply At.next))) (Reads.of_at (by repeat (first | exact At.here | apply At.next))) l3 l4) rfl ?_
      clear hS
      rintro e w ⟨gQ, v1, v2, rfl, hS⟩
      refine ⟨_, rfl, ?_⟩
      refine ⟨HM.s (hS.sb), ?_⟩
      refine D.each [14, 20] (by kernel_rfl) rfl ?_
      refine D.econs 14 1048575 rfl D.wantedN (by kernel_rfl) (fun _ _ h => h) ?_ ?_
      · refine Z.bx hS rfl ?_
        clear hS; intro g w hS hge
        refine ⟨HM.s (hS.sb), ?_⟩
        refine D.eff 20 2097151 rfl D.wantedN (by kernel_rfl) (by kernel_rfl) (fun _ _ h => h) ?_
        refine Z.al hS ?_
        clear hS; intro g w hS hge
        refine ⟨HM.s (hS.sb), ?_⟩
        refine D.eff 21 4194303 rfl D.wantedN (by kernel_rfl) (by kernel_rfl) (fun _ _ h => h) ?_
        refine Z.st hS rfl (by repeat (first | exact At.here | apply At.next)) rfl rfl ?_
        clear hS; intro w hS
        refine ⟨HM.last (by kernel_rfl), ?_⟩
        refine Sh.dp 22 8388607 ?_
        refine Sh.dp 23 16777215 ?_
        refine D.done (by kernel_rfl) ?_
        refine Sh.cut [(5, _), (6, _), (7, _)] ?_
        exact ⟨_, _, _, _, _, rfl, hS.sb⟩
      refine D.econs 20 2080767 rfl D.wantedN (by kernel_rfl) (fun _ _ h => h) ?_ ?_
      · refine Z.al hS ?_
        clear hS; intro g w hS hge
        refine ⟨HM.s (hS.sb), ?_⟩
        refine D.each [14, 21] (by kernel_rfl) rfl ?_
        refine D.econs 14 2097151 rfl D.wantedN (by kernel_rfl) (fun _ _ h => h) ?_ ?_
        · refine Z.bx hS rfl ?_
          clear hS; intro g w hS hge
          refine ⟨HM.s (hS.sb), ?_⟩
          refine D.eff 21 4194303 rfl D.wantedN (by kernel_rfl) (by kernel_rfl) (fun _ _ h => h) ?_
          refine Z.st hS rfl (by repeat (first | exact At.here | apply At.next)) rfl rfl ?_
          clear hS; intro w hS
          refine ⟨HM.last (by kernel_rfl), ?_⟩
          refine Sh.dp 22 8388607 ?_
          refine Sh.dp 23 16777215 ?_
          refine D.done (by kernel_rfl) ?_
          refine Sh.cut [(5, _), (6, _), (7, _)] ?_
          exact ⟨_, _, _, _, _, rfl, hS.sb⟩
        refine D.econs 21 4177919 rfl D.wantedN (by kernel_rfl) (fun _ _ h => h) ?_ ?_
        · refine Z.st hS rfl (by repeat (first | exact At.here | apply At.next)) rfl rfl ?_
          clear hS; intro w hS
          refine ⟨HM.last (by kernel_rfl), ?_⟩
          refine D.eff 14 4194303 rfl D.wantedN (by kernel_rfl) (by kernel_rfl) (fun _ _ h => h) ?_
          refine Z.bx hS rfl ?_
          clear hS; intro g w hS hge
          refine ⟨HM.last (by kernel_rfl), ?_⟩
          refine Sh.dp 22 8388607 ?_
          refine Sh.dp 23 16777215 ?_
          refine D.done (by kernel_rfl) ?_
          refine Sh.cut [(5, _), (6, _), (7, _)] ?_
          exact ⟨_, _, _, _, _, rfl, hS.sb⟩
        exact D.enil
      exact D.enil
    refine D.econs 20 1556479 rfl D.wantedN (by kernel_rfl) (fun _ _ h => h) ?_ ?_
    · refine Z.al hS ?_
      clear hS; intro g w hS hge
      refine ⟨HM.s (hS.sb), ?_⟩
      refine D.each [14, 19] (by kernel_rfl) rfl ?_
      refine D.econs 14 1572863 rfl D.wantedN (by kernel_rfl) (fun _ _ h => h) ?_ ?_
      · refine Z.bx hS rfl ?_
        clear hS; intro g w hS hge
        refine ⟨HM.s (hS.sb), ?_⟩
        refine D.eff 19 2097151 rfl D.wantedN (by kernel_rfl) (by kernel_rfl) (fun _ _ h => h) ?_
        replace hS := hS.fo (R := .blk gq _ _)
        refine Z.cl (qcopy_z gq c.q.l c.q.r _ _ _ r _ _ hS (Reads.of_at (by repeat (first | exact At.here | apply At.next))) (Reads.of_at (by repeat (first | exact At.here | apply At.next))) l3 l4) rfl ?_
        clear hS
        rintro e w ⟨gQ, v1, v2, rfl, hS⟩
        refine ⟨_, rfl, ?_⟩
        refine ⟨HM.s (hS.sb), ?_⟩
        refine D.eff 21 4194303 rfl D.wantedN (by kernel_rfl) (by kernel_rfl) (fun _ _ h => h) ?_
        refine Z.st hS rfl (by repeat (first | exact At.here | apply At.next)) rfl rfl ?_
        clear hS; intro w hS
        refine ⟨HM.last (by kernel_rfl), ?_⟩
        refine Sh.dp 22 8388607 ?_
        refine Sh.dp 23 16777215 ?_
        refine D.done (by kernel_rfl) ?_
        refine Sh.cut [(5, _), (6, _), (7, _)] ?_
        exact ⟨_, _, _, _, _, rfl, hS.sb⟩
      refine D.econs 19 2080767 rfl D.wantedN (by kernel_rfl) (fun _ _ h => h) ?_ ?_
      · replace hS := hS.fo (R := .blk gq _ _)
        refine Z.cl (qcopy_z gq c.q.l c.q.r _ _ _ r _ _ hS (Reads.of_at (by repeat (first | exact At.here | apply At.next))) (Reads.of_at (by repeat (first | exact At.here | apply At.next))) l3 l4) rfl ?_
        clear hS
        rintro e w ⟨gQ, v1, v2, rfl, hS⟩
        refine ⟨_, rfl, ?_⟩
        refine ⟨HM.s (hS.sb), ?_⟩
        refine D.each [14, 21] (by kernel_rfl) rfl ?_
        refine D.econs 14 2097151 rfl D.wantedN (by kernel_rfl) (fun _ _ h => h) ?_ ?_
        · refine Z.bx hS rfl ?_
          clear hS; intro g w hS hge
          refine ⟨HM.s (hS.sb), ?_⟩
          refine D.eff 21 4194303 rfl D.wantedN (by kernel_rfl) (by kernel_rfl) (fun _ _ h => h) ?_
          refine Z.st hS rfl (by repeat (first | exact At.here | apply At.next)) rfl rfl ?_
          clear hS; intro w hS
          refine ⟨HM.last (by kernel_rfl), ?_⟩
          refine Sh.dp 22 8388607 ?_
          refine Sh.dp 23 16777215 ?_
          refine D.done (by kernel_rfl) ?_
          refine Sh.cut [(5, _), (6, _), (7, _)] ?_
          exact ⟨_, _, _, _, _, rfl, hS.sb⟩
        refine D.econs 21 4177919 rfl D.wantedN (by kernel_rfl) (fun _ _ h => h) ?_ ?_
        · refine Z.st hS rfl (by repeat (first | exact At.here | apply At.next)) rfl rfl ?_
          clear hS; intro w hS
          refine ⟨HM.last (by kernel_rfl), ?_⟩
          refine D.eff 14 4194303 rfl D.wantedN (by kernel_rfl) (by kernel_rfl) (fun _ _ h => h) ?_
          refine Z.bx hS rfl ?_
          clear hS; intro g w hS hge
          refine ⟨HM.last (by kernel_rfl), ?_⟩
          refine Sh.dp 22 8388607 ?_
          refine Sh.dp 23 16777215 ?_
          refine D.done (by kernel_rfl) ?_
          refine Sh.cut [(5, _), (6, _), (7, _)] ?_
          exact ⟨_, _, _, _, _, rfl, hS.sb⟩
        exact D.enil
      exact D.enil
    exact D.enil
  clear hS
  rintro g1 w _ ⟨gT, gS, gQ, v1, v2, rfl, hS⟩
  repeat' (first|refine K ?_|(refine Sh.sa hS ?_;clear hS;intro w hS)|(refine K3 ?_;clear hS;intro g w hS hge)|((first|refine GS ?_ ?_|refine VB ?_ ?_)<;>intro hb<;>(try simp only [J1,J2,J3,J4,J5,J6] at hb)<;>(try (exfalso;first|omega|exact hb trivial))))
  refine Z.cut [49, 50, 51, 52, 53, 54, 55, 56, 57, 58, 59] (fun w s => ∃ gE vs' Y v1' v2' Y1 Y2, s = [(57, .slice (some ⟨gE, 0, none⟩) 3 3), (58, .int .i64 (3 : Nat)), (59, .int .i64 0)] ∧ ((vs' = .slice As c.s.length cs ∧ (sApp c.s x).1 = c.s) ∨ Y = .sl 188 3 vs' ((sApp c.s x).1.map Ce.cells)) ∧
    ((v1' = v1 ∧ (qApp c.q x).1.l = c.q.l) ∨ Y1 = .sl 114 2 v1' ((qApp c.q x).1.l.map It.cells)) ∧ ((v2' = v2 ∧ (qApp c.q x).1.r = c.q.r) ∨ Y2 = .sl 126 4 v2' ((qApp c.q x).1.r.map Le.cells)) ∧
    Sep r [] (.blk gE 37 [.int .i64 (tApp c.t x).2, .int .i64 (sApp c.s x).2, .int .i64 (qApp c.q x).2] :: .blk gT 136 (tApp c.t x).1.cells.toList :: .blk gS 139 [vs'] :: Y ::
    .blk gQ 144 [v1', v2', .int .i64 (qApp c.q x).1.most] :: Y1 :: Y2 :: .sl 114 2 v1 (c.q.l.map It.cells) :: .sl 126 4 v2 (c.q.r.map Le.cells) :: .blk gx 90 x.cells.toArray.toList :: .blk gc 54 [.int .i64 cell, .int .i64 ten, .slice Ah c.h.length ch, .pointer (some ⟨gs, 0, none⟩), .pointer (some ⟨gq, 0, none⟩), .pointer (some ⟨gt, 0, none⟩), vg] :: .sl 90 8 (.slice Ah c.h.length ch) (c.h.map Ch.cells) :: .blk gs 139 [(.slice As c.s.length cs)] :: .sl 188 3 (.slice As c.s.length cs) (c.s.map Ce.cells) :: .blk gq 144 [vl, vr, .int .i64 c.q.most] :: .sl 114 2 vl (c.q.l.map It.cells) :: .sl 126 4 vr (c.q.r.map Le.cells) :: .blk gt 136 c.t.cells.toList :: F) w) ?_ ?_
  · refine D.startS (Lr := [.blk gx 90 x.cells.toArray.toList]) (hS.sb) 11 11 (by kernel_rfl) rfl ?_
    replace hS := hS.drew
    refine Sh.dp 2 4 ?_
    refine Sh.dp 5 36 ?_
    refine Sh.dp 10 1060 ?_
    refine Sh.dl 0 1061 ?_
    refine Sh.dl 3 1069 ?_
    refine Sh.dl 6 1133 ?_
    refine D.eff 1 1135 rfl D.wantedN (by kernel_rfl) (by kernel_rfl) (fun _ _ h => h) ?_
    refine Z.cl (tapply_any gT c.t x _ (hS.bk) hok) rfl ?_
    rintro e w' ⟨rfl, hB, hC⟩
    refine ⟨_, rfl, ?_⟩
    replace hS := hS.put (cs' := (tApp c.t x).1.cells.toList) (by repeat (first | exact At.here | apply At.next)) hC hB
    clear hB hC
    refine ⟨HM.s (hS.sb), ?_⟩
    refine D.eff 4 1151 rfl D.wantedN (by kernel_rfl) (by kernel_rfl) (fun _ _ h => h) ?_
    replace hS := hS.fo (R := .blk gS _ _)
    refine Z.cl (sapply_u gS c.s _ x r _ _ hS (Reads.of_at (by repeat (first | exact At.here | apply At.next))) l2) rfl ?_
    clear hS
    rintro e w ⟨rfl, vs', Y, hS, hY⟩
    refine ⟨_, rfl, ?_⟩
    refine ⟨HM.s (hS.sb), ?_⟩
    refine D.eff 7 1279 rfl D.wantedN (by kernel_rfl) (by kernel_rfl) (fun _ _ h => h) ?_
    replace hS := hS.fo (R := .blk gQ _ _)
    refine Z.cl (qapply_u gQ c.q _ _ x r _ _ hS (Reads.of_at (by repeat (first | exact At.here | apply At.next))) (Reads.of_at (by repeat (first | exact At.here | apply At.next))) l3 l4) rfl ?_
    clear hS
    rintro e w ⟨rfl, v1', v2', Y1, Y2, hS, hY1, hY2⟩
    refine ⟨_, rfl, ?_⟩
    refine ⟨HM.s (hS.sb), ?_⟩
    refine D.eff 8 1535 rfl D.wantedN (by kernel_rfl) (by kernel_rfl) (fun _ _ h => h) ?_
    refine Z.bs hS rfl rfl rfl ?_
    clear hS; intro g w hS hge
    refine ⟨HM.s (hS.sb), ?_⟩
    refine Sh.dp 9 2047 ?_
    refine D.done (by kernel_rfl) ?_
    refine Sh.cut [(57, _), (58, _), (59, _)] ?_
    exact ⟨_, vs', Y, v1', v2', Y1, Y2, rfl, hY, hY1, hY2, hS.sb⟩
  clear hS
  rintro g2 w _ ⟨gE, vs', Y, v1', v2', Y1, Y2, rfl, hY, hY1, hY2, hS⟩
  repeat' (first|refine K ?_|(refine Sh.sa hS ?_;clear hS;intro w hS)|(refine K3 ?_;clear hS;intro g w hS hge)|((first|refine GS ?_ ?_|refine VB ?_ ?_)<;>intro hb<;>(try simp only [J1,J2,J3,J4,J5,J6] at hb)<;>(try (exfalso;first|omega|exact hb trivial))))
  refine Z.unr 3 ?_
  repeat' (first|refine K ?_|(refine Sh.sa hS ?_;clear hS;intro w hS)|(refine K3 ?_;clear hS;intro g w hS hge)|((first|refine GS ?_ ?_|refine VB ?_ ?_)<;>intro hb<;>(try simp only [J1,J2,J3,J4,J5,J6] at hb)<;>(try (exfalso;first|omega|exact hb trivial))))
  · refine Dnt Tryz.results47 ?_
    have e : cApp c x = (c, (tApp c.t x).2) := by unfold cApp; rw [if_pos (by assumption), if_pos (by assumption), if_pos hb]
    rw [e]
    exact ⟨rfl, Sep.CR_open.2 ⟨_, _, _, _, _, _, _, hS.sb⟩⟩
  · refine Dnt Tryz.results47 ?_
    have e : cApp c x = (c, (sApp c.s x).2) := by unfold cApp; rw [if_pos (by assumption), if_pos (by assumption), if_neg (by omega), if_pos hb]
    rw [e]
    exact ⟨rfl, Sep.CR_open.2 ⟨_, _, _, _, _, _, _, hS.sb⟩⟩
  · refine Dnt Tryz.results47 ?_
    have e : cApp c x = (c, (qApp c.q x).2) := by unfold cApp; rw [if_pos (by assumption), if_pos (by assumption), if_neg (by omega), if_neg (by omega), if_pos hb]
    rw [e]
    exact ⟨rfl, Sep.CR_open.2 ⟨_, _, _, _, _, _, _, hS.sb⟩⟩
  have e : cApp c x = (⟨c.h ++ [x], (sApp c.s x).1, (qApp c.q x).1, (tApp c.t x).1⟩, 0) := by unfold cApp; rw [if_pos (by assumption), if_pos (by assumption), if_neg (by omega), if_neg (by omega), if_neg (by omega)]
  refine Z.cut [78, 79, 80, 81, 82, 83, 84, 85, 86, 87, 88, 89] (fun w s => s = [] ∧ ∃ A3 c3, Sep r [] (.blk gc 54 [.int .i64 cell, .int .i64 ten, .slice A3 (c.h.length + 1) c3, .pointer (some ⟨gS, 0, none⟩), .pointer (some ⟨gQ, 0, none⟩), .pointer (some ⟨gT, 0, none⟩), vg] ::
    .sl 90 8 (.slice A3 (c.h.length + 1) c3) ((c.h ++ [x]).map Ch.cells) :: .blk gS 139 [vs'] :: Y :: .sl 188 3 (.slice As c.s.length cs) (c.s.map Ce.cells) ::
    .blk gQ 144 [v1', v2', .int .i64 (qApp c.q x).1.most] :: Y1 :: .sl 114 2 v1 (c.q.l.map It.cells) :: Y2 :: .sl 126 4 v2 (c.q.r.map Le.cells) :: .blk gT 136 (tApp c.t x).1.cells.toList :: F) w) ?_ ?_
  · refine D.startS hS 12 13 (by kernel_rfl) rfl ?_
    replace hS := hS.drew
    refine Sh.dp 0 1 ?_
    refine Sh.dp 2 5 ?_
    refine Sh.dp 3 13 ?_
    refine Sh.dp 4 29 ?_
    refine Sh.dl 5 61 ?_
    refine Sh.dl 7 189 ?_
    refine D.each [1, 8] (by kernel_rfl) rfl ?_
    refine D.econs 1 191 rfl D.wantedN (by kernel_rfl) (fun _ _ h => h) ?_ ?_
    · refine Z.bs hS rfl rfl rfl ?_
      clear hS; intro g w hS hge
      refine ⟨HM.s (hS.sb), ?_⟩
      refine D.each [6, 8] (by kernel_rfl) rfl ?_
      refine D.econs 6 255 rfl D.wantedN (by kernel_rfl) (fun _ _ h => h) ?_ ?_
      · refine Z.ap0m hS rfl rfl rfl (hS.slrows (by repeat (first | exact At.here | apply At.next))) (by (try simp only [maxLen, List.length_take, List.length_drop, List.length_append, List.length_cons, List.length_nil, List.length_map]); omega) (by (try simp only [maxLen, List.length_take, List.length_drop, List.length_append, List.length_cons, List.length_nil, List.length_map]); omega) ?_
        clear hS; intro A1 c1 w hS
        refine ⟨HM.s (hS.sb), ?_⟩
        refine D.eff 8 511 rfl D.wantedN (by kernel_rfl) (by kernel_rfl) (fun _ _ h => h) ?_
        refine Z.bs hS rfl rfl rfl ?_
        clear hS; intro g w hS hge
        refine ⟨HM.s (hS.sb), ?_⟩
        refine D.eff 9 1023 rfl D.wantedN (by kernel_rfl) (by kernel_rfl) (fun _ _ h => h) ?_
        refine Z.apm (l' := [x]) hS rfl rfl rfl (by repeat (first | exact At.here | apply At.next)) (hS.lit1 (by repeat (first | exact At.here | apply At.next)) rfl rfl) (by (try simp only [maxLen, List.length_take, List.length_drop, List.length_append, List.length_cons, List.length_nil, List.length_map]); omega) (by (try simp only [maxLen, List.length_take, List.length_drop, List.length_append, List.length_cons, List.length_nil, List.length_map]); omega) ?_
        clear hS; intro A3 c3 w hS
        refine ⟨HM.s (hS.sb), ?_⟩
        refine Sh.dp 10 2047 ?_
        refine Sh.dp 11 4095 ?_
        refine D.eff 12 8191 rfl D.wantedN (by kernel_rfl) (by kernel_rfl) (fun _ _ h => h) ?_
        refine Z.st hS rfl (by repeat (first | exact At.here | apply At.next)) rfl rfl ?_
        clear hS; intro w hS
        refine ⟨HM.last (by kernel_rfl), ?_⟩
        refine D.done (by kernel_rfl) ?_
        refine Sh.cut [] ?_
        exact ⟨rfl, A3, c3, hS.sb⟩
      refine D.econs 8 447 rfl D.wantedN (by kernel_rfl) (fun _ _ h => h) ?_ ?_
      · refine Z.bs hS rfl rfl rfl ?_
        clear hS; intro g w hS hge
        refine ⟨HM.s (hS.sb), ?_⟩
        refine D.eff 6 511 rfl D.wantedN (by kernel_rfl) (by kernel_rfl) (fun _ _ h => h) ?_
        refine Z.ap0m hS rfl rfl rfl (hS.slrows (by repeat (first | exact At.here | apply At.next))) (by (try simp only [maxLen, List.length_take, List.length_drop, List.length_append, List.length_cons, List.length_nil, List.length_map]); omega) (by (try simp only [maxLen, List.length_take, List.length_drop, List.length_append, List.length_cons, List.length_nil, List.length_map]); omega) ?_
        clear hS; intro A1 c1 w hS
        refine ⟨HM.s (hS.sb), ?_⟩
        refine D.eff 9 1023 rfl D.wantedN (by kernel_rfl) (by kernel_rfl) (fun _ _ h => h) ?_
        refine Z.apm (l' := [x]) hS rfl rfl rfl (by repeat (first | exact At.here | apply At.next)) (hS.lit1 (by repeat (first | exact At.here | apply At.next)) rfl rfl) (by (try simp only [maxLen, List.length_take, List.length_drop, List.length_append, List.length_cons, List.length_nil, List.length_map]); omega) (by (try simp only [maxLen, List.length_take, List.length_drop, List.length_append, List.length_cons, List.length_nil, List.length_map]); omega) ?_
        clear hS; intro A3 c3 w hS
        refine ⟨HM.s (hS.sb), ?_⟩
        refine Sh.dp 10 2047 ?_
        refine Sh.dp 11 4095 ?_
        refine D.eff 12 8191 rfl D.wantedN (by kernel_rfl) (by kernel_rfl) (fun _ _ h => h) ?_
        refine Z.st hS rfl (by repeat (first | exact At.here | apply At.next)) rfl rfl ?_
        clear hS; intro w hS
        refine ⟨HM.last (by kernel_rfl), ?_⟩
        refine D.done (by kernel_rfl) ?_
        refine Sh.cut [] ?_
        exact ⟨rfl, A3, c3, hS.sb⟩
      exact D.enil
    refine D.econs 8 445 rfl D.wantedN (by kernel_rfl) (fun _ _ h => h) ?_ ?_
    · refine Z.bs hS rfl rfl rfl ?_
      clear hS; intro g w hS hge
      refine ⟨HM.s (hS.sb), ?_⟩
      refine D.eff 1 447 rfl D.wantedN (by kernel_rfl) (by kernel_rfl) (fun _ _ h => h) ?_
      refine Z.bs hS rfl rfl rfl ?_
      clear hS; intro g w hS hge
      refine ⟨HM.s (hS.sb), ?_⟩
      refine D.eff 6 511 rfl D.wantedN (by kernel_rfl) (by kernel_rfl) (fun _ _ h => h) ?_
      refine Z.ap0m hS rfl rfl rfl (hS.slrows (by repeat (first | exact At.here | apply At.next))) (by (try simp only [maxLen, List.length_take, List.length_drop, List.length_append, List.length_cons, List.length_nil, List.length_map]); omega) (by (try simp only [maxLen, List.length_take, List.length_drop, List.length_append, List.length_cons, List.length_nil, List.length_map]); omega) ?_
      clear hS; intro A1 c1 w hS
      refine ⟨HM.s (hS.sb), ?_⟩
      refine D.eff 9 1023 rfl D.wantedN (by kernel_rfl) (by kernel_rfl) (fun _ _ h => h) ?_
      refine Z.apm (l' := [x]) hS rfl rfl rfl (by repeat (first | exact At.here | apply At.next)) (hS.lit1 (by repeat (first | exact At.here | apply At.next)) rfl rfl) (by (try simp only [maxLen, List.length_take, List.length_drop, List.length_append, List.length_cons, List.length_nil, List.length_map]); omega) (by (try simp only [maxLen, List.length_take, List.length_drop, List.length_append, List.length_cons, List.length_nil, List.length_map]); omega) ?_
      clear hS; intro A3 c3 w hS
      refine ⟨HM.s (hS.sb), ?_⟩
      refine Sh.dp 10 2047 ?_
      refine Sh.dp 11 4095 ?_
      refine D.eff 12 8191 rfl D.wantedN (by kernel_rfl) (by kernel_rfl) (fun _ _ h => h) ?_
      refine Z.st hS rfl (by repeat (first | exact At.here | apply At.next)) rfl rfl ?_
      clear hS; intro w hS
      refine ⟨HM.last (by kernel_rfl), ?_⟩
      refine D.done (by kernel_rfl) ?_
      refine Sh.cut [] ?_
      exact ⟨rfl, A3, c3, hS.sb⟩
    exact D.enil
  clear hS
  rintro g3 w _ ⟨rfl, A3, c3, hS⟩
  repeat' (first|refine K ?_|(refine Sh.sa hS ?_;clear hS;intro w hS)|(refine K3 ?_;clear hS;intro g w hS hge)|((first|refine GS ?_ ?_|refine VB ?_ ?_)<;>intro hb<;>(try simp only [J1,J2,J3,J4,J5,J6] at hb)<;>(try (exfalso;first|omega|exact hb trivial))))
  refine Dnt Tryz.results47 ?_
  refine ⟨by rw [e]; rfl, ?_⟩
  rw [e]
  clear e
  refine Sep.CR_open.2 ⟨.slice A3 (c.h.length + 1) c3, gS, gQ, gT, vs', v1', v2', ?_⟩
  dsimp only
  rcases hY with ⟨rfl, h1⟩ | rfl
  all_goals rcases hY1 with ⟨rfl, h2⟩ | rfl
  all_goals rcases hY2 with ⟨rfl, h3⟩ | rfl
  all_goals ((try rw [h1]); (try rw [h2]); (try rw [h3]); exact hS.sb)
end Go.Proofs.YtiabhlogadboeaaGreat
