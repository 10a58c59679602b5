/-
  What Execute makes of the table and of the history. No program in sight.
-/
import Derived.Test.YtiabhlogadboeaaGreatNCrP
namespace Go.Proofs.YtiabhlogadboeaaGreat
open Go.RowKit
set_option linter.unusedSimpArgs false
set_option linter.unusedVariables false
attribute [local irreducible] Res.blk Res.sl Res.all Res.ex Res.pure Res.star

theorem reqOk.num {x : Rq} (h : reqOk x) : (0 < x.number ↔ x.op ≠ 1 ∧ x.op ≠ 5) ∧ (x.op ≠ 1 ∧ x.op ≠ 5 → numOk x) := by
  obtain ⟨_, _, _, _, ho⟩ := h
  unfold numOk at ho ⊢
  rcases ho with ho | ho | ho | ho | ho | ho
  all_goals
    have h1 := ho.1
    have h2 := ho.2.1
    constructor
    · constructor
      · intro h; omega
      · intro h; omega
    · intro h; omega
theorem ex_found {c : Cp} {ten acc tk : Int} {x : Rq} {R : Rep} (hx : reqOk x) (ht : x.tenant = ten) (htk : 0 ≤ tk ∧ tk ≤ 1073741824) (ha : 0 < acc ∧ epochOf c.h ≤ acc) (h1 : x.op ≠ 1) (h5 : x.op ≠ 5) (hf : findB c.t x.client x.number = (R, 0)) : exP c ten acc tk x = ⟨c, R⟩ := by
  unfold exP exQ
  rw [if_pos ⟨hx, ht, htk.1, htk.2⟩, if_pos ha, if_neg h1, if_neg h5]
  unfold wrQ
  rw [hf, if_pos rfl]
/-- What a request that is answered leaves. -/
theorem ex_once {c : Cp} (hc : CG c) {ten acc tk : Int} {x : Rq} (hacc : acc ≤ 1048576) (E : ExR) (hE : exP c ten acc tk x = E) :
    (0 < x.number → E.p.err = 0 → reqOk x ∧ x.tenant = ten ∧ x.op ≠ 1 ∧ x.op ≠ 5 ∧ findB E.c.t x.client x.number = (E.p, 0) ∧ exP E.c ten acc tk x = E) ∧
    (¬ (0 < x.number ∧ E.p.err = 0) → E.c.t = c.t) := by
  have hE' := hE
  unfold exP exQ at hE
  split at hE
  case isFalse => subst hE; exact ⟨fun _ h => by simp [errR] at h, fun _ => rfl⟩
  case isTrue hrq =>
    obtain ⟨hx, hten, ht0, ht1⟩ := hrq
    have hnum := hx.num
    split at hE
    case isFalse => subst hE; exact ⟨fun _ h => by simp [errR] at h, fun _ => rfl⟩
    case isTrue hac =>
      split at hE
      case isTrue h1 =>
        refine ⟨fun h => absurd h1 (hnum.1.1 h).1, fun _ => ?_⟩
        subst hE
        cases atK c.s x.key <;> rfl
      case isFalse h1 =>
        split at hE
        case isTrue h5 => subst hE; exact ⟨fun h => absurd h5 (hnum.1.1 h).2, fun _ => rfl⟩
        case isFalse h5 =>
          have hn := hnum.1.2 ⟨h1, h5⟩
          unfold wrQ at hE
          split at hE
          case isTrue h0 =>
            subst hE
            refine ⟨fun _ h => ?_, fun _ => rfl⟩
            have e : findB c.t x.client x.number = ((findB c.t x.client x.number).1, 0) := by rw [← h0]
            exact ⟨hx, hten, h1, h5, e, ex_found hx hten ⟨ht0, ht1⟩ hac h1 h5 e⟩
          case isFalse h0 =>
            split at hE
            case isTrue h34 =>
              split at hE
              case isTrue h4 => subst hE; exact ⟨fun _ h => by simp [errR] at h, fun _ => rfl⟩
              case isFalse h4 =>
                split at hE
                case isTrue hr =>
                  obtain ⟨hw, hf⟩ := write_ok hc.cw hx h1 h5 (by omega) hacc hac.2 h34 h4 hr
                  subst hE
                  refine ⟨fun _ _ => ⟨hx, hten, h1, h5, hf, ?_⟩, fun h => absurd ⟨hn, rfl⟩ h⟩
                  refine ex_found hx hten ⟨ht0, ht1⟩ ⟨hac.1, ?_⟩ h1 h5 hf
                  obtain ⟨_, _, _, _, _, _, e⟩ := cApp_ok hw
                  rw [e]
                  exact Int.le_of_eq (epochOf_snoc _ _)
                case isFalse hr => subst hE; exact ⟨fun _ h => absurd h hr, fun _ => rfl⟩
            case isFalse h34 => subst hE; exact ⟨fun _ h => absurd h h0, fun _ => rfl⟩
/-- The history of a home grows by a change that every copy of it accepts, or does not grow. -/
theorem ex_bare {c : Cp} (hc : CG c) {ten acc tk : Int} {x : Rq} (hacc : acc ≤ 1048576) (E : ExR) (hE : exP c ten acc tk x = E) :
    bare E.c = bare c ∨ ∃ y : Ch, cApp (bare c) y = (bare E.c, 0) ∧ y.epoch = acc := by
  unfold exP exQ at hE
  subst hE
  split
  case isFalse => exact .inl rfl
  case isTrue hrq =>
    obtain ⟨hx, hten, ht0, ht1⟩ := hrq
    split
    case isFalse => exact .inl rfl
    case isTrue hac =>
      split
      case isTrue h1 => left; cases atK c.s x.key <;> rfl
      case isFalse h1 =>
        split
        case isTrue h5 =>
          have ht := hc.q.take x.client acc tk 20
          left
          simp only [bare, ht.2.1, ht.2.2]
        case isFalse h5 =>
          unfold wrQ
          split
          case isTrue h0 => exact .inl rfl
          case isFalse h0 =>
            split
            case isTrue h34 =>
              split
              case isTrue h4 => exact .inl rfl
              case isFalse h4 =>
                split
                case isTrue hr =>
                  obtain ⟨hw, _⟩ := write_ok hc.cw hx h1 h5 (by omega) hacc hac.2 h34 h4 hr
                  right
                  refine ⟨chOf c acc x, ?_, rfl⟩
                  rw [cApp_bare, hw]
                case isFalse hr => exact .inl rfl
            case isFalse h34 => exact .inl rfl
theorem ex_epoch {c : Cp} (hc : CG c) {ten acc tk : Int} {x : Rq} (hacc : acc ≤ 1048576) (E : ExR) (hE : exP c ten acc tk x = E) : epochOf E.c.h = epochOf c.h ∨ epochOf E.c.h = acc := by
  rcases ex_bare hc hacc E hE with h | ⟨y, h, hy⟩
  · left
    have := congrArg Cp.h h
    exact congrArg epochOf this
  · right
    obtain ⟨_, _, _, _, _, _, e⟩ := cApp_ok (by rw [h] : (cApp (bare c) y).2 = 0)
    rw [h] at e
    have : E.c.h = c.h ++ [y] := congrArg Cp.h e
    rw [this, epochOf_snoc, hy]
/-- A change is accepted once. -/
theorem app_twice {c c2 : Cp} {y : Ch} (h : cApp c y = (c2, 0)) : cApp c2 y = (c2, 36) := by
  obtain ⟨hv, hs, _, _, _, _, e⟩ := cApp_ok (by rw [h] : (cApp c y).2 = 0)
  rw [h] at e
  have hh : c2.h = c.h ++ [y] := congrArg Cp.h e
  unfold cApp
  rw [if_pos hv, if_neg]
  rintro ⟨h1, _⟩
  rw [hh, List.length_append, hs] at h1
  simp only [List.length_cons, List.length_nil] at h1
  omega
theorem bare_cpOf {c : Cp} (hc : CG c) : cpOf c.h = bare c := hc.good.cpOf
end Go.Proofs.YtiabhlogadboeaaGreat
