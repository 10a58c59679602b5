/-
  A copy of the program and one of the reference go together. No program in sight.
-/
import Derived.Test.YtiabhlogadboeaaGreatNExP
import Derived.Test.YtiabhlogadboeaaGreatGA
namespace Go.Proofs.YtiabhlogadboeaaGreat
open Go.RowKit
set_option linter.unusedSimpArgs false
set_option linter.unusedVariables false
attribute [local irreducible] Res.blk Res.sl Res.all Res.ex Res.pure Res.star

/-- What a copy of the program and one of the reference have in common. -/
structure CRel (c c' : Cp) : Prop where
  h : c'.h = c.h
  s : c'.s = c.s
  t : c'.t = c.t
  q : QRel c.q c'.q
theorem CRel.refl {c : Cp} (h : CG c) : CRel c c := ⟨rfl, rfl, rfl, QRel.refl h.q⟩
theorem CRel.cw {c c' : Cp} (h : CRel c c') (hc : CG c) : CW c' := by
  obtain ⟨h1, s1, q1, t1⟩ := c
  obtain ⟨h2, s2, q2, t2⟩ := c'
  obtain ⟨e1, e2, e3, hq⟩ := h
  simp only at e1 e2 e3 hq
  subst e1 e2 e3
  refine ⟨?_, hq.rlen hc.q⟩
  have hg := hc.good
  simp only [bare] at hg ⊢
  rw [hq.l, hq.most]
  exact hg
theorem CRel.app {c c' : Cp} (h : CRel c c') (x : Ch) : (cApp c' x).2 = (cApp c x).2 ∧ CRel (cApp c x).1 (cApp c' x).1 := by
  obtain ⟨h1, s1, q1, t1⟩ := c
  obtain ⟨h2, s2, q2, t2⟩ := c'
  obtain ⟨e1, e2, e3, hq⟩ := h
  simp only at e1 e2 e3 hq
  subst e1 e2 e3
  have ha := hq.app x
  unfold cApp
  simp only [ha.1]
  have hid : CRel (⟨h2, s2, q1, t2⟩ : Cp) ⟨h2, s2, q2, t2⟩ := ⟨rfl, rfl, rfl, hq⟩
  split
  · split
    · split
      · exact ⟨rfl, hid⟩
      · split
        · exact ⟨rfl, hid⟩
        · split
          · exact ⟨rfl, hid⟩
          · exact ⟨rfl, rfl, rfl, rfl, ha.2⟩
    · exact ⟨rfl, hid⟩
  · exact ⟨rfl, hid⟩
theorem CRel.forget {c c' : Cp} (h : CRel c c') : CRel ⟨c.h, c.s, ⟨c.q.l, [], c.q.most⟩, c.t⟩ ⟨c'.h, c'.s, ⟨c'.q.l, [], c'.q.most⟩, c'.t⟩ := ⟨h.h, h.s, h.t, h.q.forget⟩
theorem CG.forget {c : Cp} (h : CG c) : CG ⟨c.h, c.s, ⟨c.q.l, [], c.q.most⟩, c.t⟩ := h.leases h.q.forget rfl rfl
theorem CRel.ex {c c' : Cp} (h : CRel c c') (hc : CG c) (ten acc tk : Int) (x : Rq) : (exR c' ten acc tk x).p = (exP c ten acc tk x).p ∧ CRel (exP c ten acc tk x).c (exR c' ten acc tk x).c := by
  have hca := fun (x : Ch) => h.app x
  have hid : CRel c c' := h
  have hch : chOf c' acc x = chOf c acc x := by unfold chOf; rw [h.h]
  have hho : holdsR c'.q.r x.client acc x.item tk = holdsP c.q.r x.client acc x.item tk := h.q.holds hc.q _ _ _ _
  have hta := h.q.take hc.q x.client acc tk 20
  have hre : ∀ b, refuse c' x b = refuse c x b := fun b => by unfold refuse; rw [h.s, h.q.l]
  unfold exP exR exQ
  rw [h.h, h.s, hho, hta.1, hta.2.2.1]
  split
  case isFalse => exact ⟨rfl, hid⟩
  case isTrue =>
    split
    case isFalse => exact ⟨rfl, hid⟩
    case isTrue =>
      split
      case isTrue =>
        cases atK c.s x.key with
        | none => exact ⟨rfl, hid⟩
        | some y => exact ⟨rfl, hid⟩
      case isFalse =>
        split
        case isTrue => exact ⟨rfl, rfl, rfl, h.t, hta.2.2.2⟩
        case isFalse =>
          unfold wrQ
          rw [h.t, h.h, hre, hch]
          split
          case isTrue => exact ⟨rfl, hid⟩
          case isFalse =>
            split
            case isFalse => exact ⟨rfl, hid⟩
            case isTrue =>
              split
              case isTrue => exact ⟨rfl, hid⟩
              case isFalse =>
                split
                case isTrue => exact ⟨rfl, (hca _).2⟩
                case isFalse => exact ⟨rfl, hid⟩
theorem exQ_len (f : Qu → Int → Int → Int → Int → TkR) (g : List Le → Int → Int → Int → Int → Bool) {c : Cp} (h : CG c) (ten acc tk : Int) (x : Rq) : (exQ f g c ten acc tk x).c.h.length ≤ c.h.length + 1 := by
  have h0 : c.h.length ≤ c.h.length + 1 := by omega
  unfold exQ
  split
  case isFalse => exact h0
  case isTrue =>
    split
    case isFalse => exact h0
    case isTrue =>
      split
      case isTrue => cases atK c.s x.key <;> exact h0
      case isFalse =>
        split
        case isTrue => exact h0
        case isFalse =>
          unfold wrQ
          split
          case isTrue => exact h0
          case isFalse =>
            split
            case isFalse => exact h0
            case isTrue =>
              split
              case isTrue => exact h0
              case isFalse =>
                split
                case isTrue => exact (h.app _).2
                case isFalse => exact h0
theorem CG.ex {c : Cp} (h : CG c) (ten acc tk : Int) (x : Rq) : CG (exP c ten acc tk x).c ∧ (exP c ten acc tk x).c.h.length ≤ c.h.length + 1 := by
  refine ⟨?_, exQ_len _ _ h ten acc tk x⟩
  unfold exP exQ
  split
  case isFalse => exact h
  case isTrue =>
    split
    case isFalse => exact h
    case isTrue =>
      split
      case isTrue => cases atK c.s x.key <;> exact h
      case isFalse =>
        split
        case isTrue =>
          have ht := h.q.take x.client acc tk 20
          exact h.leases ht.1 ht.2.1 ht.2.2
        case isFalse =>
          unfold wrQ
          split
          case isTrue => exact h
          case isFalse =>
            split
            case isFalse => exact h
            case isTrue =>
              split
              case isTrue => exact h
              case isFalse =>
                split
                case isTrue => exact (h.app _).1
                case isFalse => exact h
theorem CRel.cut {c c' : Cp} (h : CRel c c') (hc : CG c) (n : Nat) : CRel (cpOf (c.h.take n)) (cpOf (c'.h.take n)) := by
  rw [h.h]
  exact CRel.refl (hc.cut n)
end Go.Proofs.YtiabhlogadboeaaGreat
