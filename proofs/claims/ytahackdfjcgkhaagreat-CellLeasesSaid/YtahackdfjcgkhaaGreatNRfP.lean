/-
  What Execute changes, and what it does not. No program in sight.
-/
import Derived.Test.YtahackdfjcgkhaaGreatNRdP
namespace Go.Proofs.YtahackdfjcgkhaaGreat
open Go.RowKit
set_option linter.unusedSimpArgs false
set_option linter.unusedVariables false
attribute [local irreducible] Res.blk Res.sl Res.all Res.ex Res.pure Res.star

theorem Good.rep {c : Cp} (h : Good c) : ∀ i, 1 ≤ c.t.n i → (c.t.r i).err = 0 ∧ (c.t.r i).seq ≤ c.h.length := by
  induction h with
  | zero => intro i hi; simp [Cp.zero, Tab.zero] at hi
  | @app c x hg hx ih =>
    obtain ⟨hv, hs, _, ht, _, _, hc⟩ := cApp_ok hx
    rw [hc]
    dsimp only
    intro i hi
    rw [List.length_append]
    unfold tApp at ht hi ⊢
    rw [if_pos hv] at ht hi ⊢
    split at ht
    case isFalse => simp at ht
    case isTrue hn =>
      rw [if_pos hn] at hi ⊢
      simp only [upd] at hi ⊢
      by_cases hii : i = (x.client - 1).toNat
      · rw [if_pos hii]
        refine ⟨rfl, ?_⟩
        show x.seq ≤ _
        rw [hs]
        simp
      · rw [if_neg hii] at hi ⊢
        have := ih i hi
        refine ⟨this.1, ?_⟩
        have h2 := this.2
        simp
        omega
theorem takeP_e {q : Qu} {cl ep tk ho : Int} : (takeP q cl ep tk ho).e = 0 ∨ ((takeP q cl ep tk ho).e = 1 ∨ (takeP q cl ep tk ho).e = 34) ∧ (takeP q cl ep tk ho).q = q := by
  unfold takeP
  split
  · exact .inr ⟨.inl rfl, rfl⟩
  · split
    · exact .inl rfl
    · exact .inr ⟨.inr rfl, rfl⟩
/-- What a home's Execute keeps to. -/
theorem ex_facts {c : Cp} (h : CG c) {ten acc tk : Int} {x : Rq} (hl : c.h.length ≤ 4000) (ha : acc ≤ 1048576) (E : ExR) (hE : exP c ten acc tk x = E) :
    (E.p.err = 0 → (decide ((E.c.h.length : Int) = c.h.length) = (decide (x.op = 1) || (decide (x.op = 5) || decide (E.p.seq ≤ c.h.length)))) ∧ E.c.h.length ≤ c.h.length + 1) ∧
    (E.p.err ≠ 0 → E.p = errR E.p.err ∧ E.c.h = c.h) := by
  subst hE
  unfold exP exQ
  split
  case isFalse => exact ⟨fun h => by simp [errR] at h, fun _ => ⟨rfl, rfl⟩⟩
  case isTrue hrq =>
    split
    case isFalse => exact ⟨fun h => by simp [errR] at h, fun _ => ⟨rfl, rfl⟩⟩
    case isTrue hac =>
      split
      case isTrue h1 =>
        cases atK c.s x.key with
        | none => exact ⟨fun h => by simp [errR] at h, fun _ => ⟨rfl, rfl⟩⟩
        | some y => exact ⟨fun _ => ⟨by simp [h1], by simp⟩, fun h => by simp at h⟩
      case isFalse h1 =>
        split
        case isTrue h5 =>
          dsimp only
          split
          · exact ⟨fun _ => ⟨by simp [h5], by simp⟩, fun h => by simp at h⟩
          · rename_i hne
            exact ⟨fun h => by simp [errR] at h; exact absurd h hne, fun _ => ⟨rfl, rfl⟩⟩
        case isFalse h5 =>
          obtain ⟨hx, _⟩ := hrq
          unfold wrQ
          split
          case isTrue h0 =>
            have hn : 1 ≤ c.t.n (x.client - 1).toNat ∧ (findB c.t x.client x.number).1 = c.t.r (x.client - 1).toNat := by
              unfold findB at h0 ⊢
              split at h0
              · simp at h0
              · rename_i hv
                rw [if_neg hv]
                split at h0
                · rename_i he
                  rw [if_pos he]
                  exact ⟨by omega, rfl⟩
                · split at h0 <;> simp at h0
            have hr := h.good.rep (x.client - 1).toNat hn.1
            dsimp only
            rw [hn.2]
            have e1 : (c.t.r (x.client - 1).toNat).seq ≤ c.h.length := hr.2
            have e0 : (c.t.r (x.client - 1).toNat).err = 0 := hr.1
            exact ⟨fun _ => ⟨by rw [decide_eq_true (show (c.h.length : Int) = c.h.length from rfl), decide_eq_true e1, Bool.or_true, Bool.or_true], by simp⟩, fun h => absurd e0 h⟩
          case isFalse h0 =>
            split
            case isTrue h34 =>
              split
              case isTrue h4 => omega
              case isFalse h4 =>
                split
                case isTrue hr =>
                  have hw := (write_ok h.cw hx h1 h5 (by omega) ha hac.2 h34 h4 hr).1
                  obtain ⟨_, _, _, _, _, _, hc⟩ := cApp_ok hw
                  dsimp only
                  rw [hc]
                  exact ⟨fun _ => ⟨by simp [h1, h5, repOf, chOf]; omega, by simp⟩, fun h => by simp [repOf] at h⟩
                case isFalse hr => exact ⟨fun h => absurd h hr, fun _ => ⟨rfl, rfl⟩⟩
            case isFalse h34 => exact ⟨fun h => absurd h h0, fun _ => ⟨rfl, rfl⟩⟩
end Go.Proofs.YtahackdfjcgkhaaGreat
