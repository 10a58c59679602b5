/-
  Reads: the last value that was written. No program in sight.
-/
import Derived.Test.YtiabhlogadboeaaGreatNExP
import Derived.Test.YtiabhlogadboeaaGreatPB
namespace Go.Proofs.YtiabhlogadboeaaGreat
open Go.RowKit
set_option linter.unusedSimpArgs false
set_option linter.unusedVariables false
attribute [local irreducible] Res.blk Res.sl Res.all Res.ex Res.pure Res.star

/-! What Apply makes of the value of a key. -/
theorem atK_congr {l l' : List Ce} (hs : SSort l) (hs' : SSort l') {k : ByteArray} (h : ∀ c, c.key = k → (c ∈ l' ↔ c ∈ l)) : atK l' k = atK l k := by
  cases e : atK l k with
  | some c =>
    obtain ⟨h1, h2⟩ := atK_mem e
    exact atK_some hs' ((h c h2).2 h1) h2
  | none =>
    cases e' : atK l' k with
    | none => rfl
    | some c =>
      obtain ⟨h1, h2⟩ := atK_mem e'
      exact absurd h2 (atK_none hs e c ((h c h2).1 h1))
theorem sApp_atK {l : List Ce} (hs : SSort l) {x : Ch} (h0 : (sApp l x).2 = 0) (k : ByteArray) :
    atK (sApp l x).1 k = if (x.kind = 1 ∨ x.kind = 2) ∧ k = x.key then (if x.kind = 1 then some ⟨x.key, x.value, x.seq⟩ else none) else atK l k := by
  have hs' := hs.app x
  unfold sApp at h0 hs' ⊢
  split at h0
  case isFalse => simp at h0
  case isTrue hv =>
    rw [if_pos hv] at hs' ⊢
    split at h0
    case isTrue hk1 =>
      rw [if_pos hk1] at hs' ⊢
      split at h0
      case isTrue hf =>
        rw [if_pos hf] at hs' ⊢
        obtain ⟨hi, hik⟩ := found_at hf
        by_cases hk : k = x.key
        · rw [if_pos ⟨.inl hk1, hk⟩, if_pos hk1]
          exact atK_some hs' (List.mem_iff_getElem.2 ⟨fidx l x.key, by simpa using hi, by simp⟩) hk.symm
        · rw [if_neg (fun h => hk h.2)]
          refine atK_congr hs hs' fun c hc => ⟨fun h => ?_, fun h => ?_⟩
          · rcases List.mem_or_eq_of_mem_set h with h | rfl
            · exact h
            · exact absurd hc.symm hk
          · obtain ⟨j, hj, rfl⟩ := List.mem_iff_getElem.1 h
            refine List.mem_iff_getElem.2 ⟨j, by simpa using hj, ?_⟩
            rw [List.getElem_set_ne]
            rintro rfl
            exact hk (hc.symm.trans hik)
      case isFalse hf =>
        rw [if_neg hf] at hs' ⊢
        split at h0
        case isTrue => simp at h0
        case isFalse hl =>
          rw [if_neg hl] at hs' ⊢
          by_cases hk : k = x.key
          · rw [if_pos ⟨.inl hk1, hk⟩, if_pos hk1]
            exact atK_some hs' (by simp) hk.symm
          · rw [if_neg (fun h => hk h.2)]
            refine atK_congr hs hs' fun c hc => ⟨fun h => ?_, fun h => ?_⟩
            · simp only [List.mem_append, List.mem_singleton] at h
              rcases h with (h | rfl) | h
              · exact List.mem_of_mem_take h
              · exact absurd hc.symm hk
              · exact List.mem_of_mem_drop h
            · rw [← List.take_append_drop (fidx l x.key) l] at h
              rcases List.mem_append.1 h with h | h
              · simp [h]
              · simp [h]
    case isFalse hk1 =>
      rw [if_neg hk1] at hs' ⊢
      split at h0
      case isTrue hk2 =>
        rw [if_pos hk2] at hs' ⊢
        split at h0
        case isFalse => simp at h0
        case isTrue hf =>
          rw [if_pos hf] at hs' ⊢
          obtain ⟨hi, hik⟩ := found_at hf
          have hsplit : l = l.take (fidx l x.key) ++ l[fidx l x.key] :: l.drop (fidx l x.key + 1) := by rw [← List.drop_eq_getElem_cons hi, List.take_append_drop]
          by_cases hk : k = x.key
          · rw [if_pos ⟨.inr hk2, hk⟩, if_neg hk1]
            cases e : atK (l.take (fidx l x.key) ++ l.drop (fidx l x.key + 1)) k with
            | none => rfl
            | some c =>
              exfalso
              obtain ⟨h1, h2⟩ := atK_mem e
              have hp := hs
              unfold SSort at hp
              rw [hsplit, List.map_append, List.map_cons, List.pairwise_append, List.pairwise_cons] at hp
              have hkb : c.kb = l[fidx l x.key].kb := by unfold Ce.kb; rw [h2, hik, hk]
              rcases List.mem_append.1 h1 with h1 | h1
              · have := hp.2.2 c.kb (List.mem_map.2 ⟨c, h1, rfl⟩) l[fidx l x.key].kb (by simp)
                rw [hkb] at this
                exact lt_irr _ this
              · have := hp.2.1.1 c.kb (List.mem_map.2 ⟨c, h1, rfl⟩)
                rw [hkb] at this
                exact lt_irr _ this
          · rw [if_neg (fun h => hk h.2)]
            refine atK_congr hs hs' fun c hc => ⟨fun h => ?_, fun h => ?_⟩
            · rcases List.mem_append.1 h with h | h
              · exact List.mem_of_mem_take h
              · exact List.mem_of_mem_drop h
            · rw [hsplit] at h
              rcases List.mem_append.1 h with h | h
              · simp [h]
              · rcases List.mem_cons.1 h with rfl | h
                · exact absurd (hc.symm.trans hik) hk
                · simp [h]
      case isFalse hk2 =>
        rw [if_neg hk2, if_neg (fun h => h.1.elim hk1 hk2)]


def wantF (key : ByteArray) (w : Rep) (x : Ch) : Rep :=
  if x.key = key ∧ x.kind = 2 then errR 34 else if x.key = key ∧ x.kind = 1 then ⟨0, x.seq, 0, x.value⟩ else w
def wantR (h : List Ch) (key : ByteArray) : Rep := h.foldl (wantF key) (errR 34)
def gk : Option Ce → Rep
  | some y => ⟨0, y.seq, 0, y.value⟩
  | none => errR 34
theorem Good.want {c : Cp} (h : Good c) (key : ByteArray) : wantR c.h key = gk (atK c.s key) := by
  induction h with
  | zero => rfl
  | @app c x hg hx ih =>
    obtain ⟨_, _, _, _, hs, _, hc⟩ := cApp_ok hx
    rw [hc]
    dsimp only
    have hss := hg.ssort
    rw [sApp_atK hss hs key]
    unfold wantR at ih ⊢
    rw [List.foldl_append, ih]
    show wantF key _ x = _
    unfold wantF
    by_cases hk : x.key = key
    · by_cases h1 : x.kind = 1
      · rw [if_neg (by omega), if_pos ⟨hk, h1⟩, if_pos ⟨.inl h1, hk.symm⟩, if_pos h1]
        rfl
      · by_cases h2 : x.kind = 2
        · rw [if_pos ⟨hk, h2⟩, if_pos ⟨.inr h2, hk.symm⟩, if_neg h1]
          rfl
        · rw [if_neg (fun h => h2 h.2), if_neg (fun h => h1 h.2), if_neg (fun h => h.1.elim h1 h2)]
    · rw [if_neg (fun h => hk h.1), if_neg (fun h => hk h.1), if_neg (fun h => hk h.2.symm)]
theorem Good.epoch {c : Cp} (h : Good c) : 0 ≤ epochOf c.h ∧ epochOf c.h ≤ 1048576 := by
  induction h with
  | zero => decide
  | @app c x hg hx ih =>
    obtain ⟨hv, _, _, _, _, _, hc⟩ := cApp_ok hx
    rw [hc]
    dsimp only
    rw [epochOf_snoc]
    have := valid_bounds hv
    omega
theorem reads_ex {c : Cp} (h : Good c) (key : ByteArray) : exP c 0 1048576 99 ⟨0, 8, 0, 1, 0, key, ⟨#[]⟩⟩ = ⟨c, if keyOk key then wantR c.h key else errR 1⟩ := by
  have he := h.epoch
  unfold exP exQ
  by_cases hk : keyOk key
  · rw [if_pos hk, if_pos (by simp [reqOk, hk]), if_pos (by omega), if_pos rfl, h.want]
    cases atK c.s key <;> rfl
  · rw [if_neg hk, if_neg (by simp [reqOk, hk])]
theorem wantT {h : List Ch} {q : Nat} (hq : q < h.length) (F : Rep → Ch → Rep) (w0 : Rep) : (h.take (q + 1)).foldl F w0 = F ((h.take q).foldl F w0) h[q] := by
  rw [List.take_succ_eq_append_getElem hq, List.foldl_append]
  rfl
end Go.Proofs.YtiabhlogadboeaaGreat
