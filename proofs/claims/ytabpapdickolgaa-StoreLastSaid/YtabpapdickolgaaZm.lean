/-
  Rules for parts of slices and for appends within one block. No program in sight.
-/
import Derived.Test.YtabpapdickolgaaZs
import Derived.Laws.AppendOwn
import Derived.Scope
namespace Go.Proofs.Ytabpapdickolgaa
open Go.RowKit
set_option linter.unusedSimpArgs false
set_option linter.unusedVariables false

namespace R
section
variable {P : Program} {n : Nat} {f : Nat → Value} {d : Option Tmp} {ty t : TypeId} {pos : String} {aft : Array Edge} {gd : Option (Nat × Bool)} {x lo hi mx : Operand} {e sz : Nat} {A : Option Addr} {m c : Nat} {l h k : Int}
/-- s[l:h:k] -/
theorem span3 [ht : HasTT P] (hx : ev n f x = .slice A m c) (hl : ev n f lo = .int .i64 l) (hh : ev n f hi = .int .i64 h) (hm : ev n f mx = .int .i64 k) (hk : kindOf ht.tt t = .sl e sz) (hb : 0 ≤ k ∧ k ≤ c) (hb' : 0 ≤ h ∧ h ≤ k.toNat) (hb'' : 0 ≤ l ∧ l ≤ h.toNat) :
    Runs P n f ⟨d, .slice t x (some lo) (some hi) (some mx), ty, pos, aft, gd⟩ (.slice (if k.toNat = l.toNat then A else A.map fun x => x.add (l.toNat * sz)) (h.toNat - l.toNat) (k.toNat - l.toNat)) := by
  obtain ⟨hu, hs⟩ := Z.kind_sl hk
  refine ⟨fun W => ?_⟩
  simp only [execOp, hx, Instr.sliceAt, Option.map_some, hl, hh, hm, Sem.run_bind, run_under hu, Result.andThen_ok, Instr.slice, Instr.sliceBounds, Sem.run_pure, if_true, bound _ hb, bound _ hb', bound _ hb'', run_size hs]
/-- s[l:], nothing left -/
theorem sinceE [ht : HasTT P] (hx : ev n f x = .slice A m c) (hl : ev n f lo = .int .i64 l) (hk : kindOf ht.tt t = .sl e sz) (hb : 0 ≤ l ∧ l ≤ m) (he : c = l.toNat) :
    Runs P n f ⟨d, .slice t x (some lo) none none, ty, pos, aft, gd⟩ (.slice A (m - l.toNat) (c - l.toNat)) := by
  have h1 := since (P := P) (d := d) (ty := ty) (pos := pos) (aft := aft) (gd := gd) hx hl hk hb
  rw [if_pos he] at h1
  exact h1
end
end R
namespace Z
section
variable {P : Program} {Q : Exit → Act → World → Prop} {n : Nat} {f : Nat → Value} {w : World} {a : Act}
theorem label {l : Nat} (h : Q .normal (act n f) w) : WC P (.label l) Q n f w := ⟨wp_label h⟩
theorem scope {c : Code} (h : WC P c (Exit.noGoto Q) n f w) : WC P (.scope c) Q n f w := ⟨wp_scope_straight h.out⟩
theorem ngN (h : Q .normal a w) : Exit.noGoto Q .normal a w := h
theorem ngR (h : Q .ret a w) : Exit.noGoto Q .ret a w := h
theorem ngE {i : Nat} (h : Q (.exit i) a w) : Exit.noGoto Q (.exit i) a w := h
end
section
variable {P : Program} {K : (Nat → Value) → World → Prop} {Q : Exit → Act → World → Prop} {n : Nat} {f : Nat → Value} {w r : World} {M : List Nat} {L : List Res} {d : Tmp} {ty t : TypeId} {pos : String} {aft : Array Edge}
  {x y : Operand} {e sz bytes g : Nat} {k : List Res} {cs : List Value} {ys : List (List Value)}
/-- append where there is room, onto a block, from wherever -/
theorem apf [ht : HasTT P] {sLen sCap m mc : Nat} {ad : Addr} [he : HasE P e sz bytes] (hS : Sep r M L w) (hx : ev n f x = .slice (some ⟨g, 0, none⟩) sLen sCap) (hy : ev n f y = .slice (some ad) m mc) (hk : kindOf ht.tt t = .sl e sz) (ha : At L k (.blk g e cs)) (hsrc : Rows' w sz (.slice (some ad) m m) ys) (hroom : sLen + m ≤ sCap) (hfit : (sLen + m) * sz ≤ cs.length)
    (h : ∀ w', Sep r M (.blk g e (cs.take (sLen * sz) ++ ys.flatten ++ cs.drop ((sLen + m) * sz)) :: k) w' → K (upd' f d (.slice (some ⟨g, 0, none⟩) (sLen + m) sCap)) w') :
    WE P ⟨some d, .call ⟨.builtin .append, #[x, y], #[t, t]⟩, ty, pos, aft, none⟩ K Q n f w := by
  refine ⟨fun K' hK => ?_⟩
  obtain ⟨hu, _⟩ := kind_sl hk
  obtain ⟨i0, z, hi, hz, hsz, hby, hzs, hpos⟩ := he.ok
  obtain ⟨hok, A, c1, hv, hnil, hle, hr⟩ := hsrc
  injection hv with e1 e2 e3
  subst e1
  subst e2
  have hb := hS.blk ha
  have hfl : ys.flatten.length = ys.length * sz := flatten_length fun row hr => (hok row hr).1
  have hcell : ∀ j u, ys.flatten[j]? = some u → w.cell? (ad.add j) = some u := fun j u hu => by
    have hp : 0 < ys.length := by
      rcases Nat.eq_zero_or_pos ys.length with h | h
      · have : ys = [] := List.eq_nil_of_length_eq_zero h
        subst this; simp at hu
      · exact h
    obtain ⟨ad', e1, hc⟩ := hr.2 hp
    injection e1 with e1
    subst e1
    exact hc j u hu
  have h1 : ∀ u ∈ ys.flatten, u.oneCell' = true := fun u hu => by
    obtain ⟨row, hrow, hu⟩ := List.mem_flatten.1 hu
    exact (hok row hrow).2 u hu
  have hrun := run_append_room (P := P) w t ty e i0 hu hi g sLen sCap cs.toArray hb ad ys.length mc ys.flatten (by rw [hfl, hsz]) hcell h1 hroom (by rw [hsz, hfl, ← Nat.add_mul]; simpa using hfit)
  unfold Oper.wp
  rw [act_eval', ap_run x y hx hy hrun]
  simp only [Result.andThen_ok, Oper.upon_value, act_put]
  refine hK _ _ (h _ ?_)
  have := hS.put (cs' := cs.take (sLen * sz) ++ ys.flatten ++ cs.drop ((sLen + ys.length) * sz)) ha (chg_setRow w g _) (setRow_heap w g _ _ e _ hb)
  simpa [hsz, hfl, Nat.add_mul] using this
end
end Z
end Go.Proofs.Ytabpapdickolgaa
