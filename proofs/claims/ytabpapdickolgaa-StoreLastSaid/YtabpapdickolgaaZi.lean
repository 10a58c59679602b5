/-
  Equality of structs and arrays of plain values. No program in sight.
-/
import Derived.Test.YtabpapdickolgaaZh
namespace Go.Proofs.Ytabpapdickolgaa
open Go.RowKit
set_option linter.unusedSimpArgs false
set_option linter.unusedVariables false

/-- How a type's values are compared. -/
inductive QT where
  | no | int | str | bool
  | st (fs : List (Nat × Nat × Nat × Bool))
  | ar (n e sz : Nat) (ag : Bool)
def okQF (P : Program) : List Field → List (Nat × Nat × Nat × Bool) → Bool
  | [], [] => true
  | f :: fs, (o, s, t, a) :: l => f.offset == o && sizeB P f.type s && f.type == t && f.name != "_" && (isAggD (P.underlying f.type) == a) && (P.underlying f.type).isSome && okQF P fs l
  | _, _ => false
def okQ (P : Program) (t : Nat) : QT → Bool
  | .no => true
  | .int => match P.underlying t with | some (.int _) => true | _ => false
  | .str => match P.underlying t with | some .string => true | _ => false
  | .bool => match P.underlying t with | some .bool => true | _ => false
  | .st fs => match P.underlying t with | some (.struct l) => !P.stoodInHeld t && okQF P l.toList fs && !P.eqGuardType P.depth t | _ => false
  | .ar n e sz a => match P.underlying t with | some (.array n' e') => n == n' && e == e' && sizeB P e sz && (isAggD (P.underlying e) == a) && (P.underlying e).isSome && !P.eqGuardType P.depth t | _ => false
def okQs (P : Program) : List QT → Nat → Bool
  | [], _ => true
  | q :: l, t => okQ P t q && okQs P l (t + 1)
class HasQ (P : Program) where
  qt : List QT
  ok : okQs P qt 0 = true
theorem okQs_at {P : Program} : ∀ (l : List QT) (k : Nat), okQs P l k = true → ∀ t q, l[t]? = some q → okQ P (k + t) q = true
  | [], _, _, _, _, h => by simp at h
  | y :: l, k, h, t, z, hz => by
    simp only [okQs, Bool.and_eq_true] at h
    cases t with
    | zero => simp at hz; subst hz; exact h.1
    | succ t => have := okQs_at l (k + 1) h.2 t z (by simpa using hz); rw [Nat.add_comm t 1, ← Nat.add_assoc]; exact this
def kq (qt : List QT) (t : Nat) : QT := match qt[t]? with | some q => q | none => .no
theorem kq_ok {P : Program} [h : HasQ P] (t : Nat) : okQ P t (kq h.qt t) = true := by
  unfold kq
  cases hq : h.qt[t]? with
  | none => rfl
  | some q => simpa using okQs_at h.qt 0 h.ok t q hq

def partL (ag : Bool) (o s : Nat) (xs : List Value) : Option Value := cond ag (some (.agg ((xs.drop o).take s).toArray)) (bindV xs[o]?)
def andO : Option Bool → Option Bool → Option Bool
  | some a, some b => some (a && b)
  | _, _ => none
def eqP (f : Nat → Value → Value → Option Bool) (t : Nat) : Option Value → Option Value → Option Bool
  | some u, some v => f t u v
  | _, _ => none
def eqFs (f : Nat → Value → Value → Option Bool) (xs ys : List Value) : List (Nat × Nat × Nat × Bool) → Option Bool
  | [] => some true
  | (o, s, t, a) :: r => andO (eqP f t (partL a o s xs) (partL a o s ys)) (eqFs f xs ys r)
def eqAr (f : Nat → Value → Value → Option Bool) (xs ys : List Value) (e sz : Nat) (ag : Bool) (i : Nat) : Nat → Option Bool
  | 0 => some true
  | n + 1 => andO (eqP f e (partL ag (i * sz) sz xs) (partL ag (i * sz) sz ys)) (eqAr f xs ys e sz ag (i + 1) n)
def eqV (qt : List QT) : Nat → Nat → Value → Value → Option Bool
  | 0, _, _, _ => none
  | d + 1, t, x, y =>
    match kq qt t with
    | .no => none
    | .int => match x, y with | .int .i64 a, .int .i64 b => some (decide (a = b)) | .int .u8 a, .int .u8 b => some (decide (a = b)) | _, _ => none
    | .str => match x, y with | .string a, .string b => some (decide (a = b)) | _, _ => none
    | .bool => match x, y with | .bool a, .bool b => some (a == b) | _, _ => none
    | .st fs => match x, y with | .agg xs, .agg ys => eqFs (eqV qt d) xs.toList ys.toList fs | _, _ => none
    | .ar n e sz ag => match x, y with | .agg xs, .agg ys => eqAr (eqV qt d) xs.toList ys.toList e sz ag 0 n | _, _ => none

section
variable {P : Program} {w : World}
theorem andO_some {a b : Option Bool} {c : Bool} (h : andO a b = some c) : ∃ x y, a = some x ∧ b = some y ∧ c = (x && y) := by
  cases a <;> cases b <;> simp [andO] at h
  exact ⟨_, _, rfl, rfl, h.symm⟩
theorem part_run {t o s : Nat} {ag : Bool} {xs : Array Value} {u : Value} (hs : sizeB P t s = true) (ha : isAggD (P.underlying t) = ag) (hsome : (P.underlying t).isSome = true) (h : partL ag o s xs.toList = some u) : (part t xs o).run P w = .ok u w := by
  obtain ⟨d', hd'⟩ := Option.isSome_iff_exists.1 hsome
  have hag : (isAgg t).run P w = .ok ag w := by
    rw [hd'] at ha
    subst ha
    unfold isAgg
    simp only [Sem.run_bind, run_under hd', Result.andThen_ok]
    cases d' <;> rfl
  unfold partL at h
  cases ag with
  | true =>
    simp only [cond_true, Option.some.injEq] at h
    subst h
    simp only [part, Sem.run_bind, hag, Result.andThen_ok, if_true, run_size hs, Sem.run_pure]
    congr 2
    apply Array.ext'
    simp [Array.toList_extract, List.extract_eq_take_drop]
  | false =>
    simp only [cond_false, bindV_eq, Array.getElem?_toList] at h
    simp [part, hag, h]
theorem forF {g : Nat → Value → Value → Option Bool} (w : World) (e : Nat) (xs ys : Array Value) (ih : ∀ t x y b, g t x y = some b → (Op.equalIn e t x y).run P w = .ok b w) : ∀ (fl : List Field) (fs : List (Nat × Nat × Nat × Bool)) (b : Bool), okQF P fl fs = true → eqFs g xs.toList ys.toList fs = some b →
    (forIn fl ((none, ()) : Option Bool × Unit) fun f _ => if f.name ≠ "_" then do
      let u ← part f.type xs f.offset
      let v ← part f.type ys f.offset
      let c ← Op.equalIn e f.type u v
      if (!c) = true then Pure.pure (ForInStep.done (some false, ())) else Pure.pure (ForInStep.yield (none, ()))
      else Pure.pure (ForInStep.yield (none, ())) : Sem (Option Bool × Unit)).run P w = .ok (cond b none (some false), ()) w
  | [], [], b, _, h => by simp only [eqFs, Option.some.injEq] at h; subst h; rfl
  | [], _ :: _, _, h, _ => by simp [okQF] at h
  | _ :: _, [], _, h, _ => by simp [okQF] at h
  | f :: fl, (o, s, t, a) :: fs, b, h, hb => by
    simp only [okQF, Bool.and_eq_true, beq_iff_eq, bne_iff_ne] at h
    obtain ⟨⟨⟨⟨⟨⟨rfl, h2⟩, rfl⟩, h4⟩, h5⟩, h6⟩, h7⟩ := h
    simp only [eqFs] at hb
    obtain ⟨b1, b2, hb1, hb2, rfl⟩ := andO_some hb
    have hrest := forF w e xs ys ih fl fs b2 h7 hb2
    unfold eqP at hb1
    split at hb1
    · rename_i u v hu hv
      have p1 := part_run (w := w) h2 h5 h6 hu
      have p2 := part_run (w := w) h2 h5 h6 hv
      have p3 := ih _ _ _ _ hb1
      simp only [List.forIn_cons, h4, ne_eq, not_false_eq_true, if_true, Sem.run_bind, p1, p2, p3, Result.andThen_ok]
      cases b1 with
      | false => rfl
      | true =>
        simp only [Bool.not_true, Bool.false_eq_true, if_false, Sem.run_pure, Result.andThen_ok, Bool.true_and]
        exact hrest
    · cases hb1
theorem forA {g : Nat → Value → Value → Option Bool} (w : World) (e : Nat) (xs ys : Array Value) (ih : ∀ t x y b, g t x y = some b → (Op.equalIn e t x y).run P w = .ok b w) (t sz : Nat) (ag : Bool) (hs : sizeB P t sz = true) (ha : isAggD (P.underlying t) = ag) (hsome : (P.underlying t).isSome = true) :
    ∀ (n i : Nat) (b : Bool), eqAr g xs.toList ys.toList t sz ag i n = some b →
    (forIn (List.range' i n 1) ((none, ()) : Option Bool × Unit) fun i _ => do
      let u ← part t xs (i * sz)
      let v ← part t ys (i * sz)
      let c ← Op.equalIn e t u v
      if (!c) = true then Pure.pure (ForInStep.done (some false, ())) else Pure.pure (ForInStep.yield (none, ())) : Sem (Option Bool × Unit)).run P w = .ok (cond b none (some false), ()) w
  | 0, _, b, h => by simp only [eqAr, Option.some.injEq] at h; subst h; rfl
  | n + 1, i, b, hb => by
    simp only [eqAr] at hb
    obtain ⟨b1, b2, hb1, hb2, rfl⟩ := andO_some hb
    have hrest := forA w e xs ys ih t sz ag hs ha hsome n (i + 1) b2 hb2
    unfold eqP at hb1
    split at hb1
    · rename_i u v hu hv
      have p1 := part_run (w := w) hs ha hsome hu
      have p2 := part_run (w := w) hs ha hsome hv
      have p3 := ih _ _ _ _ hb1
      simp only [List.range'_succ, List.forIn_cons, Sem.run_bind, p1, p2, p3, Result.andThen_ok]
      cases b1 with
      | false => rfl
      | true =>
        simp only [Bool.not_true, Bool.false_eq_true, if_false, Sem.run_pure, Result.andThen_ok, Bool.true_and]
        exact hrest
    · cases hb1
theorem bytes_beq (a b : ByteArray) : (a == b) = true ↔ a = b := by
  cases a with | mk a => cases b with | mk b =>
    show (ByteArray.beq ⟨a⟩ ⟨b⟩ = true) ↔ _
    simp [ByteArray.beq]
theorem equalIn_ok [hq : HasQ P] (w : World) : ∀ (d e t : Nat) (x y : Value) (b : Bool), d ≤ e → eqV hq.qt d t x y = some b → (Op.equalIn e t x y).run P w = .ok b w
  | 0, _, _, _, _, _, _, h => by simp [eqV] at h
  | d + 1, 0, _, _, _, _, hle, _ => by omega
  | d + 1, e + 1, t, x, y, b, hle, h => by
    have ih := equalIn_ok w d e
    have hk := kq_ok (P := P) t
    simp only [eqV] at h
    cases hkk : kq hq.qt t with
    | no => simp [hkk] at h
    | int =>
      simp only [hkk, okQ] at h hk
      cases hu : P.underlying t with
      | none => simp [hu] at hk
      | some dd =>
        cases dd <;> simp [hu] at hk
        unfold Op.equalIn
        simp only [Sem.run_bind, run_under hu, Result.andThen_ok]
        split at h <;> simp only [Option.some.injEq, reduceCtorEq] at h <;> subst h <;> simp [BEq.beq]
    | str =>
      simp only [hkk, okQ] at h hk
      cases hu : P.underlying t with
      | none => simp [hu] at hk
      | some dd =>
        cases dd <;> simp [hu] at hk
        unfold Op.equalIn
        simp only [Sem.run_bind, run_under hu, Result.andThen_ok]
        split at h <;> simp only [Option.some.injEq, reduceCtorEq] at h <;> subst h
        simp only [Sem.run_pure, Result.ok.injEq, and_true]
        rw [Bool.eq_iff_iff, bytes_beq]
        simp
    | bool =>
      simp only [hkk, okQ] at h hk
      cases hu : P.underlying t with
      | none => simp [hu] at hk
      | some dd =>
        cases dd <;> simp [hu] at hk
        unfold Op.equalIn
        simp only [Sem.run_bind, run_under hu, Result.andThen_ok]
        split at h <;> simp only [Option.some.injEq, reduceCtorEq] at h <;> subst h <;> simp
    | st fs =>
      simp only [hkk, okQ] at h hk
      cases hu : P.underlying t with
      | none => simp [hu] at hk
      | some dd =>
        cases dd <;> simp [hu] at hk
        rename_i fields
        obtain ⟨⟨hsi, hf⟩, _⟩ := hk
        split at h
        · rename_i xs ys
          unfold Op.equalIn
          have hprog : (program).run P w = .ok P w := rfl
          simp only [Sem.run_bind, run_under hu, Result.andThen_ok, hprog, hsi, Bool.false_eq_true, if_false]
          rw [← Array.forIn_toList, forF w e xs ys (fun t x y b hb => ih t x y b (by omega) hb) fields.toList fs b hf h]
          cases b <;> rfl
        · cases h
    | ar n e' sz ag =>
      simp only [hkk, okQ] at h hk
      cases hu : P.underlying t with
      | none => simp [hu] at hk
      | some dd =>
        cases dd <;> simp [hu] at hk
        obtain ⟨⟨⟨⟨⟨rfl, rfl⟩, hs⟩, ha⟩, hsome⟩, _⟩ := hk
        split at h
        · rename_i xs ys
          unfold Op.equalIn
          simp only [Sem.run_bind, run_under hu, Result.andThen_ok, run_size hs]
          rw [Std.Legacy.Range.forIn_eq_forIn_range']
          have hr := forA w e xs ys (fun t x y b hb => ih t x y b (by omega) hb) e' sz ag hs ha hsome n 0 b h
          simp only [Std.Legacy.Range.size] 
          simp only [Nat.sub_zero, Nat.add_sub_cancel, Nat.div_one]
          rw [hr]
          cases b <;> rfl
        · cases h

theorem guard_ok [hq : HasQ P] {t : Nat} {xs ys : Array Value} (op : BinOp) (x y : Operand) (hk : (match kq hq.qt t with | .st _ => true | .ar _ _ _ _ => true | _ => false) = true) (W : World) : (eqGuard op t x y (.agg xs) (.agg ys)).run P W = .ok () W := by
  have hok := kq_ok (P := P) t
  have hg : P.eqGuardType P.depth t = false := by
    cases hkk : kq hq.qt t with
    | st fs =>
      rw [hkk] at hok
      simp only [okQ] at hok
      cases hu : P.underlying t with
      | none => simp [hu] at hok
      | some dd => cases dd <;> simp [hu] at hok; exact hok.2
    | ar n e sz ag =>
      rw [hkk] at hok
      simp only [okQ] at hok
      cases hu : P.underlying t with
      | none => simp [hu] at hok
      | some dd => cases dd <;> simp [hu] at hok; exact hok.2
    | _ => simp [hkk] at hk
  have hprog : ∀ W, (program).run P W = .ok P W := fun _ => rfl
  cases op <;> first | rfl | simp [eqGuard, hg, hprog]
end
namespace R
section
variable {P : Program} {n : Nat} {f : Nat → Value} {d : Option Tmp} {ty t t' : TypeId} {pos : String} {aft : Array Edge} {gd : Option (Nat × Bool)} {x y : Operand} {xs ys : Array Value} {b : Bool}
/-- Structs and arrays are compared. -/
theorem eqa [hq : HasQ P] (hx : ev n f x = .agg xs) (hy : ev n f y = .agg ys) (hk : (match kq hq.qt t with | .st _ => true | .ar _ _ _ _ => true | _ => false) = true) (hb : eqV hq.qt 20 t (.agg xs) (.agg ys) = some b) :
    Runs P n f ⟨d, .binOp .eql t x y t', ty, pos, aft, gd⟩ (.bool b) := by
  refine ⟨fun W => ?_⟩
  have h1 := guard_ok (xs := xs) (ys := ys) .eql x y hk W
  have h2 : (Op.equal t (.agg xs) (.agg ys)).run P W = .ok b W := equalIn_ok W 20 Op.maxDepth t _ _ b (by decide) hb
  simp only [execOp, hx, hy, Sem.run_bind, h1, Result.andThen_ok, binOp, h2, Sem.run_pure]
theorem nea [hq : HasQ P] (hx : ev n f x = .agg xs) (hy : ev n f y = .agg ys) (hk : (match kq hq.qt t with | .st _ => true | .ar _ _ _ _ => true | _ => false) = true) (hb : eqV hq.qt 20 t (.agg xs) (.agg ys) = some b) :
    Runs P n f ⟨d, .binOp .neq t x y t', ty, pos, aft, gd⟩ (.bool (!b)) := by
  refine ⟨fun W => ?_⟩
  have h1 := guard_ok (xs := xs) (ys := ys) .neq x y hk W
  have h2 : (Op.equal t (.agg xs) (.agg ys)).run P W = .ok b W := equalIn_ok W 20 Op.maxDepth t _ _ b (by decide) hb
  simp only [execOp, hx, hy, Sem.run_bind, h1, Result.andThen_ok, binOp, h2, Sem.run_pure]
end
end R
end Go.Proofs.Ytabpapdickolgaa
