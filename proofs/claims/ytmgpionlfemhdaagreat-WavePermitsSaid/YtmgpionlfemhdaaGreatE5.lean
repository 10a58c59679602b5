/-
  Plain operations on whole numbers of any kind: bits, shifts, division, conversions; values of interfaces. No program in sight.
-/
import Derived.Test.YtmgpionlfemhdaaGreatE3
namespace Go.Proofs.YtmgpionlfemhdaaGreat
open Go.RowKit
set_option linter.unusedSimpArgs false
set_option linter.unusedVariables false

/-- Bits, and what wraps. -/
def bitZ (k : IntKind) (f : BitVec k.bits → BitVec k.bits → BitVec k.bits) (a b : Int) : Int := k.wrap (f (BitVec.ofInt k.bits a) (BitVec.ofInt k.bits b)).toNat
def isI64 : IntKind → Bool
  | .i64 => true
  | _ => false
def ibo (op : BinOp) (k : IntKind) (a b : Int) : Option Value :=
  match op with
  | .and => some (.int k (bitZ k (· &&& ·) a b))
  | .or => some (.int k (bitZ k (· ||| ·) a b))
  | .xor => some (.int k (bitZ k (· ^^^ ·) a b))
  | .andNot => some (.int k (bitZ k (fun x y => x &&& ~~~y) a b))
  | .add => cond (isI64 k) none (some (.int k (k.wrap (a + b))))
  | .sub => cond (isI64 k) none (some (.int k (k.wrap (a - b))))
  | .mul => cond (isI64 k) none (some (.int k (k.wrap (a * b))))
  | op => cmpI op a b
def ish (op : BinOp) (k : IntKind) (a b : Int) : Option Value :=
  match op with
  | .shl => some (.int k (k.wrap (a * 2 ^ min b.toNat k.bits)))
  | .shr => some (.int k (a.fdiv (2 ^ min b.toNat k.bits)))
  | _ => none
def iquo (op : BinOp) (k : IntKind) (a b : Int) : Option Value :=
  match op with
  | .quo => some (.int k (k.wrap (a.tdiv b)))
  | .rem => some (.int k (a.tmod b))
  | _ => none
theorem ibo_run {P : Program} {op : BinOp} {k : IntKind} {a b : Int} {v : Value} (h : ibo op k a b = some v) (T : TypeId) (w : World) : (binOp op T (.int k a) (.int k b)).run P w = .ok v w := by
  cases op <;> simp only [ibo, cmpI, Option.some.injEq, reduceCtorEq] at h
  all_goals first
    | (subst h; simp [binOp, Op.intBits, Op.intArith, Op.intCmp, bitZ, bne, BEq.beq]; done)
    | (revert h; cases k <;> simp [isI64] <;> rintro rfl <;> simp [binOp, Op.intArith])
theorem ish_run {P : Program} {op : BinOp} {k k' : IntKind} {a b : Int} {v : Value} (h : ish op k a b = some v) (hb : 0 ≤ b) (T : TypeId) (w : World) : (binOp op T (.int k a) (.int k' b)).run P w = .ok v w := by
  have hn : ¬ b < 0 := by omega
  cases op <;> simp only [ish, Option.some.injEq, reduceCtorEq] at h <;> subst h <;> simp [binOp, Op.shift, hn]
theorem iquo_run {P : Program} {op : BinOp} {k : IntKind} {a b : Int} {v : Value} (h : iquo op k a b = some v) (hb : b ≠ 0) (T : TypeId) (w : World) : (binOp op T (.int k a) (.int k b)).run P w = .ok v w := by
  cases op <;> simp only [iquo, Option.some.injEq, reduceCtorEq] at h <;> subst h <;> simp [binOp, Op.intDiv, hb]
section
variable {P : Program} {n : Nat} {f : Nat → Value} {d : Option Tmp} {ty t t' : TypeId} {pos : String} {aft : Array Edge} {gd : Option (Nat × Bool)} {x y : Operand} {v : Value} {op : BinOp} {k k' : IntKind} {a b : Int}
theorem R.ibo (hx : ev n f x = .int k a) (hy : ev n f y = .int k b) (hv : Go.Proofs.YtmgpionlfemhdaaGreat.ibo op k a b = some v) : Runs P n f ⟨d, .binOp op t x y t', ty, pos, aft, gd⟩ v := by
  refine ⟨fun W => ?_⟩
  have hg := eqGuard_none (P := P) op t x y (a := .int k a) (b := .int k b) (fun c h => by cases h) (fun h => by cases h) W
  unfold execOp
  simp only [hx, hy, Sem.run_bind, hg, Result.andThen_ok, ibo_run hv]
  rfl
theorem R.ish (hx : ev n f x = .int k a) (hy : ev n f y = .int k' b) (hv : Go.Proofs.YtmgpionlfemhdaaGreat.ish op k a b = some v) (hb : 0 ≤ b) : Runs P n f ⟨d, .binOp op t x y t', ty, pos, aft, gd⟩ v := by
  refine ⟨fun W => ?_⟩
  have hg := eqGuard_none (P := P) op t x y (a := .int k a) (b := .int k' b) (fun c h => by cases h) (fun h => by cases h) W
  unfold execOp
  simp only [hx, hy, Sem.run_bind, hg, Result.andThen_ok, ish_run hv hb]
  rfl
theorem R.iquo (hx : ev n f x = .int k a) (hy : ev n f y = .int k b) (hv : Go.Proofs.YtmgpionlfemhdaaGreat.iquo op k a b = some v) (hb : b ≠ 0) : Runs P n f ⟨d, .binOp op t x y t', ty, pos, aft, gd⟩ v := by
  refine ⟨fun W => ?_⟩
  have hg := eqGuard_none (P := P) op t x y (a := .int k a) (b := .int k b) (fun c h => by cases h) (fun h => by cases h) W
  unfold execOp
  simp only [hx, hy, Sem.run_bind, hg, Result.andThen_ok, iquo_run hv hb]
  rfl
theorem R.icv [hs : HasK P t k] [hd : HasK P t' k'] (hx : ev n f x = .int k a) : Runs P n f ⟨d, .convert t t' x, ty, pos, aft, gd⟩ (.int k' (k'.wrap a)) := R.cvt hx hs.ok hd.ok
/-- The complement, and the negative. -/
def iun (op : UnOp) (k : IntKind) (a : Int) : Option Value :=
  match op with
  | .neg => some (.int k (k.wrap (0 - a)))
  | .xor => some (.int k (bitZ k (· ^^^ ·) (cond k.signed (-1) k.max) a))
  | _ => none
theorem R.iun (hx : ev n f x = .int k a) {op : UnOp} (hv : Go.Proofs.YtmgpionlfemhdaaGreat.iun op k a = some v) : Runs P n f ⟨d, .unOp op t x, ty, pos, aft, gd⟩ v := by
  refine ⟨fun W => ?_⟩
  unfold execOp
  cases op <;> simp only [Go.Proofs.YtmgpionlfemhdaaGreat.iun, Option.some.injEq, reduceCtorEq] at hv <;> subst hv
  · simp [hx, Op.unary, Op.intArith]
  · cases hk : k.signed <;> simp [hx, Op.unary, Op.intBits, bitZ, hk]
/-! Interfaces. -/
def notIface : Option TypeDesc → Bool
  | some (.interface _) => false
  | some _ => true
  | none => false
theorem R.mki (hu : notIface (P.underlying t) = true) : Runs P n f ⟨d, .makeInterface t x, ty, pos, aft, gd⟩ (.iface t (ev n f x)) := by
  refine ⟨fun W => ?_⟩
  unfold execOp
  cases h : P.underlying t with
  | none => rw [h] at hu; cases hu
  | some dd =>
    rw [h] at hu
    simp only [Instr.makeInterface, Sem.run_bind, run_under h, Result.andThen_ok]
    cases dd <;> first | rfl | cases hu
theorem R.asT (hu : notIface (P.underlying t') = true) {u : Value} (hx : ev n f x = .iface t' u) : Runs P n f ⟨d, .typeAssert x t t' true, ty, pos, aft, gd⟩ (.tuple #[u, .bool true]) := by
  refine ⟨fun W => ?_⟩
  unfold execOp
  cases h : P.underlying t' with
  | none => rw [h] at hu; cases hu
  | some dd =>
    rw [h] at hu
    simp only [hx, Instr.typeAssert, Sem.run_bind, run_under h, Result.andThen_ok]
    cases dd <;> first | (simp; done) | cases hu
end
section
variable {P : Program} {ops : Array Oper} {Q : Exit → Act → World → Prop} {n : Nat} {f : Nat → Value} {w : World} {rest : List Oper} {d : Tmp} {ty t t' : TypeId} {pos : String} {aft : Array Edge} {v u : Value} {x y : Operand} {op : BinOp} {k k' : IntKind} {a b : Int}
theorem IB (h : WL P ops Q rest n (upd' f d v) w) (hx : ev n f x = .int k a := by exact rfl) (hy : ev n f y = .int k b := by exact rfl) (hv : Go.Proofs.YtmgpionlfemhdaaGreat.ibo op k a b = some v := by exact rfl) : WL P ops Q (⟨some d, .binOp op t x y t', ty, pos, aft, none⟩ :: rest) n f w := Z.pl (R.ibo hx hy hv) h
theorem IS (h : WL P ops Q rest n (upd' f d v) w) (hx : ev n f x = .int k a := by exact rfl) (hy : ev n f y = .int k' b := by exact rfl) (hv : Go.Proofs.YtmgpionlfemhdaaGreat.ish op k a b = some v := by exact rfl) (hb : 0 ≤ b := by omega) : WL P ops Q (⟨some d, .binOp op t x y t', ty, pos, aft, none⟩ :: rest) n f w := Z.pl (R.ish hx hy hv hb) h
theorem IQ (h : WL P ops Q rest n (upd' f d v) w) (hx : ev n f x = .int k a := by exact rfl) (hy : ev n f y = .int k b := by exact rfl) (hv : Go.Proofs.YtmgpionlfemhdaaGreat.iquo op k a b = some v := by exact rfl) (hb : b ≠ 0 := by omega) : WL P ops Q (⟨some d, .binOp op t x y t', ty, pos, aft, none⟩ :: rest) n f w := Z.pl (R.iquo hx hy hv hb) h
theorem IC [hs : HasK P t k] [hd : HasK P t' k'] (h : WL P ops Q rest n (upd' f d (.int k' (k'.wrap a))) w) (hx : ev n f x = .int k a := by exact rfl) : WL P ops Q (⟨some d, .convert t t' x, ty, pos, aft, none⟩ :: rest) n f w := Z.pl (R.icv hx) h
theorem IU {op : UnOp} (h : WL P ops Q rest n (upd' f d v) w) (hx : ev n f x = .int k a := by exact rfl) (hv : Go.Proofs.YtmgpionlfemhdaaGreat.iun op k a = some v := by exact rfl) : WL P ops Q (⟨some d, .unOp op t x, ty, pos, aft, none⟩ :: rest) n f w := Z.pl (R.iun hx hv) h
theorem IM (h : WL P ops Q rest n (upd' f d (.iface t (ev n f x))) w) (hu : notIface (P.underlying t) = true := by kernel_rfl) : WL P ops Q (⟨some d, .makeInterface t x, ty, pos, aft, none⟩ :: rest) n f w := Z.pl (R.mki hu) h
theorem IA (h : WL P ops Q rest n (upd' f d (.tuple #[u, .bool true])) w) (hx : ev n f x = .iface t' u := by exact rfl) (hu : notIface (P.underlying t') = true := by kernel_rfl) : WL P ops Q (⟨some d, .typeAssert x t t' true, ty, pos, aft, none⟩ :: rest) n f w := Z.pl (R.asT hu hx) h
end
end Go.Proofs.YtmgpionlfemhdaaGreat
