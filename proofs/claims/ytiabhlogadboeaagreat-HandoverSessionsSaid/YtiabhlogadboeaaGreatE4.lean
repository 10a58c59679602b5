/-
  Plain operations on whole numbers of any kind: bits, shifts, division, conversions; values of interfaces. No program in sight.
  make of a slice of no length with room; append of a string to bytes; assertions of types that fail. No program in sight.
-/
import Derived.Test.YtiabhlogadboeaaGreatE3
import Derived.Test.YtiabhlogadboeaaGreatE2
import Derived.Lib.AppendStr
namespace Go.Proofs.YtiabhlogadboeaaGreat
open Go.RowKit
set_option linter.unusedSimpArgs false
set_option linter.unusedVariables false

/-- Bits, and what wraps. -/
def bitZ (k : IntKind) (f : BitVec k.bits → BitVec k.bits → BitVec k.bits) (a b : Int) : Int := k.wrap (f (BitVec.ofInt k.bits a) (BitVec.ofInt k.bits b)).toNat
def isI64 : IntKind → Bool
  | .i64 => true
  | _ => false
def ibo (op : BinOp) (k : IntKind) (a b : Int) : Option Value :=
  match op with
  | .and => some (.int k (bitZ k (· &&& ·) a b))
  | .or => some (.int k (bitZ k (· ||| ·) a b))
  | .xor => some (.int k (bitZ k (· ^^^ ·) a b))
  | .andNot => some (.int k (bitZ k (fun x y => x &&& ~~~y) a b))
  | .add => cond (isI64 k) none (some (.int k (k.wrap (a + b))))
  | .sub => cond (isI64 k) none (some (.int k (k.wrap (a - b))))
  | .mul => cond (isI64 k) none (some (.int k (k.wrap (a * b))))
  | op => cmpI op a b
def ish (op : BinOp) (k : IntKind) (a b : Int) : Option Value :=
  match op with
  | .shl => some (.int k (k.wrap (a * 2 ^ min b.toNat k.bits)))
  | .shr => some (.int k (a.fdiv (2 ^ min b.toNat k.bits)))
  | _ => none
def iquo (op : BinOp) (k : IntKind) (a b : Int) : Option Value :=
  match op with
  | .quo => some (.int k (k.wrap (a.tdiv b)))
  | .rem => some (.int k (a.tmod b))
  | _ => none
theorem ibo_run {P : Program} {op : BinOp} {k : IntKind} {a b : Int} {v : Value} (h : ibo op k a b = some v) (T : TypeId) (w : World) : (binOp op T (.int k a) (.int k b)).run P w = .ok v w := by
  cases op <;> simp only [ibo, cmpI, Option.some.injEq, reduceCtorEq] at h
  all_goals first
    | (subst h; simp [binOp, Op.intBits, Op.intArith, Op.intCmp, bitZ, bne, BEq.beq]; done)
    | (revert h; cases k <;> simp [isI64] <;> rintro rfl <;> simp [binOp, Op.intArith])
theorem ish_run {P : Program} {op : BinOp} {k k' : IntKind} {a b : Int} {v : Value} (h : ish op k a b = some v) (hb : 0 ≤ b) (T : TypeId) (w : World) : (binOp op T (.int k a) (.int k' b)).run P w = .ok v w := by
  have hn : ¬ b < 0 := by omega
  cases op <;> simp only [ish, Option.some.injEq, reduceCtorEq] at h <;> subst h <;> simp [binOp, Op.shift, hn]
theorem iquo_run {P : Program} {op : BinOp} {k : IntKind} {a b : Int} {v : Value} (h : iquo op k a b = some v) (hb : b ≠ 0) (T : TypeId) (w : World) : (binOp op T (.int k a) (.int k b)).run P w = .ok v w := by
  cases op <;> simp only [iquo, Option.some.injEq, reduceCtorEq] at h <;> subst h <;> simp [binOp, Op.intDiv, hb]
section
variable {P : Program} {n : Nat} {f : Nat → Value} {d : Option Tmp} {ty t t' : TypeId} {pos : String} {aft : Array Edge} {gd : Option (Nat × Bool)} {x y : Operand} {v : Value} {op : BinOp} {k k' : IntKind} {a b : Int}
theorem R.ibo (hx : ev n f x = .int k a) (hy : ev n f y = .int k b) (hv : Go.Proofs.YtiabhlogadboeaaGreat.ibo op k a b = some v) : Runs P n f ⟨d, .binOp op t x y t', ty, pos, aft, gd⟩ v := by
  refine ⟨fun W => ?_⟩
  have hg := eqGuard_none (P := P) op t x y (a := .int k a) (b := .int k b) (fun c h => by cases h) (fun h => by cases h) W
  unfold execOp
  simp only [hx, hy, Sem.run_bind, hg, Result.andThen_ok, ibo_run hv]
  rfl
theorem R.ish (hx : ev n f x = .int k a) (hy : ev n f y = .int k' b) (hv : Go.Proofs.YtiabhlogadboeaaGreat.ish op k a b = some v) (hb : 0 ≤ b) : Runs P n f ⟨d, .binOp op t x y t', ty, pos, aft, gd⟩ v := by
  refine ⟨fun W => ?_⟩
  have hg := eqGuard_none (P := P) op t x y (a := .int k a) (b := .int k' b) (fun c h => by cases h) (fun h => by cases h) W
  unfold execOp
  simp only [hx, hy, Sem.run_bind, hg, Result.andThen_ok, ish_run hv hb]
  rfl
theorem R.iquo (hx : ev n f x = .int k a) (hy : ev n f y = .int k b) (hv : Go.Proofs.YtiabhlogadboeaaGreat.iquo op k a b = some v) (hb : b ≠ 0) : Runs P n f ⟨d, .binOp op t x y t', ty, pos, aft, gd⟩ v := by
  refine ⟨fun W => ?_⟩
  have hg := eqGuard_none (P := P) op t x y (a := .int k a) (b := .int k b) (fun c h => by cases h) (fun h => by cases h) W
  unfold execOp
  simp only [hx, hy, Sem.run_bind, hg, Result.andThen_ok, iquo_run hv hb]
  rfl
theorem R.icv [hs : HasK P t k] [hd : HasK P t' k'] (hx : ev n f x = .int k a) : Runs P n f ⟨d, .convert t t' x, ty, pos, aft, gd⟩ (.int k' (k'.wrap a)) := R.cvt hx hs.ok hd.ok
/-- The complement, and the negative. -/
def iun (op : UnOp) (k : IntKind) (a : Int) : Option Value :=
  match op with
  | .neg => some (.int k (k.wrap (0 - a)))
  | .xor => some (.int k (bitZ k (· ^^^ ·) (cond k.signed (-1) k.max) a))
  | _ => none
theorem R.iun (hx : ev n f x = .int k a) {op : UnOp} (hv : Go.Proofs.YtiabhlogadboeaaGreat.iun op k a = some v) : Runs P n f ⟨d, .unOp op t x, ty, pos, aft, gd⟩ v := by
  refine ⟨fun W => ?_⟩
  unfold execOp
  cases op <;> simp only [Go.Proofs.YtiabhlogadboeaaGreat.iun, Option.some.injEq, reduceCtorEq] at hv <;> subst hv
  · simp [hx, Op.unary, Op.intArith]
  · cases hk : k.signed <;> simp [hx, Op.unary, Op.intBits, bitZ, hk]
/-! Interfaces. -/
def notIface : Option TypeDesc → Bool
  | some (.interface _) => false
  | some _ => true
  | none => false
theorem R.mki (hu : notIface (P.underlying t) = true) : Runs P n f ⟨d, .makeInterface t x, ty, pos, aft, gd⟩ (.iface t (ev n f x)) := by
  refine ⟨fun W => ?_⟩
  unfold execOp
  cases h : P.underlying t with
  | none => rw [h] at hu; cases hu
  | some dd =>
    rw [h] at hu
    simp only [Instr.makeInterface, Sem.run_bind, run_under h, Result.andThen_ok]
    cases dd <;> first | rfl | cases hu
theorem R.asT (hu : notIface (P.underlying t') = true) {u : Value} (hx : ev n f x = .iface t' u) : Runs P n f ⟨d, .typeAssert x t t' true, ty, pos, aft, gd⟩ (.tuple #[u, .bool true]) := by
  refine ⟨fun W => ?_⟩
  unfold execOp
  cases h : P.underlying t' with
  | none => rw [h] at hu; cases hu
  | some dd =>
    rw [h] at hu
    simp only [hx, Instr.typeAssert, Sem.run_bind, run_under h, Result.andThen_ok]
    cases dd <;> first | (simp; done) | cases hu
end
section
variable {P : Program} {ops : Array Oper} {Q : Exit → Act → World → Prop} {n : Nat} {f : Nat → Value} {w : World} {rest : List Oper} {d : Tmp} {ty t t' : TypeId} {pos : String} {aft : Array Edge} {v u : Value} {x y : Operand} {op : BinOp} {k k' : IntKind} {a b : Int}
theorem IB (h : WL P ops Q rest n (upd' f d v) w) (hx : ev n f x = .int k a := by exact rfl) (hy : ev n f y = .int k b := by exact rfl) (hv : Go.Proofs.YtiabhlogadboeaaGreat.ibo op k a b = some v := by exact rfl) : WL P ops Q (⟨some d, .binOp op t x y t', ty, pos, aft, none⟩ :: rest) n f w := Z.pl (R.ibo hx hy hv) h
theorem IS (h : WL P ops Q rest n (upd' f d v) w) (hx : ev n f x = .int k a := by exact rfl) (hy : ev n f y = .int k' b := by exact rfl) (hv : Go.Proofs.YtiabhlogadboeaaGreat.ish op k a b = some v := by exact rfl) (hb : 0 ≤ b := by omega) : WL P ops Q (⟨some d, .binOp op t x y t', ty, pos, aft, none⟩ :: rest) n f w := Z.pl (R.ish hx hy hv hb) h
theorem IQ (h : WL P ops Q rest n (upd' f d v) w) (hx : ev n f x = .int k a := by exact rfl) (hy : ev n f y = .int k b := by exact rfl) (hv : Go.Proofs.YtiabhlogadboeaaGreat.iquo op k a b = some v := by exact rfl) (hb : b ≠ 0 := by omega) : WL P ops Q (⟨some d, .binOp op t x y t', ty, pos, aft, none⟩ :: rest) n f w := Z.pl (R.iquo hx hy hv hb) h
theorem IC [hs : HasK P t k] [hd : HasK P t' k'] (h : WL P ops Q rest n (upd' f d (.int k' (k'.wrap a))) w) (hx : ev n f x = .int k a := by exact rfl) : WL P ops Q (⟨some d, .convert t t' x, ty, pos, aft, none⟩ :: rest) n f w := Z.pl (R.icv hx) h
theorem IU {op : UnOp} (h : WL P ops Q rest n (upd' f d v) w) (hx : ev n f x = .int k a := by exact rfl) (hv : Go.Proofs.YtiabhlogadboeaaGreat.iun op k a = some v := by exact rfl) : WL P ops Q (⟨some d, .unOp op t x, ty, pos, aft, none⟩ :: rest) n f w := Z.pl (R.iun hx hv) h
theorem IM (h : WL P ops Q rest n (upd' f d (.iface t (ev n f x))) w) (hu : notIface (P.underlying t) = true := by kernel_rfl) : WL P ops Q (⟨some d, .makeInterface t x, ty, pos, aft, none⟩ :: rest) n f w := Z.pl (R.mki hu) h
theorem IA (h : WL P ops Q rest n (upd' f d (.tuple #[u, .bool true])) w) (hx : ev n f x = .iface t' u := by exact rfl) (hu : notIface (P.underlying t') = true := by kernel_rfl) : WL P ops Q (⟨some d, .typeAssert x t t' true, ty, pos, aft, none⟩ :: rest) n f w := Z.pl (R.asT hu hx) h
end
end Go.Proofs.YtiabhlogadboeaaGreat

namespace Go.Proofs.YtiabhlogadboeaaGreat
open Go.RowKit
set_option linter.unusedSimpArgs false
set_option linter.unusedVariables false

theorem zerosL_len (zs : List Value) : ∀ k, (Z.zerosL zs k).length = k * zs.length
  | 0 => by simp [Z.zerosL]
  | k + 1 => by simp [Z.zerosL, zerosL_len zs k, Nat.add_mul, Nat.add_comm]
theorem mk_sl0 {r w : World} {M : List Nat} {F : List Res} {g e sz c : Nat} {cs : List Value} (h : Sep r M (.blk g e cs :: F) w) (hm : c ≤ maxLen) (hc : cs.length = c * sz) :
    Sep r M (.sl e sz (.slice (some ⟨g, 0, none⟩) 0 c) [] :: F) w := by
  by_cases h0 : 0 < c
  · refine h.upd fun f1 hf => ?_
    obtain ⟨rfl, hb⟩ := id hf
    exact ⟨Chg.refl _ _, [g], ⟨by simp, _, _, rfl, .inr ⟨h0, g, _, rfl, rfl, hb, Nat.zero_le _, hm, by simpa using hc, by simp⟩⟩, by simp, fun b hb' => by simp at hb'; subst hb'; exact ⟨hb.lt, .inl (by simp)⟩⟩
  · have e0 : c = 0 := by omega
    subst e0
    exact Z.nilsl h.tail e sz _
section
variable {P : Program} {r w : World} {M : List Nat} {L : List Res} {e : Nat}
theorem run_apS {B : Option Addr} {n0 c0 : Nat} {rows : List (List Value)} (t u : TypeId) (htt : P.underlying t = some (.slice e)) (hut : P.underlying u = some .string) [he : HasE P e 1 1] (hS : Sep r M (.sl e 1 (.slice B n0 c0) rows :: L) w) (h0 : 0 < rows.length) (s : ByteArray) (hm : rows.length + s.size ≤ 140737488355328) (ty : TypeId) :
    ∃ A' c' w', (Builtin.append_ #[t, u] ty #[.slice B n0 c0, .string s]).run P w = .ok (.slice A' (rows.length + s.size) c') w' ∧ Sep r M (.sl e 1 (.slice A' (rows.length + s.size) c') (rows ++ (Go.Lib.strCells s).map fun v => [v]) :: L) w' := by
  obtain ⟨i, z, hi, hz0, hsz, hby, hzs, hpos⟩ := he.ok
  obtain ⟨fp, ⟨f1, f2, rfl, hsl, hL⟩, _⟩ := id hS.ex
  obtain ⟨h1, B', c0', hv, hx⟩ := hsl
  injection hv with e1 e2 e3
  subst e1
  subst e3
  rcases hx with ⟨_, hnil, _⟩ | ⟨hc0, g, cur, rfl, hf1, hb, hle0, hm0, hs0, ht0⟩
  · subst hnil; simp at h0
  have hn0 : n0 = rows.length := e2
  subst hn0
  have hfl := flatten_length fun row hr => (h1 row hr).1
  have hown : w.ownsRow 0 e 1 (.slice (some ⟨g, 0, none⟩) rows.length c0) rows.length rows.flatten :=
    ⟨hfl, .inr ⟨g, c0, cur, rfl, Nat.zero_le _, hb, hle0, hm0, hs0, ht0⟩⟩
  have hlen : (rows ++ (Go.Lib.strCells s).map fun v => [v]).length = rows.length + s.size := by rw [List.length_append, List.length_map, Go.Lib.strCells_length]
  have hflat : (rows ++ (Go.Lib.strCells s).map fun v => [v]).flatten = rows.flatten ++ Go.Lib.strCells s := by
    rw [List.flatten_append]
    congr 1
    induction Go.Lib.strCells s with
    | nil => rfl
    | cons a l ih => simp [ih]
  have hsl := Go.Lib.strCells_length s
  have hall : ∀ row, row ∈ rows ++ (Go.Lib.strCells s).map (fun v => [v]) → row.length = 1 ∧ ∀ u, u ∈ row → u.oneCell' = true := by
    intro row hrow
    rcases List.mem_append.1 hrow with h | h
    · exact h1 row h
    · obtain ⟨x, hx, rfl⟩ := List.mem_map.1 h
      exact ⟨rfl, by simpa using Go.Lib.strCells_oneCell s x hx⟩
  have hin : ∀ f1, (Res.sl e 1 (.slice (some ⟨g, 0, none⟩) rows.length c0) rows).holds w f1 → f1 = [g] := by
    rintro f1 ⟨_, A2, c2, hv3, hx2⟩
    injection hv3 with e4 _ e5
    subst e5
    rcases hx2 with ⟨h3, _⟩ | ⟨_, g3, _, hA3, hf3, _⟩
    · omega
    · rw [← e4] at hA3
      injection hA3 with hA3
      injection hA3 with hg3
      rw [hf3, ← hg3]
  have hrl : rows.flatten.length = rows.length := by omega
  by_cases hroom : rows.length + s.size ≤ c0
  · have hr := Go.Lib.run_append_room_string (P := P) w t u ty e i htt hut hi hsz g rows.length c0 cur hb s hroom (by omega)
    refine ⟨_, _, _, hr, hS.upd fun f1 hf => ?_⟩
    have := hin f1 hf
    subst this
    refine ⟨chg_setRow w g _, [g], ⟨hall, _, c0, by rw [hlen], .inr ⟨hc0, g, _, rfl, rfl, setRow_heap w g cur _ e _ hb, by rw [hlen]; exact hroom, hm0, ?_, ?_⟩⟩, by simp, ?_⟩
    · simp only [List.size_toArray, List.length_append, List.length_take, List.length_drop, Array.length_toList, hsl]
      omega
    · rw [Nat.mul_one] at ht0
      rw [hlen, hflat, ht0, Nat.mul_one]
      have e9 : rows.length + s.size = (rows.flatten ++ Go.Lib.strCells s).length := by rw [List.length_append, hrl, hsl]
      rw [e9]
      exact List.take_left
    · intro b hb'
      simp at hb'
      subst hb'
      exact ⟨Blk.lt (setRow_heap w b cur _ e _ hb), .inl (by simp)⟩
  · have holds : ∀ j u, rows.flatten[j]? = some u → w.cell? ((⟨g, 0, none⟩ : Addr).add j) = some u := hown.cells (g := g) rfl
    have hr := Go.Lib.run_append_grow_string (P := P) w t u ty e i z htt hut hi hz0 ⟨g, 0, none⟩ rows.length c0 rows.flatten (by rw [hsz]; exact hfl) holds s (by omega) (by omega) (by rw [hby]; exact growslice_fits (by omega) (by omega))
    have hge := grownCap_ge w (rows.length + s.size) c0 e
    have hcm : grownCap w (rows.length + s.size) c0 e ≤ maxLen := grownCap_le_maxLen w (rows.length + s.size) c0 e (by unfold maxLen; omega)
    have hnew := heap_alloc_new w.drew (.cells (rows.flatten.toArray ++ (Go.Lib.strCells s).toArray ++ Builtin.zeroCells z.cells (grownCap w (rows.length + s.size) c0 e - (rows.length + s.size))) e)
    refine ⟨_, _, _, hr, hS.upd fun f1 hf => ⟨(((Chg.refl [] w).drew).alloc _).mono (by simp), [w.heap.size], ⟨hall, _, _, by rw [hlen], .inr ⟨by omega, w.heap.size, _, rfl, rfl, hnew, by rw [hlen]; exact hge, hcm, ?_, ?_⟩⟩, by simp, ?_⟩⟩
    · simp only [Array.size_append, List.size_toArray, size_zeroCells, hzs, hrl, hsl]
      omega
    · simp only [Array.toList_append]
      rw [hlen, hflat, Nat.mul_one]
      have e9 : rows.length + s.size = (rows.flatten ++ Go.Lib.strCells s).length := by rw [List.length_append, hrl, hsl]
      rw [e9]
      exact List.take_left
    · intro b hb'
      simp at hb'
      subst hb'
      exact ⟨Blk.lt hnew, .inr (Nat.le_refl _)⟩
end
/-! Assertions of types that fail. -/
section
variable {P : Program} {n : Nat} {f : Nat → Value} {d : Option Tmp} {ty t t' t'' : TypeId} {pos : String} {aft : Array Edge} {gd : Option (Nat × Bool)} {x : Operand} {u z : Value}
theorem R.asF (hu : notIface (P.underlying t') = true) (hx : ev n f x = .iface t'' u) (hne : Nat.beq t'' t' = false) (hz : (P.info? t').bind (·.zero) = some z) : Runs P n f ⟨d, .typeAssert x t t' true, ty, pos, aft, gd⟩ (.tuple #[z, .bool false]) := by
  refine ⟨fun W => ?_⟩
  unfold execOp
  have hn : ¬ t'' = t' := fun e => by rw [e, Nat.beq_refl] at hne; cases hne
  cases h : P.underlying t' with
  | none => rw [h] at hu; cases hu
  | some dd =>
    rw [h] at hu
    cases hi : P.info? t' with
    | none => rw [hi] at hz; cases hz
    | some i =>
      rw [hi] at hz
      have hz1 : i.zero = some z := hz
      have hzv : (zeroValue t').run P W = .ok z W := by simp [zeroValue, typeInfo, hi, hz1]
      simp only [hx, Instr.typeAssert, Sem.run_bind, run_under h, Result.andThen_ok]
      cases dd <;> first | (simp [hn, hzv, Sem.run_bind]; done) | cases hu
end
section
variable {P : Program} {ops : Array Oper} {Q : Exit → Act → World → Prop} {n : Nat} {f : Nat → Value} {w : World} {rest : List Oper} {d : Tmp} {ty t t' t'' : TypeId} {pos : String} {aft : Array Edge} {u : Value} {x : Operand}
theorem IFi [ht : HasTT P] (h : WL P ops Q rest n (upd' f d (.tuple #[.int .i64 0, .bool false])) w) (hx : ev n f x = .iface t'' u := by exact rfl) (hne : Nat.beq t'' t' = false := by exact rfl) (hu : notIface (P.underlying t') = true := by kernel_rfl) (hk : kindOf ht.tt t' = .int := by exact rfl) (hz : (P.info? t').bind (·.zero) = some (.int .i64 0) := by kernel_rfl) : WL P ops Q (⟨some d, .typeAssert x t t' true, ty, pos, aft, none⟩ :: rest) n f w := Z.pl (R.asF hu hx hne hz) h
theorem IFs [ht : HasTT P] {e sz : Nat} (h : WL P ops Q rest n (upd' f d (.tuple #[.slice none 0 0, .bool false])) w) (hx : ev n f x = .iface t'' u := by exact rfl) (hne : Nat.beq t'' t' = false := by exact rfl) (hu : notIface (P.underlying t') = true := by kernel_rfl) (hk : kindOf ht.tt t' = .sl e sz := by exact rfl) (hz : (P.info? t').bind (·.zero) = some (.slice none 0 0) := by kernel_rfl) : WL P ops Q (⟨some d, .typeAssert x t t' true, ty, pos, aft, none⟩ :: rest) n f w := Z.pl (R.asF hu hx hne hz) h
end
namespace Z
section
variable {P : Program} {K : (Nat → Value) → World → Prop} {Q : Exit → Act → World → Prop} {n : Nat} {f : Nat → Value} {w r : World} {M : List Nat} {L : List Res} {d : Tmp} {ty t u : TypeId} {pos : String} {aft : Array Edge} {x y : Operand} {e : Nat} {k : List Res}
/-- append(b, s...), s a string -/
theorem apS [ht : HasTT P] {B : Option Addr} {n0 c0 : Nat} {rows : List (List Value)} {s : ByteArray} (hS : Sep r M L w) (hx : ev n f x = .slice B n0 c0) (hy : ev n f y = .string s) (hk : kindOf ht.tt t = .sl e 1) (hu : P.underlying u = some .string) [he : HasE P e 1 1] (ha : At L k (.sl e 1 (.slice B n0 c0) rows)) (h0 : 0 < rows.length) (hm : rows.length + s.size ≤ 140737488355328)
    (h : ∀ A' c' w', Sep r M (.sl e 1 (.slice A' (rows.length + s.size) c') (rows ++ (Go.Lib.strCells s).map fun v => [v]) :: k) w' → K (upd' f d (.slice A' (rows.length + s.size) c')) w') :
    WE P ⟨some d, .call ⟨.builtin .append, #[x, y], #[t, u]⟩, ty, pos, aft, none⟩ K Q n f w := by
  refine ⟨fun K' hK => ?_⟩
  obtain ⟨A', c', w', hrun, hS'⟩ := run_apS (P := P) t u (kind_sl hk).1 hu (hS.focus ha) h0 s hm ty
  unfold Oper.wp
  rw [act_eval', show (execOp (ev n f) ⟨some d, .call ⟨.builtin .append, #[x, y], #[t, u]⟩, ty, pos, aft, none⟩).run P w = _ from by simp [execOp, resolve, invoke, builtin, hx, hy, hrun]; rfl]
  simp only [Result.andThen_ok, Oper.upon_value, act_put]
  exact hK _ _ (h A' c' w' hS')
end
end Z
end Go.Proofs.YtiabhlogadboeaaGreat
