/-
  Plain reckoning of one operation, carried out by a function over the slots; facts on types come out of a small table. No program in sight.
-/
import Derived.Test.YtabpapdickolgaaRG
namespace Go.Proofs.Ytabpapdickolgaa
open Go.RowKit
set_option linter.unusedSimpArgs false
set_option linter.unusedVariables false

/-! Slots as a function. -/
def upd' (f : Nat → Value) (d : Nat) (v : Value) : Nat → Value := fun s => cond (Nat.beq s d) v (f s)
def putf (f : Nat → Value) : Option Tmp → Value → (Nat → Value)
  | some d, v => upd' f d v
  | none, _ => f
def fr (n : Nat) (f : Nat → Value) : Array Value := (Array.range n).map f
/-- The frame of n slots f, nothing deferred. -/
abbrev act (n : Nat) (f : Nat → Value) : Act := ⟨fr n f, []⟩
def ev (n : Nat) (f : Nat → Value) : Operand → Value
  | .tmp t => cond (Nat.blt t n) (f t) undef
  | .const v => v
  | .global g => .pointer (some ⟨g, 0, none⟩)
  | .func f => .func (.func f) #[] #[]
theorem fr_size (n : Nat) (f : Nat → Value) : (fr n f).size = n := by simp [fr]
theorem fr_get {n t : Nat} {f : Nat → Value} (h : t < n) : (fr n f)[t]? = some (f t) := by simp [fr, h]
theorem fr_getD (n t : Nat) (f : Nat → Value) : (fr n f).getD t undef = cond (Nat.blt t n) (f t) undef := by
  by_cases h : t < n
  · simp [fr, h, Array.getD, show Nat.blt t n = true by simpa [Nat.blt_eq] using h]
  · have : Nat.blt t n = false := by
      cases hb : Nat.blt t n
      · rfl
      · exact absurd (by simpa [Nat.blt_eq] using hb) h
    simp [fr, h, Array.getD, this]
theorem act_eval (n : Nat) (f : Nat → Value) (x : Operand) : (act n f).eval x = ev n f x := by
  cases x with
  | tmp t => exact fr_getD n t f
  | _ => rfl
theorem act_eval' (n : Nat) (f : Nat → Value) : (act n f).eval = ev n f := funext (act_eval n f)
theorem act_put (n : Nat) (f : Nat → Value) (d : Option Tmp) (v : Value) : (act n f).put d v = act n (putf f d v) := by
  cases d with
  | none => rfl
  | some d =>
    simp only [Act.put, act, putf]
    congr 1
    apply Array.ext
    · simp [fr]
    · intro i h1 h2
      simp only [fr, Array.size_setIfInBounds, Array.size_map, Array.size_range] at h1
      simp only [fr, Array.getElem_setIfInBounds, Array.getElem_map, Array.getElem_range, upd']
      by_cases hi : d = i
      · subst hi
        simp
      · rw [Array.getElem_setIfInBounds_ne (by simpa using h1) hi]
        have : Nat.beq i d = false := by
          cases hb : Nat.beq i d
          · rfl
          · exact absurd (Nat.eq_of_beq_eq_true hb).symm hi
        simp [this]
/-- The same value, its head in sight. -/
def hdv : Value → Value
  | .bool b => .bool b
  | .int k n => .int k n
  | .float k n => .float k n
  | .complex k n m => .complex k n m
  | .string s => .string s
  | .pointer a => .pointer a
  | .slice a n c => .slice a n c
  | .map r => .map r
  | .chan r => .chan r
  | .func f a b => .func f a b
  | .nilFunc => .nilFunc
  | .iface t v => .iface t v
  | .nilIface => .nilIface
  | .agg c => .agg c
  | .tuple c => .tuple c
theorem hdv_eq (v : Value) : hdv v = v := by cases v <;> rfl
def someV : Value → Option Value
  | .bool b => some (.bool b)
  | .int k n => some (.int k n)
  | .float k n => some (.float k n)
  | .complex k n m => some (.complex k n m)
  | .string s => some (.string s)
  | .pointer a => some (.pointer a)
  | .slice a n c => some (.slice a n c)
  | .map r => some (.map r)
  | .chan r => some (.chan r)
  | .func f a b => some (.func f a b)
  | .nilFunc => some .nilFunc
  | .iface t v => some (.iface t v)
  | .nilIface => some .nilIface
  | .agg c => some (.agg c)
  | .tuple c => some (.tuple c)
theorem someV_eq (v : Value) : someV v = some v := by cases v <;> rfl
def bindV : Option Value → Option Value
  | some v => someV v
  | none => none
theorem bindV_eq (v : Option Value) : bindV v = v := by cases v <;> simp [bindV, someV_eq]

/-! Types. -/
inductive TK where
  | other | bool | int | str | ptr | fn
  | sl (e sz : Nat)
  | ar (n e sz : Nat)
  | st (fs : List (Nat × Nat × Bool))
structure Ty where
  k : TK
  size : Nat
def isAggD : Option TypeDesc → Bool
  | some (.struct _) | some (.array _ _) => true
  | _ => false
def sizeB (P : Program) (t n : Nat) : Bool := match P.info? t with | some i => i.size == n | none => false
def okFields (P : Program) : List Field → List (Nat × Nat × Bool) → Bool
  | [], [] => true
  | f :: fs, (o, n, a) :: l => f.offset == o && sizeB P f.type n && n != 0 && (isAggD (P.underlying f.type) == a) && (P.underlying f.type).isSome && okFields P fs l
  | _, _ => false
def okTy (P : Program) (t : Nat) (y : Ty) : Bool :=
  match y.k, P.underlying t with
  | .other, _ => true
  | .bool, some .bool => sizeB P t y.size
  | .int, some (.int _) => sizeB P t y.size
  | .str, some .string => sizeB P t y.size
  | .ptr, some (.pointer _) => sizeB P t y.size
  | .fn, some (.func _ _ _) => sizeB P t y.size
  | .fn, some (.map _ _) => sizeB P t y.size
  | .sl e sz, some (.slice e') => sizeB P t y.size && e == e' && sizeB P e sz
  | .ar n e sz, some (.array n' e') => sizeB P t y.size && n == n' && e == e' && sizeB P e sz
  | .st fs, some (.struct l) => sizeB P t y.size && okFields P l.toList fs
  | _, _ => false
/-- The table fits the program. -/
def TabOk (P : Program) (tt : List Ty) : Prop := ∀ t y, tt[t]? = some y → okTy P t y = true
def tabOkB (P : Program) : List Ty → Nat → Bool
  | [], _ => true
  | y :: l, t => okTy P t y && tabOkB P l (t + 1)
theorem tabOk_go {P : Program} : ∀ (l : List Ty) (k : Nat), tabOkB P l k = true → ∀ t y, l[t]? = some y → okTy P (k + t) y = true
  | [], _, _, _, _, h => by simp at h
  | y :: l, k, h, t, z, hz => by
    simp only [tabOkB, Bool.and_eq_true] at h
    cases t with
    | zero => simp at hz; subst hz; exact h.1
    | succ t => have := tabOk_go l (k + 1) h.2 t z (by simpa using hz); rw [Nat.add_comm t 1, ← Nat.add_assoc]; exact this
theorem tabOk_of {P : Program} {tt : List Ty} (h : tabOkB P tt 0 = true) : TabOk P tt := fun t y hy => by simpa using tabOk_go tt 0 h t y hy
def kindOf (tt : List Ty) (t : Nat) : TK := match tt[t]? with | some y => y.k | none => .other

/-! Reckoning. -/
/-- Parts of an aggregate: (offset, its cells). -/
def fillL (cs : List Value) : List (Nat × List Value) → List Value
  | [] => cs
  | (_, []) :: r => fillL cs r
  | (o, v :: vs) :: r => fillL (cs.set o v) ((o + 1, vs) :: r)
  termination_by l => (l.map fun p => p.2.length + 1).sum

def cmpI (op : BinOp) (a b : Int) : Option Value :=
  match op with
  | .eql => some (.bool (decide (a = b)))
  | .neq => some (.bool (!decide (a = b)))
  | .lss => some (.bool (decide (a < b)))
  | .leq => some (.bool (decide (a ≤ b)))
  | .gtr => some (.bool (decide (b < a)))
  | .geq => some (.bool (decide (b ≤ a)))
  | _ => none
def pureOp (tt : List Ty) (n : Nat) (f : Nat → Value) (o : Op) : Option Value :=
  match o with
  | .move x => someV (ev n f x)
  | .assign x => someV (ev n f x)
  | .pick c a b => match ev n f c with | .bool true => someV (ev n f a) | .bool false => someV (ev n f b) | _ => none
  | .nilCheck x => match ev n f x with | .pointer (some a) => some (.pointer (some a)) | _ => none
  | .fieldAddr T x i =>
    match ev n f x, kindOf tt T with
    | .pointer (some ⟨g, o, none⟩), .st fs => match fs[i]? with | some (off, _, _) => some (.pointer (some ⟨g, o + off, none⟩)) | none => none
    | _, _ => none
  | .field T x i =>
    match ev n f x, kindOf tt T with
    | .agg cs, .st fs => match fs[i]? with | some (off, sz, ag) => cond ag (some (.agg (cs.extract off (off + sz)))) (bindV cs.toList[off]?) | none => none
    | _, _ => none
  | .unOp .not _ x => match ev n f x with | .bool b => some (.bool (!b)) | _ => none
  | .binOp op T x y _ =>
    match ev n f x, ev n f y with
    | .int .i64 a, .int .i64 b => cmpI op a b
    | .int .u8 a, .int .u8 b => cmpI op a b
    | .string a, .string b => match op with | .eql => some (.bool (decide (a = b))) | .neq => some (.bool (!decide (a = b))) | .lss => some (.bool (Op.bytesLess a.toList b.toList)) | _ => none
    | .bool a, .bool b => match op, kindOf tt T with | .eql, .bool => some (.bool (a == b)) | .neq, .bool => some (.bool (!(a == b))) | _, _ => none
    | .pointer (some _), .pointer none => match op, kindOf tt T with | .eql, .ptr => some (.bool false) | .neq, .ptr => some (.bool true) | _, _ => none
    | .pointer none, .pointer none => match op, kindOf tt T with | .eql, .ptr => some (.bool true) | .neq, .ptr => some (.bool false) | _, _ => none
    | .slice a _ _, .slice none _ _ => match op, kindOf tt T with | .eql, .sl _ _ => some (.bool a.isNone) | .neq, .sl _ _ => some (.bool (!a.isNone)) | _, _ => none
    | _, _ => none
  | .extract x i => match ev n f x with | .tuple vs => bindV vs.toList[i]? | _ => none
  | .call ⟨.builtin .len, as, ts⟩ =>
    match as.toList, ts.toList with
    | [x], [t] => match ev n f x, kindOf tt t with | .slice _ k _, .sl _ _ => some (.int .i64 k) | .string s, .str => some (.int .i64 s.size) | _, _ => none
    | _, _ => none
  | _ => none

section
variable {P : Program} {tt : List Ty} {n : Nat} {f : Nat → Value} {o : Oper} {v : Value}
theorem kindOf_ok (ht : TabOk P tt) (t : Nat) : ∃ z, okTy P t ⟨kindOf tt t, z⟩ = true := by
  unfold kindOf
  cases h : tt[t]? with
  | none => exact ⟨0, rfl⟩
  | some y => exact ⟨y.size, ht t y h⟩
theorem okFields_at {P : Program} : ∀ {l : List Field} {fs : List (Nat × Nat × Bool)}, okFields P l fs = true → ∀ {i : Nat} {q : Nat × Nat × Bool}, fs[i]? = some q →
    ∃ x, l[i]? = some x ∧ x.offset = q.1 ∧ sizeB P x.type q.2.1 = true ∧ q.2.1 ≠ 0 ∧ isAggD (P.underlying x.type) = q.2.2 ∧ (P.underlying x.type).isSome = true
  | [], [], _, _, _, hq => by simp at hq
  | [], _ :: _, h, _, _, _ => by simp [okFields] at h
  | _ :: _, [], h, _, _, _ => by simp [okFields] at h
  | x :: l, (o, n, a) :: fs, h, i, q, hq => by
    simp only [okFields, Bool.and_eq_true, beq_iff_eq, bne_iff_ne] at h
    obtain ⟨⟨⟨⟨⟨h1, h2⟩, h3⟩, h4⟩, h5⟩, h6⟩ := h
    cases i with
    | zero => simp at hq; subst hq; exact ⟨x, rfl, h1, h2, h3, h4, h5⟩
    | succ i => exact okFields_at h6 (i := i) (by simpa using hq)
theorem run_under {t : Nat} {d : TypeDesc} (h : P.underlying t = some d) (w : World) : (underlying t).run P w = .ok d w := run_underlying h w
theorem run_size {t m : Nat} (h : sizeB P t m = true) (w : World) : (sizeOf t).run P w = .ok m w := by
  unfold sizeB at h
  cases hi : P.info? t with
  | none => simp [hi] at h
  | some i => simp [hi] at h; simp [sizeOf, typeInfo, hi, h]
theorem bytes_eq (a b : ByteArray) : (a.toList == b.toList) = decide (a = b) := by
  by_cases h : a = b
  · subst h; simp
  · have : a.toList ≠ b.toList := fun e => h (by
      rw [ByteArray.toList_eq, ByteArray.toList_eq] at e
      cases a; cases b
      simp only [ByteArray.mk.injEq]
      exact Array.toList_inj.1 e)
    simp [h, this]

theorem cmpI_ok {op : BinOp} {k : IntKind} {a b : Int} (h : cmpI op a b = some v) (T : TypeId) (w : World) : (binOp op T (.int k a) (.int k b)).run P w = .ok v w := by
  cases op <;> simp only [cmpI, Option.some.injEq, reduceCtorEq] at h <;> subst h <;> simp [binOp, Op.intCmp, bne, BEq.beq]

theorem eqGuard_none (op : BinOp) (T : TypeId) (x y : Operand) {a b : Value} (h : ∀ c, a ≠ .agg c) (h' : a ≠ .nilIface) (w : World) : (eqGuard op T x y a b).run P w = .ok () w := by
  cases op <;> cases a <;> first | rfl | exact absurd rfl (h _) | exact absurd rfl h'

theorem equal_step (T : TypeId) (a b : Value) {d : TypeDesc} (hu : P.underlying T = some d) {c : Bool} (w : World)
    (h : (match d, a, b with
      | .bool, .bool a, .bool b => some (a == b)
      | .pointer _, .pointer none, .pointer b => some b.isNone
      | .pointer _, .pointer (some _), .pointer none => some false
      | .slice _, .slice none _ _, .slice b _ _ => some b.isNone
      | .slice _, .slice (some _) _ _, .slice none _ _ => some false
      | _, _, _ => none) = some c) : (Op.equal T a b).run P w = .ok c w := by
  unfold Op.equal
  rw [show Op.maxDepth = 9999 + 1 from rfl]
  unfold Op.equalIn
  simp only [Sem.run_bind, run_under hu, Result.andThen_ok]
  split at h <;> simp only [Option.some.injEq, reduceCtorEq] at h <;> subst h <;> rfl
theorem eql_run (T : TypeId) (a b : Value) (c : Bool) (w : World) (hab : ∀ k i, a ≠ .int k i) (hf : ∀ k i, a ≠ .float k i) (hc : ∀ k i j, a ≠ .complex k i j) (hs : ∀ s, a ≠ .string s) (h : (Op.equal T a b).run P w = .ok c w) :
    (binOp .eql T a b).run P w = .ok (.bool c) w ∧ (binOp .neq T a b).run P w = .ok (.bool (!c)) w := by
  cases a <;> first | exact absurd rfl (hab _ _) | exact absurd rfl (hf _ _) | exact absurd rfl (hc _ _ _) | exact absurd rfl (hs _) | (constructor <;> simp only [binOp, Sem.run_bind, h, Result.andThen_ok] <;> rfl)

def plainV : Value → Bool
  | .int _ _ | .float _ _ | .complex _ _ _ | .string _ | .agg _ | .nilIface => false
  | _ => true
theorem eq_exec {x y : Operand} {a b : Value} {c : Bool} (hx : ev n f x = a) (hy : ev n f y = b) (hp : plainV a = true) (T : TypeId) (w : World) (h : (Op.equal T a b).run P w = .ok c w) (dst : Option Tmp) (yt type : TypeId) (pos : String) (after : Array Edge) (guard : Option (Nat × Bool)) :
    (execOp (ev n f) ⟨dst, .binOp .eql T x y yt, type, pos, after, guard⟩).run P w = .ok (.value (.bool c)) w ∧ (execOp (ev n f) ⟨dst, .binOp .neq T x y yt, type, pos, after, guard⟩).run P w = .ok (.value (.bool (!c))) w := by
  have he := eql_run T a b c w (fun _ _ e => by subst e; cases hp) (fun _ _ e => by subst e; cases hp) (fun _ _ _ e => by subst e; cases hp) (fun _ e => by subst e; cases hp) h
  have hg : ∀ op w, (eqGuard op T x y a b).run P w = .ok () w := fun op w => eqGuard_none op T x y (fun c e => by subst e; cases hp) (fun e => by subst e; cases hp) w
  unfold execOp
  simp only [hx, hy, Sem.run_bind, hg, Result.andThen_ok, he.1, he.2]
  exact ⟨rfl, rfl⟩

theorem pureOp_ok (ht : TabOk P tt) (h : pureOp tt n f o.op = some v) (w : World) : (execOp (ev n f) o).run P w = .ok (.value v) w := by
  obtain ⟨dst, op, type, pos, after, guard⟩ := o
  simp only at h
  unfold pureOp at h
  unfold execOp
  split at h
  · rw [someV_eq] at h; simp only [Option.some.injEq] at h; subst h; simp
  · rw [someV_eq] at h; simp only [Option.some.injEq] at h; subst h; simp
  · split at h
    · rename_i hc; rw [someV_eq] at h; simp only [Option.some.injEq] at h; subst h; simp [hc, asBool]
    · rename_i hc; rw [someV_eq] at h; simp only [Option.some.injEq] at h; subst h; simp [hc, asBool]
    · cases h
  · split at h
    · rename_i hc; simp only [Option.some.injEq] at h; subst h; simp [hc]
    · cases h
  · rename_i T x i
    obtain ⟨z, hz⟩ := kindOf_ok ht T
    split at h
    · rename_i g off fs hx hk
      rw [hk] at hz
      cases hf : fs[i]? with
      | none => simp [hf] at h
      | some q =>
        simp only [hf, Option.some.injEq] at h
        subst h
        unfold okTy at hz
        cases hu : P.underlying T with
        | none => simp [hu] at hz
        | some d =>
          cases d <;> simp [hu] at hz
          rename_i l
          obtain ⟨y, hy, ho, hs, hn, _, _⟩ := okFields_at hz.2 hf
          simp only [Array.getElem?_toList] at hy
          simp [hx, Instr.fieldAt, Instr.sureAddr, run_under hu, hy, fieldPlace, run_size hs, hn, ho, add_lit]
    · cases h
  · rename_i T x i
    obtain ⟨z, hz⟩ := kindOf_ok ht T
    split at h
    · rename_i cs fs hx hk
      rw [hk] at hz
      cases hf : fs[i]? with
      | none => simp [hf] at h
      | some q =>
        obtain ⟨q1, q2, q3⟩ := q
        simp only [hf] at h
        unfold okTy at hz
        cases hu : P.underlying T with
        | none => simp [hu] at hz
        | some d =>
          cases d <;> simp [hu] at hz
          rename_i l
          obtain ⟨y, hy, ho, hs, hn, ha, hsome⟩ := okFields_at hz.2 hf
          simp only [Array.getElem?_toList] at hy
          simp only at ho hs hn ha
          obtain ⟨d', hd'⟩ := Option.isSome_iff_exists.1 hsome
          have hag : (isAgg y.type).run P w = .ok q3 w := by
            rw [hd'] at ha
            subst ha
            unfold isAgg
            simp only [Sem.run_bind, run_under hd', Result.andThen_ok]
            cases d' <;> rfl
          cases q3 with
          | true =>
            simp at h
            subst h
            simp [hx, Instr.field, asAgg, run_under hu, hy, part, hag, run_size hs, ho]
          | false =>
            simp only [cond_false, bindV_eq, Array.getElem?_toList] at h
            cases hc : cs[q1]? with
            | none => simp [hc] at h
            | some u =>
              simp [hc] at h
              subst h
              simp [hx, Instr.field, asAgg, run_under hu, hy, part, hag, ho, hc]
    · cases h
  · split at h
    · rename_i hc; simp only [Option.some.injEq] at h; subst h; simp [hc, Op.unary]
    · cases h
  · rename_i op T x y yt
    obtain ⟨z, hz⟩ := kindOf_ok ht T
    split at h
    · rename_i a b hx hy
      simp [hx, hy, eqGuard_none, cmpI_ok h]
    · rename_i a b hx hy
      simp [hx, hy, eqGuard_none, cmpI_ok h]
    · rename_i a b hx hy
      split at h <;> simp only [Option.some.injEq, reduceCtorEq] at h <;> subst h <;> simp [hx, hy, eqGuard_none, binOp, Op.stringOp, bytes_eq]
    · rename_i a b hx hy
      split at h <;> simp only [Option.some.injEq, reduceCtorEq] at h <;> subst h
      all_goals
        rename_i hk
        rw [hk] at hz
        unfold okTy at hz
        cases hu : P.underlying T with
        | none => simp [hu] at hz
        | some d =>
          cases d <;> simp [hu] at hz
          have he := eq_exec hx hy rfl T w (equal_step (P := P) T _ _ hu w rfl) dst yt type pos after guard
          first | exact he.1 | exact he.2
    · rename_i a b hx hy
      split at h <;> simp only [Option.some.injEq, reduceCtorEq] at h <;> subst h
      all_goals
        rename_i hk
        rw [hk] at hz
        unfold okTy at hz
        cases hu : P.underlying T with
        | none => simp [hu] at hz
        | some d =>
          cases d <;> simp [hu] at hz
          have he := eq_exec hx hy rfl T w (equal_step (P := P) T _ _ hu w rfl) dst yt type pos after guard
          first | exact he.1 | exact he.2
    · rename_i hx hy
      split at h <;> simp only [Option.some.injEq, reduceCtorEq] at h <;> subst h
      all_goals
        rename_i hk
        rw [hk] at hz
        unfold okTy at hz
        cases hu : P.underlying T with
        | none => simp [hu] at hz
        | some d =>
          cases d <;> simp [hu] at hz
          have he := eq_exec hx hy rfl T w (equal_step (P := P) T _ _ hu w rfl) dst yt type pos after guard
          first | exact he.1 | exact he.2
    · rename_i a _ _ _ _ hx hy
      split at h <;> simp only [Option.some.injEq, reduceCtorEq] at h <;> subst h
      all_goals
        rename_i hk
        rw [hk] at hz
        unfold okTy at hz
        cases hu : P.underlying T with
        | none => simp [hu] at hz
        | some d =>
          cases d <;> simp [hu] at hz
          cases a
          all_goals
            have he := eq_exec hx hy rfl T w (equal_step (P := P) T _ _ hu w rfl) dst yt type pos after guard
            first | exact he.1 | exact he.2
    · cases h
  · rename_i x i
    split at h
    · rename_i vs hx
      simp only [bindV_eq, Array.getElem?_toList] at h
      cases hc : vs[i]? with
      | none => simp [hc] at h
      | some u => simp [hc] at h; subst h; simp [hx, Instr.extract, hc]
    · cases h
  · rename_i as ts
    split at h
    · rename_i x t ha hb
      obtain ⟨z, hz⟩ := kindOf_ok ht t
      have ha' : as = #[x] := by rw [← Array.toList_inj]; simpa using ha
      have hb' : ts = #[t] := by rw [← Array.toList_inj]; simpa using hb
      subst ha'
      subst hb'
      split at h <;> simp only [Option.some.injEq, reduceCtorEq] at h <;> subst h
      all_goals
        rename_i hx hk
        rw [hk] at hz
        unfold okTy at hz
        cases hu : P.underlying t with
        | none => simp [hu] at hz
        | some d =>
          cases d <;> simp [hu] at hz
          simp [resolve, invoke, builtin, Builtin.len_, hx, run_under hu, goInt]
    · cases h
  · cases h
end
end Go.Proofs.Ytabpapdickolgaa
