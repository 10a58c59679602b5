/-
  Manifests, in plain terms: their bytes, and the sum of bytes. No program in sight.
-/
import Derived.Test.YtiabhlogadboeaaGreatE4
namespace Go.Proofs.YtiabhlogadboeaaGreat
open Go.RowKit
set_option linter.unusedSimpArgs false
set_option linter.unusedVariables false
attribute [local irreducible] Res.blk Res.sl Res.all Res.ex Res.pure Res.star

/-- The code of a number. -/
def codeZ (n : Int) : Int := if n < 0 then -2 * n - 1 else 2 * n
/-- A number in groups of seven bits. -/
def leb (u : Nat) : List Int := if u < 128 then [(u : Int)] else ((u % 128 + 128 : Nat) : Int) :: leb (u / 128)
termination_by u
decreasing_by omega
def byC (z : Int) : List Value := [.int .u8 z]
def putL (n : Int) : List Int := leb (codeZ n).toNat
def bytL (s : ByteArray) : List Int := s.data.toList.map fun c => (c.toNat : Int)
def txtL (s : ByteArray) : List Int := putL s.size ++ bytL s
def intsL (l : List Int) : List Int := putL l.length ++ l.flatMap putL
def txtsL (l : List ByteArray) : List Int := putL l.length ++ l.flatMap txtL
/-- A number mixed into a sum. -/
def mixF (h n : Int) : Int :=
  let y := IntKind.u64.wrap (bitZ .u64 (· ^^^ ·) h (IntKind.u64.wrap n) * 1099511628211)
  bitZ .u64 (· ^^^ ·) y (y.fdiv (2 ^ 29))
def sumF (key : Int) (b : List Int) : Int := mixF (b.foldl mixF (mixF 14695981039346656037 key)) b.length
structure Mf where
  tenant : Int
  length : Int
  epoch : Int
  keys : List ByteArray
  items : List Int
  sessions : List Int
  sum : Int
def mfL (m : Mf) : List Int := putL m.tenant ++ putL m.length ++ putL m.epoch ++ txtsL m.keys ++ intsL m.items ++ intsL m.sessions
def i64ok (n : Int) : Prop := -9223372036854775808 ≤ n ∧ n ≤ 9223372036854775807
theorem codeZ_lt {n : Int} (h : i64ok n) : 0 ≤ codeZ n ∧ codeZ n < 18446744073709551616 := by
  unfold i64ok at h
  unfold codeZ
  split <;> omega
theorem u64_wrap (z : Int) : IntKind.u64.wrap z = z % 18446744073709551616 := by
  simp [IntKind.wrap, IntKind.signed, IntKind.bits]
theorem codeP_neg {n : Int} (h : i64ok n) (hn : n < 0) : bitZ .u64 (· ^^^ ·) IntKind.u64.max (IntKind.u64.wrap (IntKind.u64.wrap n * 2 ^ min (1 : Int).toNat IntKind.u64.bits)) = codeZ n := by
  unfold i64ok at h
  have e1 : IntKind.u64.wrap (IntKind.u64.wrap n * 2 ^ min (1 : Int).toNat IntKind.u64.bits) = 2 * n + 18446744073709551616 := by
    rw [u64_wrap, u64_wrap]
    have : (2 : Int) ^ min (1 : Int).toNat IntKind.u64.bits = 2 := by decide
    rw [this]
    omega
  rw [e1]
  unfold codeZ
  rw [if_pos hn]
  unfold bitZ
  have e2 : BitVec.ofInt 64 18446744073709551615 = BitVec.allOnes 64 := by decide
  show IntKind.u64.wrap ((BitVec.ofInt 64 18446744073709551615 ^^^ BitVec.ofInt 64 (2 * n + 18446744073709551616)).toNat : Int) = _
  rw [e2, BitVec.allOnes_xor, BitVec.toNat_not, BitVec.toNat_ofInt, u64_wrap]
  omega
theorem codeP_pos {n : Int} (h : i64ok n) (hn : 0 ≤ n) : IntKind.u64.wrap (IntKind.u64.wrap n * 2 ^ min (1 : Int).toNat IntKind.u64.bits) = codeZ n := by
  unfold i64ok at h
  unfold codeZ
  rw [if_neg (by omega), u64_wrap, u64_wrap]
  have : (2 : Int) ^ min (1 : Int).toNat IntKind.u64.bits = 2 := by decide
  rw [this]
  omega
theorem codeR_pos {n : Int} (h : i64ok n) (hn : 0 ≤ n) : IntKind.u64.wrap (2 * IntKind.u64.wrap n) = codeZ n := by
  unfold i64ok at h
  unfold codeZ
  rw [if_neg (by omega), u64_wrap, u64_wrap]
  omega
theorem codeR_neg {n : Int} (h : i64ok n) (hn : n < 0) : IntKind.u64.wrap (IntKind.u64.wrap (2 * IntKind.u64.wrap (-(n + 1))) + 1) = codeZ n := by
  unfold i64ok at h
  unfold codeZ
  rw [if_pos hn, u64_wrap, u64_wrap, u64_wrap]
  omega
/-! One group. -/
theorem u8_wrap (z : Int) : IntKind.u8.wrap z = z % 256 := by
  simp [IntKind.wrap, IntKind.signed, IntKind.bits]
set_option maxRecDepth 100000 in
theorem or128 : ∀ x : Fin 256, bitZ .u8 (· ||| ·) (x.val : Int) 128 = ((x.val % 128 + 128 : Nat) : Int) := by decide
theorem group_or (u : Nat) : bitZ .u8 (· ||| ·) (IntKind.u8.wrap (u : Int)) 128 = ((u % 128 + 128 : Nat) : Int) := by
  rw [u8_wrap]
  have h := or128 ⟨u % 256, Nat.mod_lt _ (by omega)⟩
  simp only at h
  have e : (u : Int) % 256 = ((u % 256 : Nat) : Int) := by omega
  rw [e, h]
  congr 2
  omega
theorem leb_lt {u : Nat} (h : u < 128) : leb u = [(u : Int)] := by unfold leb; rw [if_pos h]
theorem leb_ge {u : Nat} (h : ¬ u < 128) : leb u = ((u % 128 + 128 : Nat) : Int) :: leb (u / 128) := by rw [leb, if_neg h]
theorem leb_len : ∀ (k u : Nat), u < 128 ^ (k + 1) → (leb u).length ≤ k + 1
  | 0, u, h => by rw [leb_lt (by simpa using h)]; simp
  | k + 1, u, h => by
    by_cases h1 : u < 128
    · rw [leb_lt h1]; simp
    · rw [leb_ge h1]
      have h2 : u / 128 < 128 ^ (k + 1) := by
        rw [Nat.div_lt_iff_lt_mul (by omega)]
        rw [Nat.pow_succ] at h
        exact h
      have := leb_len k (u / 128) h2
      simp only [List.length_cons]
      omega
theorem putL_len {n : Int} (h : i64ok n) : (putL n).length ≤ 10 := by
  have := codeZ_lt h
  unfold putL
  refine leb_len 9 _ ?_
  have e : (128 : Nat) ^ (9 + 1) = 1180591620717411303424 := by decide
  rw [e]
  omega
theorem u64_xor_bd (k : IntKind) (f : BitVec k.bits → BitVec k.bits → BitVec k.bits) (a b : Int) : bitZ k f a b = k.wrap (f (BitVec.ofInt k.bits a) (BitVec.ofInt k.bits b)).toNat := rfl
theorem bytL_cells (s : ByteArray) : (Go.Lib.strCells s).map (fun v => [v]) = (bytL s).map byC := by
  unfold bytL Go.Lib.strCells
  rw [List.map_map, List.map_map]
  rfl
theorem bytL_len (s : ByteArray) : (bytL s).length = s.size := by
  unfold bytL
  rw [List.length_map, Array.length_toList]
  rfl
theorem leb_pos (u : Nat) : 0 < (leb u).length := by
  by_cases h : u < 128
  · rw [leb_lt h]; simp
  · rw [leb_ge h]; simp
theorem putL_pos (n : Int) : 0 < (putL n).length := leb_pos _
theorem group_add (u : Nat) : IntKind.u8.wrap (IntKind.u8.wrap ((u : Int).tmod 128) + 128) = ((u % 128 + 128 : Nat) : Int) := by
  rw [u8_wrap, u8_wrap, Int.tmod_eq_emod_of_nonneg (by omega)]
  omega
theorem quo128 (u : Nat) (h : u < 18446744073709551616) : IntKind.u64.wrap ((u : Int).tdiv 128) = ((u / 128 : Nat) : Int) := by
  rw [u64_wrap, Int.tdiv_eq_ediv_of_nonneg (by omega)]
  omega
/-! Bytes are bytes, and how many there are. -/
def bOk (l : List Int) : Prop := ∀ x, x ∈ l → 0 ≤ x ∧ x < 256
theorem bOk.nil : bOk [] := by intro x h; cases h
theorem bOk.app {a b : List Int} (ha : bOk a) (hb : bOk b) : bOk (a ++ b) := by
  intro x h
  rcases List.mem_append.1 h with h | h
  · exact ha x h
  · exact hb x h
theorem leb_ok (u : Nat) : bOk (leb u) := by
  induction u using Nat.strongRecOn with
  | _ u ih =>
    by_cases h : u < 128
    · rw [leb_lt h]
      intro x hx
      rw [List.mem_singleton] at hx
      subst hx
      omega
    · rw [leb_ge h]
      intro x hx
      rcases List.mem_cons.1 hx with rfl | hx
      · omega
      · exact ih _ (by omega) x hx
theorem putL_ok (n : Int) : bOk (putL n) := leb_ok _
theorem bytL_ok (s : ByteArray) : bOk (bytL s) := by
  intro x hx
  unfold bytL at hx
  obtain ⟨c, _, rfl⟩ := List.mem_map.1 hx
  have := c.toNat_lt
  omega
theorem bOk.flat {α : Type} {f : α → List Int} : ∀ {l : List α}, (∀ x, x ∈ l → bOk (f x)) → bOk (l.flatMap f)
  | [], _ => by intro x h; cases h
  | a :: l, h => by
    rw [List.flatMap_cons]
    exact (h a (by simp)).app (bOk.flat fun x hx => h x (by simp [hx]))
theorem txtL_ok (s : ByteArray) : bOk (txtL s) := (putL_ok _).app (bytL_ok s)
theorem intsL_ok (l : List Int) : bOk (intsL l) := (putL_ok _).app (bOk.flat fun x _ => putL_ok x)
theorem txtsL_ok (l : List ByteArray) : bOk (txtsL l) := (putL_ok _).app (bOk.flat fun x _ => txtL_ok x)
theorem mfL_ok (m : Mf) : bOk (mfL m) := ((((((putL_ok _).app (putL_ok _)).app (putL_ok _)).app (txtsL_ok _)).app (intsL_ok _)).app (intsL_ok _))
theorem flat_len {α : Type} {f : α → List Int} {k : Nat} : ∀ {l : List α}, (∀ x, x ∈ l → (f x).length ≤ k) → (l.flatMap f).length ≤ k * l.length
  | [], _ => by simp
  | a :: l, h => by
    rw [List.flatMap_cons, List.length_append, List.length_cons]
    have h1 := h a (by simp)
    have h2 := flat_len (l := l) (f := f) (k := k) fun x hx => h x (by simp [hx])
    rw [Nat.mul_add]
    omega
/-- The numbers of a manifest are whole numbers of the machine, its lists are short. -/
structure Mf.ok (m : Mf) : Prop where
  t : i64ok m.tenant
  l : i64ok m.length
  e : i64ok m.epoch
  kn : m.keys.length ≤ 1000
  k : ∀ x, x ∈ m.keys → x.size ≤ 500
  jn : m.items.length ≤ 1000
  j : ∀ x, x ∈ m.items → i64ok x
  sn : m.sessions.length ≤ 1000
  s : ∀ x, x ∈ m.sessions → i64ok x
theorem len_ok {k : Nat} (h : k ≤ 1000000) : i64ok (k : Int) := by unfold i64ok; omega
theorem txtL_len {s : ByteArray} (h : s.size ≤ 500) : (txtL s).length ≤ 510 := by
  unfold txtL
  have := putL_len (n := (s.size : Int)) (len_ok (by omega))
  rw [List.length_append, bytL_len]
  omega
theorem flatI_len {l : List Int} (h : ∀ x, x ∈ l → i64ok x) : (l.flatMap putL).length ≤ 10 * l.length := flat_len fun x hx => putL_len (h x hx)
theorem flatT_len {l : List ByteArray} (h : ∀ x, x ∈ l → x.size ≤ 500) : (l.flatMap txtL).length ≤ 510 * l.length := flat_len fun x hx => txtL_len (h x hx)
theorem intsL_len {l : List Int} (hn : l.length ≤ 1000) (h : ∀ x, x ∈ l → i64ok x) : (intsL l).length ≤ 10010 := by
  unfold intsL
  have := putL_len (n := (l.length : Int)) (len_ok (by omega))
  have := flatI_len h
  rw [List.length_append]
  omega
theorem txtsL_len {l : List ByteArray} (hn : l.length ≤ 1000) (h : ∀ x, x ∈ l → x.size ≤ 500) : (txtsL l).length ≤ 510010 := by
  unfold txtsL
  have := putL_len (n := (l.length : Int)) (len_ok (by omega))
  have := flatT_len h
  rw [List.length_append]
  omega
theorem mfL_len {m : Mf} (h : m.ok) : (mfL m).length ≤ 540000 := by
  unfold mfL
  have := putL_len h.t
  have := putL_len h.l
  have := putL_len h.e
  have := txtsL_len h.kn h.k
  have := intsL_len h.jn h.j
  have := intsL_len h.sn h.s
  simp only [List.length_append]
  omega
theorem flatM_take {α : Type} (f : α → List Int) (l : List α) {i : Nat} (hi : i < l.length) : (l.take i).flatMap f ++ f l[i] = (l.take (i + 1)).flatMap f := by
  rw [List.take_succ_eq_append_getElem hi, List.flatMap_append]
  simp
theorem fold_take {β : Type} (f : β → Int → β) (b : β) (l : List Int) {i : Nat} (hi : i < l.length) : f ((l.take i).foldl f b) l[i] = (l.take (i + 1)).foldl f b := by
  rw [List.take_succ_eq_append_getElem hi, List.foldl_append]
  simp
end Go.Proofs.YtiabhlogadboeaaGreat
