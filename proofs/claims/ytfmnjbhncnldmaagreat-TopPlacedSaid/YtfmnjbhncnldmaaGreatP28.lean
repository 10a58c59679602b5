import Derived.BigGuardPart
import Derived.Handy
import Derived.Deep.Light
import Derived.Test.YtfmnjbhncnldmaaGreatP00
import Derived.Test.YtfmnjbhncnldmaaGreatP02
set_option linter.unusedSimpArgs false
set_option linter.unusedVariables false
namespace Go.Proofs.YtfmnjbhncnldmaaGreat
open Go.RowKit
def inB (a b c : Int) : Bool := decide (b ≤ a) && decide (a ≤ c)
def keyB (s : ByteArray) : Bool := inB s.size 1 16
def valB (s : ByteArray) : Bool := decide (s.size ≤ 64)
def restB (x : Ch) : Bool :=
  if x.kind == 1 then keyB x.key && (valB x.value && x.item == 0)
  else if x.kind == 2 then keyB x.key && (x.value.toList.isEmpty && x.item == 0)
  else if x.kind == 3 then x.key.toList.isEmpty && (valB x.value && x.item == 0)
  else if x.kind == 4 then x.key.toList.isEmpty && (x.value.toList.isEmpty && inB x.item 1 (x.seq - 1))
  else false
def validB (x : Ch) : Bool :=
  inB x.epoch 1 1048576 && (inB x.seq 1 4096 && (inB x.client 1 8 && (inB x.number 1 1048576 && restB x)))
set_option maxHeartbeats 400000 in
theorem isKey_any (s : ByteArray) (w : World) :
    Calls Tryz.prog 277 #[.string s] w fun e w' => e = .returned (.bool (keyB s)) ∧ w = w' := by
  by_cases h1 : (1 : Int) ≤ (s.size : Int)
  · go_enter Tryz.func277, Tryz.ntmps277
    go_wp2
    go_ret
    refine ⟨ret_bool ?_, rfl⟩
    unfold keyB inB
    simp
    omega
  · have h1 : (s.size : Int) < 1 := by omega
    go_enter Tryz.func277, Tryz.ntmps277
    go_wp2
    go_ret
    refine ⟨ret_bool ?_, rfl⟩
    unfold keyB inB
    simp
    omega
set_option maxHeartbeats 400000 in
theorem isValue_any (s : ByteArray) (w : World) :
    Calls Tryz.prog 278 #[.string s] w fun e w' => e = .returned (.bool (valB s)) ∧ w = w' := by
  go_enter Tryz.func278, Tryz.ntmps278
  go_wp2
  go_ret
  refine ⟨ret_bool ?_, rfl⟩
  unfold valB
  rw [decide_eq_decide]
  omega
set_option maxHeartbeats 8000000 in
theorem svalid_any (x : Ch) (w : World) :
    Calls Tryz.prog 206 #[x.val] w fun e w' => e = .returned (.bool (validB x)) ∧ Chg [] w w' := by
  obtain ⟨ep, sq, kd, cl, nu, it, key, val⟩ := x
  simp only [Ch.val, Ch.cells]
  go_enter Tryz.func206, Tryz.ntmps206
  go_wp2_with (first | (go_at_call 277; refine (isKey_any _ _).mono ?_; rintro e w' ⟨rfl, rfl⟩) | (go_at_call 278; refine (isValue_any _ _).mono ?_; rintro e w' ⟨rfl, rfl⟩))
  all_goals (go_ret; refine ⟨ret_bool ?_, (Chg.refl _ _).alloc _⟩; go_light; (try simp only [Bool.not_eq_true', Bool.not_eq_false'] at *); simp [validB, restB, inB, *]; try omega)
end Go.Proofs.YtfmnjbhncnldmaaGreat
namespace Go.Proofs.YtfmnjbhncnldmaaGreat
open Go.RowKit
attribute [local irreducible] Res.blk Res.sl Res.all Res.ex Res.pure Res.star
def fidx : List Ce → ByteArray → Nat
  | [], _ => 0
  | c :: l, k => if Op.bytesLess c.key.toList k.toList then fidx l k + 1 else 0
def keyAt (l : List Ce) (i : Nat) (k : ByteArray) : Bool := match l[i]? with | some c => decide (c.key = k) | none => false
def foundB (l : List Ce) (k : ByteArray) : Bool := keyAt l (fidx l k) k
def sApp (l : List Ce) (x : Ch) : List Ce × Int :=
  if validB x then
    if x.kind = 1 then
      if foundB l x.key then (l.set (fidx l x.key) ⟨x.key, x.value, x.seq⟩, 0)
      else if 32 ≤ l.length then (l, 33) else (l.take (fidx l x.key) ++ [⟨x.key, x.value, x.seq⟩] ++ l.drop (fidx l x.key), 0)
    else if x.kind = 2 then
      if foundB l x.key then (l.take (fidx l x.key) ++ l.drop (fidx l x.key + 1), 0) else (l, 34)
    else (l, 0)
  else (l, 1)
theorem found_lt {l : List Ce} {k : ByteArray} (h : foundB l k = true) : fidx l k < l.length := by
  unfold foundB keyAt at h
  rcases Nat.lt_or_ge (fidx l k) l.length with h1 | h1
  · exact h1
  · rw [List.getElem?_eq_none h1] at h; cases h
end Go.Proofs.YtfmnjbhncnldmaaGreat
