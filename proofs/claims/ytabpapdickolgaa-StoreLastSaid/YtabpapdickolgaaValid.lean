/-
  The walks of the two functions that say which changes are valid.
-/
import Derived.Test.YtabpapdickolgaaTypes
import Derived.BigGuardPart
import Derived.Handy
import Derived.Deep.Light
namespace Go.Proofs.Ytabpapdickolgaa
open Go.RowKit
set_option linter.unusedSimpArgs false
set_option linter.unusedVariables false

def inB (a b c : Int) : Bool := decide (b ≤ a) && decide (a ≤ c)
def keyB (s : ByteArray) : Bool := inB s.size 1 16
def valB (s : ByteArray) : Bool := decide (s.size ≤ 64)
def restB (x : Ch) : Bool :=
  if x.kind == 1 then keyB x.key && (valB x.value && x.item == 0)
  else if x.kind == 2 then keyB x.key && (x.value.toList.isEmpty && x.item == 0)
  else if x.kind == 3 then x.key.toList.isEmpty && (valB x.value && x.item == 0)
  else if x.kind == 4 then x.key.toList.isEmpty && (x.value.toList.isEmpty && inB x.item 1 (x.seq - 1))
  else false
/-- Which changes are valid. -/
def validB (x : Ch) : Bool :=
  inB x.epoch 1 1048576 && (inB x.seq 1 4096 && (inB x.client 1 8 && (inB x.number 1 1048576 && restB x)))

set_option maxHeartbeats 400000 in
theorem in_any (a b c : Int) (w : World) :
    Calls Try.prog 44 #[.int .i64 a, .int .i64 b, .int .i64 c] w fun e w' => e = .returned (.bool (inB a b c)) ∧ w = w' := by
  unfold inB
  by_cases h1 : b ≤ a
  · go_enter Try.func44, Try.ntmps44
    go_wp2
    go_ret
    exact ⟨by simp [h1], rfl⟩
  · go_enter Try.func44, Try.ntmps44
    go_wp2
    go_ret
    exact ⟨by simp; omega, rfl⟩

set_option maxHeartbeats 400000 in
theorem key_any (s : ByteArray) (w : World) :
    Calls Try.prog 45 #[.string s] w fun e w' => e = .returned (.bool (keyB s)) ∧ w = w' := by
  go_enter Try.func45, Try.ntmps45
  go_wp2_with (go_at_call 44; refine (in_any _ _ _ _).mono ?_; rintro e w' ⟨rfl, rfl⟩)
  go_ret
  exact ⟨rfl, rfl⟩

set_option maxHeartbeats 400000 in
theorem value_any (s : ByteArray) (w : World) :
    Calls Try.prog 46 #[.string s] w fun e w' => e = .returned (.bool (valB s)) ∧ w = w' := by
  go_enter Try.func46, Try.ntmps46
  go_wp2
  go_ret
  refine ⟨ret_bool ?_, rfl⟩
  unfold valB
  rw [decide_eq_decide]
  omega

/-- The two forms of the first test of a change. -/
def headB (x : Ch) : Bool := inB x.epoch 1 1048576 && (inB x.seq 1 4096 && (inB x.client 1 8 && inB x.number 1 1048576))
theorem valid_split (x : Ch) : validB x = (headB x && restB x) := by simp [validB, headB, Bool.and_assoc]

set_option maxHeartbeats 4000000 in
theorem valid_any (x : Ch) (w : World) :
    Calls Try.prog 18 #[x.val] w fun e w' => e = .returned (.bool (validB x)) ∧ Chg [] w w' := by
  obtain ⟨ep, sq, kd, cl, nu, it, key, val⟩ := x
  simp only [Ch.val, Ch.cells]
  go_enter Try.func18, Try.ntmps18
  by_cases h2 : inB sq 1 4096 = true
  · have h2' : 1 ≤ sq ∧ sq ≤ 4096 := by simpa [inB] using h2
    go_wp2_with (first | (go_at_call 44; refine (in_any _ _ _ _).mono ?_; rintro e w' ⟨rfl, rfl⟩) | (go_at_call 45; refine (key_any _ _).mono ?_; rintro e w' ⟨rfl, rfl⟩) | (go_at_call 46; refine (value_any _ _).mono ?_; rintro e w' ⟨rfl, rfl⟩))
    all_goals (go_ret; refine ⟨ret_bool ?_, (Chg.refl _ _).alloc _⟩; go_light; (try simp only [Bool.not_eq_true', Bool.not_eq_false'] at *); simp [validB, restB, *])
  · have h2 : inB sq 1 4096 = false := by simpa using h2
    go_wp2_with (first | (go_at_call 44; refine (in_any _ _ _ _).mono ?_; rintro e w' ⟨rfl, rfl⟩) | (go_at_call 45; refine (key_any _ _).mono ?_; rintro e w' ⟨rfl, rfl⟩) | (go_at_call 46; refine (value_any _ _).mono ?_; rintro e w' ⟨rfl, rfl⟩))
    all_goals (go_ret; refine ⟨ret_bool ?_, (Chg.refl _ _).alloc _⟩; go_light; (try simp only [Bool.not_eq_true', Bool.not_eq_false'] at *); simp [validB, restB, *])

set_option maxHeartbeats 400000 in
theorem isKey_any (s : ByteArray) (w : World) :
    Calls Try.prog 42 #[.string s] w fun e w' => e = .returned (.bool (keyB s)) ∧ w = w' := by
  by_cases h1 : (1 : Int) ≤ (s.size : Int)
  · go_enter Try.func42, Try.ntmps42
    go_wp2
    go_ret
    refine ⟨ret_bool ?_, rfl⟩
    unfold keyB inB
    simp
    omega
  · have h1 : (s.size : Int) < 1 := by omega
    go_enter Try.func42, Try.ntmps42
    go_wp2
    go_ret
    refine ⟨ret_bool ?_, rfl⟩
    unfold keyB inB
    simp
    omega

set_option maxHeartbeats 400000 in
theorem isValue_any (s : ByteArray) (w : World) :
    Calls Try.prog 43 #[.string s] w fun e w' => e = .returned (.bool (valB s)) ∧ w = w' := by
  go_enter Try.func43, Try.ntmps43
  go_wp2
  go_ret
  refine ⟨ret_bool ?_, rfl⟩
  unfold valB
  rw [decide_eq_decide]
  omega

set_option maxHeartbeats 8000000 in
theorem svalid_any (x : Ch) (w : World) :
    Calls Try.prog 16 #[x.val] w fun e w' => e = .returned (.bool (validB x)) ∧ Chg [] w w' := by
  obtain ⟨ep, sq, kd, cl, nu, it, key, val⟩ := x
  simp only [Ch.val, Ch.cells]
  go_enter Try.func16, Try.ntmps16
  go_wp2_with (first | (go_at_call 42; refine (isKey_any _ _).mono ?_; rintro e w' ⟨rfl, rfl⟩) | (go_at_call 43; refine (isValue_any _ _).mono ?_; rintro e w' ⟨rfl, rfl⟩))
  all_goals (go_ret; refine ⟨ret_bool ?_, (Chg.refl _ _).alloc _⟩; go_light; (try simp only [Bool.not_eq_true', Bool.not_eq_false'] at *); simp [validB, restB, inB, *]; try omega)

end Go.Proofs.Ytabpapdickolgaa
