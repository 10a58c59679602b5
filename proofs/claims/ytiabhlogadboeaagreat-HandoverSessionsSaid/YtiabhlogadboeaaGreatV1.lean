/-
  The walks of the two functions that say which changes are valid.
  The walk of find of the reference's store.
  The walk of Apply of the reference's store.
-/
import Derived.Test.YtiabhlogadboeaaGreatE1
import Derived.BigGuardPart
import Derived.Handy
import Derived.Deep.Light
import Derived.Test.YtiabhlogadboeaaGreatE2
namespace Go.Proofs.YtiabhlogadboeaaGreat
open Go.RowKit
set_option linter.unusedSimpArgs false
set_option linter.unusedVariables false

def inB (a b c : Int) : Bool := decide (b ≤ a) && decide (a ≤ c)
def keyB (s : ByteArray) : Bool := inB s.size 1 16
def valB (s : ByteArray) : Bool := decide (s.size ≤ 64)
def restB (x : Ch) : Bool :=
  if x.kind == 1 then keyB x.key && (valB x.value && x.item == 0)
  else if x.kind == 2 then keyB x.key && (x.value.toList.isEmpty && x.item == 0)
  else if x.kind == 3 then x.key.toList.isEmpty && (valB x.value && x.item == 0)
  else if x.kind == 4 then x.key.toList.isEmpty && (x.value.toList.isEmpty && inB x.item 1 (x.seq - 1))
  else false
/-- Which changes are valid. -/
def validB (x : Ch) : Bool :=
  inB x.epoch 1 1048576 && (inB x.seq 1 4096 && (inB x.client 1 8 && (inB x.number 1 1048576 && restB x)))

set_option maxHeartbeats 400000 in
theorem in_any (a b c : Int) (w : World) :
    Calls Tryz.prog 127 #[.int .i64 a, .int .i64 b, .int .i64 c] w fun e w' => e = .returned (.bool (inB a b c)) ∧ w = w' := by
  unfold inB
  by_cases h1 : b ≤ a
  · go_enter Tryz.func127, Tryz.ntmps127
    go_wp2
    go_ret
    exact ⟨by simp [h1], rfl⟩
  · go_enter Tryz.func127, Tryz.ntmps127
    go_wp2
    go_ret
    exact ⟨by simp; omega, rfl⟩

set_option maxHeartbeats 400000 in
theorem key_any (s : ByteArray) (w : World) :
    Calls Tryz.prog 128 #[.string s] w fun e w' => e = .returned (.bool (keyB s)) ∧ w = w' := by
  go_enter Tryz.func128, Tryz.ntmps128
  go_wp2_with (go_at_call 127; refine (in_any _ _ _ _).mono ?_; rintro e w' ⟨rfl, rfl⟩)
  go_ret
  exact ⟨rfl, rfl⟩

set_option maxHeartbeats 400000 in
theorem value_any (s : ByteArray) (w : World) :
    Calls Tryz.prog 129 #[.string s] w fun e w' => e = .returned (.bool (valB s)) ∧ w = w' := by
  go_enter Tryz.func129, Tryz.ntmps129
  go_wp2
  go_ret
  refine ⟨ret_bool ?_, rfl⟩
  unfold valB
  rw [decide_eq_decide]
  omega

/-- The two forms of the first test of a change. -/
def headB (x : Ch) : Bool := inB x.epoch 1 1048576 && (inB x.seq 1 4096 && (inB x.client 1 8 && inB x.number 1 1048576))
theorem valid_split (x : Ch) : validB x = (headB x && restB x) := by simp [validB, headB, Bool.and_assoc]

set_option maxHeartbeats 4000000 in
theorem valid_any (x : Ch) (w : World) :
    Calls Tryz.prog 81 #[x.val] w fun e w' => e = .returned (.bool (validB x)) ∧ Chg [] w w' := by
  obtain ⟨ep, sq, kd, cl, nu, it, key, val⟩ := x
  simp only [Ch.val, Ch.cells]
  go_enter Tryz.func81, Tryz.ntmps81
  by_cases h2 : inB sq 1 4096 = true
  · have h2' : 1 ≤ sq ∧ sq ≤ 4096 := by simpa [inB] using h2
    go_wp2_with (first | (go_at_call 127; refine (in_any _ _ _ _).mono ?_; rintro e w' ⟨rfl, rfl⟩) | (go_at_call 128; refine (key_any _ _).mono ?_; rintro e w' ⟨rfl, rfl⟩) | (go_at_call 129; refine (value_any _ _).mono ?_; rintro e w' ⟨rfl, rfl⟩))
    all_goals (go_ret; refine ⟨ret_bool ?_, (Chg.refl _ _).alloc _⟩; go_light; (try simp only [Bool.not_eq_true', Bool.not_eq_false'] at *); simp [validB, restB, *])
  · have h2 : inB sq 1 4096 = false := by simpa using h2
    go_wp2_with (first | (go_at_call 127; refine (in_any _ _ _ _).mono ?_; rintro e w' ⟨rfl, rfl⟩) | (go_at_call 128; refine (key_any _ _).mono ?_; rintro e w' ⟨rfl, rfl⟩) | (go_at_call 129; refine (value_any _ _).mono ?_; rintro e w' ⟨rfl, rfl⟩))
    all_goals (go_ret; refine ⟨ret_bool ?_, (Chg.refl _ _).alloc _⟩; go_light; (try simp only [Bool.not_eq_true', Bool.not_eq_false'] at *); simp [validB, restB, *])

set_option maxHeartbeats 400000 in
theorem isKey_any (s : ByteArray) (w : World) :
    Calls Tryz.prog 122 #[.string s] w fun e w' => e = .returned (.bool (keyB s)) ∧ w = w' := by
  by_cases h1 : (1 : Int) ≤ (s.size : Int)
  · go_enter Tryz.func122, Tryz.ntmps122
    go_wp2
    go_ret
    refine ⟨ret_bool ?_, rfl⟩
    unfold keyB inB
    simp
    omega
  · have h1 : (s.size : Int) < 1 := by omega
    go_enter Tryz.func122, Tryz.ntmps122
    go_wp2
    go_ret
    refine ⟨ret_bool ?_, rfl⟩
    unfold keyB inB
    simp
    omega

set_option maxHeartbeats 400000 in
theorem isValue_any (s : ByteArray) (w : World) :
    Calls Tryz.prog 123 #[.string s] w fun e w' => e = .returned (.bool (valB s)) ∧ w = w' := by
  go_enter Tryz.func123, Tryz.ntmps123
  go_wp2
  go_ret
  refine ⟨ret_bool ?_, rfl⟩
  unfold valB
  rw [decide_eq_decide]
  omega

set_option maxHeartbeats 8000000 in
theorem svalid_any (x : Ch) (w : World) :
    Calls Tryz.prog 79 #[x.val] w fun e w' => e = .returned (.bool (validB x)) ∧ Chg [] w w' := by
  obtain ⟨ep, sq, kd, cl, nu, it, key, val⟩ := x
  simp only [Ch.val, Ch.cells]
  go_enter Tryz.func79, Tryz.ntmps79
  go_wp2_with (first | (go_at_call 122; refine (isKey_any _ _).mono ?_; rintro e w' ⟨rfl, rfl⟩) | (go_at_call 123; refine (isValue_any _ _).mono ?_; rintro e w' ⟨rfl, rfl⟩))
  all_goals (go_ret; refine ⟨ret_bool ?_, (Chg.refl _ _).alloc _⟩; go_light; (try simp only [Bool.not_eq_true', Bool.not_eq_false'] at *); simp [validB, restB, inB, *]; try omega)

end Go.Proofs.YtiabhlogadboeaaGreat

namespace Go.Proofs.YtiabhlogadboeaaGreat
open Go.RowKit
set_option linter.unusedSimpArgs false
set_option linter.unusedVariables false
attribute [local irreducible] Res.blk Res.sl Res.all Res.ex Res.pure Res.star

/-- How many keys at the head are smaller. -/
def fidx : List Ce → ByteArray → Nat
  | [], _ => 0
  | c :: l, k => if Op.bytesLess c.key.toList k.toList then fidx l k + 1 else 0
def keyAt (l : List Ce) (i : Nat) (k : ByteArray) : Bool := match l[i]? with | some c => decide (c.key = k) | none => false
def foundB (l : List Ce) (k : ByteArray) : Bool := keyAt l (fidx l k) k
theorem fidx_le : ∀ (l : List Ce) (k : ByteArray), fidx l k ≤ l.length
  | [], _ => Nat.le_refl _
  | c :: l, k => by
    unfold fidx
    have := fidx_le l k
    split <;> simp <;> omega
theorem fidx_drop {l : List Ce} {k : ByteArray} {q : Nat} (hq : q < l.length) : fidx (l.drop q) k = if Op.bytesLess l[q].key.toList k.toList then fidx (l.drop (q + 1)) k + 1 else 0 := by
  rw [List.drop_eq_getElem_cons hq]
  simp [fidx]

set_option maxHeartbeats 400000 in
theorem find_z (gs : Nat) (l : List Ce) (v : Value) (key : ByteArray) (r : World) (F : List Res) (w : World) (hS : Sep r [] (.blk gs 139 [v] :: F) w) (hrd : Reads r F 3 v (l.map Ce.cells)) (hl : l.length ≤ 1000) :
    Calls Tryz.prog 130 #[.pointer (some ⟨gs, 0, none⟩), .string key] w fun e w' =>
      e = .returned (.tuple #[.int .i64 (fidx l key), .bool (foundB l key)]) ∧ Sep r [] (.blk gs 139 [v] :: F) w' := by
  obtain ⟨A, c, rfl, hc⟩ := (hrd [_] w hS).mform
  refine Z.enter Tryz.func130 Tryz.ntmps130 rfl rfl ?_
  repeat' (first|refine K ?_|(refine Sh.sa hS ?_;clear hS;intro w hS)|(refine K3 ?_;clear hS;intro g w hS hge)|((first|refine GS ?_ ?_|refine VB ?_ ?_)<;>intro hb<;>(try simp only [J1,J2,J3,J4,J5,J6] at hb)<;>(try (exfalso;first|omega|exact hb trivial))))
  refine Z.lpS [6, 7, 8, 9, 10, 11, 12, 13, 14, 15, 16, 17, 18, 19, 20, 21, 22, 23, 24, 25, 26, 27] (fun m w s => ∃ q : Nat, s = [(6, .int .i64 q)] ∧ q ≤ l.length ∧ fidx l key = q + fidx (l.drop q) key ∧ m = l.length - q ∧ Sep r [] (.blk gs 139 [.slice A l.length c] :: F) w) _ [(6, .int .i64 (0 : Nat))] (by repeat (first | exact trivial | refine ⟨rfl, ?_⟩)) ⟨0, rfl, by omega, by simp, rfl, hS⟩ ?_
  clear hS w
  rintro m g w _ ⟨q, rfl, hq, hf, rfl, hS⟩
  by_cases hlt : q < l.length
  · obtain ⟨gb, o, rfl, _, hra⟩ := (hrd [_] w hS).mat (by omega) hlt
    have hfd := fidx_drop (k := key) hlt
    repeat' (first|refine K ?_|(refine Sh.sa hS ?_;clear hS;intro w hS)|(refine K3 ?_;clear hS;intro g w hS hge)|((first|refine GS ?_ ?_|refine VB ?_ ?_)<;>intro hb<;>(try simp only [J1,J2,J3,J4,J5,J6] at hb)<;>(try (exfalso;first|omega|exact hb trivial))))
    · refine Sh.again (l.length - (q + 1)) [(6, .int .i64 (q + 1 : Nat))] ?_
      rw [hb, if_pos rfl] at hfd
      exact ⟨q + 1, rfl, by omega, by omega, rfl, hS⟩
    · rw [hb] at hfd
      simp only [Bool.false_eq_true, if_false] at hfd
      have hfq : fidx l key = q := by omega
      have hra' : ∀ W, Sep r [] (.blk gs 139 [.slice (some ⟨gb, o, none⟩) l.length c] :: F) W → W.rangeAt gb (o + q * 3) l[q].cells := fun W h => (hrd [_] W h).elem (by omega) hlt
      refine D.startS hS 22 22 (by kernel_rfl) rfl ?_
      replace hS := hS.drew
      refine Sh.dp 0 1 ?_
      refine Sh.dp 1 3 ?_
      refine Sh.dp 2 7 ?_
      refine Sh.dp 3 15 ?_
      refine Sh.dp 4 31 ?_
      refine Sh.dl 5 63 ?_
      refine Sh.dp 6 127 ?_
      refine Sh.dp 7 255 ?_
      refine Sh.dp 8 511 ?_
      refine Sh.dp 20 1049087 ?_
      refine D.slot 36 rfl (fun hb => ?_) (fun hb => by exfalso; (try simp only [decide_eq_true_eq, decide_eq_false_iff_not, Bool.not_eq_true', Bool.not_eq_false', Int.not_lt, Int.not_le] at hb) <;> first | omega | exact hb trivial | cases hb | simp at hb)
      (try simp only [decide_eq_true_eq, decide_eq_false_iff_not, Bool.not_eq_true', Bool.not_eq_false', Int.not_lt, Int.not_le] at hb)
      refine Sh.dp 9 1049599 ?_
      refine Sh.dp 10 1050623 ?_
      refine Sh.dp 11 1052671 ?_
      refine Sh.dp 13 1060863 ?_
      refine Sh.dp 17 1191935 ?_
      refine Sh.dl 12 1196031 ?_
      first | refine D.ixn 14 1212415 rfl (D.wantedT rfl rfl) (by kernel_rfl) rfl rfl rfl (by omega) ?_ | refine D.ix 14 1212415 rfl (D.wantedT rfl rfl) (by kernel_rfl) rfl rfl rfl (by omega) ?_ | refine D.ia 14 1212415 rfl (D.wantedT rfl rfl) (by kernel_rfl) rfl rfl rfl (by omega) ?_
      refine Sh.dp 15 1245183 ?_
      refine D.ldE 16 1310719 rfl (D.wantedT rfl rfl) (by kernel_rfl) rfl hra' rfl ?_
      first | refine D.pr 18 1572863 rfl (D.wantedT rfl rfl) (by kernel_rfl) rfl ?_ | refine D.pl 18 1572863 rfl (D.wantedT rfl rfl) (by kernel_rfl) (R.eqa rfl rfl rfl rfl) ?_
      refine Sh.dp 19 2097151 ?_
      refine Sh.dp 21 4194303 ?_
      refine D.done (by kernel_rfl) ?_
      repeat' (first|refine K ?_|(refine Sh.sa hS ?_;clear hS;intro w hS)|(refine K3 ?_;clear hS;intro g w hS hge)|((first|refine GS ?_ ?_|refine VB ?_ ?_)<;>intro hb<;>(try simp only [J1,J2,J3,J4,J5,J6] at hb)<;>(try (exfalso;first|omega|exact hb trivial))))
      refine Dntt Tryz.results130 ?_
      refine ⟨?_, hS⟩
      rw [hfq]
      simp [Z.packR, foundB, keyAt, hfq, hlt]
  · have hfd : fidx (l.drop q) key = 0 := by rw [List.drop_eq_nil_of_le (by omega)]; rfl
    repeat' (first|refine K ?_|(refine Sh.sa hS ?_;clear hS;intro w hS)|(refine K3 ?_;clear hS;intro g w hS hge)|((first|refine GS ?_ ?_|refine VB ?_ ?_)<;>intro hb<;>(try simp only [J1,J2,J3,J4,J5,J6] at hb)<;>(try (exfalso;first|omega|exact hb trivial))))
    refine D.startS hS 22 22 (by kernel_rfl) rfl ?_
    replace hS := hS.drew
    refine Sh.dp 0 1 ?_
    refine Sh.dp 1 3 ?_
    refine Sh.dp 2 7 ?_
    refine Sh.dp 3 15 ?_
    refine Sh.dp 4 31 ?_
    refine Sh.dl 5 63 ?_
    refine Sh.dp 6 127 ?_
    refine Sh.dp 7 255 ?_
    refine Sh.dp 8 511 ?_
    refine Sh.dp 20 1049087 ?_
    refine D.slot 36 rfl (fun hb => by exfalso; (try simp only [decide_eq_true_eq, decide_eq_false_iff_not, Bool.not_eq_true', Bool.not_eq_false', Int.not_lt, Int.not_le] at hb) <;> first | omega | exact hb trivial | cases hb | simp at hb) (fun hb => ?_)
    (try simp only [decide_eq_true_eq, decide_eq_false_iff_not, Bool.not_eq_true', Bool.not_eq_false', Int.not_lt, Int.not_le] at hb)
    refine D.skF 9 1049599 rfl (by kernel_rfl) rfl rfl ?_
    refine D.skF 10 1050623 rfl (by kernel_rfl) rfl rfl ?_
    refine D.skF 11 1052671 rfl (by kernel_rfl) rfl rfl ?_
    refine D.skF 12 1056767 rfl (by kernel_rfl) rfl rfl ?_
    refine D.skF 13 1064959 rfl (by kernel_rfl) rfl rfl ?_
    refine D.skF 14 1081343 rfl (by kernel_rfl) rfl rfl ?_
    refine D.skF 15 1114111 rfl (by kernel_rfl) rfl rfl ?_
    refine D.skF 16 1179647 rfl (by kernel_rfl) rfl rfl ?_
    refine D.skF 17 1310719 rfl (by kernel_rfl) rfl rfl ?_
    refine D.skF 18 1572863 rfl (by kernel_rfl) rfl rfl ?_
    refine Sh.dp 19 2097151 ?_
    refine Sh.dp 21 4194303 ?_
    refine D.done (by kernel_rfl) ?_
    repeat' (first|refine K ?_|(refine Sh.sa hS ?_;clear hS;intro w hS)|(refine K3 ?_;clear hS;intro g w hS hge)|((first|refine GS ?_ ?_|refine VB ?_ ?_)<;>intro hb<;>(try simp only [J1,J2,J3,J4,J5,J6] at hb)<;>(try (exfalso;first|omega|exact hb trivial))))
    refine Dntt Tryz.results130 ?_
    refine ⟨?_, hS⟩
    have hfq : fidx l key = q := by omega
    rw [hfq]
    simp [Z.packR, foundB, keyAt, hfq, List.getElem?_eq_none (show l.length ≤ q by omega)]
end Go.Proofs.YtiabhlogadboeaaGreat

namespace Go.Proofs.YtiabhlogadboeaaGreat
open Go.RowKit
set_option linter.unusedSimpArgs false
set_option linter.unusedVariables false
attribute [local irreducible] Res.blk Res.sl Res.all Res.ex Res.pure Res.star

/-- What Apply makes of a store, and what it answers. -/
def sApp (l : List Ce) (x : Ch) : List Ce × Int :=
  if validB x then
    if x.kind = 1 then
      if foundB l x.key then (l.set (fidx l x.key) ⟨x.key, x.value, x.seq⟩, 0)
      else if 32 ≤ l.length then (l, 33) else (l.take (fidx l x.key) ++ [⟨x.key, x.value, x.seq⟩] ++ l.drop (fidx l x.key), 0)
    else if x.kind = 2 then
      if foundB l x.key then (l.take (fidx l x.key) ++ l.drop (fidx l x.key + 1), 0) else (l, 34)
    else (l, 0)
  else (l, 1)
theorem found_lt {l : List Ce} {k : ByteArray} (h : foundB l k = true) : fidx l k < l.length := by
  unfold foundB keyAt at h
  rcases Nat.lt_or_ge (fidx l k) l.length with h1 | h1
  · exact h1
  · rw [List.getElem?_eq_none h1] at h; cases h
/-- The store is as it was, or has a new row. -/
def SPost (r : World) (F : List Res) (gs : Nat) (l : List Ce) (v : Value) (R : List Ce × Int) (e : Ending) (w : World) : Prop :=
  e = .returned (.int .i64 R.2) ∧ ((R.1 = l ∧ Sep r [] (.blk gs 139 [v] :: F) w) ∨
    ∃ v', Sep r [] (.blk gs 139 [v'] :: .sl 188 3 v' (R.1.map Ce.cells) :: F) w)

set_option maxHeartbeats 1000000 in
theorem sapply_z (gs : Nat) (l : List Ce) (v : Value) (x : Ch) (r : World) (F : List Res) (w : World) (hS : Sep r [] (.blk gs 139 [v] :: F) w) (hrd : Reads r F 3 v (l.map Ce.cells)) (hl : l.length ≤ 1000) :
    Calls Tryz.prog 85 #[.pointer (some ⟨gs, 0, none⟩), x.val] w (SPost r F gs l v (sApp l x)) := by
  obtain ⟨A, c, rfl, hc⟩ := (hrd [_] w hS).mform
  have hfl := fidx_le l x.key
  refine Z.enter Tryz.func85 Tryz.ntmps85 rfl rfl ?_
  repeat' (first|refine K ?_|(refine Sh.sa hS ?_;clear hS;intro w hS)|(refine K3 ?_;clear hS;intro g w hS hge)|((first|refine GS ?_ ?_|refine VB ?_ ?_)<;>intro hb<;>(try simp only [J1,J2,J3,J4,J5,J6] at hb)<;>(try (exfalso;first|omega|exact hb trivial))))
  refine Z.eff (Z.cl (valid_any x _) rfl ?_) rfl
  rintro e w' ⟨rfl, hC⟩
  refine ⟨_, rfl, ?_⟩
  replace hS := hS.ext hC
  clear hC
  repeat' (first|refine K ?_|(refine Sh.sa hS ?_;clear hS;intro w hS)|(refine K3 ?_;clear hS;intro g w hS hge)|((first|refine GS ?_ ?_|refine VB ?_ ?_)<;>intro hb<;>(try simp only [J1,J2,J3,J4,J5,J6] at hb)<;>(try (exfalso;first|omega|exact hb trivial))))
  · refine Dnt Tryz.results85 ?_
    refine ⟨by simp [sApp, hb, Z.packR], .inl ⟨by simp [sApp, hb], hS.sb⟩⟩
  replace hS := hS.fo (R := .blk gs _ _)
  refine Z.eff (Z.cl (find_z gs l _ x.key r _ _ hS (hrd.cons _) hl) rfl ?_) rfl
  clear hS
  rintro e w ⟨rfl, hS⟩
  refine ⟨_, rfl, ?_⟩
  repeat' (first|refine K ?_|(refine Sh.sa hS ?_;clear hS;intro w hS)|(refine K3 ?_;clear hS;intro g w hS hge)|((first|refine GS ?_ ?_|refine VB ?_ ?_)<;>intro hb<;>(try simp only [J1,J2,J3,J4,J5,J6] at hb)<;>(try (exfalso;first|omega|exact hb trivial))))
  · -- the key is there
    have hlt := found_lt hb
    refine Z.eff (Z.ap0m hS rfl rfl rfl (hrd [] _ (hS.sub (by repeat (first | exact Sub.rest | apply Sub.skip)))) (by (try simp only [maxLen, List.length_take, List.length_drop, List.length_append, List.length_cons, List.length_nil, List.length_map]); omega) (by (try simp only [maxLen, List.length_take, List.length_drop, List.length_append, List.length_cons, List.length_nil, List.length_map]); omega) ?_) rfl
    clear hS
    intro A' c' w hS
    obtain ⟨gA, rfl⟩ := Z.Sep_slform hS (by repeat (first | exact At.here | apply At.next)) (by simp; omega)
    repeat' (first|refine K ?_|(refine Sh.sa hS ?_;clear hS;intro w hS)|(refine K3 ?_;clear hS;intro g w hS hge)|((first|refine GS ?_ ?_|refine VB ?_ ?_)<;>intro hb<;>(try simp only [J1,J2,J3,J4,J5,J6] at hb)<;>(try (exfalso;first|omega|exact hb trivial))))
    refine D.startS hS 13 14 (by kernel_rfl) rfl ?_
    replace hS := hS.drew
    refine Sh.dp 0 1 ?_
    refine Sh.dp 1 3 ?_
    refine Sh.dp 2 7 ?_
    refine Sh.dp 4 23 ?_
    refine Sh.dp 5 55 ?_
    refine Sh.dp 7 183 ?_
    refine Sh.dp 9 695 ?_
    refine Sh.dl 3 703 ?_
    refine Sh.dl 6 767 ?_
    refine Sh.dl 8 1023 ?_
    refine Sh.dl 10 2047 ?_
    first | refine D.bu 11 4095 rfl D.wantedN (by kernel_rfl) rfl rfl ?_ | refine D.buA 11 4095 rfl D.wantedN (by kernel_rfl) rfl rfl ?_
    first | refine D.ixn 12 8191 rfl D.wantedN (by kernel_rfl) rfl rfl rfl (by omega) ?_ | refine D.ix 12 8191 rfl D.wantedN (by kernel_rfl) rfl rfl rfl (by omega) ?_ | refine D.ia 12 8191 rfl D.wantedN (by kernel_rfl) rfl rfl rfl (by omega) ?_
    refine D.eff 13 16383 rfl D.wantedN (by kernel_rfl) (by kernel_rfl) (fun _ _ h => h) ?_
    refine Z.stEm (⟨x.key, x.value, x.seq⟩ : Ce) hS rfl (by repeat (first | exact At.here | apply At.next)) (by omega) rfl rfl rfl rfl ?_
    clear hS; intro w hS
    refine ⟨HM.last (by kernel_rfl), ?_⟩
    refine D.done (by kernel_rfl) ?_
    repeat' (first|refine K ?_|(refine Sh.sa hS ?_;clear hS;intro w hS)|(refine K3 ?_;clear hS;intro g w hS hge)|((first|refine GS ?_ ?_|refine VB ?_ ?_)<;>intro hb<;>(try simp only [J1,J2,J3,J4,J5,J6] at hb)<;>(try (exfalso;first|omega|exact hb trivial))))
    refine Dnt Tryz.results85 ?_
    have e : sApp l x = (l.set (fidx l x.key) ⟨x.key, x.value, x.seq⟩, 0) := by simp [sApp, *]
    rw [e]
    exact ⟨rfl, .inr ⟨_, hS.sb⟩⟩
  · refine Dnt Tryz.results85 ?_
    have hlen : 32 ≤ l.length := by omega
    refine ⟨by simp [sApp, *, Z.packR], .inl ⟨by simp [sApp, *], hS.sb⟩⟩
  · -- a new key
    refine D.startS hS 27 28 (by kernel_rfl) rfl ?_
    replace hS := hS.drew
    refine Sh.dp 0 1 ?_
    refine Sh.dp 2 5 ?_
    refine Sh.dp 3 13 ?_
    refine Sh.dp 4 29 ?_
    refine Sh.dp 6 93 ?_
    refine Sh.dp 9 605 ?_
    refine Sh.dp 11 2653 ?_
    refine Sh.dp 13 10845 ?_
    refine Sh.dp 18 272989 ?_
    refine Sh.dp 19 797277 ?_
    refine Sh.dp 20 1845853 ?_
    refine Sh.dp 22 6040157 ?_
    refine Sh.dl 5 6040189 ?_
    refine D.pl 7 6040317 rfl D.wantedN (by kernel_rfl) (R.upto rfl rfl rfl (by omega)) ?_
    refine Sh.dl 10 6041341 ?_
    refine Sh.dl 12 6045437 ?_
    refine Sh.dl 14 6061821 ?_
    first | refine D.bu 15 6094589 rfl D.wantedN (by kernel_rfl) rfl rfl ?_ | refine D.buA 15 6094589 rfl D.wantedN (by kernel_rfl) rfl rfl ?_
    refine Sh.dl 21 8191741 ?_
    refine D.pl 23 16580349 rfl D.wantedN (by kernel_rfl) (R.since rfl rfl rfl (by omega)) ?_
    refine D.each [1, 16] (by kernel_rfl) rfl ?_
    refine D.econs 1 16580351 rfl D.wantedN (by kernel_rfl) (fun _ _ h => h) ?_ ?_
    · refine Z.bs hS rfl rfl rfl ?_
      clear hS; intro g w hS hge
      refine ⟨HM.s (hS.sb), ?_⟩
      refine D.each [8, 16] (by kernel_rfl) rfl ?_
      refine D.econs 8 16580607 rfl D.wantedN (by kernel_rfl) (fun _ _ h => h) ?_ ?_
      · refine Z.ap0m hS rfl rfl rfl ((hrd [] _ (hS.sub (by repeat (first | exact Sub.rest | apply Sub.skip)))).mtake (by omega)) (by (try simp only [maxLen, List.length_take, List.length_drop, List.length_append, List.length_cons, List.length_nil, List.length_map]); omega) (by (try simp only [maxLen, List.length_take, List.length_drop, List.length_append, List.length_cons, List.length_nil, List.length_map]); omega) ?_
        clear hS; intro A' c' w hS
        refine ⟨HM.s (hS.sb), ?_⟩
        refine D.eff 16 16646143 rfl D.wantedN (by kernel_rfl) (by kernel_rfl) (fun _ _ h => h) ?_
        refine Z.bs hS rfl rfl rfl ?_
        clear hS; intro g w hS hge
        refine ⟨HM.s (hS.sb), ?_⟩
        refine D.eff 17 16777215 rfl D.wantedN (by kernel_rfl) (by kernel_rfl) (fun _ _ h => h) ?_
        refine Z.apm (l' := [(⟨x.key, x.value, x.seq⟩ : Ce)]) hS rfl rfl rfl (by repeat (first | exact At.here | apply At.next)) (hS.lit1 (by repeat (first | exact At.here | apply At.next)) rfl rfl) (by (try simp only [maxLen, List.length_take, List.length_drop, List.length_append, List.length_cons, List.length_nil, List.length_map]); omega) (by (try simp only [maxLen, List.length_take, List.length_drop, List.length_append, List.length_cons, List.length_nil, List.length_map]); omega) ?_
        clear hS; intro A' c' w hS
        refine ⟨HM.s (hS.sb), ?_⟩
        refine D.eff 24 33554431 rfl D.wantedN (by kernel_rfl) (by kernel_rfl) (fun _ _ h => h) ?_
        refine Z.apm hS rfl rfl rfl (by repeat (first | exact At.here | apply At.next)) ((hrd [] _ (hS.sub (by repeat (first | exact Sub.rest | apply Sub.skip)))).mdrop (by omega)) (by (try simp only [maxLen, List.length_take, List.length_drop, List.length_append, List.length_cons, List.length_nil, List.length_map]); omega) (by (try simp only [maxLen, List.length_take, List.length_drop, List.length_append, List.length_cons, List.length_nil, List.length_map]); omega) ?_
        clear hS; intro A' c' w hS
        refine ⟨HM.s (hS.sb), ?_⟩
        refine Sh.dp 25 67108863 ?_
        refine Sh.dp 26 134217727 ?_
        refine D.eff 27 268435455 rfl D.wantedN (by kernel_rfl) (by kernel_rfl) (fun _ _ h => h) ?_
        refine Z.st hS rfl (by repeat (first | exact At.here | apply At.next)) rfl rfl ?_
        clear hS; intro w hS
        refine ⟨HM.last (by kernel_rfl), ?_⟩
        refine D.done (by kernel_rfl) ?_
        repeat' (first|refine K ?_|(refine Sh.sa hS ?_;clear hS;intro w hS)|(refine K3 ?_;clear hS;intro g w hS hge)|((first|refine GS ?_ ?_|refine VB ?_ ?_)<;>intro hb<;>(try simp only [J1,J2,J3,J4,J5,J6] at hb)<;>(try (exfalso;first|omega|exact hb trivial))))
        refine Dnt Tryz.results85 ?_
        have hlen : ¬ 32 ≤ l.length := by omega
        have e : sApp l x = (l.take (fidx l x.key) ++ [⟨x.key, x.value, x.seq⟩] ++ l.drop (fidx l x.key), 0) := by simp [sApp, *]
        rw [e]
        exact ⟨rfl, .inr ⟨_, hS.sb⟩⟩
      refine D.econs 16 16645887 rfl D.wantedN (by kernel_rfl) (fun _ _ h => h) ?_ ?_
      · refine Z.bs hS rfl rfl rfl ?_
        clear hS; intro g w hS hge
        refine ⟨HM.s (hS.sb), ?_⟩
        refine D.eff 8 16646143 rfl D.wantedN (by kernel_rfl) (by kernel_rfl) (fun _ _ h => h) ?_
        refine Z.ap0m hS rfl rfl rfl ((hrd [] _ (hS.sub (by repeat (first | exact Sub.rest | apply Sub.skip)))).mtake (by omega)) (by (try simp only [maxLen, List.length_take, List.length_drop, List.length_append, List.length_cons, List.length_nil, List.length_map]); omega) (by (try simp only [maxLen, List.length_take, List.length_drop, List.length_append, List.length_cons, List.length_nil, List.length_map]); omega) ?_
        clear hS; intro A' c' w hS
        refine ⟨HM.s (hS.sb), ?_⟩
        refine D.eff 17 16777215 rfl D.wantedN (by kernel_rfl) (by kernel_rfl) (fun _ _ h => h) ?_
        refine Z.apm (l' := [(⟨x.key, x.value, x.seq⟩ : Ce)]) hS rfl rfl rfl (by repeat (first | exact At.here | apply At.next)) (hS.lit1 (by repeat (first | exact At.here | apply At.next)) rfl rfl) (by (try simp only [maxLen, List.length_take, List.length_drop, List.length_append, List.length_cons, List.length_nil, List.length_map]); omega) (by (try simp only [maxLen, List.length_take, List.length_drop, List.length_append, List.length_cons, List.length_nil, List.length_map]); omega) ?_
        clear hS; intro A' c' w hS
        refine ⟨HM.s (hS.sb), ?_⟩
        refine D.eff 24 33554431 rfl D.wantedN (by kernel_rfl) (by kernel_rfl) (fun _ _ h => h) ?_
        refine Z.apm hS rfl rfl rfl (by repeat (first | exact At.here | apply At.next)) ((hrd [] _ (hS.sub (by repeat (first | exact Sub.rest | apply Sub.skip)))).mdrop (by omega)) (by (try simp only [maxLen, List.length_take, List.length_drop, List.length_append, List.length_cons, List.length_nil, List.length_map]); omega) (by (try simp only [maxLen, List.length_take, List.length_drop, List.length_append, List.length_cons, List.length_nil, List.length_map]); omega) ?_
        clear hS; intro A' c' w hS
        refine ⟨HM.s (hS.sb), ?_⟩
        refine Sh.dp 25 67108863 ?_
        refine Sh.dp 26 134217727 ?_
        refine D.eff 27 268435455 rfl D.wantedN (by kernel_rfl) (by kernel_rfl) (fun _ _ h => h) ?_
        refine Z.st hS rfl (by repeat (first | exact At.here | apply At.next)) rfl rfl ?_
        clear hS; intro w hS
        refine ⟨HM.last (by kernel_rfl), ?_⟩
        refine D.done (by kernel_rfl) ?_
        repeat' (first|refine K ?_|(refine Sh.sa hS ?_;clear hS;intro w hS)|(refine K3 ?_;clear hS;intro g w hS hge)|((first|refine GS ?_ ?_|refine VB ?_ ?_)<;>intro hb<;>(try simp only [J1,J2,J3,J4,J5,J6] at hb)<;>(try (exfalso;first|omega|exact hb trivial))))
        refine Dnt Tryz.results85 ?_
        have hlen : ¬ 32 ≤ l.length := by omega
        have e : sApp l x = (l.take (fidx l x.key) ++ [⟨x.key, x.value, x.seq⟩] ++ l.drop (fidx l x.key), 0) := by simp [sApp, *]
        rw [e]
        exact ⟨rfl, .inr ⟨_, hS.sb⟩⟩
      exact D.enil
    refine D.econs 16 16645885 rfl D.wantedN (by kernel_rfl) (fun _ _ h => h) ?_ ?_
    · refine Z.bs hS rfl rfl rfl ?_
      clear hS; intro g w hS hge
      refine ⟨HM.s (hS.sb), ?_⟩
      refine D.eff 1 16645887 rfl D.wantedN (by kernel_rfl) (by kernel_rfl) (fun _ _ h => h) ?_
      refine Z.bs hS rfl rfl rfl ?_
      clear hS; intro g w hS hge
      refine ⟨HM.s (hS.sb), ?_⟩
      refine D.eff 8 16646143 rfl D.wantedN (by kernel_rfl) (by kernel_rfl) (fun _ _ h => h) ?_
      refine Z.ap0m hS rfl rfl rfl ((hrd [] _ (hS.sub (by repeat (first | exact Sub.rest | apply Sub.skip)))).mtake (by omega)) (by (try simp only [maxLen, List.length_take, List.length_drop, List.length_append, List.length_cons, List.length_nil, List.length_map]); omega) (by (try simp only [maxLen, List.length_take, List.length_drop, List.length_append, List.length_cons, List.length_nil, List.length_map]); omega) ?_
      clear hS; intro A' c' w hS
      refine ⟨HM.s (hS.sb), ?_⟩
      refine D.eff 17 16777215 rfl D.wantedN (by kernel_rfl) (by kernel_rfl) (fun _ _ h => h) ?_
      refine Z.apm (l' := [(⟨x.key, x.value, x.seq⟩ : Ce)]) hS rfl rfl rfl (by repeat (first | exact At.here | apply At.next)) (hS.lit1 (by repeat (first | exact At.here | apply At.next)) rfl rfl) (by (try simp only [maxLen, List.length_take, List.length_drop, List.length_append, List.length_cons, List.length_nil, List.length_map]); omega) (by (try simp only [maxLen, List.length_take, List.length_drop, List.length_append, List.length_cons, List.length_nil, List.length_map]); omega) ?_
      clear hS; intro A' c' w hS
      refine ⟨HM.s (hS.sb), ?_⟩
      refine D.eff 24 33554431 rfl D.wantedN (by kernel_rfl) (by kernel_rfl) (fun _ _ h => h) ?_
      refine Z.apm hS rfl rfl rfl (by repeat (first | exact At.here | apply At.next)) ((hrd [] _ (hS.sub (by repeat (first | exact Sub.rest | apply Sub.skip)))).mdrop (by omega)) (by (try simp only [maxLen, List.length_take, List.length_drop, List.length_append, List.length_cons, List.length_nil, List.length_map]); omega) (by (try simp only [maxLen, List.length_take, List.length_drop, List.length_append, List.length_cons, List.length_nil, List.length_map]); omega) ?_
      clear hS; intro A' c' w hS
      refine ⟨HM.s (hS.sb), ?_⟩
      refine Sh.dp 25 67108863 ?_
      refine Sh.dp 26 134217727 ?_
      refine D.eff 27 268435455 rfl D.wantedN (by kernel_rfl) (by kernel_rfl) (fun _ _ h => h) ?_
      refine Z.st hS rfl (by repeat (first | exact At.here | apply At.next)) rfl rfl ?_
      clear hS; intro w hS
      refine ⟨HM.last (by kernel_rfl), ?_⟩
      refine D.done (by kernel_rfl) ?_
      repeat' (first|refine K ?_|(refine Sh.sa hS ?_;clear hS;intro w hS)|(refine K3 ?_;clear hS;intro g w hS hge)|((first|refine GS ?_ ?_|refine VB ?_ ?_)<;>intro hb<;>(try simp only [J1,J2,J3,J4,J5,J6] at hb)<;>(try (exfalso;first|omega|exact hb trivial))))
      refine Dnt Tryz.results85 ?_
      have hlen : ¬ 32 ≤ l.length := by omega
      have e : sApp l x = (l.take (fidx l x.key) ++ [⟨x.key, x.value, x.seq⟩] ++ l.drop (fidx l x.key), 0) := by simp [sApp, *]
      rw [e]
      exact ⟨rfl, .inr ⟨_, hS.sb⟩⟩
    exact D.enil
  · refine Dnt Tryz.results85 ?_
    refine ⟨by simp [sApp, *, Z.packR], .inl ⟨by simp [sApp, *], hS.sb⟩⟩
  · have hlt := found_lt hb
    refine D.startS hS 19 20 (by kernel_rfl) rfl ?_
    replace hS := hS.drew
    refine Sh.dp 0 1 ?_
    refine Sh.dp 2 5 ?_
    refine Sh.dp 3 13 ?_
    refine Sh.dp 4 29 ?_
    refine Sh.dp 6 93 ?_
    refine Sh.dp 9 605 ?_
    refine Sh.dp 10 1629 ?_
    refine Sh.dp 11 3677 ?_
    refine Sh.dp 13 11869 ?_
    first | refine D.sum 14 28253 rfl D.wantedN (by kernel_rfl) rfl (by constructor <;> omega) ?_ | refine D.sumW 14 28253 rfl D.wantedN (by kernel_rfl) rfl ?_
    refine Sh.dl 5 28285 ?_
    refine D.pl 7 28413 rfl D.wantedN (by kernel_rfl) (R.upto rfl rfl rfl (by omega)) ?_
    refine Sh.dl 12 32509 ?_
    refine D.pl 15 65277 rfl D.wantedN (by kernel_rfl) (R.since rfl rfl rfl (by omega)) ?_
    refine D.eff 1 65279 rfl D.wantedN (by kernel_rfl) (by kernel_rfl) (fun _ _ h => h) ?_
    refine Z.bs hS rfl rfl rfl ?_
    clear hS; intro g w hS hge
    refine ⟨HM.s (hS.sb), ?_⟩
    refine D.eff 8 65535 rfl D.wantedN (by kernel_rfl) (by kernel_rfl) (fun _ _ h => h) ?_
    refine Z.ap0m hS rfl rfl rfl ((hrd [] _ (hS.sub (by repeat (first | exact Sub.rest | apply Sub.skip)))).mtake (by omega)) (by (try simp only [maxLen, List.length_take, List.length_drop, List.length_append, List.length_cons, List.length_nil, List.length_map]); omega) (by (try simp only [maxLen, List.length_take, List.length_drop, List.length_append, List.length_cons, List.length_nil, List.length_map]); omega) ?_
    clear hS; intro A' c' w hS
    refine ⟨HM.s (hS.sb), ?_⟩
    refine D.eff 16 131071 rfl D.wantedN (by kernel_rfl) (by kernel_rfl) (fun _ _ h => h) ?_
    refine Z.apm hS rfl rfl rfl (by repeat (first | exact At.here | apply At.next)) ((hrd [] _ (hS.sub (by repeat (first | exact Sub.rest | apply Sub.skip)))).mdrop (by omega)) (by (try simp only [maxLen, List.length_take, List.length_drop, List.length_append, List.length_cons, List.length_nil, List.length_map]); omega) (by (try simp only [maxLen, List.length_take, List.length_drop, List.length_append, List.length_cons, List.length_nil, List.length_map]); omega) ?_
    clear hS; intro A' c' w hS
    refine ⟨HM.s (hS.sb), ?_⟩
    refine Sh.dp 17 262143 ?_
    refine Sh.dp 18 524287 ?_
    refine D.eff 19 1048575 rfl D.wantedN (by kernel_rfl) (by kernel_rfl) (fun _ _ h => h) ?_
    refine Z.st hS rfl (by repeat (first | exact At.here | apply At.next)) rfl rfl ?_
    clear hS; intro w hS
    refine ⟨HM.last (by kernel_rfl), ?_⟩
    refine D.done (by kernel_rfl) ?_
    repeat' (first|refine K ?_|(refine Sh.sa hS ?_;clear hS;intro w hS)|(refine K3 ?_;clear hS;intro g w hS hge)|((first|refine GS ?_ ?_|refine VB ?_ ?_)<;>intro hb<;>(try simp only [J1,J2,J3,J4,J5,J6] at hb)<;>(try (exfalso;first|omega|exact hb trivial))))
    refine Dnt Tryz.results85 ?_
    have e : sApp l x = (l.take (fidx l x.key) ++ l.drop (fidx l x.key + 1), 0) := by simp [sApp, *]
    rw [e]
    exact ⟨rfl, .inr ⟨_, hS.sb⟩⟩
  · refine Dnt Tryz.results85 ?_
    refine ⟨by simp [sApp, *, Z.packR], .inl ⟨by simp [sApp, *], hS.sb⟩⟩
end Go.Proofs.YtiabhlogadboeaaGreat
