/-
  The walks of the tape of the mill: Mod, New, Next, Range, More.
-/
import Derived.Test.YtabpapdickolgaaRows
import Derived.Test.YtabpapdickolgaaTypes
import Derived.BigGuardPart
import Derived.Deep.QuietTactic
import Derived.BigQuiet
import Derived.Deep.RegionHeld3
namespace Go.Proofs.Ytabpapdickolgaa
open Go.RowKit
set_option linter.unusedSimpArgs false
set_option linter.unusedVariables false

/-- Go's remainder made non-negative. -/
def modN (v n : Int) : Int := if v.tmod n < 0 then v.tmod n + n else v.tmod n
theorem modN_bd (v n : Int) (hn : 1 ≤ n) : 0 ≤ modN v n ∧ modN v n < n := by
  unfold modN
  have h1 := Int.lt_tmod_of_pos v (show 0 < n by omega)
  have h2 := Int.tmod_lt_of_pos v (show 0 < n by omega)
  split <;> omega

set_option maxHeartbeats 400000 in
theorem mod_any (v n : Int) (w : World) (hn : 1 ≤ n) (hm : n ≤ 1000000) :
    Calls Try.prog 17 #[.int .i64 v, .int .i64 n] w fun e w' => e = .returned (.int .i64 (modN v n)) ∧ w = w' := by
  have h1 := Int.lt_tmod_of_pos v (show 0 < n by omega)
  have h2 := Int.tmod_lt_of_pos v (show 0 < n by omega)
  have hp : v.tmod n < 0 → modN v n = v.tmod n + n := fun h => by simp [modN, h]
  have hq : 0 ≤ v.tmod n → modN v n = v.tmod n := fun h => by unfold modN; rw [if_neg (by omega)]
  have HP := Lib.hid hp
  have HQ := Lib.hid hq
  clear hp hq
  go_enter Try.func17, Try.ntmps17
  go_wp2
  · go_ret
    exact ⟨ret_int (HP.out (by assumption)).symm, rfl⟩
  · go_ret
    exact ⟨ret_int (HQ.out (by assumption)).symm, rfl⟩

theorem quiet_left {P : Program} {f : FuncId} {args : Array Value} {w : World} {n : Nat} {v : Value}
    (h : Calls P f args (w.drewN n) fun e w' => e = .returned v ∧ w.drewN n = w') : Calls P f args (w.drewN n) fun e w'' => e = .returned v ∧ ∃ m, w'' = w.drewN m :=
  h.mono fun _ _ ⟨he, hm⟩ => ⟨he, n, hm.symm⟩

/-- What the tape gives, and where it stands behind. -/
def nxt (l : List Int) (i : Nat) (n : Int) : Int := if i < l.length then modN (l.getD i 0) n else 0
def adv (l : List Int) (i : Nat) : Nat := if i < l.length then i + 1 else i
theorem nxt_bd (l : List Int) (i : Nat) (n : Int) (hn : 1 ≤ n) : 0 ≤ nxt l i n ∧ nxt l i n < n := by
  unfold nxt
  have := modN_bd (l.getD i 0) n hn
  split <;> omega
theorem adv_le (l : List Int) (i : Nat) (h : i ≤ l.length) : adv l i ≤ l.length := by unfold adv; split <;> omega

/-- Block g is a tape over l that stands at i; the numbers lie below block B. -/
def Tp (w : World) (B g : Nat) (l : List Int) (i : Nat) : Prop :=
  ∃ A c, Blk w g 119 #[.slice A l.length c, .int .i64 i] ∧ Rd w 1 A l.length (l.map (Value.int .i64)) ∧ (0 < l.length → ∀ ad, A = some ad → ad.block < B) ∧ B ≤ g ∧ i ≤ l.length ∧ l.length ≤ 150

theorem Rd.chg0 {S : List Nat} {w w' : World} {sz n : Nat} {A : Option Addr} {xs : List Value} (h : Rd w sz A n xs) (hc : Chg S w w') (hs : 0 < n → ∀ ad, A = some ad → ad.block ∉ S) : Rd w' sz A n xs :=
  ⟨h.1, fun hn => by
    obtain ⟨ad, e, hr⟩ := h.2 hn
    exact ⟨ad, e, fun j u hu => hc.cellv (hr j u hu) (by rw [block_add]; exact hs hn ad e)⟩⟩
theorem Tp.chg {S : List Nat} {w w' : World} {B g : Nat} {l : List Int} {i : Nat} (h : Tp w B g l i) (hc : Chg S w w') (hg : g ∉ S) (hS : ∀ x, x ∈ S → B ≤ x) : Tp w' B g l i := by
  obtain ⟨A, c, hb, hr, hA, hB, hi, hl⟩ := h
  exact ⟨A, c, hb.chg hc hg, hr.chg0 hc (fun h0 ad e hx => by have := hA h0 ad e; have := hS _ hx; omega), hA, hB, hi, hl⟩
theorem Tp.ext {w w' : World} {B g : Nat} {l : List Int} {i : Nat} (h : Tp w B g l i) (hc : Chg [] w w') : Tp w' B g l i := h.chg hc (by simp) (by simp)
theorem Tp.lt {w : World} {B g : Nat} {l : List Int} {i : Nat} (h : Tp w B g l i) : g < w.heap.size := by
  obtain ⟨A, c, hb, _⟩ := h
  exact hb.lt
theorem Tp.base {w : World} {B g : Nat} {l : List Int} {i : Nat} (h : Tp w B g l i) : B ≤ g := by
  obtain ⟨A, c, _, _, _, hB, _⟩ := h
  exact hB

set_option maxHeartbeats 400000 in
theorem next_any (B g : Nat) (l : List Int) (i : Nat) (n : Int) (w : World) (ht : Tp w B g l i) (hn : 1 ≤ n) (hm : n ≤ 1000000) :
    Calls Try.prog 59 #[.pointer (some ⟨g, 0, none⟩), .int .i64 n] w fun e w' => e = .returned (.int .i64 (nxt l i n)) ∧ Tp w' B g l (adv l i) ∧ Chg [g] w w' := by
  obtain ⟨A, c, hb, hr, hA, hB, hi, hl⟩ := ht
  have c0 : w.cell? ⟨g, 0, none⟩ = some (.slice A l.length c) := hb.cell 0
  have c1 : w.cell? ⟨g, 1, none⟩ = some (.int .i64 i) := hb.cell 1
  have f1 := hb.frozen 1
  have HB := Lib.hid hb
  have HR := Lib.hid hr
  have HA := Lib.hid hA
  clear hb hr hA
  by_cases hlt : i < l.length
  · obtain ⟨ad, rfl, hc⟩ := HR.out.at hlt
    obtain ⟨u, hu, hcu⟩ := hc 0 (by omega)
    simp only [Nat.mul_one, Nat.add_zero] at hu hcu
    obtain ⟨x, rfl, hx⟩ : ∃ x, u = .int .i64 x ∧ l.getD i 0 = x := by
      simp [List.getElem?_map, List.getElem?_eq_getElem hlt] at hu
      exact ⟨l[i], hu.symm, by simp [List.getD, List.getElem?_eq_getElem hlt]⟩
    have HX := Lib.hid hx
    clear hu hc hx
    go_enter Try.func59, Try.ntmps59
    go_wp2
    go_quiet (fail)
    go_wp2
    have hb1 := (HB.out.drewN nq).set 1 (.int .i64 ((i : Int) + 1))
    have hg1 : Chg [g] w ((w.drewN nq).setCell ⟨g, 1, none⟩ (.int .i64 ((i : Int) + 1))) := ((Chg.refl [g] w).drewN nq).setCell (.inl (by simp)) _
    generalize (w.drewN nq).setCell ⟨g, 1, none⟩ (.int .i64 ((i : Int) + 1)) = w1 at *
    have d0 : w1.cell? ⟨g, 0, none⟩ = some (.slice (some ad) l.length c) := hb1.cell 0
    have d1 : w1.cell? ⟨g, 1, none⟩ = some (.int .i64 ((i : Int) + 1)) := hb1.cell 1
    have d2 := hg1.cellv hcu (by simp; rw [block_add]; have := HA.out (by omega) ad rfl; omega)
    have HB1 := Lib.hid hb1
    have HG1 := Lib.hid hg1
    clear hb1 hg1 c0 c1 f1 hcu
    go_quiet ((go_at_call 17; exact quiet_left (mod_any _ _ _ (by omega) (by omega))))
    go_wp2
    go_ret
    have e1 : nxt l i n = modN (l.getD i 0) n := by unfold nxt; rw [if_pos hlt]
    have e2 : adv l i = i + 1 := by unfold adv; rw [if_pos hlt]
    refine ⟨ret_int ?_, ⟨some ad, c, ?_, ?_, HA.out, hB, ?_, hl⟩, HG1.out.drewN _⟩
    · rw [e1, HX.out]
    · rw [e2]
      exact HB1.out.drewN _
    · exact (HR.out.chg0 HG1.out (fun h0 a e => by simp; have := HA.out h0 a e; omega)).ext ((Chg.refl [] _).drewN _)
    · rw [e2]; omega
  · go_enter Try.func59, Try.ntmps59
    go_wp2
    go_quiet (fail)
    go_wp2
    go_ret
    have e1 : nxt l i n = 0 := by unfold nxt; rw [if_neg hlt]
    have e2 : adv l i = i := by unfold adv; rw [if_neg hlt]
    refine ⟨ret_int ?_, ⟨A, c, ?_, ?_, HA.out, hB, ?_, hl⟩, (Chg.refl _ _).drewN _⟩
    · rw [e1]
    · rw [e2]; exact HB.out.drewN _
    · exact HR.out.ext ((Chg.refl [] _).drewN _)
    · rw [e2]; omega

set_option maxHeartbeats 400000 in
theorem range_any (B g : Nat) (l : List Int) (i : Nat) (lo hi : Int) (w : World) (ht : Tp w B g l i) (h0 : 0 ≤ lo) (h1 : lo ≤ hi) (h2 : hi ≤ 100000) :
    Calls Try.prog 70 #[.pointer (some ⟨g, 0, none⟩), .int .i64 lo, .int .i64 hi] w fun e w' => e = .returned (.int .i64 (lo + nxt l i (hi - lo + 1))) ∧ Tp w' B g l (adv l i) ∧ Chg [g] w w' := by
  have hb := nxt_bd l i (hi - lo + 1) (by omega)
  have HT := Lib.hid ht
  clear ht
  go_enter Try.func70, Try.ntmps70
  go_wp2_with (go_at_call 59; refine (next_any B g l i _ _ HT.out (by omega) (by omega)).mono ?_; rintro e w' ⟨rfl, ht1, hg1⟩)
  go_ret
  exact ⟨rfl, ht1, hg1⟩

set_option maxHeartbeats 400000 in
theorem more_any (B g : Nat) (l : List Int) (i : Nat) (w : World) (ht : Tp w B g l i) :
    Calls Try.prog 58 #[.pointer (some ⟨g, 0, none⟩)] w fun e w' => e = .returned (.bool (decide (i < l.length))) ∧ Chg [] w w' := by
  obtain ⟨A, c, hb, hr, hA, hB, hi, hl⟩ := ht
  have c0 : w.cell? ⟨g, 0, none⟩ = some (.slice A l.length c) := hb.cell 0
  have c1 : w.cell? ⟨g, 1, none⟩ = some (.int .i64 i) := hb.cell 1
  clear hb hr hA
  go_enter Try.func58, Try.ntmps58
  go_wp2
  go_quiet (fail)
  go_wp2
  go_ret
  exact ⟨rfl, (Chg.refl _ _).drewN _⟩

set_option maxHeartbeats 400000 in
theorem tape_any (l : List Int) (A : Option Addr) (c : Nat) (w : World) (hr : Rd w 1 A l.length (l.map (Value.int .i64))) (hl : l.length ≤ 150) (B : Nat) (hA : 0 < l.length → ∀ ad, A = some ad → ad.block < B) (hB : B ≤ w.heap.size) :
    Calls Try.prog 41 #[.slice A l.length c] w fun e w' => e = .returned (.pointer (some ⟨w.heap.size, 0, none⟩)) ∧ Tp w' B w.heap.size l 0 ∧ Chg [] w w' := by
  have HR := Lib.hid hr
  have HA := Lib.hid hA
  clear hr hA
  go_enter Try.func41, Try.ntmps41
  go_wp2
  go_ret
  exact ⟨rfl, ⟨A, c, Blk.new _ _ _, HR.out.ext ((Chg.refl [] _).alloc _), HA.out, hB, by omega, hl⟩, (Chg.refl [] _).alloc _⟩

end Go.Proofs.Ytabpapdickolgaa
