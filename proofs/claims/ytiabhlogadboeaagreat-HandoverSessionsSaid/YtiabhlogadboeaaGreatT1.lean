/-
  The walks of the tape of the mill: Mod, New, Next, Range, More.
  The walk of Text, which makes a string from a tape.
  The tape of the mill as a resource.
-/
import Derived.Test.YtiabhlogadboeaaGreatRows
import Derived.Test.YtiabhlogadboeaaGreatE1
import Derived.BigGuardPart
import Derived.Deep.QuietTactic
import Derived.BigQuiet
import Derived.Deep.RegionHeld3
import Derived.Handy
import Derived.Deep.DeepCutAuto
import Derived.Test.YtiabhlogadboeaaGreatE2
namespace Go.Proofs.YtiabhlogadboeaaGreat
open Go.RowKit
set_option linter.unusedSimpArgs false
set_option linter.unusedVariables false

/-- Go's remainder made non-negative. -/
def modN (v n : Int) : Int := if v.tmod n < 0 then v.tmod n + n else v.tmod n
theorem modN_bd (v n : Int) (hn : 1 ≤ n) : 0 ≤ modN v n ∧ modN v n < n := by
  unfold modN
  have h1 := Int.lt_tmod_of_pos v (show 0 < n by omega)
  have h2 := Int.tmod_lt_of_pos v (show 0 < n by omega)
  split <;> omega

set_option maxHeartbeats 400000 in
theorem mod_any (v n : Int) (w : World) (hn : 1 ≤ n) (hm : n ≤ 1000000) :
    Calls Tryz.prog 9 #[.int .i64 v, .int .i64 n] w fun e w' => e = .returned (.int .i64 (modN v n)) ∧ w = w' := by
  have h1 := Int.lt_tmod_of_pos v (show 0 < n by omega)
  have h2 := Int.tmod_lt_of_pos v (show 0 < n by omega)
  have hp : v.tmod n < 0 → modN v n = v.tmod n + n := fun h => by simp [modN, h]
  have hq : 0 ≤ v.tmod n → modN v n = v.tmod n := fun h => by unfold modN; rw [if_neg (by omega)]
  have HP := Lib.hid hp
  have HQ := Lib.hid hq
  clear hp hq
  go_enter Tryz.func9, Tryz.ntmps9
  go_wp2
  · go_ret
    exact ⟨ret_int (HP.out (by assumption)).symm, rfl⟩
  · go_ret
    exact ⟨ret_int (HQ.out (by assumption)).symm, rfl⟩

theorem quiet_left {P : Program} {f : FuncId} {args : Array Value} {w : World} {n : Nat} {v : Value}
    (h : Calls P f args (w.drewN n) fun e w' => e = .returned v ∧ w.drewN n = w') : Calls P f args (w.drewN n) fun e w'' => e = .returned v ∧ ∃ m, w'' = w.drewN m :=
  h.mono fun _ _ ⟨he, hm⟩ => ⟨he, n, hm.symm⟩

/-- What the tape gives, and where it stands behind. -/
def nxt (l : List Int) (i : Nat) (n : Int) : Int := if i < l.length then modN (l.getD i 0) n else 0
def adv (l : List Int) (i : Nat) : Nat := if i < l.length then i + 1 else i
theorem nxt_bd (l : List Int) (i : Nat) (n : Int) (hn : 1 ≤ n) : 0 ≤ nxt l i n ∧ nxt l i n < n := by
  unfold nxt
  have := modN_bd (l.getD i 0) n hn
  split <;> omega
theorem adv_le (l : List Int) (i : Nat) (h : i ≤ l.length) : adv l i ≤ l.length := by unfold adv; split <;> omega

/-- Block g is a tape over l that stands at i; the numbers lie below block B. -/
def Tp (w : World) (B g : Nat) (l : List Int) (i : Nat) : Prop :=
  ∃ A c, Blk w g 148 #[.slice A l.length c, .int .i64 i] ∧ Rd w 1 A l.length (l.map (Value.int .i64)) ∧ (0 < l.length → ∀ ad, A = some ad → ad.block < B) ∧ B ≤ g ∧ i ≤ l.length ∧ l.length ≤ 150

theorem Rd.chg0 {S : List Nat} {w w' : World} {sz n : Nat} {A : Option Addr} {xs : List Value} (h : Rd w sz A n xs) (hc : Chg S w w') (hs : 0 < n → ∀ ad, A = some ad → ad.block ∉ S) : Rd w' sz A n xs :=
  ⟨h.1, fun hn => by
    obtain ⟨ad, e, hr⟩ := h.2 hn
    exact ⟨ad, e, fun j u hu => hc.cellv (hr j u hu) (by rw [block_add]; exact hs hn ad e)⟩⟩
theorem Tp.chg {S : List Nat} {w w' : World} {B g : Nat} {l : List Int} {i : Nat} (h : Tp w B g l i) (hc : Chg S w w') (hg : g ∉ S) (hS : ∀ x, x ∈ S → B ≤ x) : Tp w' B g l i := by
  obtain ⟨A, c, hb, hr, hA, hB, hi, hl⟩ := h
  exact ⟨A, c, hb.chg hc hg, hr.chg0 hc (fun h0 ad e hx => by have := hA h0 ad e; have := hS _ hx; omega), hA, hB, hi, hl⟩
theorem Tp.ext {w w' : World} {B g : Nat} {l : List Int} {i : Nat} (h : Tp w B g l i) (hc : Chg [] w w') : Tp w' B g l i := h.chg hc (by simp) (by simp)
theorem Tp.lt {w : World} {B g : Nat} {l : List Int} {i : Nat} (h : Tp w B g l i) : g < w.heap.size := by
  obtain ⟨A, c, hb, _⟩ := h
  exact hb.lt
theorem Tp.base {w : World} {B g : Nat} {l : List Int} {i : Nat} (h : Tp w B g l i) : B ≤ g := by
  obtain ⟨A, c, _, _, _, hB, _⟩ := h
  exact hB

set_option maxHeartbeats 400000 in
theorem next_any (B g : Nat) (l : List Int) (i : Nat) (n : Int) (w : World) (ht : Tp w B g l i) (hn : 1 ≤ n) (hm : n ≤ 1000000) :
    Calls Tryz.prog 90 #[.pointer (some ⟨g, 0, none⟩), .int .i64 n] w fun e w' => e = .returned (.int .i64 (nxt l i n)) ∧ Tp w' B g l (adv l i) ∧ Chg [g] w w' := by
  obtain ⟨A, c, hb, hr, hA, hB, hi, hl⟩ := ht
  have c0 : w.cell? ⟨g, 0, none⟩ = some (.slice A l.length c) := hb.cell 0
  have c1 : w.cell? ⟨g, 1, none⟩ = some (.int .i64 i) := hb.cell 1
  have f1 := hb.frozen 1
  have HB := Lib.hid hb
  have HR := Lib.hid hr
  have HA := Lib.hid hA
  clear hb hr hA
  by_cases hlt : i < l.length
  · obtain ⟨ad, rfl, hc⟩ := HR.out.at hlt
    obtain ⟨u, hu, hcu⟩ := hc 0 (by omega)
    simp only [Nat.mul_one, Nat.add_zero] at hu hcu
    obtain ⟨x, rfl, hx⟩ : ∃ x, u = .int .i64 x ∧ l.getD i 0 = x := by
      simp [List.getElem?_map, List.getElem?_eq_getElem hlt] at hu
      exact ⟨l[i], hu.symm, by simp [List.getD, List.getElem?_eq_getElem hlt]⟩
    have HX := Lib.hid hx
    clear hu hc hx
    go_enter Tryz.func90, Tryz.ntmps90
    go_wp2
    go_quiet (fail)
    go_wp2
    have hb1 := (HB.out.drewN nq).set 1 (.int .i64 ((i : Int) + 1))
    have hg1 : Chg [g] w ((w.drewN nq).setCell ⟨g, 1, none⟩ (.int .i64 ((i : Int) + 1))) := ((Chg.refl [g] w).drewN nq).setCell (.inl (by simp)) _
    generalize (w.drewN nq).setCell ⟨g, 1, none⟩ (.int .i64 ((i : Int) + 1)) = w1 at *
    have d0 : w1.cell? ⟨g, 0, none⟩ = some (.slice (some ad) l.length c) := hb1.cell 0
    have d1 : w1.cell? ⟨g, 1, none⟩ = some (.int .i64 ((i : Int) + 1)) := hb1.cell 1
    have d2 := hg1.cellv hcu (by simp; rw [block_add]; have := HA.out (by omega) ad rfl; omega)
    have HB1 := Lib.hid hb1
    have HG1 := Lib.hid hg1
    clear hb1 hg1 c0 c1 f1 hcu
    go_quiet ((go_at_call 9; exact quiet_left (mod_any _ _ _ (by omega) (by omega))))
    go_wp2
    go_ret
    have e1 : nxt l i n = modN (l.getD i 0) n := by unfold nxt; rw [if_pos hlt]
    have e2 : adv l i = i + 1 := by unfold adv; rw [if_pos hlt]
    refine ⟨ret_int ?_, ⟨some ad, c, ?_, ?_, HA.out, hB, ?_, hl⟩, HG1.out.drewN _⟩
    · rw [e1, HX.out]
    · rw [e2]
      exact HB1.out.drewN _
    · exact (HR.out.chg0 HG1.out (fun h0 a e => by simp; have := HA.out h0 a e; omega)).ext ((Chg.refl [] _).drewN _)
    · rw [e2]; omega
  · go_enter Tryz.func90, Tryz.ntmps90
    go_wp2
    go_quiet (fail)
    go_wp2
    go_ret
    have e1 : nxt l i n = 0 := by unfold nxt; rw [if_neg hlt]
    have e2 : adv l i = i := by unfold adv; rw [if_neg hlt]
    refine ⟨ret_int ?_, ⟨A, c, ?_, ?_, HA.out, hB, ?_, hl⟩, (Chg.refl _ _).drewN _⟩
    · rw [e1]
    · rw [e2]; exact HB.out.drewN _
    · exact HR.out.ext ((Chg.refl [] _).drewN _)
    · rw [e2]; omega

set_option maxHeartbeats 400000 in
theorem range_any (B g : Nat) (l : List Int) (i : Nat) (lo hi : Int) (w : World) (ht : Tp w B g l i) (h0 : 0 ≤ lo) (h1 : lo ≤ hi) (h2 : hi ≤ 100000) :
    Calls Tryz.prog 133 #[.pointer (some ⟨g, 0, none⟩), .int .i64 lo, .int .i64 hi] w fun e w' => e = .returned (.int .i64 (lo + nxt l i (hi - lo + 1))) ∧ Tp w' B g l (adv l i) ∧ Chg [g] w w' := by
  have hb := nxt_bd l i (hi - lo + 1) (by omega)
  have HT := Lib.hid ht
  clear ht
  go_enter Tryz.func133, Tryz.ntmps133
  go_wp2_with (go_at_call 90; refine (next_any B g l i _ _ HT.out (by omega) (by omega)).mono ?_; rintro e w' ⟨rfl, ht1, hg1⟩)
  go_ret
  exact ⟨rfl, ht1, hg1⟩

set_option maxHeartbeats 400000 in
theorem more_any (B g : Nat) (l : List Int) (i : Nat) (w : World) (ht : Tp w B g l i) :
    Calls Tryz.prog 89 #[.pointer (some ⟨g, 0, none⟩)] w fun e w' => e = .returned (.bool (decide (i < l.length))) ∧ Chg [] w w' := by
  obtain ⟨A, c, hb, hr, hA, hB, hi, hl⟩ := ht
  have c0 : w.cell? ⟨g, 0, none⟩ = some (.slice A l.length c) := hb.cell 0
  have c1 : w.cell? ⟨g, 1, none⟩ = some (.int .i64 i) := hb.cell 1
  clear hb hr hA
  go_enter Tryz.func89, Tryz.ntmps89
  go_wp2
  go_quiet (fail)
  go_wp2
  go_ret
  exact ⟨rfl, (Chg.refl _ _).drewN _⟩

set_option maxHeartbeats 400000 in
theorem tape_any (l : List Int) (A : Option Addr) (c : Nat) (w : World) (hr : Rd w 1 A l.length (l.map (Value.int .i64))) (hl : l.length ≤ 150) (B : Nat) (hA : 0 < l.length → ∀ ad, A = some ad → ad.block < B) (hB : B ≤ w.heap.size) :
    Calls Tryz.prog 54 #[.slice A l.length c] w fun e w' => e = .returned (.pointer (some ⟨w.heap.size, 0, none⟩)) ∧ Tp w' B w.heap.size l 0 ∧ Chg [] w w' := by
  have HR := Lib.hid hr
  have HA := Lib.hid hA
  clear hr hA
  go_enter Tryz.func54, Tryz.ntmps54
  go_wp2
  go_ret
  exact ⟨rfl, ⟨A, c, Blk.new _ _ _, HR.out.ext ((Chg.refl [] _).alloc _), HA.out, hB, by omega, hl⟩, (Chg.refl [] _).alloc _⟩

end Go.Proofs.YtiabhlogadboeaaGreat

namespace Go.Proofs.YtiabhlogadboeaaGreat
open Go.RowKit
set_option linter.unusedSimpArgs false
set_option linter.unusedVariables false

/-- Where the tape stands behind q numbers. -/
def advN (l : List Int) (i : Nat) : Nat → Nat
  | 0 => i
  | q + 1 => adv l (advN l i q)
theorem advN_le (l : List Int) (i : Nat) (h : i ≤ l.length) : ∀ q, advN l i q ≤ l.length
  | 0 => h
  | q + 1 => adv_le l _ (advN_le l i h q)
/-- Letter number q of a text that begins at i. -/
def letter (l : List Int) (i q : Nat) : Int := 97 + nxt l (advN l i q) 4
theorem letter_bd (l : List Int) (i q : Nat) : 97 ≤ letter l i q ∧ letter l i q ≤ 100 := by
  unfold letter
  have := nxt_bd l (advN l i q) 4 (by omega)
  omega
/-- The first k letters, as a string. -/
def letters (l : List Int) (i k : Nat) : ByteArray := strOfNums ((List.range k).map (letter l i))
theorem letters_size (l : List Int) (i k : Nat) : (letters l i k).size = k := by unfold letters; rw [strOfNums_size]; simp

/-- How many letters Text makes. -/
def textLen (l : List Int) (i : Nat) (lo n : Int) : Int :=
  if nxt l (adv l i) 9 = 8 then n else lo + nxt l i (min n (lo + 2) - lo + 1)
def textOf (l : List Int) (i : Nat) (lo n : Int) : ByteArray := letters l (adv l (adv l i)) (textLen l i lo n).toNat
def textAdv (l : List Int) (i : Nat) (lo n : Int) : Nat := advN l (adv l (adv l i)) (textLen l i lo n).toNat
theorem textLen_bd (l : List Int) (i : Nat) (lo n : Int) (h0 : 0 ≤ lo) (h1 : lo ≤ n) : lo ≤ textLen l i lo n ∧ textLen l i lo n ≤ n := by
  unfold textLen
  have := nxt_bd l i (min n (lo + 2) - lo + 1) (by omega)
  split <;> omega
theorem textOf_size (l : List Int) (i : Nat) (lo n : Int) (h0 : 0 ≤ lo) (h1 : lo ≤ n) : lo ≤ (textOf l i lo n).size ∧ ((textOf l i lo n).size : Int) ≤ n := by
  unfold textOf
  rw [letters_size]
  have := textLen_bd l i lo n h0 h1
  omega

/-- The cells of the bytes behind q rounds. -/
def rowB (f : Nat → Int) (k q : Nat) : Array Value := ((List.range k).map fun j => Value.int .u8 (if j < q then f j else 0)).toArray
theorem rowB_made (f : Nat → Int) (k : Nat) : madeCells #[.int .u8 0] k = rowB f k 0 := by
  apply Array.ext
  · simp [madeCells, rowB]
  · intro i h1 h2
    simp [madeCells, rowB, Nat.mod_one]
theorem rowB_set (f : Nat → Int) (k q : Nat) : (rowB f k q).setIfInBounds q (.int .u8 (f q)) = rowB f k (q + 1) := by
  apply Array.ext
  · simp [rowB]
  · intro i h1 h2
    simp [rowB, Array.getElem_setIfInBounds]
    by_cases h : q = i
    · simp [h]
    · have : (i < q) = (i < q + 1) := by simp; omega
      simp [h, this]
theorem rowB_get (f : Nat → Int) (k q i : Nat) (hi : i < k) : (rowB f k q)[i]? = some (.int .u8 (if i < q then f i else 0)) := by
  simp [rowB, hi]

theorem Tryz.info5 : (Tryz.prog.info? 5).map (fun i => (i.zero, i.size, i.bytes)) = some (some (.int .u8 0), 1, 1) := by kernel_rfl

set_option maxHeartbeats 1000000 in
theorem text_any (B g : Nat) (l : List Int) (i : Nat) (lo n : Int) (w : World) (ht : Tp w B g l i) (h0 : 0 ≤ lo) (h1 : lo ≤ n) (h2 : n ≤ 1000) :
    Calls Tryz.prog 135 #[.pointer (some ⟨g, 0, none⟩), .int .i64 lo, .int .i64 n] w fun e w' => e = .returned (.string (textOf l i lo n)) ∧ Tp w' B g l (textAdv l i lo n) ∧ Chg [g] w w' := by
  have hb := nxt_bd l i (min n (lo + 2) - lo + 1) (by omega)
  have hb' := nxt_bd l (adv l i) 9 (by omega)
  have HT := Lib.hid ht
  clear ht
  go_enter Tryz.func135, Tryz.ntmps135
  go_upto_region 1 with (fail)
  go_cut [7] (fun k wr => k = .int .i64 (lo + nxt l i (min n (lo + 2) - lo + 1)) ∧ Tp wr B g l (adv l i) ∧ Chg [g] w wr)
  case first =>
    go_wp2_with (go_at_call 133; refine (range_any B g l i lo _ _ HT.out (by omega) (by omega) (by omega)).mono ?_; rintro e w1 ⟨rfl, ht1, hg1⟩)
    all_goals
      go_meet
      case rel => exact ⟨by congr 4; omega, ht1, hg1⟩
  case rest =>
    obtain ⟨rfl, ht1, hg1⟩ := hcut
    have HT1 := Lib.hid ht1
    have HG1 := Lib.hid hg1
    clear ht1 hg1 HT
    have hL := textLen_bd l i lo n h0 h1
    have hL1 : nxt l (adv l i) 9 = 8 → textLen l i lo n = n := fun h => by unfold textLen; rw [if_pos h]
    have hL2 : ¬ nxt l (adv l i) 9 = 8 → textLen l i lo n = lo + nxt l i (min n (lo + 2) - lo + 1) := fun h => by unfold textLen; rw [if_neg h]
    have HL1 := Lib.hid hL1
    have HL2 := Lib.hid hL2
    clear hL1 hL2 hb
    generalize lo + nxt l i (min n (lo + 2) - lo + 1) = x at *
    go_upto_if 19 with (go_at_call 90; refine (next_any B g l _ 9 _ HT1.out (by omega) (by omega)).mono ?_; rintro e w2 ⟨rfl, ht2, hg2⟩; have HT2 := Lib.hid ht2; have HG2 := Lib.hid (HG1.out.trans hg2); clear ht2 hg2 HG1 HT1)
    go_cut [7] (fun k wr => k = .int .i64 (textLen l i lo n) ∧ w2 = wr)
    case first =>
      by_cases hj : nxt l (adv l i) 9 = 8
      · have hj' : (nxt l (adv l i) 9 == 8) = true := by simp [hj]
        clear hb'
        have HJ := Lib.hid hj
        clear hj
        go_wp2
        go_meet
        case rel => exact ⟨by rw [HL1.out HJ.out], rfl⟩
      · have hj' : (nxt l (adv l i) 9 == 8) = false := by simp [hj]
        clear hb'
        have HJ := Lib.hid hj
        clear hj
        go_wp2
        go_meet
        case rel => exact ⟨by rw [HL2.out HJ.out], rfl⟩
    case rest =>
      obtain ⟨rfl, rfl⟩ := hcut
      clear HL1 HL2 hb'
      obtain ⟨k, hk⟩ := Int.eq_ofNat_of_zero_le (show 0 ≤ textLen l i lo n by omega)
      have HK := Lib.hid hk
      have hkb : k ≤ 1000 := by omega
      rw [hk]
      clear hk hL
      generalize hi2 : adv l (adv l i) = i2 at *
      have HI2 := Lib.hid hi2
      clear hi2
      obtain ⟨j0, hj, hz0, hz1, hz2⟩ := info_parts Tryz.info5
      have hmk := fun W => run_make (P := Tryz.prog) W 116 5 j0 (.int .u8 0) Tryz.underlying116 hj hz0 .i64 .i64 k k (by omega) (by omega) (by rw [hz2]; omega) (by omega)
      simp only [Int.toNat_natCast, hz1] at hmk
      go_wp2
      clear hmk
      have hgb : g ≠ w2.heap.size := by
        have := HT2.out.lt
        omega
      have hsz : w.heap.size ≤ w2.heap.size := HG2.out.size
      have hBb : B ≤ w2.heap.size := by have := HT2.out.base; have := HT2.out.lt; omega
      have hB0 : Blk (w2.alloc (.cells (madeCells #[Value.int IntKind.u8 0] k) 5)) w2.heap.size 5 (rowB (letter l i2) k 0) := by
        rw [← rowB_made]
        exact Blk.new _ _ _
      have hG0 : Chg [g] w (w2.alloc (.cells (madeCells #[Value.int IntKind.u8 0] k) 5)) := HG2.out.alloc _
      have hT0 : Tp (w2.alloc (.cells (madeCells #[Value.int IntKind.u8 0] k) 5)) B g l i2 := Tp.ext HT2.out ((Chg.refl [] _).alloc _)
      generalize w2.alloc (.cells (madeCells #[Value.int IntKind.u8 0] k) 5) = w3 at *
      have HB0 := Lib.hid hB0
      have HG0 := Lib.hid hG0
      have HT0 := Lib.hid hT0
      clear hB0 hG0 hT0 HT2 HG2
      generalize w2.heap.size = b at *
      go_loopg [9, 25] k (fun r _ c wr => ∃ q : Nat, q + r = k ∧ c = .int .i64 q ∧ Tp wr B g l (advN l i2 q) ∧ Blk wr b 5 (rowB (letter l i2) k q) ∧ Chg [g] w wr)
      case atStart => exact ⟨0, by omega, rfl, HT0.out, HB0.out, HG0.out⟩
      case round =>
        obtain ⟨q, hq, rfl, ht, hb, hg⟩ := hrel
        clear HB0 HG0 HT0
        have HQ := Lib.hid hq
        have HT := Lib.hid ht
        have HB := Lib.hid hb
        have HG := Lib.hid hg
        clear ht hb hg
        by_cases hlt : q < k
        · clear hq
          have hn := nxt_bd l (advN l i2 q) 4 (by omega)
          go_wp2_with fail
          refine (next_any B g l _ 4 _ HT.out (by omega) (by omega)).mono ?_
          rintro e w4 ⟨rfl, ht4, hg4⟩
          have HT4 := Lib.hid ht4
          have hb4 := HB.out.chg hg4 (by simp; omega)
          have HG4 := Lib.hid (HG.out.trans hg4)
          have c4 : w4.cell? ⟨b, q, none⟩ = some (.int .u8 0) := by rw [hb4.cell q, rowB_get _ _ _ _ hlt]; simp
          have f4 := hb4.frozen q
          have HB4 := Lib.hid hb4
          clear ht4 hg4 hb4 HB HT HG
          go_wp2
          go_roundg (k - (q + 1))
          case measure => have := HQ.out; omega
          case rel =>
            refine ⟨q + 1, by omega, by go_num, ?_, ?_, ?_⟩
            · exact HT4.out.chg ((Chg.refl [b] w4).setCell (.inl (by simp)) _) (by simp; omega) (by simp; omega)
            · rw [← rowB_set]
              exact HB4.out.set q _
            · exact HG4.out.setCell (.inr (by simp; omega)) _
        · have hqk : q = k := by omega
          have hconv := fun W (hW : ∀ i, i < k → W.cell? ⟨b, 0 + i, none⟩ = some (.int .u8 (((List.range k).map (letter l i2)).getD i 0))) => run_convert_bytes_arg (P := Tryz.prog) W 116 5 Tryz.underlying116 Tryz.underlying5 b 0 k k ((List.range k).map (letter l i2)) (by simp) hW 9 Tryz.underlying9
          have hc := hconv wr (fun i hi => by
            rw [Nat.zero_add, HB.out.cell i, rowB_get _ _ _ _ hi, if_pos (by omega)]
            simp [List.getD, hi])
          clear hconv
          have hs : strOfNums ((List.range k).map (letter l i2)) = textOf l i lo n := by
            unfold textOf letters
            rw [HK.out, HI2.out, Int.toNat_natCast]
          rw [hs] at hc
          have ha : advN l i2 q = textAdv l i lo n := by
            unfold textAdv
            rw [HK.out, HI2.out, Int.toNat_natCast, hqk]
          have HA := Lib.hid ha
          clear hs ha hqk hq
          go_wp2
          go_ret
          exact ⟨rfl, HA.out ▸ HT.out, HG.out⟩

end Go.Proofs.YtiabhlogadboeaaGreat

namespace Go.Proofs.YtiabhlogadboeaaGreat
open Go.RowKit
set_option linter.unusedSimpArgs false
set_option linter.unusedVariables false
attribute [local irreducible] Res.blk Res.sl Res.all Res.ex Res.pure Res.star

def TpR (r : World) (g : Nat) (l : List Int) (i : Nat) : Res where
  holds w fp := fp = [g] ∧ r.heap.size ≤ g ∧ ∃ A c, Blk w g 148 #[.slice A l.length c, .int .i64 i] ∧ Rd r 1 A l.length (l.map (Value.int .i64)) ∧ i ≤ l.length ∧ l.length ≤ 150
  loc := fun ⟨h1, h2, A, c, hb, h3⟩ hb' => ⟨h1, h2, A, c, by have := hb' g (by rw [h1]; simp); unfold Blk; rw [this]; exact hb, h3⟩
section
variable {r w w' : World} {F : List Res} {g : Nat} {l : List Int} {i j : Nat}
theorem Rd.block {r : World} {sz n : Nat} {A : Option Addr} {xs : List Value} (h : Rd r sz A n xs) (hs : 0 < sz) (hn : 0 < n) : ∀ ad, A = some ad → ad.block < r.heap.size := by
  intro ad e
  obtain ⟨ad', e', hr⟩ := h.2 hn
  rw [e] at e'
  injection e' with e'
  subst e'
  have hl : 0 < xs.length := by rw [h.1]; exact Nat.mul_pos hn hs
  have := World.block_lt_of_cell? r _ (hr 0 _ (List.getElem?_eq_getElem hl))
  rw [block_add] at this
  exact this
theorem Sep.tape (h : Sep r [] (TpR r g l i :: F) w) : Tp w r.heap.size g l i := by
  obtain ⟨fp, ⟨f1, f2, rfl, ⟨_, hg, A, c, hb, hr, hi, hl⟩, _⟩, _⟩ := h.ex
  exact ⟨A, c, hb, hr.ext h.chg, fun h0 => hr.block (by omega) h0, hg, hi, hl⟩
theorem Sep.tape_put (h : Sep r [] (TpR r g l i :: F) w) (hc : Chg [g] w w') (ht : Tp w' r.heap.size g l j) : Sep r [] (TpR r g l j :: F) w' := by
  have hr0 := h.chg
  refine h.upd fun f1 hf => ?_
  obtain ⟨rfl, hg, _⟩ := hf
  obtain ⟨A, c, hb, hr, hA, _, hi, hl⟩ := ht
  refine ⟨hc, [g], ⟨rfl, hg, A, c, hb, ⟨hr.1, fun h0 => ?_⟩, hi, hl⟩, by simp, fun b hb' => by simp at hb'; subst hb'; exact ⟨hb.lt, .inl (by simp)⟩⟩
  obtain ⟨ad, e, hcell⟩ := hr.2 h0
  have hlt := hA h0 ad e
  refine ⟨ad, e, fun q u hu => ?_⟩
  have h1 := hcell q u hu
  have h2 : w'.cell? (ad.add q) = w.cell? (ad.add q) := hc.cell (by rw [block_add]; have := hr0.size; omega) (by rw [block_add]; simp; omega)
  have h3 : w.cell? (ad.add q) = r.cell? (ad.add q) := hr0.cell (by rw [block_add]; exact hlt) (by simp)
  rw [← h3, ← h2]
  exact h1
theorem next_z (n : Int) (hS : Sep r [] (TpR r g l i :: F) w) (hn : 1 ≤ n) (hm : n ≤ 1000000) :
    Calls Tryz.prog 90 #[.pointer (some ⟨g, 0, none⟩), .int .i64 n] w fun e w' => e = .returned (.int .i64 (nxt l i n)) ∧ Sep r [] (TpR r g l (adv l i) :: F) w' :=
  (next_any r.heap.size g l i n w hS.tape hn hm).mono fun _ _ ⟨h1, h2, h3⟩ => ⟨h1, hS.tape_put h3 h2⟩
theorem range_z (lo hi : Int) (hS : Sep r [] (TpR r g l i :: F) w) (h0 : 0 ≤ lo) (h1 : lo ≤ hi) (h2 : hi ≤ 100000) :
    Calls Tryz.prog 133 #[.pointer (some ⟨g, 0, none⟩), .int .i64 lo, .int .i64 hi] w fun e w' => e = .returned (.int .i64 (lo + nxt l i (hi - lo + 1))) ∧ Sep r [] (TpR r g l (adv l i) :: F) w' :=
  (range_any r.heap.size g l i lo hi w hS.tape h0 h1 h2).mono fun _ _ ⟨h1, h2, h3⟩ => ⟨h1, hS.tape_put h3 h2⟩
theorem more_z (hS : Sep r [] (TpR r g l i :: F) w) :
    Calls Tryz.prog 89 #[.pointer (some ⟨g, 0, none⟩)] w fun e w' => e = .returned (.bool (decide (i < l.length))) ∧ Sep r [] (TpR r g l i :: F) w' :=
  (more_any r.heap.size g l i w hS.tape).mono fun _ _ ⟨h1, h2⟩ => ⟨h1, hS.ext h2⟩
theorem text_z (lo n : Int) (hS : Sep r [] (TpR r g l i :: F) w) (h0 : 0 ≤ lo) (h1 : lo ≤ n) (h2 : n ≤ 1000) :
    Calls Tryz.prog 135 #[.pointer (some ⟨g, 0, none⟩), .int .i64 lo, .int .i64 n] w fun e w' => e = .returned (.string (textOf l i lo n)) ∧ Sep r [] (TpR r g l (textAdv l i lo n) :: F) w' :=
  (text_any r.heap.size g l i lo n w hS.tape h0 h1 h2).mono fun _ _ ⟨h1, h2, h3⟩ => ⟨h1, hS.tape_put h3 h2⟩
theorem tnew_z (l : List Int) (A : Option Addr) (c : Nat) (hS : Sep r [] F w) (hr : Rd r 1 A l.length (l.map (Value.int .i64))) (hl : l.length ≤ 150) :
    Calls Tryz.prog 54 #[.slice A l.length c] w fun e w' => ∃ g, e = .returned (.pointer (some ⟨g, 0, none⟩)) ∧ Sep r [] (TpR r g l 0 :: F) w' := by
  refine (tape_any l A c w (hr.ext hS.chg) hl r.heap.size (fun h0 => hr.block (by omega) h0) hS.chg.size).mono ?_
  rintro e w' ⟨he, ht, hc⟩
  refine ⟨_, he, ?_⟩
  obtain ⟨A', c', hb, hr', hA, hB, _, hl'⟩ := ht
  have hrd : Rd r 1 A' l.length (l.map (Value.int .i64)) := by
    refine ⟨hr'.1, fun h0 => ?_⟩
    obtain ⟨ad, e, hcell⟩ := hr'.2 h0
    refine ⟨ad, e, fun q u hu => ?_⟩
    have hlt := hA h0 ad e
    have hcw := hS.chg.trans hc
    have := hcw.cell (p := ad.add q) (by rw [block_add]; exact hlt) (by simp)
    rw [← this]
    exact hcell q u hu
  exact hS.add (f2 := [w.heap.size]) hc ⟨rfl, hS.chg.size, A', c', hb, hrd, by omega, hl⟩ (by simp) (fun b hb' => by simp at hb'; subst hb'; exact ⟨hb.lt, Nat.le_refl _⟩)
end
end Go.Proofs.YtiabhlogadboeaaGreat
