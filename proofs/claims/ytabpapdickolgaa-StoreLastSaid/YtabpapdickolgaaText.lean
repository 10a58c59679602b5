/-
  The walk of Text, which makes a string from a tape.
-/
import Derived.Test.YtabpapdickolgaaTape
import Derived.Handy
import Derived.Deep.DeepCutAuto
namespace Go.Proofs.Ytabpapdickolgaa
open Go.RowKit
set_option linter.unusedSimpArgs false
set_option linter.unusedVariables false

/-- Where the tape stands behind q numbers. -/
def advN (l : List Int) (i : Nat) : Nat → Nat
  | 0 => i
  | q + 1 => adv l (advN l i q)
theorem advN_le (l : List Int) (i : Nat) (h : i ≤ l.length) : ∀ q, advN l i q ≤ l.length
  | 0 => h
  | q + 1 => adv_le l _ (advN_le l i h q)
/-- Letter number q of a text that begins at i. -/
def letter (l : List Int) (i q : Nat) : Int := 97 + nxt l (advN l i q) 4
theorem letter_bd (l : List Int) (i q : Nat) : 97 ≤ letter l i q ∧ letter l i q ≤ 100 := by
  unfold letter
  have := nxt_bd l (advN l i q) 4 (by omega)
  omega
/-- The first k letters, as a string. -/
def letters (l : List Int) (i k : Nat) : ByteArray := strOfNums ((List.range k).map (letter l i))
theorem letters_size (l : List Int) (i k : Nat) : (letters l i k).size = k := by unfold letters; rw [strOfNums_size]; simp

/-- How many letters Text makes. -/
def textLen (l : List Int) (i : Nat) (lo n : Int) : Int :=
  if nxt l (adv l i) 9 = 8 then n else lo + nxt l i (min n (lo + 2) - lo + 1)
def textOf (l : List Int) (i : Nat) (lo n : Int) : ByteArray := letters l (adv l (adv l i)) (textLen l i lo n).toNat
def textAdv (l : List Int) (i : Nat) (lo n : Int) : Nat := advN l (adv l (adv l i)) (textLen l i lo n).toNat
theorem textLen_bd (l : List Int) (i : Nat) (lo n : Int) (h0 : 0 ≤ lo) (h1 : lo ≤ n) : lo ≤ textLen l i lo n ∧ textLen l i lo n ≤ n := by
  unfold textLen
  have := nxt_bd l i (min n (lo + 2) - lo + 1) (by omega)
  split <;> omega
theorem textOf_size (l : List Int) (i : Nat) (lo n : Int) (h0 : 0 ≤ lo) (h1 : lo ≤ n) : lo ≤ (textOf l i lo n).size ∧ ((textOf l i lo n).size : Int) ≤ n := by
  unfold textOf
  rw [letters_size]
  have := textLen_bd l i lo n h0 h1
  omega

/-- The cells of the bytes behind q rounds. -/
def rowB (f : Nat → Int) (k q : Nat) : Array Value := ((List.range k).map fun j => Value.int .u8 (if j < q then f j else 0)).toArray
theorem rowB_made (f : Nat → Int) (k : Nat) : madeCells #[.int .u8 0] k = rowB f k 0 := by
  apply Array.ext
  · simp [madeCells, rowB]
  · intro i h1 h2
    simp [madeCells, rowB, Nat.mod_one]
theorem rowB_set (f : Nat → Int) (k q : Nat) : (rowB f k q).setIfInBounds q (.int .u8 (f q)) = rowB f k (q + 1) := by
  apply Array.ext
  · simp [rowB]
  · intro i h1 h2
    simp [rowB, Array.getElem_setIfInBounds]
    by_cases h : q = i
    · simp [h]
    · have : (i < q) = (i < q + 1) := by simp; omega
      simp [h, this]
theorem rowB_get (f : Nat → Int) (k q i : Nat) (hi : i < k) : (rowB f k q)[i]? = some (.int .u8 (if i < q then f i else 0)) := by
  simp [rowB, hi]

theorem Try.info5 : (Try.prog.info? 5).map (fun i => (i.zero, i.size, i.bytes)) = some (some (.int .u8 0), 1, 1) := by kernel_rfl

set_option maxHeartbeats 1000000 in
theorem text_any (B g : Nat) (l : List Int) (i : Nat) (lo n : Int) (w : World) (ht : Tp w B g l i) (h0 : 0 ≤ lo) (h1 : lo ≤ n) (h2 : n ≤ 1000) :
    Calls Try.prog 72 #[.pointer (some ⟨g, 0, none⟩), .int .i64 lo, .int .i64 n] w fun e w' => e = .returned (.string (textOf l i lo n)) ∧ Tp w' B g l (textAdv l i lo n) ∧ Chg [g] w w' := by
  have hb := nxt_bd l i (min n (lo + 2) - lo + 1) (by omega)
  have hb' := nxt_bd l (adv l i) 9 (by omega)
  have HT := Lib.hid ht
  clear ht
  go_enter Try.func72, Try.ntmps72
  go_upto_region 1 with (fail)
  go_cut [7] (fun k wr => k = .int .i64 (lo + nxt l i (min n (lo + 2) - lo + 1)) ∧ Tp wr B g l (adv l i) ∧ Chg [g] w wr)
  case first =>
    go_wp2_with (go_at_call 70; refine (range_any B g l i lo _ _ HT.out (by omega) (by omega) (by omega)).mono ?_; rintro e w1 ⟨rfl, ht1, hg1⟩)
    all_goals
      go_meet
      case rel => exact ⟨by congr 4; omega, ht1, hg1⟩
  case rest =>
    obtain ⟨rfl, ht1, hg1⟩ := hcut
    have HT1 := Lib.hid ht1
    have HG1 := Lib.hid hg1
    clear ht1 hg1 HT
    have hL := textLen_bd l i lo n h0 h1
    have hL1 : nxt l (adv l i) 9 = 8 → textLen l i lo n = n := fun h => by unfold textLen; rw [if_pos h]
    have hL2 : ¬ nxt l (adv l i) 9 = 8 → textLen l i lo n = lo + nxt l i (min n (lo + 2) - lo + 1) := fun h => by unfold textLen; rw [if_neg h]
    have HL1 := Lib.hid hL1
    have HL2 := Lib.hid hL2
    clear hL1 hL2 hb
    generalize lo + nxt l i (min n (lo + 2) - lo + 1) = x at *
    go_upto_if 19 with (go_at_call 59; refine (next_any B g l _ 9 _ HT1.out (by omega) (by omega)).mono ?_; rintro e w2 ⟨rfl, ht2, hg2⟩; have HT2 := Lib.hid ht2; have HG2 := Lib.hid (HG1.out.trans hg2); clear ht2 hg2 HG1 HT1)
    go_cut [7] (fun k wr => k = .int .i64 (textLen l i lo n) ∧ w2 = wr)
    case first =>
      by_cases hj : nxt l (adv l i) 9 = 8
      · have hj' : (nxt l (adv l i) 9 == 8) = true := by simp [hj]
        clear hb'
        have HJ := Lib.hid hj
        clear hj
        go_wp2
        go_meet
        case rel => exact ⟨by rw [HL1.out HJ.out], rfl⟩
      · have hj' : (nxt l (adv l i) 9 == 8) = false := by simp [hj]
        clear hb'
        have HJ := Lib.hid hj
        clear hj
        go_wp2
        go_meet
        case rel => exact ⟨by rw [HL2.out HJ.out], rfl⟩
    case rest =>
      obtain ⟨rfl, rfl⟩ := hcut
      clear HL1 HL2 hb'
      obtain ⟨k, hk⟩ := Int.eq_ofNat_of_zero_le (show 0 ≤ textLen l i lo n by omega)
      have HK := Lib.hid hk
      have hkb : k ≤ 1000 := by omega
      rw [hk]
      clear hk hL
      generalize hi2 : adv l (adv l i) = i2 at *
      have HI2 := Lib.hid hi2
      clear hi2
      obtain ⟨j0, hj, hz0, hz1, hz2⟩ := info_parts Try.info5
      have hmk := fun W => run_make (P := Try.prog) W 39 5 j0 (.int .u8 0) Try.underlying39 hj hz0 .i64 .i64 k k (by omega) (by omega) (by rw [hz2]; omega) (by omega)
      simp only [Int.toNat_natCast, hz1] at hmk
      go_wp2
      clear hmk
      have hgb : g ≠ w2.heap.size := by
        have := HT2.out.lt
        omega
      have hsz : w.heap.size ≤ w2.heap.size := HG2.out.size
      have hBb : B ≤ w2.heap.size := by have := HT2.out.base; have := HT2.out.lt; omega
      have hB0 : Blk (w2.alloc (.cells (madeCells #[Value.int IntKind.u8 0] k) 5)) w2.heap.size 5 (rowB (letter l i2) k 0) := by
        rw [← rowB_made]
        exact Blk.new _ _ _
      have hG0 : Chg [g] w (w2.alloc (.cells (madeCells #[Value.int IntKind.u8 0] k) 5)) := HG2.out.alloc _
      have hT0 : Tp (w2.alloc (.cells (madeCells #[Value.int IntKind.u8 0] k) 5)) B g l i2 := Tp.ext HT2.out ((Chg.refl [] _).alloc _)
      generalize w2.alloc (.cells (madeCells #[Value.int IntKind.u8 0] k) 5) = w3 at *
      have HB0 := Lib.hid hB0
      have HG0 := Lib.hid hG0
      have HT0 := Lib.hid hT0
      clear hB0 hG0 hT0 HT2 HG2
      generalize w2.heap.size = b at *
      go_loopg [9, 25] k (fun r _ c wr => ∃ q : Nat, q + r = k ∧ c = .int .i64 q ∧ Tp wr B g l (advN l i2 q) ∧ Blk wr b 5 (rowB (letter l i2) k q) ∧ Chg [g] w wr)
      case atStart => exact ⟨0, by omega, rfl, HT0.out, HB0.out, HG0.out⟩
      case round =>
        obtain ⟨q, hq, rfl, ht, hb, hg⟩ := hrel
        clear HB0 HG0 HT0
        have HQ := Lib.hid hq
        have HT := Lib.hid ht
        have HB := Lib.hid hb
        have HG := Lib.hid hg
        clear ht hb hg
        by_cases hlt : q < k
        · clear hq
          have hn := nxt_bd l (advN l i2 q) 4 (by omega)
          go_wp2_with fail
          refine (next_any B g l _ 4 _ HT.out (by omega) (by omega)).mono ?_
          rintro e w4 ⟨rfl, ht4, hg4⟩
          have HT4 := Lib.hid ht4
          have hb4 := HB.out.chg hg4 (by simp; omega)
          have HG4 := Lib.hid (HG.out.trans hg4)
          have c4 : w4.cell? ⟨b, q, none⟩ = some (.int .u8 0) := by rw [hb4.cell q, rowB_get _ _ _ _ hlt]; simp
          have f4 := hb4.frozen q
          have HB4 := Lib.hid hb4
          clear ht4 hg4 hb4 HB HT HG
          go_wp2
          go_roundg (k - (q + 1))
          case measure => have := HQ.out; omega
          case rel =>
            refine ⟨q + 1, by omega, by go_num, ?_, ?_, ?_⟩
            · exact HT4.out.chg ((Chg.refl [b] w4).setCell (.inl (by simp)) _) (by simp; omega) (by simp; omega)
            · rw [← rowB_set]
              exact HB4.out.set q _
            · exact HG4.out.setCell (.inr (by simp; omega)) _
        · have hqk : q = k := by omega
          have hconv := fun W (hW : ∀ i, i < k → W.cell? ⟨b, 0 + i, none⟩ = some (.int .u8 (((List.range k).map (letter l i2)).getD i 0))) => run_convert_bytes_arg (P := Try.prog) W 39 5 Try.underlying39 Try.underlying5 b 0 k k ((List.range k).map (letter l i2)) (by simp) hW 9 Try.underlying9
          have hc := hconv wr (fun i hi => by
            rw [Nat.zero_add, HB.out.cell i, rowB_get _ _ _ _ hi, if_pos (by omega)]
            simp [List.getD, hi])
          clear hconv
          have hs : strOfNums ((List.range k).map (letter l i2)) = textOf l i lo n := by
            unfold textOf letters
            rw [HK.out, HI2.out, Int.toNat_natCast]
          rw [hs] at hc
          have ha : advN l i2 q = textAdv l i lo n := by
            unfold textAdv
            rw [HK.out, HI2.out, Int.toNat_natCast, hqk]
          have HA := Lib.hid ha
          clear hs ha hqk hq
          go_wp2
          go_ret
          exact ⟨rfl, HA.out ▸ HT.out, HG.out⟩

end Go.Proofs.Ytabpapdickolgaa
