/-
  The tape of the mill as a resource.
-/
import Derived.Test.YtabpapdickolgaaZs
import Derived.Test.YtabpapdickolgaaText
namespace Go.Proofs.Ytabpapdickolgaa
open Go.RowKit
set_option linter.unusedSimpArgs false
set_option linter.unusedVariables false
attribute [local irreducible] Res.blk Res.sl Res.all Res.ex Res.pure Res.star

def TpR (r : World) (g : Nat) (l : List Int) (i : Nat) : Res where
  holds w fp := fp = [g] ∧ r.heap.size ≤ g ∧ ∃ A c, Blk w g 119 #[.slice A l.length c, .int .i64 i] ∧ Rd r 1 A l.length (l.map (Value.int .i64)) ∧ i ≤ l.length ∧ l.length ≤ 150
  loc := fun ⟨h1, h2, A, c, hb, h3⟩ hb' => ⟨h1, h2, A, c, by have := hb' g (by rw [h1]; simp); unfold Blk; rw [this]; exact hb, h3⟩
section
variable {r w w' : World} {F : List Res} {g : Nat} {l : List Int} {i j : Nat}
theorem Rd.block {r : World} {sz n : Nat} {A : Option Addr} {xs : List Value} (h : Rd r sz A n xs) (hs : 0 < sz) (hn : 0 < n) : ∀ ad, A = some ad → ad.block < r.heap.size := by
  intro ad e
  obtain ⟨ad', e', hr⟩ := h.2 hn
  rw [e] at e'
  injection e' with e'
  subst e'
  have hl : 0 < xs.length := by rw [h.1]; exact Nat.mul_pos hn hs
  have := World.block_lt_of_cell? r _ (hr 0 _ (List.getElem?_eq_getElem hl))
  rw [block_add] at this
  exact this
theorem Sep.tape (h : Sep r [] (TpR r g l i :: F) w) : Tp w r.heap.size g l i := by
  obtain ⟨fp, ⟨f1, f2, rfl, ⟨_, hg, A, c, hb, hr, hi, hl⟩, _⟩, _⟩ := h.ex
  exact ⟨A, c, hb, hr.ext h.chg, fun h0 => hr.block (by omega) h0, hg, hi, hl⟩
theorem Sep.tape_put (h : Sep r [] (TpR r g l i :: F) w) (hc : Chg [g] w w') (ht : Tp w' r.heap.size g l j) : Sep r [] (TpR r g l j :: F) w' := by
  have hr0 := h.chg
  refine h.upd fun f1 hf => ?_
  obtain ⟨rfl, hg, _⟩ := hf
  obtain ⟨A, c, hb, hr, hA, _, hi, hl⟩ := ht
  refine ⟨hc, [g], ⟨rfl, hg, A, c, hb, ⟨hr.1, fun h0 => ?_⟩, hi, hl⟩, by simp, fun b hb' => by simp at hb'; subst hb'; exact ⟨hb.lt, .inl (by simp)⟩⟩
  obtain ⟨ad, e, hcell⟩ := hr.2 h0
  have hlt := hA h0 ad e
  refine ⟨ad, e, fun q u hu => ?_⟩
  have h1 := hcell q u hu
  have h2 : w'.cell? (ad.add q) = w.cell? (ad.add q) := hc.cell (by rw [block_add]; have := hr0.size; omega) (by rw [block_add]; simp; omega)
  have h3 : w.cell? (ad.add q) = r.cell? (ad.add q) := hr0.cell (by rw [block_add]; exact hlt) (by simp)
  rw [← h3, ← h2]
  exact h1
theorem next_z (n : Int) (hS : Sep r [] (TpR r g l i :: F) w) (hn : 1 ≤ n) (hm : n ≤ 1000000) :
    Calls Try.prog 59 #[.pointer (some ⟨g, 0, none⟩), .int .i64 n] w fun e w' => e = .returned (.int .i64 (nxt l i n)) ∧ Sep r [] (TpR r g l (adv l i) :: F) w' :=
  (next_any r.heap.size g l i n w hS.tape hn hm).mono fun _ _ ⟨h1, h2, h3⟩ => ⟨h1, hS.tape_put h3 h2⟩
theorem range_z (lo hi : Int) (hS : Sep r [] (TpR r g l i :: F) w) (h0 : 0 ≤ lo) (h1 : lo ≤ hi) (h2 : hi ≤ 100000) :
    Calls Try.prog 70 #[.pointer (some ⟨g, 0, none⟩), .int .i64 lo, .int .i64 hi] w fun e w' => e = .returned (.int .i64 (lo + nxt l i (hi - lo + 1))) ∧ Sep r [] (TpR r g l (adv l i) :: F) w' :=
  (range_any r.heap.size g l i lo hi w hS.tape h0 h1 h2).mono fun _ _ ⟨h1, h2, h3⟩ => ⟨h1, hS.tape_put h3 h2⟩
theorem more_z (hS : Sep r [] (TpR r g l i :: F) w) :
    Calls Try.prog 58 #[.pointer (some ⟨g, 0, none⟩)] w fun e w' => e = .returned (.bool (decide (i < l.length))) ∧ Sep r [] (TpR r g l i :: F) w' :=
  (more_any r.heap.size g l i w hS.tape).mono fun _ _ ⟨h1, h2⟩ => ⟨h1, hS.ext h2⟩
theorem text_z (lo n : Int) (hS : Sep r [] (TpR r g l i :: F) w) (h0 : 0 ≤ lo) (h1 : lo ≤ n) (h2 : n ≤ 1000) :
    Calls Try.prog 72 #[.pointer (some ⟨g, 0, none⟩), .int .i64 lo, .int .i64 n] w fun e w' => e = .returned (.string (textOf l i lo n)) ∧ Sep r [] (TpR r g l (textAdv l i lo n) :: F) w' :=
  (text_any r.heap.size g l i lo n w hS.tape h0 h1 h2).mono fun _ _ ⟨h1, h2, h3⟩ => ⟨h1, hS.tape_put h3 h2⟩
theorem tnew_z (l : List Int) (A : Option Addr) (c : Nat) (hS : Sep r [] F w) (hr : Rd r 1 A l.length (l.map (Value.int .i64))) (hl : l.length ≤ 150) :
    Calls Try.prog 41 #[.slice A l.length c] w fun e w' => ∃ g, e = .returned (.pointer (some ⟨g, 0, none⟩)) ∧ Sep r [] (TpR r g l 0 :: F) w' := by
  refine (tape_any l A c w (hr.ext hS.chg) hl r.heap.size (fun h0 => hr.block (by omega) h0) hS.chg.size).mono ?_
  rintro e w' ⟨he, ht, hc⟩
  refine ⟨_, he, ?_⟩
  obtain ⟨A', c', hb, hr', hA, hB, _, hl'⟩ := ht
  have hrd : Rd r 1 A' l.length (l.map (Value.int .i64)) := by
    refine ⟨hr'.1, fun h0 => ?_⟩
    obtain ⟨ad, e, hcell⟩ := hr'.2 h0
    refine ⟨ad, e, fun q u hu => ?_⟩
    have hlt := hA h0 ad e
    have hcw := hS.chg.trans hc
    have := hcw.cell (p := ad.add q) (by rw [block_add]; exact hlt) (by simp)
    rw [← this]
    exact hcell q u hu
  exact hS.add (f2 := [w.heap.size]) hc ⟨rfl, hS.chg.size, A', c', hb, hrd, by omega, hl⟩ (by simp) (fun b hb' => by simp at hb'; subst hb'; exact ⟨hb.lt, Nat.le_refl _⟩)
end
end Go.Proofs.Ytabpapdickolgaa
