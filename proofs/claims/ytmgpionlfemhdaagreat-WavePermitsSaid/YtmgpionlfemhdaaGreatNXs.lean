/-
  slices.Sort at numbers, over a list that is owned.
-/
import Derived.Test.YtmgpionlfemhdaaGreatNXb
import Derived.Test.YtmgpionlfemhdaaGreatSrt
namespace Go.Proofs.YtmgpionlfemhdaaGreat
open Go.RowKit
set_option linter.unusedSimpArgs false
set_option linter.unusedVariables false
attribute [local irreducible] Res.blk Res.sl Res.all Res.ex Res.pure Res.star

theorem ints_flat (l : List Int) : (l.map ztC).flatten = l.map (Value.int .i64) := by
  induction l with
  | nil => rfl
  | cons a l ih => simp [ztC] at ih ⊢; exact ih
theorem putCells_ints (s cs : List Value) (l : List Int) (hs : s = l.map (Value.int .i64)) (hl : l.length ≤ cs.length) : (Go.Sort.putCells (Value.int .i64) 0 l.toArray cs.toArray) = (s ++ cs.drop l.length).toArray := by
  subst hs
  apply Array.ext_getElem?
  intro k
  simp only [Go.Sort.putCells, Array.getElem?_mapIdx, List.getElem?_toArray, Nat.zero_le, true_and, Nat.zero_add, List.size_toArray, Nat.sub_zero]
  by_cases hk : k < l.length
  · rw [List.getElem?_append_left (by simpa using hk), List.getElem?_eq_getElem (by omega : k < cs.length)]
    simp [hk]
  · rw [List.getElem?_append_right (by simp; omega), List.getElem?_drop]
    simp only [List.length_map]
    rw [show l.length + (k - l.length) = k by omega]
    cases cs[k]? with
    | none => rfl
    | some v => simp [hk]
set_option maxHeartbeats 1000000 in
theorem sort_z (A : Option Addr) (l : List Int) (cap : Nat) (r : World) (F : List Res) (w : World) (hS : Sep r [] (.sl 3 1 (.slice A l.length cap) (l.map ztC) :: F) w) (hl : l.length ≤ 100000) :
    Calls Tryz.prog 36 #[.slice A l.length cap] w fun e w' => e = .returned (.tuple #[]) ∧ Sep r [] (.sl 3 1 (.slice A l.length cap) ((srt l).map ztC) :: F) w' := by
  by_cases h0 : l = []
  · subst h0
    refine (AnyM.slices_Sort_int_none Tryz.sort36 A cap w).mono ?_
    rintro e w' ⟨rfl, rfl⟩
    exact ⟨rfl, by simpa [srt] using hS⟩
  · have hp : 0 < l.length := List.length_pos_iff.2 h0
    obtain ⟨g, cs, rfl, hn, hnc, hm, hcl, ht, hok, hS2⟩ := open_sl hS (by simpa using hp)
    have hB := hS2.blk .here
    rw [Nat.mul_one] at ht hcl
    rw [ints_flat] at ht
    have hH : Go.Sort.Holds (Value.int .i64) w g 0 l.toArray := by
      intro j hj
      simp only [List.size_toArray] at hj
      refine ⟨?_, hB.frozen _⟩
      rw [Nat.zero_add]
      refine hB.cellv ?_
      have h1 : (cs.take l.length)[j]? = (l.map (Value.int .i64))[j]? := by rw [ht]
      rw [List.getElem?_take, if_pos hj] at h1
      simp only [List.getElem?_toArray, h1, List.getElem?_map, List.getElem?_eq_getElem hj, Option.map_some]
      simp [hj]
    refine (AnyM.slices_Sort_int Tryz.sort36 g 0 cap l w hH hB.lt (by omega)).mono ?_
    rintro e w' ⟨rfl, n, os, rfl⟩
    have hlt := hB.lt
    have hsl : (srt l).length = l.length := srt_len l
    have hheap : ∀ k, k < w.heap.size → (Go.Sort.grow (Go.Sort.putRow (Value.int .i64) (Go.Sort.ahead w n) g 0 (srt l).toArray) os).heap[k]? = (w.heap.modify g (Go.Sort.onCells (Go.Sort.putCells (Value.int .i64) 0 (srt l).toArray)))[k]? := by
      intro k hk
      unfold Go.Sort.grow Go.Sort.putRow Go.Sort.mapBlock Go.Sort.ahead
      rw [Array.getElem?_append_left (by simpa using hk)]
    have h3 := hS2.put .here (cs' := (srt l).map (Value.int .i64) ++ cs.drop l.length) (w' := Go.Sort.grow (Go.Sort.putRow (Value.int .i64) (Go.Sort.ahead w n) g 0 (srt l).toArray) os) ⟨rfl, rfl, rfl, by simp, fun k hk hkg => by
      have e := hheap k hk
      rw [Array.getElem?_modify, if_neg (by simpa [eq_comm] using hkg)] at e
      exact e⟩ (by
      have e := hheap g hlt
      rw [Array.getElem?_modify, if_pos rfl] at e
      unfold Blk at hB ⊢
      refine e.trans ?_
      rw [hB]
      simp only [Option.map_some, Go.Sort.onCells]
      rw [putCells_ints _ cs (srt l) rfl (by omega), hsl])
    have h4 := close_sl (sz := 1) (c := cap) (rows := (srt l).map ztC) h3 (by omega) hm (by simp [hsl]; omega) (by simpa [hsl] using hnc) (by rw [ints_flat]; exact List.take_left' (by simp)) (fun row hrow => by
      obtain ⟨x, _, rfl⟩ := List.mem_map.1 hrow
      exact ⟨rfl, by simp [ztC, Value.oneCell']⟩)
    rw [List.length_map, hsl] at h4
    exact ⟨rfl, h4⟩
end Go.Proofs.YtmgpionlfemhdaaGreat
