/-
  slices.Sorted(maps.Keys(m)) at a map with string keys, over the map as a resource.
-/
import Derived.Test.YtiabhlogadboeaaGreatE2
import Derived.Test.YtiabhlogadboeaaGreatIter
import Derived.Sort.KeysCollected
namespace Go.Proofs.YtiabhlogadboeaaGreat
open Go.RowKit Go.Maps Go.Sort Go.Shelf Go.WideShapes
set_option linter.unusedSimpArgs false
set_option linter.unusedVariables false

def kbytes (p : Value × Value) : List UInt8 := match p.1 with | .string s => s.data.toList | _ => []
theorem MapAt.owns {P : Program} {k : TypeId} {w : World} {g : Nat} {m : List (Value × Value)} (h : MapAt P k w g m) (hk : P.underlying k = some .string) :
    ∃ D : DataW Unit, w.ownsMap P k (fun _ => some (.nil, [])) g m.length D ∧ (strKeys D).Perm (m.map kbytes) ∧ Maps.size D = m.length := by
  obtain ⟨es, cl, hb, hst, hsz, hks, hp⟩ := h
  have hle := hp.length_eq
  simp only [List.length_map, Array.length_toList] at hle
  have hrd : ∀ x, x ∈ es.toList → WideElems.rg P k (fun _ => some ((.nil : DataW Unit), [])) x = (.string (kbytes (kv x)), .nil) := by
    intro x hx
    obtain ⟨l, hl⟩ := hks x hx
    obtain ⟨y, hy1, rfl, _⟩ := Maps.keyOf_str hk hl
    have h1 : WideElems.rd P k (fun _ => some ((.nil : DataW Unit), [])) x = some (.string y, .nil) := by cases x; exact WideElems.rd_mk (R := fun _ => some ((.nil : DataW Unit), [])) hl rfl
    rw [WideElems.rg_of h1]
    have : kbytes (kv x) = y := by unfold kbytes kv; rw [hy1]
    rw [this]
  have hmap : es.toList.map (WideElems.rg P k (fun _ => some ((.nil : DataW Unit), []))) = es.toList.map fun x => ((.string (kbytes (kv x)) : Lit), (.nil : DataW Unit)) := List.map_congr_left hrd
  refine ⟨.map ((es.toList.map (WideElems.rg P k (fun _ => some (.nil, [])))).foldr DataW.insert []), ⟨es, cl, hb, ⟨hsz, hst, fun x hx => ?_⟩, by omega, rfl⟩, ?_, ?_⟩
  · obtain ⟨l, hl⟩ := hks x hx
    exact ⟨(l, .nil), by cases x; exact WideElems.rd_mk (R := fun _ => some ((.nil : DataW Unit), [])) hl rfl⟩
  · show List.Perm (List.map (fun p : Lit × DataW Unit => strOf p.1) _) _
    refine ((sorted_perm _).map _).trans ?_
    rw [hmap, List.map_map]
    have : (es.toList.map ((fun p : Lit × DataW Unit => strOf p.1) ∘ fun x => ((.string (kbytes (kv x)) : Lit), (.nil : DataW Unit)))) = (es.toList.map kv).map kbytes := by rw [List.map_map]; rfl
    rw [this]
    exact hp.map _
  · rw [Maps.size_eq, (sorted_perm _).length_eq]
    simp
    omega

theorem mkeys_z (b : Nat) (r : World) (F : List Res) (w : World) (hS : Sep r [] F w) : Calls Tryz.prog 137 #[.map (some b)] w fun e w' => ∃ gk, e = .returned (.func (.func 161) #[] #[.pointer (some ⟨gk, 0, none⟩)]) ∧ Sep r [] (.blk gk 170 [.map (some b)] :: F) w' :=
  (callsIn_wide.1 (AnyZ.keys_in Tryz.keys137 Fence.wide 5 trivial rfl (some b) w)).mono fun e w' ⟨he, hw⟩ => ⟨w.heap.size, he, by rw [hw]; exact hS.box _ _⟩
theorem sorts (m : Nat) : AnyZ.SortsIn Tryz.prog Tryz.sorted136_ren Fence.wide m :=
  ⟨fun blk off cap ss W hH hblk hsz => callsIn_wide.2 (AnyM.slices_Sort_string Tryz.sort160 blk off cap ss W hH hblk hsz),
   fun p cap W => callsIn_wide.2 (AnyM.slices_Sort_string_none Tryz.sort160 p cap W)⟩
theorem Sep.of_row {r w w' : World} {F : List Res} {e : TypeId} {v : Value} {rows : List (List Value)} (h : Sep r [] F w) (hb : Below w.heap.size w w') (hr : w'.ownsRow w.heap.size e 1 v rows.length rows.flatten) (hok : ∀ row, row ∈ rows → row.length = 1 ∧ ∀ u, u ∈ row → u.oneCell' = true) :
    ∃ A c, v = .slice A rows.length c ∧ Sep r [] (.sl e 1 (.slice A rows.length c) rows :: F) w' := by
  have hc : Chg [] w w' := Chg.of_below hb
  obtain ⟨hl, ⟨rfl, h0⟩ | ⟨g, cap, cur, rfl, hg, hcur, hn, hcap, hsz, htake⟩⟩ := hr
  · have : rows = [] := List.eq_nil_of_length_eq_zero h0
    subst this
    exact ⟨none, 0, rfl, h.add (f2 := []) hc ⟨by simp, none, 0, rfl, .inl ⟨rfl, rfl, rfl⟩⟩ (by simp) (by simp)⟩
  · refine ⟨some ⟨g, 0, none⟩, cap, rfl, ?_⟩
    have hlt : g < w'.heap.size := (Array.getElem?_eq_some_iff.1 hcur).1
    rcases Nat.eq_zero_or_pos cap with rfl | hpos
    · have : rows = [] := List.eq_nil_of_length_eq_zero (by omega)
      subst this
      exact h.add (f2 := []) hc ⟨by simp, some ⟨g, 0, none⟩, 0, rfl, .inl ⟨rfl, rfl, rfl⟩⟩ (by simp) (by simp)
    · exact h.add (f2 := [g]) hc ⟨hok, some ⟨g, 0, none⟩, cap, rfl, .inr ⟨hpos, g, cur, rfl, rfl, hcur, hn, hcap, hsz, htake⟩⟩ (by simp) (fun b hb => by simp at hb; subst hb; exact ⟨hlt, hg⟩)
set_option maxHeartbeats 1000000 in
theorem msorted_z (gk b : Nat) (m : List (Value × Value)) (r : World) (F : List Res) (w : World) (hS : Sep r [] (.blk gk 170 [.map (some b)] :: F) w) {k : List Res} (ha : At F k (.mp Tryz.prog 9 b m)) (hl : m.length ≤ 1000000) :
    Calls Tryz.prog 136 #[.func (.func 161) #[] #[.pointer (some ⟨gk, 0, none⟩)]] w fun e w' => ∃ A c, e = .returned (.slice A m.length c) ∧ Sep r [] (.sl 9 1 (.slice A m.length c) (((m.map kbytes).mergeSort leB).map fun x => [Go.Proofs.encStr x]) :: F) w' := by
  have hm := hS.mapAt (At.next ha)
  obtain ⟨D, hown, hkeys, hsize⟩ := hm.owns Tryz.underlying9
  have hbk := hS.blk At.here
  have hseq : SeqGives Fence.wide 2 Tryz.prog 161 #[.pointer (some ⟨gk, 0, none⟩)] Go.Proofs.encStr (fun ss => ss.Perm (strKeys D)) (Maps.size D) w :=
    AnyZ.keys_gives (ρ := Tryz.keys137_ren) { Tryz.keys137 with } Fence.wide _ trivial rfl (by omega) gk b _ D w hbk.lt (by unfold Blk at hbk; simp [World.cell?, hbk]) hown
  refine (callsIn_wide.1 (AnyZ.sorted_in Tryz.sorted136 Fence.wide 5 trivial trivial trivial trivial rfl (by omega) (sorts _) (enters_of Tryz.func160 (by kernel_rfl) rfl) 161 #[.pointer (some ⟨gk, 0, none⟩)] trivial (enters_of Tryz.func161 (by kernel_rfl) rfl) _ _ (by rw [hsize]; unfold maxLen; omega) (by omega) _ hseq)).mono ?_
  rintro e w' ⟨v, ss, rfl, hperm, hrow, _, hb⟩
  have hp : ss.Perm (m.map kbytes) := hperm.trans hkeys
  have hlen : ss.length = m.length := by rw [hp.length_eq]; simp
  have hms : ss.mergeSort (fun x y => decide (x ≤ y)) = (m.map kbytes).mergeSort leB := mergeSort_of_perm hp
  rw [hms] at hrow
  have hrl : (((m.map kbytes).mergeSort leB).map fun x => [Go.Proofs.encStr x]).length = m.length := by simp
  have hfl : (((m.map kbytes).mergeSort leB).map fun x => [Go.Proofs.encStr x]).flatten = ((m.map kbytes).mergeSort leB).map Go.Proofs.encStr := by
    generalize (m.map kbytes).mergeSort leB = l
    induction l with
    | nil => rfl
    | cons a l ih => simp [ih]
  have hrow' : w'.ownsRow w.heap.size 9 1 v (((m.map kbytes).mergeSort leB).map fun x => [Go.Proofs.encStr x]).length (((m.map kbytes).mergeSort leB).map fun x => [Go.Proofs.encStr x]).flatten := by
    rw [hrl, hfl, ← hlen]
    exact hrow
  obtain ⟨A, c, rfl, hS'⟩ := Sep.of_row hS hb hrow' (fun row hr => by obtain ⟨x, _, rfl⟩ := List.mem_map.1 hr; exact ⟨rfl, by simp [Go.Proofs.encStr, Value.oneCell']⟩)
  rw [hrl] at hS'
  exact ⟨A, c, by rw [hrl], hS'.sub (by repeat (first | exact Sub.rest | exact Sub.nil | exact .skip .rest | exact .skip (.skip .rest) | exact .skip (.skip (.skip .rest)) | apply Sub.keep | refine Sub.cons (by repeat (first | exact At.here | apply At.next)) ?_ | apply Sub.skip))⟩
end Go.Proofs.YtiabhlogadboeaaGreat
