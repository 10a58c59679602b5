import Derived.Shelf.SlIter.Nil
import Derived.Shelf.SortM.Plain
import Derived.Shelf.SortM.SortNone
import Derived.Ground.GgzProg
import Derived.Ground.SlgmProg
import Derived.Test.YtfmnjbhncnldmaaGreatProg
import Derived.Sort.KeysCollected
import Derived.Test.YtfmnjbhncnldmaaGreatP02
set_option linter.unusedSimpArgs false
set_option linter.unusedVariables false
namespace Go.Proofs
open Go.Shelf
def Tryz.keys339_ren : Go.Shelf.Ren := ⟨fun | 7 => 339 | 10 => 394 | n => n, fun | 23 => 305 | 26 => 9 | 3 => 303 | 28 => 426 | 0 => 0 | 27 => 425 | 33 => 301 | 4 => 4 | n => n, fun | n => n⟩
theorem Tryz.keys339 : Go.Proofs.SlLaysZ.n7 Tryz.prog Tryz.keys339_ren := {
  mixed := by kernel_rfl
  f7 := ⟨Tryz.f339.name, by decide, Tryz.func339.trans (congrArg some (by kernel_rfl))⟩
  f10 := ⟨Tryz.f394.name, by decide, Tryz.func394.trans (congrArg some (by kernel_rfl))⟩
  t0 := Tryz.underlying0
  a0 := Tryz.isAgg0
  z0 := Tryz.sizeOf0
  v0 := Tryz.zeroValue0
  t4 := Tryz.underlying4
  a4 := Tryz.isAgg4
  z4 := Tryz.sizeOf4
  v4 := Tryz.zeroValue4
  t23 := Tryz.underlying305
  a23 := Tryz.isAgg305
  z23 := Tryz.sizeOf305
  v23 := Tryz.zeroValue305
  t26 := Tryz.underlying9
  a26 := Tryz.isAgg9
  z26 := Tryz.sizeOf9
  v26 := Tryz.zeroValue9
  t27 := Tryz.underlying425
  a27 := Tryz.isAgg425
  z27 := Tryz.sizeOf425
  v27 := Tryz.zeroValue425
  t28 := Tryz.underlying426
  a28 := Tryz.isAgg426
  z28 := Tryz.sizeOf426
  v28 := Tryz.zeroValue426
  t33 := Tryz.underlying301
  a33 := Tryz.isAgg301
  z33 := Tryz.sizeOf301
  v33 := Tryz.zeroValue301 }
def Tryz.sorted338_ren : Go.Shelf.Ren := ⟨fun | 6 => 338 | 8 => 392 | 9 => 393 | 11 => 424 | 13 => 155 | 12 => 425 | 23 => 249 | 24 => 250 | 14 => 435 | 15 => 436 | 16 => 437 | 17 => 438 | 18 => 439 | 19 => 440 | 20 => 441 | 21 => 442 | 22 => 443 | 25 => 446 | 26 => 312 | 27 => 313 | 28 => 447 | 29 => 448 | 30 => 449 | 31 => 450 | n => n, fun | 26 => 9 | 28 => 426 | 24 => 378 | 0 => 0 | 3 => 3 | 37 => 82 | 48 => 291 | 50 => 293 | 4 => 4 | 40 => 347 | 39 => 346 | 45 => 217 | 5 => 5 | 9 => 9 | 51 => 400 | 55 => 364 | 57 => 455 | 58 => 456 | 33 => 301 | n => n, fun | n => n⟩
theorem Tryz.sorted338 : Go.Proofs.SlLaysZ.n6 Tryz.prog Tryz.sorted338_ren := {
  mixed := by kernel_rfl
  f6 := ⟨Tryz.f338.name, by decide, Tryz.func338.trans (congrArg some (by kernel_rfl))⟩
  f8 := ⟨Tryz.f392.name, by decide, Tryz.func392.trans (congrArg some (by kernel_rfl))⟩
  f11 := ⟨Tryz.f424.name, by decide, Tryz.func424.trans (congrArg some (by kernel_rfl))⟩
  t0 := Tryz.underlying0
  a0 := Tryz.isAgg0
  z0 := Tryz.sizeOf0
  v0 := Tryz.zeroValue0
  t24 := Tryz.underlying378
  a24 := Tryz.isAgg378
  z24 := Tryz.sizeOf378
  v24 := Tryz.zeroValue378
  t26 := Tryz.underlying9
  a26 := Tryz.isAgg9
  z26 := Tryz.sizeOf9
  v26 := Tryz.zeroValue9
  t28 := Tryz.underlying426
  a28 := Tryz.isAgg426
  z28 := Tryz.sizeOf426
  v28 := Tryz.zeroValue426
  i26 := by kernel_rfl }
def Tryz.sort393_ren : Go.Shelf.Ren := ⟨fun | 6 => 393 | 8 => 155 | 9 => 425 | 19 => 249 | 20 => 250 | 21 => 435 | 22 => 436 | 23 => 437 | 24 => 438 | 25 => 439 | 26 => 440 | 27 => 441 | 28 => 442 | 29 => 443 | 36 => 446 | 31 => 312 | 32 => 313 | 37 => 447 | 38 => 448 | 39 => 449 | 41 => 450 | n => n, fun | 27 => 378 | 29 => 9 | 3 => 3 | 32 => 82 | 26 => 378 | 0 => 0 | 44 => 291 | 46 => 293 | 4 => 4 | 36 => 347 | 35 => 346 | 41 => 217 | 5 => 5 | 9 => 9 | 53 => 400 | 57 => 364 | 63 => 455 | 64 => 456 | n => n, fun | n => n⟩
theorem Tryz.sort393 : Go.Proofs.SlLaysM.n6 Tryz.prog Tryz.sort393_ren := {
  mixed := by kernel_rfl
  f6 := ⟨Tryz.f393.name, by decide, Tryz.func393.trans (congrArg some (by kernel_rfl))⟩
  f8 := Tryz.func155.trans (congrArg some (by kernel_rfl))
  f9 := ⟨Tryz.f425.name, by decide, Tryz.func425.trans (congrArg some (by kernel_rfl))⟩
  f19 := Tryz.func249.trans (congrArg some (by kernel_rfl))
  f20 := Tryz.func250.trans (congrArg some (by kernel_rfl))
  f21 := ⟨Tryz.f435.name, by decide, Tryz.func435.trans (congrArg some (by kernel_rfl))⟩
  f22 := ⟨Tryz.f436.name, by decide, Tryz.func436.trans (congrArg some (by kernel_rfl))⟩
  f23 := ⟨Tryz.f437.name, by decide, Tryz.func437.trans (congrArg some (by kernel_rfl))⟩
  f24 := ⟨Tryz.f438.name, by decide, Tryz.func438.trans (congrArg some (by kernel_rfl))⟩
  f25 := ⟨Tryz.f439.name, by decide, Tryz.func439.trans (congrArg some (by kernel_rfl))⟩
  f26 := ⟨Tryz.f440.name, by decide, Tryz.func440.trans (congrArg some (by kernel_rfl))⟩
  f27 := ⟨Tryz.f441.name, by decide, Tryz.func441.trans (congrArg some (by kernel_rfl))⟩
  f28 := ⟨Tryz.f442.name, by decide, Tryz.func442.trans (congrArg some (by kernel_rfl))⟩
  f29 := ⟨Tryz.f443.name, by decide, Tryz.func443.trans (congrArg some (by kernel_rfl))⟩
  f31 := Tryz.func312.trans (congrArg some (by kernel_rfl))
  f32 := Tryz.func313.trans (congrArg some (by kernel_rfl))
  f36 := ⟨Tryz.f446.name, by decide, Tryz.func446.trans (congrArg some (by kernel_rfl))⟩
  f37 := ⟨Tryz.f447.name, by decide, Tryz.func447.trans (congrArg some (by kernel_rfl))⟩
  f38 := ⟨Tryz.f448.name, by decide, Tryz.func448.trans (congrArg some (by kernel_rfl))⟩
  f39 := ⟨Tryz.f449.name, by decide, Tryz.func449.trans (congrArg some (by kernel_rfl))⟩
  f41 := ⟨Tryz.f450.name, by decide, Tryz.func450.trans (congrArg some (by kernel_rfl))⟩
  t0 := Tryz.underlying0
  a0 := Tryz.isAgg0
  z0 := Tryz.sizeOf0
  v0 := Tryz.zeroValue0
  t3 := Tryz.underlying3
  a3 := Tryz.isAgg3
  z3 := Tryz.sizeOf3
  v3 := Tryz.zeroValue3
  t4 := Tryz.underlying4
  a4 := Tryz.isAgg4
  z4 := Tryz.sizeOf4
  v4 := Tryz.zeroValue4
  t5 := Tryz.underlying5
  a5 := Tryz.isAgg5
  z5 := Tryz.sizeOf5
  v5 := Tryz.zeroValue5
  t9 := Tryz.underlying9
  a9 := Tryz.isAgg9
  z9 := Tryz.sizeOf9
  v9 := Tryz.zeroValue9
  t26 := Tryz.underlying378
  a26 := Tryz.isAgg378
  z26 := Tryz.sizeOf378
  v26 := Tryz.zeroValue378
  t27 := Tryz.underlying378
  a27 := Tryz.isAgg378
  z27 := Tryz.sizeOf378
  v27 := Tryz.zeroValue378
  t29 := Tryz.underlying9
  a29 := Tryz.isAgg9
  z29 := Tryz.sizeOf9
  v29 := Tryz.zeroValue9
  t32 := Tryz.underlying82
  a32 := Tryz.isAgg82
  z32 := Tryz.sizeOf82
  v32 := Tryz.zeroValue82
  t35 := Tryz.underlying346
  a35 := Tryz.isAgg346
  z35 := Tryz.sizeOf346
  v35 := Tryz.zeroValue346
  t36 := Tryz.underlying347
  a36 := Tryz.isAgg347
  z36 := Tryz.sizeOf347
  v36 := Tryz.zeroValue347
  t41 := Tryz.underlying217
  a41 := Tryz.isAgg217
  z41 := Tryz.sizeOf217
  v41 := Tryz.zeroValue217
  t44 := Tryz.underlying291
  a44 := Tryz.isAgg291
  z44 := Tryz.sizeOf291
  v44 := Tryz.zeroValue291
  t46 := Tryz.underlying293
  a46 := Tryz.isAgg293
  z46 := Tryz.sizeOf293
  v46 := Tryz.zeroValue293
  t53 := Tryz.underlying400
  a53 := Tryz.isAgg400
  z53 := Tryz.sizeOf400
  v53 := Tryz.zeroValue400
  t57 := Tryz.underlying364
  a57 := Tryz.isAgg364
  z57 := Tryz.sizeOf364
  v57 := Tryz.zeroValue364
  t63 := Tryz.underlying455
  a63 := Tryz.isAgg455
  z63 := Tryz.sizeOf455
  v63 := Tryz.zeroValue455
  t64 := Tryz.underlying456
  a64 := Tryz.isAgg456
  z64 := Tryz.sizeOf456
  v64 := Tryz.zeroValue456 }
end Go.Proofs
namespace Go.Proofs.YtfmnjbhncnldmaaGreat
open Go.RowKit Go.Maps Go.Sort Go.Shelf Go.WideShapes
def kbytes (p : Value × Value) : List UInt8 := match p.1 with | .string s => s.data.toList | _ => []
theorem MapAt.owns {P : Program} {k : TypeId} {w : World} {g : Nat} {m : List (Value × Value)} (h : MapAt P k w g m) (hk : P.underlying k = some .string) :
    ∃ D : DataW Unit, w.ownsMap P k (fun _ => some (.nil, [])) g m.length D ∧ (strKeys D).Perm (m.map kbytes) ∧ Maps.size D = m.length := by
  obtain ⟨es, cl, hb, hst, hsz, hks, hp⟩ := h
  have hle := hp.length_eq
  simp only [List.length_map, Array.length_toList] at hle
  have hrd : ∀ x, x ∈ es.toList → WideElems.rg P k (fun _ => some ((.nil : DataW Unit), [])) x = (.string (kbytes (kv x)), .nil) := by
    intro x hx
    obtain ⟨l, hl⟩ := hks x hx
    obtain ⟨y, hy1, rfl, _⟩ := Maps.keyOf_str hk hl
    have h1 : WideElems.rd P k (fun _ => some ((.nil : DataW Unit), [])) x = some (.string y, .nil) := by cases x; exact WideElems.rd_mk (R := fun _ => some ((.nil : DataW Unit), [])) hl rfl
    rw [WideElems.rg_of h1]
    have : kbytes (kv x) = y := by unfold kbytes kv; rw [hy1]
    rw [this]
  have hmap : es.toList.map (WideElems.rg P k (fun _ => some ((.nil : DataW Unit), []))) = es.toList.map fun x => ((.string (kbytes (kv x)) : Lit), (.nil : DataW Unit)) := List.map_congr_left hrd
  refine ⟨.map ((es.toList.map (WideElems.rg P k (fun _ => some (.nil, [])))).foldr DataW.insert []), ⟨es, cl, hb, ⟨hsz, hst, fun x hx => ?_⟩, by omega, rfl⟩, ?_, ?_⟩
  · obtain ⟨l, hl⟩ := hks x hx
    exact ⟨(l, .nil), by cases x; exact WideElems.rd_mk (R := fun _ => some ((.nil : DataW Unit), [])) hl rfl⟩
  · show List.Perm (List.map (fun p : Lit × DataW Unit => strOf p.1) _) _
    refine ((sorted_perm _).map _).trans ?_
    rw [hmap, List.map_map]
    have : (es.toList.map ((fun p : Lit × DataW Unit => strOf p.1) ∘ fun x => ((.string (kbytes (kv x)) : Lit), (.nil : DataW Unit)))) = (es.toList.map kv).map kbytes := by rw [List.map_map]; rfl
    rw [this]
    exact hp.map _
  · rw [Maps.size_eq, (sorted_perm _).length_eq]
    simp
    omega
theorem mkeys_z (b : Nat) (r : World) (F : List Res) (w : World) (hS : Sep r [] F w) : Calls Tryz.prog 339 #[.map (some b)] w fun e w' => ∃ gk, e = .returned (.func (.func 394) #[] #[.pointer (some ⟨gk, 0, none⟩)]) ∧ Sep r [] (.blk gk 305 [.map (some b)] :: F) w' :=
  (callsIn_wide.1 (AnyZ.keys_in Tryz.keys339 Fence.wide 5 trivial rfl (some b) w)).mono fun e w' ⟨he, hw⟩ => ⟨w.heap.size, he, by rw [hw]; exact hS.box _ _⟩
theorem sorts (m : Nat) : AnyZ.SortsIn Tryz.prog Tryz.sorted338_ren Fence.wide m :=
  ⟨fun blk off cap ss W hH hblk hsz => callsIn_wide.2 (AnyM.slices_Sort_string Tryz.sort393 blk off cap ss W hH hblk hsz),
   fun p cap W => callsIn_wide.2 (AnyM.slices_Sort_string_none Tryz.sort393 p cap W)⟩
theorem Sep.of_row {r w w' : World} {F : List Res} {e : TypeId} {v : Value} {rows : List (List Value)} (h : Sep r [] F w) (hb : Below w.heap.size w w') (hr : w'.ownsRow w.heap.size e 1 v rows.length rows.flatten) (hok : ∀ row, row ∈ rows → row.length = 1 ∧ ∀ u, u ∈ row → u.oneCell' = true) :
    ∃ A c, v = .slice A rows.length c ∧ Sep r [] (.sl e 1 (.slice A rows.length c) rows :: F) w' := by
  have hc : Chg [] w w' := Chg.of_below hb
  obtain ⟨hl, ⟨rfl, h0⟩ | ⟨g, cap, cur, rfl, hg, hcur, hn, hcap, hsz, htake⟩⟩ := hr
  · have : rows = [] := List.eq_nil_of_length_eq_zero h0
    subst this
    exact ⟨none, 0, rfl, h.add (f2 := []) hc ⟨by simp, none, 0, rfl, .inl ⟨rfl, rfl, rfl⟩⟩ (by simp) (by simp)⟩
  · refine ⟨some ⟨g, 0, none⟩, cap, rfl, ?_⟩
    have hlt : g < w'.heap.size := (Array.getElem?_eq_some_iff.1 hcur).1
    rcases Nat.eq_zero_or_pos cap with rfl | hpos
    · have : rows = [] := List.eq_nil_of_length_eq_zero (by omega)
      subst this
      exact h.add (f2 := []) hc ⟨by simp, some ⟨g, 0, none⟩, 0, rfl, .inl ⟨rfl, rfl, rfl⟩⟩ (by simp) (by simp)
    · exact h.add (f2 := [g]) hc ⟨hok, some ⟨g, 0, none⟩, cap, rfl, .inr ⟨hpos, g, cur, rfl, rfl, hcur, hn, hcap, hsz, htake⟩⟩ (by simp) (fun b hb => by simp at hb; subst hb; exact ⟨hlt, hg⟩)
set_option maxHeartbeats 1000000 in
theorem msorted_z (gk b : Nat) (m : List (Value × Value)) (r : World) (F : List Res) (w : World) (hS : Sep r [] (.blk gk 305 [.map (some b)] :: F) w) {k : List Res} (ha : At F k (.mp Tryz.prog 9 b m)) (hl : m.length ≤ 1000000) :
    Calls Tryz.prog 338 #[.func (.func 394) #[] #[.pointer (some ⟨gk, 0, none⟩)]] w fun e w' => ∃ A c, e = .returned (.slice A m.length c) ∧ Sep r [] (.sl 9 1 (.slice A m.length c) (((m.map kbytes).mergeSort leB).map fun x => [Go.Proofs.encStr x]) :: F) w' := by
  have hm := hS.mapAt (At.next ha)
  obtain ⟨D, hown, hkeys, hsize⟩ := hm.owns Tryz.underlying9
  have hbk := hS.blk At.here
  have hseq : SeqGives Fence.wide 2 Tryz.prog 394 #[.pointer (some ⟨gk, 0, none⟩)] Go.Proofs.encStr (fun ss => ss.Perm (strKeys D)) (Maps.size D) w :=
    AnyZ.keys_gives (ρ := Tryz.keys339_ren) { Tryz.keys339 with } Fence.wide _ trivial rfl (by omega) gk b _ D w hbk.lt (by unfold Blk at hbk; simp [World.cell?, hbk]) hown
  refine (callsIn_wide.1 (AnyZ.sorted_in Tryz.sorted338 Fence.wide 5 trivial trivial trivial trivial rfl (by omega) (sorts _) (enters_of Tryz.func393 (by kernel_rfl) rfl) 394 #[.pointer (some ⟨gk, 0, none⟩)] trivial (enters_of Tryz.func394 (by kernel_rfl) rfl) _ _ (by rw [hsize]; unfold maxLen; omega) (by omega) _ hseq)).mono ?_
  rintro e w' ⟨v, ss, rfl, hperm, hrow, _, hb⟩
  have hp : ss.Perm (m.map kbytes) := hperm.trans hkeys
  have hlen : ss.length = m.length := by rw [hp.length_eq]; simp
  have hms : ss.mergeSort (fun x y => decide (x ≤ y)) = (m.map kbytes).mergeSort leB := mergeSort_of_perm hp
  rw [hms] at hrow
  have hrl : (((m.map kbytes).mergeSort leB).map fun x => [Go.Proofs.encStr x]).length = m.length := by simp
  have hfl : (((m.map kbytes).mergeSort leB).map fun x => [Go.Proofs.encStr x]).flatten = ((m.map kbytes).mergeSort leB).map Go.Proofs.encStr := by
    generalize (m.map kbytes).mergeSort leB = l
    induction l with
    | nil => rfl
    | cons a l ih => simp [ih]
  have hrow' : w'.ownsRow w.heap.size 9 1 v (((m.map kbytes).mergeSort leB).map fun x => [Go.Proofs.encStr x]).length (((m.map kbytes).mergeSort leB).map fun x => [Go.Proofs.encStr x]).flatten := by
    rw [hrl, hfl, ← hlen]
    exact hrow
  obtain ⟨A, c, rfl, hS'⟩ := Sep.of_row hS hb hrow' (fun row hr => by obtain ⟨x, _, rfl⟩ := List.mem_map.1 hr; exact ⟨rfl, by simp [Go.Proofs.encStr, Value.oneCell']⟩)
  rw [hrl] at hS'
  exact ⟨A, c, by rw [hrl], hS'.sub SuF⟩
end Go.Proofs.YtfmnjbhncnldmaaGreat
