/-
  Windows, and the library's functions on slices of them.
  The gate: its order of windows, its search, what it answers.
  The reference's gate.
  The gate: Give, Close, Forget, Accepts, Until.
  Gates, in plain terms: what the program's gate and the reference's have in common.
  The reference's gate: Accepts, Windows.
-/
import Derived.Test.YtiabhlogadboeaaGreatT1
import Derived.Test.YtiabhlogadboeaaGreatE2
namespace Go.Proofs.YtiabhlogadboeaaGreat
open Go.RowKit
set_option linter.unusedSimpArgs false
set_option linter.unusedVariables false
attribute [local irreducible] Res.blk Res.sl Res.all Res.ex Res.pure Res.star

/-- A window. -/
structure Wi where
  cell : Int
  epoch : Int
  version : Int
  from_ : Int
  until_ : Int
deriving DecidableEq
def Wi.cells (x : Wi) : List Value := [.int .i64 x.cell, .int .i64 x.epoch, .int .i64 x.version, .int .i64 x.from_, .int .i64 x.until_]
def Wi.val (x : Wi) : Value := .agg x.cells.toArray
theorem zerosL_len (zs : List Value) (q : Nat) : (Z.zerosL zs q).length = q * zs.length := by
  induction q with
  | zero => simp [Z.zerosL]
  | succ q ih => simp [Z.zerosL, ih, Nat.add_mul, Nat.add_comm]
/-- Some of a block's rows. -/
theorem sub_rows {α : Type} {c : α → List Value} {sz : Nat} (hc : ∀ x, (c x).length = sz) {l : List α} {cs : List Value} (hct : cs.take (l.length * sz) = (l.map c).flatten) (a m : Nat) (h : a + m ≤ l.length) : (cs.drop (a * sz)).take (m * sz) = (((l.drop a).take m).map c).flatten := by
  have hlen : ∀ l : List α, ((l.map c).flatten).length = l.length * sz := fun l => by rw [flatten_length (sz := sz) fun row hr => by obtain ⟨x, _, rfl⟩ := List.mem_map.1 hr; exact hc x, List.length_map]
  have h1 : l = l.take a ++ ((l.drop a).take m ++ (l.drop a).drop m) := by rw [List.take_append_drop, List.take_append_drop]
  have h2 : cs = cs.take (l.length * sz) ++ cs.drop (l.length * sz) := (List.take_append_drop _ _).symm
  rw [hct] at h2
  conv at h2 => rhs; rw [h1]
  rw [List.map_append, List.flatten_append, List.map_append, List.flatten_append] at h2
  rw [h2, List.append_assoc, List.drop_left' (by rw [hlen, List.length_take, Nat.min_eq_left (by omega)]), List.append_assoc]
  exact List.take_left' (by rw [hlen, List.length_take, List.length_drop, Nat.min_eq_left (by omega)])
theorem splice_grow {a x b cs : List Value} {A s B : Nat} (ha : cs.take A = a) (hal : a.length = A) (hx : x.length = s) (hb : b.length = B) (hl : A + s + B ≤ cs.length) :
    ((cs.take A ++ x ++ cs.drop (A + s)).take (A + s) ++ b ++ (cs.take A ++ x ++ cs.drop (A + s)).drop (A + s + B)).take (A + s + B) = a ++ x ++ b ∧ ((cs.take A ++ x ++ cs.drop (A + s)).take (A + s) ++ b ++ (cs.take A ++ x ++ cs.drop (A + s)).drop (A + s + B)).length = cs.length := by
  have h1 : (cs.take A ++ x ++ cs.drop (A + s)).take (A + s) = a ++ x := by rw [ha]; exact List.take_left' (by simp; omega)
  constructor
  · rw [h1]
    exact List.take_left' (by simp; omega)
  · rw [h1]
    simp only [List.length_append, List.length_drop, List.length_take]
    omega
theorem splice_room {a x b cs : List Value} {A s B : Nat} (ha : cs.take A = a) (hal : a.length = A) (hx : x.length = s) (hb : b.length = B) (hl : A + s + B ≤ cs.length) :
    ((cs.take (A + s) ++ b ++ cs.drop (A + s + B)).take A ++ x ++ (cs.take (A + s) ++ b ++ cs.drop (A + s + B)).drop (A + s)).take (A + s + B) = a ++ x ++ b ∧ ((cs.take (A + s) ++ b ++ cs.drop (A + s + B)).take A ++ x ++ (cs.take (A + s) ++ b ++ cs.drop (A + s + B)).drop (A + s)).length = cs.length := by
  have hl1 : (cs.take (A + s)).length = A + s := by simp; omega
  have h1 : (cs.take (A + s) ++ b ++ cs.drop (A + s + B)).take A = a := by rw [List.append_assoc, List.take_append_of_le_length (by omega), List.take_take, Nat.min_eq_left (by omega), ha]
  have h2 : (cs.take (A + s) ++ b ++ cs.drop (A + s + B)).drop (A + s) = b ++ cs.drop (A + s + B) := by rw [List.append_assoc]; exact List.drop_left' hl1
  rw [h1, h2]
  constructor
  · rw [← List.append_assoc]
    exact List.take_left' (by simp; omega)
  · simp only [List.length_append, List.length_drop]
    omega
/-! Rows of Wi. -/
theorem wi_ok {l : List Wi} : ∀ row, row ∈ l.map Wi.cells → row.length = 5 ∧ ∀ u, u ∈ row → u.oneCell' = true := by
  intro row hr
  obtain ⟨x, _, rfl⟩ := List.mem_map.1 hr
  exact ⟨rfl, by simp [Wi.cells, Value.oneCell']⟩
theorem wi_flat (l : List Wi) : (l.map Wi.cells).flatten.length = l.length * 5 := by rw [flatten_length fun row hr => (wi_ok row hr).1, List.length_map]

set_option maxHeartbeats 1000000 in
theorem wi_index (p : Wi → Bool) (FC : FuncId) [HasF Tryz.prog FC] (caps : List Value) (l : List Wi) (v : Value) (r : World) (F : List Res) (w : World) (hS : Sep r [] F w) (hrd : Reads r F 5 v (l.map Wi.cells)) (hl : l.length ≤ 100000)
    (hp : ∀ (L : List Res) (w : World) (x : Wi), Sep r [] (L ++ F) w → Calls Tryz.prog FC (x.val :: caps).toArray w fun e w' => e = .returned (.bool (p x)) ∧ Sep r [] (L ++ F) w') :
    Calls Tryz.prog 115 #[v, .func (.func FC) #[] caps.toArray] w fun e w' => ∃ k : Int, e = .returned (.int .i64 k) ∧ Sep r [] F w' ∧ ((k = -1 ∧ ∀ x, x ∈ l → p x = false) ∨ ∃ (q : Nat) (hq : q < l.length), k = q ∧ p l[q] = true ∧ ∀ x, x ∈ l.take q → p x = false) := by
  obtain ⟨A, c, rfl, hc⟩ := (hrd [] w hS).mform
  refine Z.enter Tryz.func115 Tryz.ntmps115 rfl rfl ?_
  repeat' (first|refine K ?_|(refine Sh.sa hS ?_;clear hS;intro w hS)|(refine K3 ?_;clear hS;intro g w hS hge)|((first|refine GS ?_ ?_|refine VB ?_ ?_)<;>intro hb<;>(try simp only [J1,J2,J3,J4,J5,J6] at hb)<;>(try (exfalso;first|omega|exact hb trivial))))
  refine Z.lpS [4, 5, 8, 9, 10, 11, 12, 13, 14, 15, 16, 17, 18] (fun m w s => ∃ q : Nat, s = [(8, .int .i64 q)] ∧ q ≤ l.length ∧ (∀ x, x ∈ l.take q → p x = false) ∧ m = l.length - q ∧ Sep r [] F w) _ [(8, .int .i64 (0 : Nat))] (by repeat (first | exact trivial | refine ⟨rfl, ?_⟩)) ⟨0, rfl, by omega, by simp, rfl, hS⟩ ?_
  clear hS
  rintro m f0 w _ ⟨q, rfl, hq, hall, rfl, hS⟩
  by_cases hlt : q < l.length
  · obtain ⟨gb, o, rfl, _, hra⟩ := (hrd [] w hS).mat (by omega) hlt
    repeat' (first|refine K ?_|(refine Sh.sa hS ?_;clear hS;intro w hS)|(refine K3 ?_;clear hS;intro g w hS hge)|((first|refine GS ?_ ?_|refine VB ?_ ?_)<;>intro hb<;>(try simp only [J1,J2,J3,J4,J5,J6] at hb)<;>(try (exfalso;first|omega|exact hb trivial))))
    refine Z.eff (Z.clf rfl (hp [] w l[q] hS) rfl ?_) rfl
    clear hS
    rintro e w ⟨rfl, hS⟩
    refine ⟨_, rfl, ?_⟩
    repeat' (first|refine K ?_|(refine Sh.sa hS ?_;clear hS;intro w hS)|(refine K3 ?_;clear hS;intro g w hS hge)|((first|refine GS ?_ ?_|refine VB ?_ ?_)<;>intro hb<;>(try simp only [J1,J2,J3,J4,J5,J6] at hb)<;>(try (exfalso;first|omega|exact hb trivial))))
    · refine Dnt Tryz.results115 ?_
      exact ⟨q, rfl, hS, .inr ⟨q, hlt, rfl, hb, hall⟩⟩
    · refine Sh.again (l.length - (q + 1)) [(8, .int .i64 (q + 1 : Nat))] ?_
      refine ⟨q + 1, rfl, by omega, fun x hx => ?_, rfl, hS⟩
      rw [List.take_succ_eq_append_getElem hlt, List.mem_append] at hx
      rcases hx with hx | hx
      · exact hall x hx
      · simp at hx; subst hx; exact hb
  · repeat' (first|refine K ?_|(refine Sh.sa hS ?_;clear hS;intro w hS)|(refine K3 ?_;clear hS;intro g w hS hge)|((first|refine GS ?_ ?_|refine VB ?_ ?_)<;>intro hb<;>(try simp only [J1,J2,J3,J4,J5,J6] at hb)<;>(try (exfalso;first|omega|exact hb trivial))))
    refine Dnt Tryz.results115 ?_
    exact ⟨-1, rfl, hS, .inl ⟨rfl, fun x hx => hall x (by rw [List.take_of_length_le (by omega)]; exact hx)⟩⟩

set_option maxHeartbeats 2000000 in
theorem wi_delete (p : Wi → Bool) (FC : FuncId) [HasF Tryz.prog FC] (caps : List Value) (l : List Wi) (A : Option Addr) (c : Nat) (r : World) (F : List Res) (w : World) (hS : Sep r [] (.sl 74 5 (.slice A l.length c) (l.map Wi.cells) :: F) w) (hl : l.length ≤ 100000)
    (hp : ∀ (L : List Res) (w : World) (x : Wi), Sep r [] (L ++ F) w → Calls Tryz.prog FC (x.val :: caps).toArray w fun e w' => e = .returned (.bool (p x)) ∧ Sep r [] (L ++ F) w') :
    Calls Tryz.prog 73 #[.slice A l.length c, .func (.func FC) #[] caps.toArray] w fun e w' => ∃ A' c', e = .returned (.slice A' (l.filter fun x => !p x).length c') ∧ Sep r [] (.sl 74 5 (.slice A' (l.filter fun x => !p x).length c') ((l.filter fun x => !p x).map Wi.cells) :: F) w' := by
  refine Z.enter Tryz.func73 Tryz.ntmps73 rfl rfl ?_
  repeat' (first|refine K ?_|(refine Sh.sa hS ?_;clear hS;intro w hS)|(refine K3 ?_;clear hS;intro g w hS hge)|((first|refine GS ?_ ?_|refine VB ?_ ?_)<;>intro hb<;>(try simp only [J1,J2,J3,J4,J5,J6] at hb)<;>(try (exfalso;first|omega|exact hb trivial))))
  refine Z.eff (Z.cl (wi_index p FC caps l _ _ _ _ hS (Reads.of_at (by repeat (first | exact At.here | apply At.next))) hl (fun L w x h => by have h1 := hp (L ++ [_]) w x (by rw [List.append_assoc]; exact h); rw [List.append_assoc] at h1; exact h1)) rfl ?_) rfl
  clear hS
  rintro e w ⟨k, rfl, hS, hk⟩
  refine ⟨_, rfl, ?_⟩
  rcases hk with ⟨rfl, hno⟩ | ⟨q, hq, rfl, hpq, hno⟩
  · repeat' (first|refine K ?_|(refine Sh.sa hS ?_;clear hS;intro w hS)|(refine K3 ?_;clear hS;intro g w hS hge)|((first|refine GS ?_ ?_|refine VB ?_ ?_)<;>intro hb<;>(try simp only [J1,J2,J3,J4,J5,J6] at hb)<;>(try (exfalso;first|omega|exact hb trivial))))
    refine Dnt Tryz.results73 ?_
    have e : (l.filter fun x => !p x) = l := List.filter_eq_self.2 fun x hx => by simp [hno x hx]
    rw [e]
    exact ⟨_, _, rfl, hS⟩
  have hfq : (l.take (q + 1)).filter (fun x => !p x) = l.take q := by
    rw [List.take_succ_eq_append_getElem hq, List.filter_append]
    simp only [List.filter_cons, List.filter_nil, hpq]
    simp only [Bool.not_true, Bool.false_eq_true, if_false, List.append_nil]
    exact List.filter_eq_self.2 fun x hx => by simp [hno x hx]
  have hql : (l.take q).length = q := by rw [List.length_take]; omega
  repeat' (first|refine K ?_|(refine Sh.sa hS ?_;clear hS;intro w hS)|(refine K3 ?_;clear hS;intro g w hS hge)|((first|refine GS ?_ ?_|refine VB ?_ ?_)<;>intro hb<;>(try simp only [J1,J2,J3,J4,J5,J6] at hb)<;>(try (exfalso;first|omega|exact hb trivial))))
  obtain ⟨g0, rfl⟩ := Z.Sep_slform hS .here (by simpa using (by omega : 0 < l.length))
  refine Z.lpS [5, 6, 7, 16, 17, 18, 19, 20, 21, 22, 23, 24, 25, 26, 27, 28, 29, 30, 31, 32, 33, 34, 35] (fun m w s => ∃ (i j : Nat) (us : List Wi), s = [(5, .int .i64 i), (6, .int .i64 j)] ∧ us.length = l.length ∧ i < j ∧ j ≤ l.length ∧ us.take i = (l.take j).filter (fun x => !p x) ∧ ((l.take j).filter (fun x => !p x)).length = i ∧ us.drop j = l.drop j ∧ m = l.length - j ∧
    Sep r [] (.sl 74 5 (.slice (some ⟨g0, 0, none⟩) l.length c) (us.map Wi.cells) :: F) w) _ [(5, .int .i64 (q : Nat)), (6, .int .i64 (q + 1 : Nat))] (by repeat (first | exact trivial | refine ⟨rfl, ?_⟩)) ⟨q, q + 1, l, rfl, rfl, by omega, by omega, hfq.symm, by rw [hfq]; exact hql, rfl, rfl, hS⟩ ?_
  clear hS
  rintro m f0 w _ ⟨i, j, us, rfl, hus, hij, hj, hti, hil, hdj, rfl, hS⟩
  by_cases hlt : j < l.length
  · have hjus : j < us.length := by omega
    have hra := (hS.slrows .here).elem (by omega) hjus
    have huj : us[j] = l[j] := by
      have h1 := congrArg (fun z => z[0]?) hdj
      simp only [List.getElem?_drop, Nat.add_zero] at h1
      rw [List.getElem?_eq_getElem hjus, List.getElem?_eq_getElem hlt] at h1
      exact Option.some.inj h1
    rw [huj] at hra
    have hnext : (l.take (j + 1)).filter (fun x => !p x) = (l.take j).filter (fun x => !p x) ++ (if p l[j] then [] else [l[j]]) := by
      rw [List.take_succ_eq_append_getElem hlt, List.filter_append]
      congr 1
      cases hpj : p l[j] <;> simp [hpj]
    repeat' (first|refine K ?_|(refine Sh.sa hS ?_;clear hS;intro w hS)|(refine K3 ?_;clear hS;intro g w hS hge)|((first|refine GS ?_ ?_|refine VB ?_ ?_)<;>intro hb<;>(try simp only [J1,J2,J3,J4,J5,J6] at hb)<;>(try (exfalso;first|omega|exact hb trivial))))
    rename Nat => gx
    refine Z.eff (Z.clf rfl (hp [_, _] w l[j] hS) rfl ?_) rfl
    clear hS hra
    rintro e w ⟨rfl, hS⟩
    refine ⟨_, rfl, ?_⟩
    replace hS : Sep r [] (_ :: _ :: F) w := hS
    repeat' (first|refine K ?_|(refine Sh.sa hS ?_;clear hS;intro w hS)|(refine K3 ?_;clear hS;intro g w hS hge)|((first|refine GS ?_ ?_|refine VB ?_ ?_)<;>intro hb<;>(try simp only [J1,J2,J3,J4,J5,J6] at hb)<;>(try (exfalso;first|omega|exact hb trivial))))
    · refine Z.eff (Z.stEm l[j] hS rfl (by repeat (first | exact At.here | apply At.next)) (by omega) rfl rfl rfl rfl ?_) rfl
      clear hS; intro w hS
      repeat' (first|refine K ?_|(refine Sh.sa hS ?_;clear hS;intro w hS)|(refine K3 ?_;clear hS;intro g w hS hge)|((first|refine GS ?_ ?_|refine VB ?_ ?_)<;>intro hb<;>(try simp only [J1,J2,J3,J4,J5,J6] at hb)<;>(try (exfalso;first|omega|exact hb trivial))))
      refine Sh.again (l.length - (j + 1)) [(5, .int .i64 (i + 1 : Nat)), (6, .int .i64 (j + 1 : Nat))] ?_
      have hpj : p l[j] = false := hb
      have hn := hnext
      rw [hpj] at hn
      simp only [Bool.false_eq_true, if_false] at hn
      refine ⟨i + 1, j + 1, us.set i l[j], rfl, by simpa using hus, by omega, by omega, ?_, by rw [hn, List.length_append, hil]; rfl, ?_, rfl, hS.sb⟩
      · rw [hn, List.take_succ_eq_append_getElem (by simp; omega), List.getElem_set_self, List.take_set_of_le (Nat.le_refl _), hti]
      · rw [List.drop_set_of_lt (by omega)]
        have h1 := congrArg (fun z => z.drop 1) hdj
        simpa [List.drop_drop] using h1
    · refine Sh.again (l.length - (j + 1)) [(5, .int .i64 (i : Nat)), (6, .int .i64 (j + 1 : Nat))] ?_
      have hpj : p l[j] = true := hb
      have hn := hnext
      rw [hpj] at hn
      simp only [if_true, List.append_nil] at hn
      refine ⟨i, j + 1, us, rfl, hus, by omega, by omega, by rw [hn]; exact hti, by rw [hn]; exact hil, ?_, rfl, hS.sb⟩
      have h1 := congrArg (fun z => z.drop 1) hdj
      simpa [List.drop_drop] using h1
  · have hje : j = l.length := by omega
    subst hje
    rw [List.take_length] at hti hil
    obtain ⟨g1, cs, hA, hn, hnc, hcm, hcl, hct, _, hS⟩ := open_sl hS (by simp; omega)
    injection hA with hA
    injection hA with hA _
    subst hA
    clear hn
    repeat' (first|refine K ?_|(refine Sh.sa hS ?_;clear hS;intro w hS)|(refine K3 ?_;clear hS;intro g w hS hge)|((first|refine GS ?_ ?_|refine VB ?_ ?_)<;>intro hb<;>(try simp only [J1,J2,J3,J4,J5,J6] at hb)<;>(try (exfalso;first|omega|exact hb trivial))))
    refine Z.eff (Z.clr hS rfl rfl (by repeat (first | exact At.here | apply At.next)) (by rw [hcl]; have : (0 + (i : Int).toNat * 5 + (l.length - (i : Int).toNat) * 5) = l.length * 5 := (by omega); rw [this]; exact Nat.mul_le_mul_right _ hnc) rfl ?_) rfl
    clear hS; intro w hS
    repeat' (first|refine K ?_|(refine Sh.sa hS ?_;clear hS;intro w hS)|(refine K3 ?_;clear hS;intro g w hS hge)|((first|refine GS ?_ ?_|refine VB ?_ ?_)<;>intro hb<;>(try simp only [J1,J2,J3,J4,J5,J6] at hb)<;>(try (exfalso;first|omega|exact hb trivial))))
    refine Dnt Tryz.results73 ?_
    refine ⟨_, c, by rw [hil]; rfl, ?_⟩
    have e1 : (i : Int).toNat = i := rfl
    rw [hil]
    have := close_sl (rows := (l.filter fun x => !p x).map Wi.cells) (c := c) hS (by omega) hcm ?_ (by simp; omega) ?_ wi_ok
    · simpa [hil] using this
    · simp only [List.length_append, List.length_take, List.length_drop, hcl, zerosL_len, e1, List.length_cons, List.length_nil]
      have h2 : l.length * 5 ≤ c * 5 := Nat.mul_le_mul_right _ hnc
      omega
    · have h2 : l.length * 5 ≤ c * 5 := Nat.mul_le_mul_right _ hnc
      have h3 : i * 5 ≤ l.length * 5 := Nat.mul_le_mul_right _ (by omega)
      rw [List.length_map, hil, List.append_assoc, List.take_append_of_le_length (by simp [hcl, e1]; omega), e1, Nat.zero_add, List.take_take, Nat.min_self]
      have h4 : cs.take (i * 5) = ((us.map Wi.cells).flatten).take (i * 5) := by rw [← hct, List.take_take, Nat.min_eq_left h3]
      rw [h4, ← hti]
      have h5 : (us.map Wi.cells).flatten = ((us.take i).map Wi.cells).flatten ++ ((us.drop i).map Wi.cells).flatten := by rw [← List.flatten_append, ← List.map_append, List.take_append_drop]
      rw [h5]
      exact List.take_left' (by rw [wi_flat]; simp; omega)

theorem wi_overlaps (g g' o m c : Nat) (cs cs' : List Value) (r : World) (F : List Res) (w : World) (hS : Sep r [] (.blk g 74 cs :: .blk g' 74 cs' :: F) w) (h0 : 0 < cs'.length) :
    (callFunc 107 #[.slice (some ⟨g, 0, none⟩) 1 1, .slice (some ⟨g', o, none⟩) m c]).run Tryz.prog w = .ok (.value (.bool false)) w := by
  have hb := hS.blk .here
  have hb' := hS.blk (.next .here)
  have hs : w.shape? g = some (74, cs.length) := by have : w.heap[g]? = some (.cells cs.toArray 74 (0, 0)) := hb; simp [World.shape?, this]
  have hs' : w.shape? g' = some (74, cs'.length) := by have : w.heap[g']? = some (.cells cs'.toArray 74 (0, 0)) := hb'; simp [World.shape?, this]
  rw [run_callFunc_extern Tryz.func107 (by kernel_rfl) (by kernel_rfl) (by kernel_rfl) (e := Extern.SlicesOverlaps.overlaps #[45, 45] #[4]) (by kernel_rfl),
    Lib.run_overlaps_apart w 45 4 74 Tryz.underlying45 5 (fun w => by rw [Tryz.sizeOf74]) ⟨g, 0, none⟩ ⟨g', o, none⟩ 1 1 m c (blk_ne hS) _ _ _ _ hs hs' (by omega) (hb.frozen _) (hb.frozen _)]
  rfl
set_option maxHeartbeats 4000000 in
theorem wi_insert (l : List Wi) (i : Nat) (x : Wi) (A : Option Addr) (c gl : Nat) (r : World) (F : List Res) (w : World) (hS : Sep r [] (.sl 74 5 (.slice A l.length c) (l.map Wi.cells) :: .blk gl 74 x.cells :: F) w) (hi : i ≤ l.length) (hl : l.length ≤ 100000) :
    Calls Tryz.prog 65 #[.slice A l.length c, .int .i64 (i : Nat), .slice (some ⟨gl, 0, none⟩) 1 1] w fun e w' => ∃ A' c', e = .returned (.slice A' (l.length + 1) c') ∧ Sep r [] (.sl 74 5 (.slice A' (l.length + 1) c') ((l.take i ++ x :: l.drop i).map Wi.cells) :: .blk gl 74 x.cells :: F) w' := by
  have ei : (i : Int).toNat = i := rfl
  by_cases hlt : i < l.length
  case neg =>
    refine Z.enter Tryz.func65 Tryz.ntmps65 rfl rfl ?_
    repeat' (first|refine K ?_|(refine Sh.sa hS ?_;clear hS;intro w hS)|(refine K3 ?_;clear hS;intro g w hS hge)|((first|refine GS ?_ ?_|refine VB ?_ ?_)<;>intro hb<;>(try simp only [J1,J2,J3,J4,J5,J6] at hb)<;>(try (exfalso;first|omega|exact hb trivial))))
    refine Z.eff (Z.apm (l' := [x]) hS rfl rfl rfl (by repeat (first | exact At.here | apply At.next)) (hS.lit1 (by repeat (first | exact At.here | apply At.next)) rfl rfl) (by (try simp only [maxLen, List.length_take, List.length_drop, List.length_append, List.length_cons, List.length_nil, List.length_map]); omega) (by (try simp only [maxLen, List.length_take, List.length_drop, List.length_append, List.length_cons, List.length_nil, List.length_map]); omega) ?_) rfl
    clear hS; intro A' c' w hS
    repeat' (first|refine K ?_|(refine Sh.sa hS ?_;clear hS;intro w hS)|(refine K3 ?_;clear hS;intro g w hS hge)|((first|refine GS ?_ ?_|refine VB ?_ ?_)<;>intro hb<;>(try simp only [J1,J2,J3,J4,J5,J6] at hb)<;>(try (exfalso;first|omega|exact hb trivial))))
    refine Dnt Tryz.results65 ?_
    have hie : i = l.length := by omega
    subst hie
    rw [List.take_length, List.drop_length]
    exact ⟨_, _, rfl, hS.sb⟩
  case pos =>
  obtain ⟨g0, cs, rfl, _, hnc, hcm, hcl, hct, _, hS⟩ := open_sl hS (by simp; omega)
  have hsub := fun a m h => sub_rows (c := Wi.cells) (sz := 5) (fun _ => rfl) (l := l) (cs := cs) hct a m h
  have hta : cs.take (i * 5) = ((l.take i).map Wi.cells).flatten := by have := hsub 0 i (by omega); simpa using this
  have hal : ((l.take i).map Wi.cells).flatten.length = i * 5 := by rw [wi_flat, List.length_take, Nat.min_eq_left hi]
  have hbl : ((l.drop i).map Wi.cells).flatten.length = (l.length - i) * 5 := by rw [wi_flat, List.length_drop]
  have hdi : (cs.drop (0 + (i : Int).toNat * 5)).take ((l.length - i) * 5) = ((l.drop i).map Wi.cells).flatten := by
    have := hsub i (l.length - i) (by omega)
    rw [List.take_of_length_le (l := l.drop i) (by simp)] at this
    rw [ei, Nat.zero_add]
    exact this
  have hfin : ((l.take i ++ x :: l.drop i).map Wi.cells).flatten = ((l.take i).map Wi.cells).flatten ++ x.cells ++ ((l.drop i).map Wi.cells).flatten := by simp
  have hfl : (l.take i ++ x :: l.drop i).length = l.length + 1 := by simp; omega
  refine Z.enter Tryz.func65 Tryz.ntmps65 rfl rfl ?_
  repeat' (first|refine K ?_|(refine Sh.sa hS ?_;clear hS;intro w hS)|(refine K3 ?_;clear hS;intro g w hS hge)|((first|refine GS ?_ ?_|refine VB ?_ ?_)<;>intro hb<;>(try simp only [J1,J2,J3,J4,J5,J6] at hb)<;>(try (exfalso;first|omega|exact hb trivial))))
  · -- no room
    have hsrc : Rows' w 5 (.slice (some ⟨g0, 0, none⟩) (i : Int).toNat c) ((l.take i).map Wi.cells) := rows_mid (hS.bk) wi_ok (by simp; omega) (by omega) (by rw [List.drop_zero]; exact hta)
    refine Z.eff (Z.apz (m := l.length + 1 - i) hS rfl rfl rfl Tryz.underlying3 (by omega) hsrc rfl (by omega) (by omega) (by omega) (by show _ ≤ 9223372036854775807; omega) ?_) rfl
    clear hS hsrc; intro A' c' w hS
    obtain ⟨g2, cs2, rfl, _, hnc2, hcm2, hcl2, hct2, _, hS⟩ := open_sl hS (by simp; omega)
    have ht2 : cs2.take (i * 5) = ((l.take i).map Wi.cells).flatten := by
      have h1 : i * 5 ≤ ((i : Int).toNat + (l.length + 1 - i)) * 5 := Nat.mul_le_mul_right _ (by omega)
      rw [← Nat.min_eq_left h1, ← List.take_take, hct2, List.flatten_append]
      exact List.take_left' hal
    clear hct2
    repeat' (first|refine K ?_|(refine Sh.sa hS ?_;clear hS;intro w hS)|(refine K3 ?_;clear hS;intro g w hS hge)|((first|refine GS ?_ ?_|refine VB ?_ ?_)<;>intro hb<;>(try simp only [J1,J2,J3,J4,J5,J6] at hb)<;>(try (exfalso;first|omega|exact hb trivial))))
    refine Z.eff (Z.cp 1 hS rfl rfl rfl (by repeat (first | exact At.here | apply At.next)) (by omega) (hS.lit1 (row := x.cells) (by repeat (first | exact At.here | apply At.next)) rfl rfl) (by rw [hcl2]; omega) ?_) rfl
    clear hS; intro w hS
    repeat' (first|refine K ?_|(refine Sh.sa hS ?_;clear hS;intro w hS)|(refine K3 ?_;clear hS;intro g w hS hge)|((first|refine GS ?_ ?_|refine VB ?_ ?_)<;>intro hb<;>(try simp only [J1,J2,J3,J4,J5,J6] at hb)<;>(try (exfalso;first|omega|exact hb trivial))))
    refine D.startS (Lr := ([] : List Res)) (hS.sb) 9 9 (by kernel_rfl) rfl ?_
    replace hS := hS.drew
    refine Sh.dp 0 1 ?_
    refine Sh.dp 1 3 ?_
    refine Sh.dp 2 7 ?_
    first | refine D.sum 3 15 rfl D.wantedN (by kernel_rfl) rfl (by constructor <;> omega) ?_ | refine D.sumW 3 15 rfl D.wantedN (by kernel_rfl) rfl ?_
    refine D.pl 4 31 rfl D.wantedN (by kernel_rfl) (R.sinceL rfl rfl rfl (by omega) (by omega)) ?_
    refine Sh.dp 5 63 ?_
    refine Sh.dp 6 127 ?_
    refine D.pl 7 255 rfl D.wantedN (by kernel_rfl) (R.sinceL rfl rfl rfl (by omega) (by omega)) ?_
    refine D.eff 8 511 rfl D.wantedN (by kernel_rfl) (by kernel_rfl) (fun _ _ h => h) ?_
    refine Z.cp (l.length - i) hS rfl rfl rfl (by repeat (first | exact At.here | apply At.next)) (by omega) (rows_mid (rows := (l.drop i).map Wi.cells) (hS.bk) wi_ok (by simp) (Nat.le_refl _) hdi) (by simp only [List.length_append, List.length_take, List.length_drop, hcl2, List.flatten_cons, List.flatten_nil, List.append_nil, Wi.cells, List.length_cons, List.length_nil]; omega) ?_
    clear hS; intro w hS
    refine ⟨HM.s (hS.sb), ?_⟩
    refine D.done (by kernel_rfl) ?_
    repeat' (first|refine K ?_|(refine Sh.sa hS ?_;clear hS;intro w hS)|(refine K3 ?_;clear hS;intro g w hS hge)|((first|refine GS ?_ ?_|refine VB ?_ ?_)<;>intro hb<;>(try simp only [J1,J2,J3,J4,J5,J6] at hb)<;>(try (exfalso;first|omega|exact hb trivial))))
    refine Dnt Tryz.results65 ?_
    refine ⟨_, c', by rw [show (i : Int).toNat + (l.length + 1 - i) = l.length + 1 by omega]; rfl, ?_⟩
    have e2 : ((i : Int) + (1 : Nat)).toNat = i + 1 := by omega
    obtain ⟨h1, h2⟩ := splice_grow (a := ((l.take i).map Wi.cells).flatten) (x := x.cells) (b := ((l.drop i).map Wi.cells).flatten) (A := i * 5) (s := 5) (B := (l.length - i) * 5) (cs := cs2) ht2 hal rfl hbl (by rw [hcl2]; omega)
    have h3 := close_sl (rows := (l.take i ++ x :: l.drop i).map Wi.cells) (c := c') (sz := 5) (cs := (cs2.take (i * 5) ++ x.cells ++ cs2.drop (i * 5 + 5)).take (i * 5 + 5) ++ ((l.drop i).map Wi.cells).flatten ++ (cs2.take (i * 5) ++ x.cells ++ cs2.drop (i * 5 + 5)).drop (i * 5 + 5 + (l.length - i) * 5)) (g := g2) (e := 74) (F := .blk gl 74 x.cells :: F) (r := r) (M := []) (w := w) (by
      have h4 := hS.sub (L' := .blk g2 74 _ :: .blk gl 74 x.cells :: F) (by repeat (first | exact Sub.rest | exact Sub.nil | exact .skip .rest | exact .skip (.skip .rest) | exact .skip (.skip (.skip .rest)) | apply Sub.keep | refine Sub.cons (by repeat (first | exact At.here | apply At.next)) ?_ | apply Sub.skip))
      simp only [List.flatten_cons, List.flatten_nil, List.append_nil, Nat.zero_add, Nat.one_mul, ei, e2, Nat.add_mul] at h4
      exact h4) (by omega) hcm2 (by rw [h2, hcl2]) (by simp; omega) (by rw [List.length_map, hfl, hfin, ← h1]; congr 1; omega) wi_ok
    rw [List.length_map, hfl] at h3
    exact h3
  · -- room
    refine Z.eff (Z.clx (wi_overlaps gl g0 _ _ _ _ _ r _ w (hS.sub (L' := .blk gl 74 x.cells :: .blk g0 74 cs :: F) (by repeat (first | exact Sub.rest | exact Sub.nil | exact .skip .rest | exact .skip (.skip .rest) | exact .skip (.skip (.skip .rest)) | apply Sub.keep | refine Sub.cons (by repeat (first | exact At.here | apply At.next)) ?_ | apply Sub.skip))) (by rw [hcl]; omega)) rfl ?_) rfl
    repeat' (first|refine K ?_|(refine Sh.sa hS ?_;clear hS;intro w hS)|(refine K3 ?_;clear hS;intro g w hS hge)|((first|refine GS ?_ ?_|refine VB ?_ ?_)<;>intro hb<;>(try simp only [J1,J2,J3,J4,J5,J6] at hb)<;>(try (exfalso;first|omega|exact hb trivial))))
    refine D.startS (Lr := ([] : List Res)) (hS.sb) 9 9 (by kernel_rfl) rfl ?_
    replace hS := hS.drew
    refine Sh.dp 0 1 ?_
    refine Sh.dp 1 3 ?_
    refine Sh.dp 2 7 ?_
    first | refine D.sum 3 15 rfl D.wantedN (by kernel_rfl) rfl (by constructor <;> omega) ?_ | refine D.sumW 3 15 rfl D.wantedN (by kernel_rfl) rfl ?_
    refine D.pl 4 31 rfl D.wantedN (by kernel_rfl) (R.sinceL rfl rfl rfl (by omega) (by omega)) ?_
    refine Sh.dp 5 63 ?_
    refine Sh.dp 6 127 ?_
    refine D.pl 7 255 rfl D.wantedN (by kernel_rfl) (R.sinceL rfl rfl rfl (by omega) (by omega)) ?_
    refine D.eff 8 511 rfl D.wantedN (by kernel_rfl) (by kernel_rfl) (fun _ _ h => h) ?_
    refine Z.cp (l.length - i) hS rfl rfl rfl (by repeat (first | exact At.here | apply At.next)) (by omega) (rows_mid (rows := (l.drop i).map Wi.cells) (hS.bk) wi_ok (by simp) (Nat.le_refl _) hdi) (by rw [hcl]; omega) ?_
    clear hS; intro w hS
    refine ⟨HM.s (hS.sb), ?_⟩
    refine D.done (by kernel_rfl) ?_
    repeat' (first|refine K ?_|(refine Sh.sa hS ?_;clear hS;intro w hS)|(refine K3 ?_;clear hS;intro g w hS hge)|((first|refine GS ?_ ?_|refine VB ?_ ?_)<;>intro hb<;>(try simp only [J1,J2,J3,J4,J5,J6] at hb)<;>(try (exfalso;first|omega|exact hb trivial))))
    refine Z.eff (Z.cp 1 hS rfl rfl rfl (by repeat (first | exact At.here | apply At.next)) (by omega) (hS.lit1 (row := x.cells) (by repeat (first | exact At.here | apply At.next)) rfl rfl) (by simp only [List.length_append, List.length_take, List.length_drop, hcl, hbl]; omega) ?_) rfl
    clear hS; intro w hS
    repeat' (first|refine K ?_|(refine Sh.sa hS ?_;clear hS;intro w hS)|(refine K3 ?_;clear hS;intro g w hS hge)|((first|refine GS ?_ ?_|refine VB ?_ ?_)<;>intro hb<;>(try simp only [J1,J2,J3,J4,J5,J6] at hb)<;>(try (exfalso;first|omega|exact hb trivial))))
    refine Dnt Tryz.results65 ?_
    refine ⟨_, c, by rw [show ((l.length : Int) + (1 : Nat)).toNat = l.length + 1 by omega]; rfl, ?_⟩
    have e2 : ((i : Int) + (1 : Nat)).toNat = i + 1 := by omega
    obtain ⟨h1, h2⟩ := splice_room (a := ((l.take i).map Wi.cells).flatten) (x := x.cells) (b := ((l.drop i).map Wi.cells).flatten) (A := i * 5) (s := 5) (B := (l.length - i) * 5) (cs := cs) hta hal rfl hbl (by rw [hcl]; omega)
    have h3 := close_sl (rows := (l.take i ++ x :: l.drop i).map Wi.cells) (c := c) (sz := 5) (cs := (cs.take (i * 5 + 5) ++ ((l.drop i).map Wi.cells).flatten ++ cs.drop (i * 5 + 5 + (l.length - i) * 5)).take (i * 5) ++ x.cells ++ (cs.take (i * 5 + 5) ++ ((l.drop i).map Wi.cells).flatten ++ cs.drop (i * 5 + 5 + (l.length - i) * 5)).drop (i * 5 + 5)) (g := g0) (e := 74) (F := .blk gl 74 x.cells :: F) (r := r) (M := []) (w := w) (by
      have h4 := hS.sub (L' := .blk g0 74 _ :: .blk gl 74 x.cells :: F) (by repeat (first | exact Sub.rest | exact Sub.nil | exact .skip .rest | exact .skip (.skip .rest) | exact .skip (.skip (.skip .rest)) | apply Sub.keep | refine Sub.cons (by repeat (first | exact At.here | apply At.next)) ?_ | apply Sub.skip))
      simp only [List.flatten_cons, List.flatten_nil, List.append_nil, Nat.zero_add, Nat.one_mul, ei, e2, Nat.add_mul] at h4
      exact h4) (by omega) hcm (by rw [h2, hcl]) (by simp; omega) (by rw [List.length_map, hfl, hfin, ← h1]; congr 1; omega) wi_ok
    rw [List.length_map, hfl] at h3
    exact h3

end Go.Proofs.YtiabhlogadboeaaGreat

namespace Go.Proofs.YtiabhlogadboeaaGreat
open Go.RowKit
set_option linter.unusedSimpArgs false
set_option linter.unusedVariables false
attribute [local irreducible] Res.blk Res.sl Res.all Res.ex Res.pure Res.star

/-- The order of windows. -/
def ltW (a b : Wi) : Prop := a.from_ < b.from_ ∨ (a.from_ = b.from_ ∧ (a.epoch < b.epoch ∨ (a.epoch = b.epoch ∧ (a.until_ < b.until_ ∨ (a.until_ = b.until_ ∧ a.version < b.version)))))
def eqK (a b : Wi) : Prop := a.from_ = b.from_ ∧ a.epoch = b.epoch ∧ a.until_ = b.until_ ∧ a.version = b.version
instance (a b : Wi) : Decidable (ltW a b) := by unfold ltW; infer_instance
instance (a b : Wi) : Decidable (eqK a b) := by unfold eqK; infer_instance
def ci3 (a b : Int) : Int := if a < b then -1 else if b < a then 1 else 0
def orL : List Int → Int
  | [] => 0
  | a :: l => if a = 0 then orL l else a
def cmpW (a b : Wi) : Int := orL [ci3 a.from_ b.from_, ci3 a.epoch b.epoch, ci3 a.until_ b.until_, ci3 a.version b.version]
theorem ci3_neg (a b : Int) : ci3 a b < 0 ↔ a < b := by unfold ci3; repeat' split <;> omega
theorem ci3_zero (a b : Int) : ci3 a b = 0 ↔ a = b := by unfold ci3; repeat' split <;> omega
theorem cmpW_neg (a b : Wi) : cmpW a b < 0 ↔ ltW a b := by
  simp only [cmpW, orL, ltW]
  have h1 := ci3_neg a.from_ b.from_
  have h2 := ci3_zero a.from_ b.from_
  have h3 := ci3_neg a.epoch b.epoch
  have h4 := ci3_zero a.epoch b.epoch
  have h5 := ci3_neg a.until_ b.until_
  have h6 := ci3_zero a.until_ b.until_
  have h7 := ci3_neg a.version b.version
  repeat' split
  all_goals omega
theorem cmpW_zero (a b : Wi) : cmpW a b = 0 ↔ eqK a b := by
  simp only [cmpW, orL, eqK]
  have h2 := ci3_zero a.from_ b.from_
  have h4 := ci3_zero a.epoch b.epoch
  have h6 := ci3_zero a.until_ b.until_
  have h7 := ci3_zero a.version b.version
  repeat' split
  all_goals omega
theorem ltW_trans {a b c : Wi} (h : ltW a b) (k : ltW b c) : ltW a c := by unfold ltW at *; omega
theorem ltW_irrefl (a : Wi) : ¬ ltW a a := by unfold ltW; omega
theorem ltW_or {a b : Wi} (h : ¬ ltW a b) : eqK a b ∨ ltW b a := by unfold ltW eqK at *; omega
theorem eqK_eq {a b : Wi} (h : eqK a b) (hc : a.cell = b.cell) : a = b := by
  cases a; cases b; unfold eqK at h; simp_all
/-- A window that a gate takes. -/
def okW (x : Wi) : Prop := 1 ≤ x.epoch ∧ x.epoch ≤ 1048576 ∧ 0 ≤ x.version ∧ x.version < 30 ∧ 0 ≤ x.from_ ∧ x.from_ ≤ 1073741824 ∧ x.from_ < x.until_ ∧ x.until_ ≤ 1073743824
instance (a : Wi) : Decidable (okW a) := by unfold okW; infer_instance

/-- A gate: its cell, the greatest epoch that was closed, its windows. -/
structure Ga where
  cell : Int
  closed : Int
  ws : List Wi
def GP (g : Nat) (G : Ga) : Res := .ex fun A => .ex fun c => .all [.blk g 103 [.int .i64 G.cell, .int .i64 G.closed, .slice A G.ws.length c], .sl 74 5 (.slice A G.ws.length c) (G.ws.map Wi.cells)]
def GR (g : Nat) (G : Ga) : Res := .ex fun A => .ex fun c => .all [.blk g 47 [.int .i64 G.cell, .int .i64 G.closed, .slice A G.ws.length c], .sl 74 5 (.slice A G.ws.length c) (G.ws.map Wi.cells)]
section
variable {r w : World} {M : List Nat} {F : List Res} {g : Nat} {G : Ga}
theorem Sep.GP_open : Sep r M (GP g G :: F) w ↔ ∃ A c, Sep r M (.blk g 103 [.int .i64 G.cell, .int .i64 G.closed, .slice A G.ws.length c] :: .sl 74 5 (.slice A G.ws.length c) (G.ws.map Wi.cells) :: F) w := by
  simp only [GP, Sep.ex_open, Sep.all_open, List.cons_append, List.nil_append]
theorem Sep.GR_open : Sep r M (GR g G :: F) w ↔ ∃ A c, Sep r M (.blk g 47 [.int .i64 G.cell, .int .i64 G.closed, .slice A G.ws.length c] :: .sl 74 5 (.slice A G.ws.length c) (G.ws.map Wi.cells) :: F) w := by
  simp only [GR, Sep.ex_open, Sep.all_open, List.cons_append, List.nil_append]
end

theorem isnan_z (a : Int) (r : World) (F : List Res) (w : World) (hS : Sep r [] F w) : Calls Tryz.prog 144 #[.int .i64 a] w fun e w' => e = .returned (.bool false) ∧ Sep r [] F w' := by
  refine Z.enter Tryz.func144 Tryz.ntmps144 rfl rfl ?_
  repeat' (first|refine K ?_|(refine Sh.sa hS ?_;clear hS;intro w hS)|(refine K3 ?_;clear hS;intro g w hS hge)|((first|refine GS ?_ ?_|refine VB ?_ ?_)<;>intro hb<;>(try simp only [J1,J2,J3,J4,J5,J6] at hb)<;>(try (exfalso;first|omega|exact hb trivial))))
  refine Dnt Tryz.results144 ?_
  exact ⟨by simp [Z.packR], hS⟩
theorem ci3_z (a b : Int) (r : World) (F : List Res) (w : World) (hS : Sep r [] F w) : Calls Tryz.prog 106 #[.int .i64 a, .int .i64 b] w fun e w' => e = .returned (.int .i64 (ci3 a b)) ∧ Sep r [] F w' := by
  refine Z.enter Tryz.func106 Tryz.ntmps106 rfl rfl ?_
  repeat' (first|refine K ?_|(refine Sh.sa hS ?_;clear hS;intro w hS)|(refine K3 ?_;clear hS;intro g w hS hge)|((first|refine GS ?_ ?_|refine VB ?_ ?_)<;>intro hb<;>(try simp only [J1,J2,J3,J4,J5,J6] at hb)<;>(try (exfalso;first|omega|exact hb trivial))))
  refine Z.eff (Z.cl (isnan_z _ _ _ _ hS) rfl ?_) rfl
  clear hS
  rintro e w ⟨rfl, hS⟩
  refine ⟨_, rfl, ?_⟩
  repeat' (first|refine K ?_|(refine Sh.sa hS ?_;clear hS;intro w hS)|(refine K3 ?_;clear hS;intro g w hS hge)|((first|refine GS ?_ ?_|refine VB ?_ ?_)<;>intro hb<;>(try simp only [J1,J2,J3,J4,J5,J6] at hb)<;>(try (exfalso;first|omega|exact hb trivial))))
  refine Z.eff (Z.cl (isnan_z _ _ _ _ hS) rfl ?_) rfl
  clear hS
  rintro e w ⟨rfl, hS⟩
  refine ⟨_, rfl, ?_⟩
  repeat' (first|refine K ?_|(refine Sh.sa hS ?_;clear hS;intro w hS)|(refine K3 ?_;clear hS;intro g w hS hge)|((first|refine GS ?_ ?_|refine VB ?_ ?_)<;>intro hb<;>(try simp only [J1,J2,J3,J4,J5,J6] at hb)<;>(try (exfalso;first|omega|exact hb trivial))))
  · refine Dnt Tryz.results106 ?_
    exact ⟨by simp [Z.packR, ci3, hb], hS⟩
  · refine Dnt Tryz.results106 ?_
    have h1 : ¬ a < b := by omega
    exact ⟨by simp [Z.packR, ci3, hb, h1], hS⟩
  · refine Dnt Tryz.results106 ?_
    have h1 : ¬ a < b := by omega
    have h2 : ¬ b < a := by omega
    exact ⟨by simp [Z.packR, ci3, h1, h2], hS⟩
theorem orL_drop {l : List Int} {q : Nat} (hq : q < l.length) : orL (l.drop q) = if l[q] = 0 then orL (l.drop (q + 1)) else l[q] := by rw [List.drop_eq_getElem_cons hq]; rfl
set_option maxHeartbeats 1000000 in
theorem orL_z (l : List Int) (v : Value) (r : World) (F : List Res) (w : World) (hS : Sep r [] F w) (hrd : Reads r F 1 v (l.map intC)) (hl : l.length ≤ 1000) :
    Calls Tryz.prog 105 #[v] w fun e w' => e = .returned (.int .i64 (orL l)) ∧ Sep r [] F w' := by
  obtain ⟨A, c, rfl, hc⟩ := (hrd [] w hS).mform
  refine Z.enter Tryz.func105 Tryz.ntmps105 rfl rfl ?_
  repeat' (first|refine K ?_|(refine Sh.sa hS ?_;clear hS;intro w hS)|(refine K3 ?_;clear hS;intro g w hS hge)|((first|refine GS ?_ ?_|refine VB ?_ ?_)<;>intro hb<;>(try simp only [J1,J2,J3,J4,J5,J6] at hb)<;>(try (exfalso;first|omega|exact hb trivial))))
  refine Z.lpS [2, 5, 8, 9, 10, 11, 12, 13, 14, 15, 16] (fun m w s => ∃ q : Nat, s = [(8, .int .i64 q)] ∧ q ≤ l.length ∧ orL l = orL (l.drop q) ∧ m = l.length - q ∧ Sep r [] F w) _ [(8, .int .i64 (0 : Nat))] (by repeat (first | exact trivial | refine ⟨rfl, ?_⟩)) ⟨0, rfl, by omega, by simp, rfl, hS⟩ ?_
  clear hS
  rintro m f0 w _ ⟨q, rfl, hq, ho, rfl, hS⟩
  by_cases hlt : q < l.length
  · obtain ⟨gb, o, rfl, _, hra⟩ := (hrd [] w hS).mat (by omega) hlt
    have hd := orL_drop hlt
    repeat' (first|refine K ?_|(refine Sh.sa hS ?_;clear hS;intro w hS)|(refine K3 ?_;clear hS;intro g w hS hge)|((first|refine GS ?_ ?_|refine VB ?_ ?_)<;>intro hb<;>(try simp only [J1,J2,J3,J4,J5,J6] at hb)<;>(try (exfalso;first|omega|exact hb trivial))))
    · refine Dnt Tryz.results105 ?_
      rw [if_neg hb] at hd
      exact ⟨by rw [ho, hd]; rfl, hS⟩
    · refine Sh.again (l.length - (q + 1)) [(8, .int .i64 (q + 1 : Nat))] ?_
      rw [if_pos (by omega)] at hd
      exact ⟨q + 1, rfl, by omega, by rw [ho, hd], rfl, hS⟩
  · repeat' (first|refine K ?_|(refine Sh.sa hS ?_;clear hS;intro w hS)|(refine K3 ?_;clear hS;intro g w hS hge)|((first|refine GS ?_ ?_|refine VB ?_ ?_)<;>intro hb<;>(try simp only [J1,J2,J3,J4,J5,J6] at hb)<;>(try (exfalso;first|omega|exact hb trivial))))
    refine Dnt Tryz.results105 ?_
    rw [ho, List.drop_eq_nil_of_le (by omega)]
    exact ⟨rfl, hS⟩
set_option maxHeartbeats 1000000 in
theorem cmpW_z (a b : Wi) (r : World) (F : List Res) (w : World) (hS : Sep r [] F w) : Calls Tryz.prog 64 #[a.val, b.val] w fun e w' => e = .returned (.int .i64 (cmpW a b)) ∧ Sep r [] F w' := by
  refine Z.enter Tryz.func64 Tryz.ntmps64 rfl rfl ?_
  repeat' (first|refine K ?_|(refine Sh.sa hS ?_;clear hS;intro w hS)|(refine K3 ?_;clear hS;intro g w hS hge)|((first|refine GS ?_ ?_|refine VB ?_ ?_)<;>intro hb<;>(try simp only [J1,J2,J3,J4,J5,J6] at hb)<;>(try (exfalso;first|omega|exact hb trivial))))
  rename_i ga _ _
  rename Nat => gb
  refine D.startS (Lr := [.blk ga 74 a.cells, .blk gb 74 b.cells]) (hS.sb) 23 23 (by kernel_rfl) rfl ?_
  replace hS := hS.drew
  refine Sh.dp 0 1 ?_
  refine Sh.dp 2 5 ?_
  refine Sh.dp 5 37 ?_
  refine Sh.dp 7 165 ?_
  refine Sh.dp 10 1189 ?_
  refine Sh.dp 12 5285 ?_
  refine Sh.dp 15 38053 ?_
  refine Sh.dp 17 169125 ?_
  refine Sh.dl 1 169127 ?_
  refine Sh.dl 3 169135 ?_
  refine Sh.dl 6 169199 ?_
  refine Sh.dl 8 169455 ?_
  refine Sh.dl 11 171503 ?_
  refine Sh.dl 13 179695 ?_
  refine Sh.dl 16 245231 ?_
  refine Sh.dl 18 507375 ?_
  refine D.eff 4 507391 rfl D.wantedN (by kernel_rfl) (by kernel_rfl) (fun _ _ h => h) ?_
  refine Z.cl (ci3_z _ _ _ _ _ hS) rfl ?_
  clear hS
  rintro e w ⟨rfl, hS⟩
  refine ⟨_, rfl, ?_⟩
  refine ⟨HM.s (hS.sb), ?_⟩
  refine D.eff 9 507903 rfl D.wantedN (by kernel_rfl) (by kernel_rfl) (fun _ _ h => h) ?_
  refine Z.cl (ci3_z _ _ _ _ _ hS) rfl ?_
  clear hS
  rintro e w ⟨rfl, hS⟩
  refine ⟨_, rfl, ?_⟩
  refine ⟨HM.s (hS.sb), ?_⟩
  refine D.eff 14 524287 rfl D.wantedN (by kernel_rfl) (by kernel_rfl) (fun _ _ h => h) ?_
  refine Z.cl (ci3_z _ _ _ _ _ hS) rfl ?_
  clear hS
  rintro e w ⟨rfl, hS⟩
  refine ⟨_, rfl, ?_⟩
  refine ⟨HM.s (hS.sb), ?_⟩
  refine D.eff 19 1048575 rfl D.wantedN (by kernel_rfl) (by kernel_rfl) (fun _ _ h => h) ?_
  refine Z.cl (ci3_z _ _ _ _ _ hS) rfl ?_
  clear hS
  rintro e w ⟨rfl, hS⟩
  refine ⟨_, rfl, ?_⟩
  refine ⟨HM.s (hS.sb), ?_⟩
  refine D.eff 20 2097151 rfl D.wantedN (by kernel_rfl) (by kernel_rfl) (fun _ _ h => h) ?_
  refine Z.bs hS rfl rfl rfl ?_
  clear hS; intro g w hS hge
  refine ⟨HM.s (hS.sb), ?_⟩
  refine D.eff 21 4194303 rfl D.wantedN (by kernel_rfl) (by kernel_rfl) (fun _ _ h => h) ?_
  replace hS := mk_sl (sz := 1) (n := 4) (rows := [ci3 a.from_ b.from_, ci3 a.epoch b.epoch, ci3 a.until_ b.until_, ci3 a.version b.version].map intC) hS rfl (by omega) (by decide) (fun row hr => by obtain ⟨z, _, rfl⟩ := List.mem_map.1 hr; exact ⟨rfl, by simp [intC, Value.oneCell']⟩) rfl
  refine Z.cl (orL_z _ _ _ _ _ hS (Reads.of_at (by repeat (first | exact At.here | apply At.next))) (by simp)) rfl ?_
  clear hS
  rintro e w ⟨rfl, hS⟩
  refine ⟨_, rfl, ?_⟩
  refine ⟨HM.s (hS.sb), ?_⟩
  refine Sh.dp 22 8388607 ?_
  refine D.done (by kernel_rfl) ?_
  repeat' (first|refine K ?_|(refine Sh.sa hS ?_;clear hS;intro w hS)|(refine K3 ?_;clear hS;intro g w hS hge)|((first|refine GS ?_ ?_|refine VB ?_ ?_)<;>intro hb<;>(try simp only [J1,J2,J3,J4,J5,J6] at hb)<;>(try (exfalso;first|omega|exact hb trivial))))
  refine Dnt Tryz.results64 ?_
  exact ⟨rfl, hS.sb⟩

/-- Where a window stands, or would stand. -/
structure Spot (ws : List Wi) (x : Wi) (i : Nat) : Prop where
  le : i ≤ ws.length
  lo : ∀ j (hj : j < ws.length), j < i → ltW ws[j] x
  hi : ∀ j (hj : j < ws.length), i ≤ j → ¬ ltW ws[j] x
theorem sorted_at {ws : List Wi} (h : ws.Pairwise ltW) {i j : Nat} (hj : j < ws.length) (hij : i < j) : ltW (ws[i]'(by omega)) ws[j] := List.pairwise_iff_getElem.1 h i j (by omega) hj hij
theorem wrap_small (k : IntKind) (hk : k = .i64 ∨ k = .u64) {a : Int} (h0 : 0 ≤ a) (h1 : a ≤ 9223372036854775807) : k.wrap a = a := by
  rcases hk with rfl | rfl
  · exact IntWalk.i64_in _ (by omega)
  · simp [IntKind.wrap, IntKind.signed, IntKind.bits]
    omega
set_option maxHeartbeats 2000000 in
theorem search_z (ws : List Wi) (x : Wi) (v : Value) (r : World) (F : List Res) (w : World) (hS : Sep r [] F w) (hrd : Reads r F 5 v (ws.map Wi.cells)) (hl : ws.length ≤ 100000) (hs : ws.Pairwise ltW) :
    Calls Tryz.prog 63 #[v, x.val, .func (.func 64) #[] #[]] w fun e w' => ∃ (i : Nat) (b : Bool), e = .returned (.tuple #[.int .i64 i, .bool b]) ∧ Spot ws x i ∧ (b = true ↔ ∃ hi : i < ws.length, eqK ws[i] x) ∧ Sep r [] F w' := by
  obtain ⟨A, c, rfl, hc⟩ := (hrd [] w hS).mform
  refine Z.enter Tryz.func63 Tryz.ntmps63 rfl rfl ?_
  repeat' (first|refine K ?_|(refine Sh.sa hS ?_;clear hS;intro w hS)|(refine K3 ?_;clear hS;intro g w hS hge)|((first|refine GS ?_ ?_|refine VB ?_ ?_)<;>intro hb<;>(try simp only [J1,J2,J3,J4,J5,J6] at hb)<;>(try (exfalso;first|omega|exact hb trivial))))
  rename Nat => gx
  refine Z.lpS [9, 10, 11, 15, 16, 17, 18, 19, 20, 21, 22, 23, 24, 25, 26, 27, 28, 29, 30, 31, 32, 33, 34] (fun m w s => ∃ i j : Nat, s = [(9, .int .i64 i), (10, .int .i64 j)] ∧ i ≤ j ∧ j ≤ ws.length ∧ (∀ k (hk : k < ws.length), k < i → ltW ws[k] x) ∧ (∀ k (hk : k < ws.length), j ≤ k → ¬ ltW ws[k] x) ∧ m = j - i ∧ Sep r [] (.blk gx 74 x.cells :: F) w) _ [(9, .int .i64 (0 : Nat)), (10, .int .i64 (ws.length : Nat))] (by repeat (first | exact trivial | refine ⟨rfl, ?_⟩)) ⟨0, ws.length, rfl, by omega, by omega, by intro k _ h; omega, by intro k _ h; omega, rfl, hS⟩ ?_
  clear hS
  rintro m f0 w _ ⟨i, j, rfl, hij, hj, hlo, hhi, rfl, hS⟩
  by_cases hlt : i < j
  · have hm : (i + j) / 2 < ws.length := by omega
    obtain ⟨gb, o, rfl, _, _⟩ := (hrd [_] w hS).mat (by omega) hm
    have hra : ∀ W, Sep r [] (.blk gx 74 x.cells :: F) W → W.rangeAt gb (o + ((i + j) / 2) * 5) ws[(i + j) / 2].cells := fun W h => (hrd [_] W h).elem (by omega) hm
    have ew : IntKind.u64.wrap ((i : Int) + j) = (i : Int) + j := wrap_small _ (.inr rfl) (by omega) (by omega)
    have ew2 : IntKind.i64.wrap (((i : Int) + j) / 2) = (((i + j) / 2 : Nat) : Int) := by rw [wrap_small _ (.inl rfl) (by omega) (by omega)]; rfl
    repeat' (first|refine K ?_|(refine Sh.sa hS ?_;clear hS;intro w hS)|(refine K3 ?_;clear hS;intro g w hS hge)|((first|refine GS ?_ ?_|refine VB ?_ ?_)<;>intro hb<;>(try simp only [J1,J2,J3,J4,J5,J6] at hb)<;>(try (exfalso;first|omega|exact hb trivial))))
    refine Z.pl (R.cvt rfl Tryz.underlying3 Tryz.underlying157) ?_
    rw [ew]
    refine Z.pl (R.shr1 rfl rfl (by decide)) ?_
    refine Z.pl (R.cvt rfl Tryz.underlying157 Tryz.underlying3) ?_
    rw [ew2]
    repeat' (first|refine K ?_|(refine Sh.sa hS ?_;clear hS;intro w hS)|(refine K3 ?_;clear hS;intro g w hS hge)|((first|refine GS ?_ ?_|refine VB ?_ ?_)<;>intro hb<;>(try simp only [J1,J2,J3,J4,J5,J6] at hb)<;>(try (exfalso;first|omega|exact hb trivial))))
    generalize hmid : (i + j) / 2 = mid at *
    refine D.startS hS 8 8 (by kernel_rfl) rfl ?_
    replace hS := hS.drew
    refine Sh.dp 0 1 ?_
    refine Sh.dp 1 3 ?_
    refine Sh.dp 2 7 ?_
    first | refine D.ixn 3 15 rfl D.wantedN (by kernel_rfl) rfl rfl rfl (by omega) ?_ | refine D.ix 3 15 rfl D.wantedN (by kernel_rfl) rfl rfl rfl (by omega) ?_ | refine D.ia 3 15 rfl D.wantedN (by kernel_rfl) rfl rfl rfl (by omega) ?_
    refine D.ldR 4 31 rfl D.wantedN (by kernel_rfl) rfl hra rfl ?_
    refine Sh.dl 5 63 ?_
    refine D.eff 6 127 rfl D.wantedN (by kernel_rfl) (by kernel_rfl) (fun _ _ h => h) ?_
    refine Z.clf (caps := []) rfl (cmpW_z ws[mid] x _ _ _ hS) rfl ?_
    clear hS
    rintro e w ⟨rfl, hS⟩
    refine ⟨_, rfl, ?_⟩
    refine ⟨HM.s (hS.sb), ?_⟩
    refine Sh.dp 7 255 ?_
    refine D.done (by kernel_rfl) ?_
    have hneg := cmpW_neg ws[mid] x
    repeat' (first|refine K ?_|(refine Sh.sa hS ?_;clear hS;intro w hS)|(refine K3 ?_;clear hS;intro g w hS hge)|((first|refine GS ?_ ?_|refine VB ?_ ?_)<;>intro hb<;>(try simp only [J1,J2,J3,J4,J5,J6] at hb)<;>(try (exfalso;first|omega|exact hb trivial))))
    · refine Sh.again (j - (mid + 1)) [(9, .int .i64 (mid + 1 : Nat)), (10, .int .i64 (j : Nat))] ?_
      refine ⟨mid + 1, j, rfl, by omega, hj, fun k hk hki => ?_, hhi, rfl, hS⟩
      have hx := hneg.1 hb
      rcases Nat.lt_or_ge k mid with h1 | h1
      · exact ltW_trans (sorted_at hs hm h1) hx
      · have : k = mid := by omega
        subst this
        exact hx
    · refine Sh.again (mid - i) [(9, .int .i64 (i : Nat)), (10, .int .i64 (mid : Nat))] ?_
      refine ⟨i, mid, rfl, by omega, by omega, hlo, fun k hk hki => ?_, rfl, hS⟩
      have hx : ¬ ltW ws[mid] x := fun h => by have := hneg.2 h; omega
      rcases Nat.lt_or_ge mid k with h1 | h1
      · exact fun h => hx (ltW_trans (sorted_at hs hk h1) h)
      · have : k = mid := by omega
        subst this
        exact hx
  · have hij' : i = j := by omega
    subst hij'
    repeat' (first|refine K ?_|(refine Sh.sa hS ?_;clear hS;intro w hS)|(refine K3 ?_;clear hS;intro g w hS hge)|((first|refine GS ?_ ?_|refine VB ?_ ?_)<;>intro hb<;>(try simp only [J1,J2,J3,J4,J5,J6] at hb)<;>(try (exfalso;first|omega|exact hb trivial))))
    by_cases hin : i < ws.length
    · obtain ⟨gb, o, rfl, _, _⟩ := (hrd [_] w hS).mat (by omega) hin
      have hra : ∀ W, Sep r [] (.blk gx 74 x.cells :: F) W → W.rangeAt gb (o + i * 5) ws[i].cells := fun W h => (hrd [_] W h).elem (by omega) hin
      refine D.startS hS 16 16 (by kernel_rfl) rfl ?_
      replace hS := hS.drew
      refine Sh.dp 0 1 ?_
      refine Sh.dp 1 3 ?_
      refine Sh.dp 2 7 ?_
      refine Sh.dp 3 15 ?_
      refine Sh.dp 4 31 ?_
      refine D.slot 39 rfl (fun hb => ?_) (fun hb => by exfalso; (try simp only [decide_eq_true_eq, decide_eq_false_iff_not, Bool.not_eq_true', Bool.not_eq_false', Int.not_lt, Int.not_le] at hb) <;> first | omega | exact hb trivial | cases hb | simp at hb)
      (try simp only [decide_eq_true_eq, decide_eq_false_iff_not, Bool.not_eq_true', Bool.not_eq_false', Int.not_lt, Int.not_le] at hb)
      refine Sh.dp 5 63 ?_
      refine Sh.dp 6 127 ?_
      refine Sh.dp 7 255 ?_
      first | refine D.ixn 8 511 rfl (D.wantedT rfl rfl) (by kernel_rfl) rfl rfl rfl (by omega) ?_ | refine D.ix 8 511 rfl (D.wantedT rfl rfl) (by kernel_rfl) rfl rfl rfl (by omega) ?_ | refine D.ia 8 511 rfl (D.wantedT rfl rfl) (by kernel_rfl) rfl rfl rfl (by omega) ?_
      refine D.ldR 9 1023 rfl (D.wantedT rfl rfl) (by kernel_rfl) rfl hra rfl ?_
      refine Sh.dl 10 2047 ?_
      refine D.eff 11 4095 rfl (D.wantedT rfl rfl) (by kernel_rfl) (by kernel_rfl) (fun _ _ h => h) ?_
      refine WE.guard ?_
      refine Z.clf (caps := []) rfl (cmpW_z ws[i] x _ _ _ hS) rfl ?_
      clear hS
      rintro e w ⟨rfl, hS⟩
      refine ⟨_, rfl, ?_⟩
      refine ⟨HM.s (hS.sb), ?_⟩
      first | refine D.pr 12 8191 rfl (D.wantedT rfl rfl) (by kernel_rfl) rfl ?_ | refine D.pl 12 8191 rfl (D.wantedT rfl rfl) (by kernel_rfl) (R.eqa rfl rfl rfl rfl) ?_
      refine Sh.dp 13 16383 ?_
      refine Sh.dp 14 32767 ?_
      refine Sh.dp 15 65535 ?_
      refine D.done (by kernel_rfl) ?_
      repeat' (first|refine K ?_|(refine Sh.sa hS ?_;clear hS;intro w hS)|(refine K3 ?_;clear hS;intro g w hS hge)|((first|refine GS ?_ ?_|refine VB ?_ ?_)<;>intro hb<;>(try simp only [J1,J2,J3,J4,J5,J6] at hb)<;>(try (exfalso;first|omega|exact hb trivial))))
      refine Dntt Tryz.results63 ?_
      refine ⟨i, decide (cmpW ws[i] x = 0), by simp [Z.packR, hin], ⟨by omega, hlo, hhi⟩, ?_, hS.sb⟩
      rw [decide_eq_true_eq, cmpW_zero]
      exact ⟨fun h => ⟨hin, h⟩, fun ⟨_, h⟩ => h⟩
    · refine D.startS hS 16 16 (by kernel_rfl) rfl ?_
      replace hS := hS.drew
      refine Sh.dp 0 1 ?_
      refine Sh.dp 1 3 ?_
      refine Sh.dp 2 7 ?_
      refine Sh.dp 3 15 ?_
      refine Sh.dp 4 31 ?_
      refine D.slot 39 rfl (fun hb => by exfalso; (try simp only [decide_eq_true_eq, decide_eq_false_iff_not, Bool.not_eq_true', Bool.not_eq_false', Int.not_lt, Int.not_le] at hb) <;> first | omega | exact hb trivial | cases hb | simp at hb) (fun hb => ?_)
      (try simp only [decide_eq_true_eq, decide_eq_false_iff_not, Bool.not_eq_true', Bool.not_eq_false', Int.not_lt, Int.not_le] at hb)
      refine D.skF 5 63 rfl (by kernel_rfl) rfl rfl ?_
      refine D.skF 6 127 rfl (by kernel_rfl) rfl rfl ?_
      refine D.skF 7 255 rfl (by kernel_rfl) rfl rfl ?_
      refine D.skF 8 511 rfl (by kernel_rfl) rfl rfl ?_
      refine D.skF 9 1023 rfl (by kernel_rfl) rfl rfl ?_
      refine D.skF 10 2047 rfl (by kernel_rfl) rfl rfl ?_
      refine D.skF 11 4095 rfl (by kernel_rfl) rfl rfl ?_
      refine D.skF 12 8191 rfl (by kernel_rfl) rfl rfl ?_
      refine Sh.dp 13 16383 ?_
      refine Sh.dp 14 32767 ?_
      refine Sh.dp 15 65535 ?_
      refine D.done (by kernel_rfl) ?_
      repeat' (first|refine K ?_|(refine Sh.sa hS ?_;clear hS;intro w hS)|(refine K3 ?_;clear hS;intro g w hS hge)|((first|refine GS ?_ ?_|refine VB ?_ ?_)<;>intro hb<;>(try simp only [J1,J2,J3,J4,J5,J6] at hb)<;>(try (exfalso;first|omega|exact hb trivial))))
      refine Dntt Tryz.results63 ?_
      exact ⟨i, false, by simp [Z.packR, hin], ⟨by omega, hlo, hhi⟩, by simp [hin], hS.sb⟩

theorem gnew_z (cell : Int) (r : World) (F : List Res) (w : World) (hS : Sep r [] F w) : Calls Tryz.prog 92 #[.int .i64 cell] w fun e w' => ∃ g, e = .returned (.pointer (some ⟨g, 0, none⟩)) ∧ Sep r [] (GP g ⟨cell, 0, []⟩ :: F) w' := by
  refine Z.enter Tryz.func92 Tryz.ntmps92 rfl rfl ?_
  repeat' (first|refine K ?_|(refine Sh.sa hS ?_;clear hS;intro w hS)|(refine K3 ?_;clear hS;intro g w hS hge)|((first|refine GS ?_ ?_|refine VB ?_ ?_)<;>intro hb<;>(try simp only [J1,J2,J3,J4,J5,J6] at hb)<;>(try (exfalso;first|omega|exact hb trivial))))
  refine Dnt Tryz.results92 ?_
  exact ⟨_, rfl, Sep.GP_open.2 ⟨none, 0, (Z.nilsl hS 74 5 none).sub (by repeat (first | exact Sub.rest | exact Sub.nil | exact .skip .rest | exact .skip (.skip .rest) | exact .skip (.skip (.skip .rest)) | apply Sub.keep | refine Sub.cons (by repeat (first | exact At.here | apply At.next)) ?_ | apply Sub.skip))⟩⟩
theorem gclosed_z (g : Nat) (G : Ga) (r : World) (F : List Res) (w : World) (hS : Sep r [] (GP g G :: F) w) : Calls Tryz.prog 15 #[.pointer (some ⟨g, 0, none⟩)] w fun e w' => e = .returned (.int .i64 G.closed) ∧ Sep r [] (GP g G :: F) w' := by
  obtain ⟨A, c, hS⟩ := Sep.GP_open.1 hS
  refine Z.enter Tryz.func15 Tryz.ntmps15 rfl rfl ?_
  repeat' (first|refine K ?_|(refine Sh.sa hS ?_;clear hS;intro w hS)|(refine K3 ?_;clear hS;intro g w hS hge)|((first|refine GS ?_ ?_|refine VB ?_ ?_)<;>intro hb<;>(try simp only [J1,J2,J3,J4,J5,J6] at hb)<;>(try (exfalso;first|omega|exact hb trivial))))
  refine Dnt Tryz.results15 ?_
  exact ⟨rfl, Sep.GP_open.2 ⟨_, _, hS⟩⟩
end Go.Proofs.YtiabhlogadboeaaGreat

namespace Go.Proofs.YtiabhlogadboeaaGreat
open Go.RowKit
set_option linter.unusedSimpArgs false
set_option linter.unusedVariables false
attribute [local irreducible] Res.blk Res.sl Res.all Res.ex Res.pure Res.star

/-- What the windows say of a tick: the greatest epoch. -/
def accs (ws : List Wi) (v t e : Int) : Int := ws.foldl (fun e x => if x.version = v ∧ x.from_ ≤ t ∧ t < x.until_ then max e x.epoch else e) e
def insB (x : Wi) : List Wi → List Wi
  | [] => [x]
  | y :: l => if ltW y x then y :: insB x l else x :: y :: l
def winsOf (closed : Int) (L out : List Wi) : List Wi := L.foldl (fun out x => if x.epoch ≤ closed then out else insB x out) out
theorem insB_at {x : Wi} : ∀ {l : List Wi} {i : Nat}, i ≤ l.length → (∀ j (hj : j < l.length), j < i → ltW l[j] x) → (∀ hi : i < l.length, ¬ ltW l[i] x) → insB x l = l.take i ++ x :: l.drop i
  | [], i, hi, _, _ => by simp at hi; subst hi; rfl
  | y :: l, 0, _, _, h2 => by
    have := h2 (by simp)
    simp only [List.getElem_cons_zero] at this
    simp [insB, this]
  | y :: l, i + 1, hi, h1, h2 => by
    have h0 := h1 0 (by simp) (by omega)
    simp only [List.getElem_cons_zero] at h0
    have := insB_at (x := x) (l := l) (i := i) (by simpa using hi) (fun j hj hji => by have := h1 (j + 1) (by simpa using hj) (by omega); simpa using this) (fun hi' => by have := h2 (by simpa using hi'); simpa using this)
    simp [insB, h0, this]

set_option maxHeartbeats 1000000 in
theorem gvalid_z (x : Wi) (r : World) (F : List Res) (w : World) (hS : Sep r [] F w) : Calls Tryz.prog 62 #[x.val] w fun e w' => e = .returned (.bool (decide (okW x))) ∧ Sep r [] F w' := by
  refine Z.enter Tryz.func62 Tryz.ntmps62 rfl rfl ?_
  repeat' (first|refine K ?_|(refine Sh.sa hS ?_;clear hS;intro w hS)|(refine K3 ?_;clear hS;intro g w hS hge)|((first|refine GS ?_ ?_|refine VB ?_ ?_)<;>intro hb<;>(try simp only [J1,J2,J3,J4,J5,J6] at hb)<;>(try (exfalso;first|omega|exact hb trivial))))
  all_goals
    refine Dnt Tryz.results62 ?_
    refine ⟨?_, hS.sb⟩
    simp only [Z.packR]
    congr 2
    first
      | (rw [eq_comm, decide_eq_false_iff_not]; unfold okW; omega)
      | (rw [decide_eq_decide]; unfold okW; omega)
theorem rclose_z (g : Nat) (G : Ga) (n : Int) (r : World) (F : List Res) (w : World) (hS : Sep r [] (GR g G :: F) w) : Calls Tryz.prog 44 #[.pointer (some ⟨g, 0, none⟩), .int .i64 n] w fun e w' =>
    (¬ (1 ≤ n ∧ n ≤ 1048576) ∧ e = .returned (.int .i64 1) ∧ Sep r [] (GR g G :: F) w') ∨ ((1 ≤ n ∧ n ≤ 1048576) ∧ e = .returned (.int .i64 0) ∧ Sep r [] (GR g ⟨G.cell, max G.closed n, G.ws⟩ :: F) w') := by
  obtain ⟨A, c, hS⟩ := Sep.GR_open.1 hS
  refine Z.enter Tryz.func44 Tryz.ntmps44 rfl rfl ?_
  repeat' (first|refine K ?_|(refine Sh.sa hS ?_;clear hS;intro w hS)|(refine K3 ?_;clear hS;intro g w hS hge)|((first|refine GS ?_ ?_|refine VB ?_ ?_)<;>intro hb<;>(try simp only [J1,J2,J3,J4,J5,J6] at hb)<;>(try (exfalso;first|omega|exact hb trivial))))
  · refine Dnt Tryz.results44 ?_
    exact .inl ⟨by omega, rfl, Sep.GR_open.2 ⟨_, _, hS⟩⟩
  · refine Dnt Tryz.results44 ?_
    exact .inl ⟨by omega, rfl, Sep.GR_open.2 ⟨_, _, hS⟩⟩
  · refine Dnt Tryz.results44 ?_
    exact .inr ⟨by omega, rfl, Sep.GR_open.2 ⟨A, c, hS.sb⟩⟩
/-- What the reference makes of a window. -/
def giveR (G : Ga) (x : Wi) : Ga × Int := if okW x then if x.cell = G.cell then if x.epoch ≤ G.closed then (G, 7) else (⟨G.cell, G.closed, if x ∈ G.ws then G.ws else G.ws ++ [x]⟩, 0) else (G, 5) else (G, 1)
end Go.Proofs.YtiabhlogadboeaaGreat

namespace Go.Proofs.YtiabhlogadboeaaGreat
open Go.RowKit
set_option linter.unusedSimpArgs false
set_option linter.unusedVariables false
attribute [local irreducible] Res.blk Res.sl Res.all Res.ex Res.pure Res.star

def untl (ws : List Wi) (v u : Int) : Int := ws.foldl (fun u x => if x.version = v ∧ x.from_ ≤ u then max u x.until_ else u) u
theorem accs_take {ws : List Wi} {v t e : Int} {q : Nat} (hq : q < ws.length) : accs (ws.take (q + 1)) v t e = if ws[q].version = v ∧ ws[q].from_ ≤ t ∧ t < ws[q].until_ then max (accs (ws.take q) v t e) ws[q].epoch else accs (ws.take q) v t e := by
  rw [List.take_succ_eq_append_getElem hq]; unfold accs; rw [List.foldl_append]; rfl
theorem untl_take {ws : List Wi} {v u : Int} {q : Nat} (hq : q < ws.length) : untl (ws.take (q + 1)) v u = if ws[q].version = v ∧ ws[q].from_ ≤ untl (ws.take q) v u then max (untl (ws.take q) v u) ws[q].until_ else untl (ws.take q) v u := by
  rw [List.take_succ_eq_append_getElem hq]; unfold untl; rw [List.foldl_append]; rfl
set_option maxHeartbeats 1000000 in
theorem gaccepts_z (gg : Nat) (G : Ga) (v t : Int) (r : World) (F : List Res) (w : World) (hS : Sep r [] (GP gg G :: F) w) (hl : G.ws.length ≤ 100000) : Calls Tryz.prog 68 #[.pointer (some ⟨gg, 0, none⟩), .int .i64 v, .int .i64 t] w fun e w' => e = .returned (.tuple #[.int .i64 (accs G.ws v t 0), .bool (decide (0 < accs G.ws v t 0))]) ∧ Sep r [] (GP gg G :: F) w' := by
  obtain ⟨A, c, hS⟩ := Sep.GP_open.1 hS
  refine Z.enter Tryz.func68 Tryz.ntmps68 rfl rfl ?_
  repeat' (first|refine K ?_|(refine Sh.sa hS ?_;clear hS;intro w hS)|(refine K3 ?_;clear hS;intro g w hS hge)|((first|refine GS ?_ ?_|refine VB ?_ ?_)<;>intro hb<;>(try simp only [J1,J2,J3,J4,J5,J6] at hb)<;>(try (exfalso;first|omega|exact hb trivial))))
  refine Z.lpS [8, 10, 16, 17, 18, 19, 20, 21, 22, 23, 24, 25, 26, 27, 28, 29, 30, 31, 32, 33, 34, 35, 36, 37, 38, 39, 40] (fun m w s => ∃ (q : Nat) (e : Int), s = [(8, .int .i64 e), (16, .int .i64 q)] ∧ q ≤ G.ws.length ∧ e = accs (G.ws.take q) v t 0 ∧ m = G.ws.length - q ∧ Sep r [] (.blk gg 103 [.int .i64 G.cell, .int .i64 G.closed, .slice A G.ws.length c] :: .sl 74 5 (.slice A G.ws.length c) (G.ws.map Wi.cells) :: F) w) _ [(8, .int .i64 0), (16, .int .i64 (0 : Nat))] (by repeat (first | exact trivial | refine ⟨rfl, ?_⟩)) ⟨0, 0, rfl, by omega, by simp [accs], rfl, hS⟩ ?_
  clear hS
  rintro m f0 w _ ⟨q, e, rfl, hq, he, rfl, hS⟩
  by_cases hlt : q < G.ws.length
  · obtain ⟨gb, o, rfl, _, hra⟩ := (hS.slrows (.next .here)).mat (by omega) hlt
    have hn := accs_take (v := v) (t := t) (e := 0) hlt
    rw [← he] at hn
    repeat' (first|refine K ?_|(refine Sh.sa hS ?_;clear hS;intro w hS)|(refine K3 ?_;clear hS;intro g w hS hge)|((first|refine GS ?_ ?_|refine VB ?_ ?_)<;>intro hb<;>(try simp only [J1,J2,J3,J4,J5,J6] at hb)<;>(try (exfalso;first|omega|exact hb trivial))))
    · refine Sh.again (G.ws.length - (q + 1)) [(8, .int .i64 (max e G.ws[q].epoch)), (16, .int .i64 (q + 1 : Nat))] ?_
      exact ⟨q + 1, _, rfl, by omega, by rw [hn, if_pos (by omega)], rfl, hS.sb⟩
    all_goals
      refine Sh.again (G.ws.length - (q + 1)) [(8, .int .i64 e), (16, .int .i64 (q + 1 : Nat))] ?_
      exact ⟨q + 1, _, rfl, by omega, by rw [hn, if_neg (by omega)], rfl, hS.sb⟩
  · repeat' (first|refine K ?_|(refine Sh.sa hS ?_;clear hS;intro w hS)|(refine K3 ?_;clear hS;intro g w hS hge)|((first|refine GS ?_ ?_|refine VB ?_ ?_)<;>intro hb<;>(try simp only [J1,J2,J3,J4,J5,J6] at hb)<;>(try (exfalso;first|omega|exact hb trivial))))
    refine Dntt Tryz.results68 ?_
    rw [List.take_of_length_le (by omega)] at he
    exact ⟨by rw [he]; rfl, Sep.GP_open.2 ⟨_, _, hS⟩⟩

set_option maxHeartbeats 1000000 in
theorem close1_z (gt gg : Nat) (x : Wi) (G : Ga) (vs : Value) (r : World) (F : List Res) (w : World) (hS : Sep r [] F w) {k k' : List Res} (ha : At F k (.blk gt 42 [.pointer (some ⟨gg, 0, none⟩)])) (ha' : At F k' (.blk gg 103 [.int .i64 G.cell, .int .i64 G.closed, vs])) :
    Calls Tryz.prog 74 #[x.val, .pointer (some ⟨gt, 0, none⟩)] w fun e w' => e = .returned (.bool (decide (x.epoch ≤ G.closed))) ∧ Sep r [] F w' := by
  refine Z.enter Tryz.func74 Tryz.ntmps74 rfl rfl ?_
  repeat' (first|refine K ?_|(refine Sh.sa hS ?_;clear hS;intro w hS)|(refine K3 ?_;clear hS;intro g w hS hge)|((first|refine GS ?_ ?_|refine VB ?_ ?_)<;>intro hb<;>(try simp only [J1,J2,J3,J4,J5,J6] at hb)<;>(try (exfalso;first|omega|exact hb trivial))))
  refine D.startS hS 8 8 (by kernel_rfl) rfl ?_
  replace hS := hS.drew
  refine Sh.dp 0 1 ?_
  refine Sh.dl 1 3 ?_
  refine D.ld 2 7 rfl D.wantedN (by kernel_rfl) rfl (fun W h => h.blk (At.next ha)) rfl ?_
  refine Sh.dp 3 15 ?_
  refine Sh.dp 4 31 ?_
  refine D.ld 5 63 rfl D.wantedN (by kernel_rfl) rfl (fun W h => h.blk (At.next ha')) rfl ?_
  refine Sh.dp 6 127 ?_
  refine Sh.dp 7 255 ?_
  refine D.done (by kernel_rfl) ?_
  repeat' (first|refine K ?_|(refine Sh.sa hS ?_;clear hS;intro w hS)|(refine K3 ?_;clear hS;intro g w hS hge)|((first|refine GS ?_ ?_|refine VB ?_ ?_)<;>intro hb<;>(try simp only [J1,J2,J3,J4,J5,J6] at hb)<;>(try (exfalso;first|omega|exact hb trivial))))
  refine Dnt Tryz.results74 ?_
  exact ⟨rfl, hS.sb⟩
set_option maxHeartbeats 1000000 in
theorem gclose_z (gg : Nat) (G : Ga) (n : Int) (r : World) (F : List Res) (w : World) (hS : Sep r [] (GP gg G :: F) w) (hl : G.ws.length ≤ 100000) : Calls Tryz.prog 40 #[.pointer (some ⟨gg, 0, none⟩), .int .i64 n] w fun e w' =>
    (¬ (1 ≤ n ∧ n ≤ 1048576) ∧ e = .returned (.int .i64 1) ∧ Sep r [] (GP gg G :: F) w') ∨ ((1 ≤ n ∧ n ≤ 1048576) ∧ e = .returned (.int .i64 0) ∧ Sep r [] (GP gg ⟨G.cell, max G.closed n, G.ws.filter fun x => !decide (x.epoch ≤ max G.closed n)⟩ :: F) w') := by
  obtain ⟨A, c, hS⟩ := Sep.GP_open.1 hS
  refine Z.enter Tryz.func40 Tryz.ntmps40 rfl rfl ?_
  repeat' (first|refine K ?_|(refine Sh.sa hS ?_;clear hS;intro w hS)|(refine K3 ?_;clear hS;intro g w hS hge)|((first|refine GS ?_ ?_|refine VB ?_ ?_)<;>intro hb<;>(try simp only [J1,J2,J3,J4,J5,J6] at hb)<;>(try (exfalso;first|omega|exact hb trivial))))
  · refine Dnt Tryz.results40 ?_
    exact .inl ⟨by omega, rfl, Sep.GP_open.2 ⟨A, c, hS.sb⟩⟩
  · refine Dnt Tryz.results40 ?_
    exact .inl ⟨by omega, rfl, Sep.GP_open.2 ⟨A, c, hS.sb⟩⟩
  · rename Nat => gt
    refine D.startS hS 9 10 (by kernel_rfl) rfl ?_
    replace hS := hS.drew
    refine Sh.dp 5 32 ?_
    refine Sh.dl 0 33 ?_
    refine Sh.dl 1 35 ?_
    refine Sh.dp 2 39 ?_
    refine Sh.dp 3 47 ?_
    refine Sh.dl 4 63 ?_
    refine D.pl 6 127 rfl D.wantedN (by kernel_rfl) (R.max2 rfl rfl) ?_
    refine Sh.dp 7 255 ?_
    refine Sh.dp 8 511 ?_
    refine D.eff 9 1023 rfl D.wantedN (by kernel_rfl) (by kernel_rfl) (fun _ _ h => h) ?_
    refine Z.st hS rfl (by repeat (first | exact At.here | apply At.next)) rfl rfl ?_
    clear hS; intro w hS
    refine ⟨HM.last (by kernel_rfl), ?_⟩
    refine D.done (by kernel_rfl) ?_
    repeat' (first|refine K ?_|(refine Sh.sa hS ?_;clear hS;intro w hS)|(refine K3 ?_;clear hS;intro g w hS hge)|((first|refine GS ?_ ?_|refine VB ?_ ?_)<;>intro hb<;>(try simp only [J1,J2,J3,J4,J5,J6] at hb)<;>(try (exfalso;first|omega|exact hb trivial))))
    replace hS : Sep r [] (.sl 74 5 (.slice A G.ws.length c) (G.ws.map Wi.cells) :: .blk gt 42 [.pointer (some ⟨gg, 0, none⟩)] :: .blk gg 103 [.int .i64 G.cell, .int .i64 (max G.closed n), .slice A G.ws.length c] :: F) _ := hS.sb
    refine D.startS (Lr := [.blk gt 42 [.pointer (some ⟨gg, 0, none⟩)], .blk gg 103 [.int .i64 G.cell, .int .i64 (max G.closed n), .slice A G.ws.length c]]) (hS.sb) 9 10 (by kernel_rfl) rfl ?_
    replace hS := hS.drew
    refine D.pl 5 32 rfl D.wantedN (by kernel_rfl) R.mf ?_
    refine Sh.dl 0 33 ?_
    refine Sh.dl 1 35 ?_
    refine Sh.dp 2 39 ?_
    refine Sh.dp 3 47 ?_
    refine Sh.dl 4 63 ?_
    refine D.eff 6 127 rfl D.wantedN (by kernel_rfl) (by kernel_rfl) (fun _ _ h => h) ?_
    refine Z.cl (wi_delete (fun x => decide (x.epoch ≤ max G.closed n)) 74 [.pointer (some ⟨gt, 0, none⟩)] G.ws A c _ _ _ hS hl (fun L w x h => close1_z gt gg x ⟨G.cell, max G.closed n, []⟩ _ r _ w h (at_app L .here) (at_app L (.next .here)))) rfl ?_
    clear hS
    rintro e w ⟨A1, c1, rfl, hS⟩
    refine ⟨_, rfl, ?_⟩
    refine ⟨HM.s (hS.sb), ?_⟩
    refine Sh.dp 7 255 ?_
    refine Sh.dp 8 511 ?_
    refine D.eff 9 1023 rfl D.wantedN (by kernel_rfl) (by kernel_rfl) (fun _ _ h => h) ?_
    refine Z.st hS rfl (by repeat (first | exact At.here | apply At.next)) rfl rfl ?_
    clear hS; intro w hS
    refine ⟨HM.last (by kernel_rfl), ?_⟩
    refine D.done (by kernel_rfl) ?_
    repeat' (first|refine K ?_|(refine Sh.sa hS ?_;clear hS;intro w hS)|(refine K3 ?_;clear hS;intro g w hS hge)|((first|refine GS ?_ ?_|refine VB ?_ ?_)<;>intro hb<;>(try simp only [J1,J2,J3,J4,J5,J6] at hb)<;>(try (exfalso;first|omega|exact hb trivial))))
    refine Dnt Tryz.results40 ?_
    exact .inr ⟨by omega, rfl, Sep.GP_open.2 ⟨A1, c1, hS.sb⟩⟩

/-- A window put into its place, once. -/
def insW (x : Wi) : List Wi → List Wi
  | [] => [x]
  | y :: l => if ltW y x then y :: insW x l else if eqK y x then y :: l else x :: y :: l
theorem insW_at {x : Wi} : ∀ {l : List Wi} {i : Nat}, Spot l x i → insW x l = if ∃ hi : i < l.length, eqK l[i] x then l else l.take i ++ x :: l.drop i
  | [], i, h => by have := h.le; simp at this; subst this; simp [insW]
  | y :: l, 0, h => by
    have h1 := h.hi 0 (by simp) (Nat.le_refl _)
    simp only [List.getElem_cons_zero] at h1
    simp only [insW, if_neg h1]
    by_cases he : eqK y x
    · rw [if_pos he, if_pos ⟨by simp, by simpa using he⟩]
    · rw [if_neg he, if_neg (by rintro ⟨_, h2⟩; exact he (by simpa using h2))]
      simp
  | y :: l, i + 1, h => by
    have h0 := h.lo 0 (by simp) (by omega)
    simp only [List.getElem_cons_zero] at h0
    have ih := insW_at (x := x) (l := l) (i := i) ⟨by have := h.le; simpa using this, fun j hj hji => by have := h.lo (j + 1) (by simpa using hj) (by omega); simpa using this, fun j hj hji => by have := h.hi (j + 1) (by simpa using hj) (by omega); simpa using this⟩
    simp only [insW, if_pos h0, ih]
    by_cases he : ∃ hi : i < l.length, eqK l[i] x
    · have he' : ∃ hi : i + 1 < (y :: l).length, eqK (y :: l)[i + 1] x := by
        obtain ⟨a, b⟩ := he
        exact ⟨by simpa using a, by simpa using b⟩
      rw [if_pos he, if_pos he']
    · have he' : ¬ ∃ hi : i + 1 < (y :: l).length, eqK (y :: l)[i + 1] x := by
        rintro ⟨a, b⟩
        exact he ⟨by simpa using a, by simpa using b⟩
      rw [if_neg he, if_neg he']
      simp
theorem insW_len (x : Wi) : ∀ l : List Wi, (insW x l).length ≤ l.length + 1
  | [] => by simp [insW]
  | y :: l => by
    have := insW_len x l
    unfold insW
    repeat' split
    all_goals simp
    all_goals omega
def giveP (G : Ga) (x : Wi) : Ga × Int := if okW x then if x.cell = G.cell then if x.epoch ≤ G.closed then (G, 7) else (⟨G.cell, G.closed, insW x G.ws⟩, 0) else (G, 5) else (G, 1)
set_option maxHeartbeats 2000000 in
theorem ggive_z (gg : Nat) (G : Ga) (x : Wi) (r : World) (F : List Res) (w : World) (hS : Sep r [] (GP gg G :: F) w) (hl : G.ws.length ≤ 100000) (hs : G.ws.Pairwise ltW) : Calls Tryz.prog 31 #[.pointer (some ⟨gg, 0, none⟩), x.val] w fun e w' => e = .returned (.int .i64 (giveP G x).2) ∧ Sep r [] (GP gg (giveP G x).1 :: F) w' := by
  obtain ⟨A, c, hS⟩ := Sep.GP_open.1 hS
  refine Z.enter Tryz.func31 Tryz.ntmps31 rfl rfl ?_
  repeat' (first|refine K ?_|(refine Sh.sa hS ?_;clear hS;intro w hS)|(refine K3 ?_;clear hS;intro g w hS hge)|((first|refine GS ?_ ?_|refine VB ?_ ?_)<;>intro hb<;>(try simp only [J1,J2,J3,J4,J5,J6] at hb)<;>(try (exfalso;first|omega|exact hb trivial))))
  rename Nat => gx
  refine Z.eff (Z.cl (gvalid_z x _ _ _ hS) rfl ?_) rfl
  clear hS
  rintro e w ⟨rfl, hS⟩
  refine ⟨_, rfl, ?_⟩
  repeat' (first|refine K ?_|(refine Sh.sa hS ?_;clear hS;intro w hS)|(refine K3 ?_;clear hS;intro g w hS hge)|((first|refine GS ?_ ?_|refine VB ?_ ?_)<;>intro hb<;>(try simp only [J1,J2,J3,J4,J5,J6] at hb)<;>(try (exfalso;first|omega|exact hb trivial))))
  · refine Dnt Tryz.results31 ?_
    have e : giveP G x = (G, 1) := by unfold giveP; rw [if_neg hb]
    rw [e]
    exact ⟨rfl, Sep.GP_open.2 ⟨A, c, hS.sb⟩⟩
  have hok : okW x := hb
  refine D.startS hS 7 7 (by kernel_rfl) rfl ?_
  replace hS := hS.drew
  refine Sh.dp 0 1 ?_
  refine Sh.dp 2 5 ?_
  refine Sh.dp 3 13 ?_
  refine Sh.dp 4 29 ?_
  refine Sh.dl 1 31 ?_
  refine Sh.dl 5 63 ?_
  first | refine D.pr 6 127 rfl D.wantedN (by kernel_rfl) rfl ?_ | refine D.pl 6 127 rfl D.wantedN (by kernel_rfl) (R.nea rfl rfl rfl rfl) ?_
  refine D.done (by kernel_rfl) ?_
  repeat' (first|refine K ?_|(refine Sh.sa hS ?_;clear hS;intro w hS)|(refine K3 ?_;clear hS;intro g w hS hge)|((first|refine GS ?_ ?_|refine VB ?_ ?_)<;>intro hb<;>(try simp only [J1,J2,J3,J4,J5,J6] at hb)<;>(try (exfalso;first|omega|exact hb trivial))))
  · refine Dnt Tryz.results31 ?_
    have e : giveP G x = (G, 5) := by unfold giveP; rw [if_pos hok, if_neg hb]
    rw [e]
    exact ⟨rfl, Sep.GP_open.2 ⟨A, c, hS.sb⟩⟩
  have hcell : x.cell = G.cell := by omega
  refine D.startS hS 7 7 (by kernel_rfl) rfl ?_
  replace hS := hS.drew
  refine Sh.dp 0 1 ?_
  refine Sh.dp 2 5 ?_
  refine Sh.dp 3 13 ?_
  refine Sh.dp 4 29 ?_
  refine Sh.dl 1 31 ?_
  refine Sh.dl 5 63 ?_
  refine Sh.dp 6 127 ?_
  refine D.done (by kernel_rfl) ?_
  repeat' (first|refine K ?_|(refine Sh.sa hS ?_;clear hS;intro w hS)|(refine K3 ?_;clear hS;intro g w hS hge)|((first|refine GS ?_ ?_|refine VB ?_ ?_)<;>intro hb<;>(try simp only [J1,J2,J3,J4,J5,J6] at hb)<;>(try (exfalso;first|omega|exact hb trivial))))
  · refine Dnt Tryz.results31 ?_
    have e : giveP G x = (G, 7) := by unfold giveP; rw [if_pos hok, if_pos hcell, if_pos hb]
    rw [e]
    exact ⟨rfl, Sep.GP_open.2 ⟨A, c, hS.sb⟩⟩
  have hep : ¬ x.epoch ≤ G.closed := by omega
  have e : giveP G x = (⟨G.cell, G.closed, insW x G.ws⟩, 0) := by unfold giveP; rw [if_pos hok, if_pos hcell, if_neg hep]
  rw [e]
  clear e
  refine Z.cut [5, 6, 24, 25, 26, 27, 28, 29, 30, 31, 32] (fun w s => ∃ (i : Nat) (b : Bool), s = [(5, .int .i64 i), (6, .bool b)] ∧ Spot G.ws x i ∧ (b = true ↔ ∃ hi : i < G.ws.length, eqK G.ws[i] x) ∧ Sep r [] (.blk gx 74 x.cells :: .blk gg 103 [.int .i64 G.cell, .int .i64 G.closed, .slice A G.ws.length c] :: .sl 74 5 (.slice A G.ws.length c) (G.ws.map Wi.cells) :: F) w) ?_ ?_
  · refine D.startS hS 11 11 (by kernel_rfl) rfl ?_
    replace hS := hS.drew
    refine Sh.dp 0 1 ?_
    refine Sh.dp 1 3 ?_
    refine Sh.dp 2 7 ?_
    refine Sh.dl 3 15 ?_
    refine Sh.dl 4 31 ?_
    refine D.eff 5 63 rfl D.wantedN (by kernel_rfl) (by kernel_rfl) (fun _ _ h => h) ?_
    refine Z.cl (search_z G.ws x _ _ _ _ hS (Reads.of_at (by repeat (first | exact At.here | apply At.next))) hl hs) rfl ?_
    clear hS
    rintro e w ⟨i, b, rfl, hsp, hbi, hS⟩
    refine ⟨_, rfl, ?_⟩
    refine ⟨HM.s (hS.sb), ?_⟩
    refine Sh.dp 6 127 ?_
    refine Sh.dp 7 255 ?_
    refine Sh.dp 8 511 ?_
    refine Sh.dp 9 1023 ?_
    refine Sh.dp 10 2047 ?_
    refine D.done (by kernel_rfl) ?_
    refine Sh.cut [(5, _), (6, _)] ?_
    exact ⟨i, b, rfl, hsp, hbi, hS.sb⟩
  clear hS
  rintro f1 w _ ⟨i, b, rfl, hsp, hbi, hS⟩
  have hins := insW_at hsp
  cases b
  · have hno : ¬ ∃ hi : i < G.ws.length, eqK G.ws[i] x := fun h => by have := hbi.2 h; cases this
    rw [if_neg hno] at hins
    have hle := hsp.le
    repeat' (first|refine K ?_|(refine Sh.sa hS ?_;clear hS;intro w hS)|(refine K3 ?_;clear hS;intro g w hS hge)|((first|refine GS ?_ ?_|refine VB ?_ ?_)<;>intro hb<;>(try simp only [J1,J2,J3,J4,J5,J6] at hb)<;>(try (exfalso;first|omega|exact hb trivial))))
    refine D.startS (Lr := [.blk gx 74 x.cells, .blk gg 103 [.int .i64 G.cell, .int .i64 G.closed, .slice A G.ws.length c]]) (hS.sb) 11 12 (by kernel_rfl) rfl ?_
    replace hS := hS.drew
    refine Sh.dp 0 1 ?_
    refine Sh.dp 1 3 ?_
    refine Sh.dp 2 7 ?_
    refine Sh.dp 3 15 ?_
    refine Sh.dp 5 47 ?_
    refine Sh.dl 4 63 ?_
    refine Sh.dl 6 127 ?_
    refine D.eff 7 255 rfl D.wantedN (by kernel_rfl) (by kernel_rfl) (fun _ _ h => h) ?_
    refine Z.bs hS rfl rfl rfl ?_
    clear hS; intro g w hS hge
    refine ⟨HM.s (hS.sb), ?_⟩
    refine D.eff 8 511 rfl D.wantedN (by kernel_rfl) (by kernel_rfl) (fun _ _ h => h) ?_
    replace hS : Sep r [] (.sl 74 5 (.slice A G.ws.length c) (G.ws.map Wi.cells) :: .blk g 74 x.cells :: .blk gx 74 x.cells :: .blk gg 103 [.int .i64 G.cell, .int .i64 G.closed, .slice A G.ws.length c] :: F) _ := hS.sb
    refine Z.cl (wi_insert G.ws i x A c g _ _ _ hS hle hl) rfl ?_
    clear hS
    rintro e w ⟨A1, c1, rfl, hS⟩
    refine ⟨_, rfl, ?_⟩
    refine ⟨HM.s (hS.sb), ?_⟩
    refine Sh.dp 9 1023 ?_
    refine Sh.dp 10 2047 ?_
    refine D.eff 11 4095 rfl D.wantedN (by kernel_rfl) (by kernel_rfl) (fun _ _ h => h) ?_
    refine Z.st hS rfl (by repeat (first | exact At.here | apply At.next)) rfl rfl ?_
    clear hS; intro w hS
    refine ⟨HM.last (by kernel_rfl), ?_⟩
    refine D.done (by kernel_rfl) ?_
    repeat' (first|refine K ?_|(refine Sh.sa hS ?_;clear hS;intro w hS)|(refine K3 ?_;clear hS;intro g w hS hge)|((first|refine GS ?_ ?_|refine VB ?_ ?_)<;>intro hb<;>(try simp only [J1,J2,J3,J4,J5,J6] at hb)<;>(try (exfalso;first|omega|exact hb trivial))))
    refine Dnt Tryz.results31 ?_
    refine ⟨rfl, Sep.GP_open.2 ⟨A1, c1, ?_⟩⟩
    have hlen : (insW x G.ws).length = G.ws.length + 1 := by rw [hins]; simp; omega
    simp only [hlen]
    rw [hins]
    exact hS.sb
  · have hyes := hbi.1 rfl
    rw [if_pos hyes] at hins
    repeat' (first|refine K ?_|(refine Sh.sa hS ?_;clear hS;intro w hS)|(refine K3 ?_;clear hS;intro g w hS hge)|((first|refine GS ?_ ?_|refine VB ?_ ?_)<;>intro hb<;>(try simp only [J1,J2,J3,J4,J5,J6] at hb)<;>(try (exfalso;first|omega|exact hb trivial))))
    refine Dnt Tryz.results31 ?_
    rw [hins]
    exact ⟨rfl, Sep.GP_open.2 ⟨A, c, hS.sb⟩⟩
end Go.Proofs.YtiabhlogadboeaaGreat

namespace Go.Proofs.YtiabhlogadboeaaGreat

theorem ltW_asymm {a b : Wi} (h : ltW a b) (k : ltW b a) : False := ltW_irrefl _ (ltW_trans h k)
theorem insW_mem' {x z : Wi} : ∀ {l : List Wi}, z ∈ insW x l → z ∈ l ∨ z = x
  | [], h => by simp [insW] at h; exact .inr h
  | y :: l, h => by
    unfold insW at h
    split at h
    · simp only [List.mem_cons] at h ⊢
      rcases h with h | h
      · exact .inl (.inl h)
      · rcases insW_mem' h with h | h
        · exact .inl (.inr h)
        · exact .inr h
    · split at h
      · exact .inl h
      · simp only [List.mem_cons] at h ⊢
        rcases h with h | h | h
        · exact .inr h
        · exact .inl (.inl h)
        · exact .inl (.inr h)
theorem insW_mem {x z : Wi} : ∀ {l : List Wi}, (∀ y, y ∈ l → y.cell = x.cell) → (z ∈ insW x l ↔ z ∈ l ∨ z = x)
  | [], _ => by simp [insW]
  | y :: l, hc => by
    have ih := insW_mem (x := x) (z := z) (l := l) fun y hy => hc y (by simp [hy])
    unfold insW
    split
    · simp only [List.mem_cons, ih]
      constructor
      · rintro (h | h | h)
        · exact .inl (.inl h)
        · exact .inl (.inr h)
        · exact .inr h
      · rintro ((h | h) | h)
        · exact .inl h
        · exact .inr (.inl h)
        · exact .inr (.inr h)
    · split
      · rename_i he
        have : y = x := eqK_eq he (hc y (by simp))
        subst this
        simp only [List.mem_cons]
        constructor
        · exact .inl
        · rintro (h | h)
          · exact h
          · exact .inl h
      · simp only [List.mem_cons]
        constructor
        · rintro (h | h)
          · exact .inr h
          · exact .inl h
        · rintro (h | h)
          · exact .inr h
          · exact .inl h
theorem insW_sorted {x : Wi} : ∀ {l : List Wi}, l.Pairwise ltW → (insW x l).Pairwise ltW
  | [], _ => by simp [insW]
  | y :: l, h => by
    obtain ⟨h1, h2⟩ := List.pairwise_cons.1 h
    unfold insW
    split
    · rename_i hlt
      refine List.pairwise_cons.2 ⟨fun z hz => ?_, insW_sorted h2⟩
      rcases insW_mem' hz with hz | rfl
      · exact h1 z hz
      · exact hlt
    · rename_i hn
      split
      · exact h
      · rename_i he
        have hx : ltW x y := (ltW_or hn).resolve_left he
        refine List.pairwise_cons.2 ⟨fun z hz => ?_, h⟩
        rcases List.mem_cons.1 hz with rfl | hz
        · exact hx
        · exact ltW_trans hx (h1 z hz)
theorem insB_mem {x z : Wi} : ∀ {l : List Wi}, z ∈ insB x l ↔ z ∈ l ∨ z = x
  | [] => by simp [insB]
  | y :: l => by
    have ih := insB_mem (x := x) (z := z) (l := l)
    unfold insB
    split
    · simp only [List.mem_cons, ih]
      constructor
      · rintro (h | h | h)
        · exact .inl (.inl h)
        · exact .inl (.inr h)
        · exact .inr h
      · rintro ((h | h) | h)
        · exact .inl h
        · exact .inr (.inl h)
        · exact .inr (.inr h)
    · simp only [List.mem_cons]
      constructor
      · rintro (h | h)
        · exact .inr h
        · exact .inl h
      · rintro (h | h)
        · exact .inr h
        · exact .inl h
theorem insB_sorted {x : Wi} : ∀ {l : List Wi}, l.Pairwise ltW → (∀ y, y ∈ l → ¬ eqK y x) → (insB x l).Pairwise ltW
  | [], _, _ => by simp [insB]
  | y :: l, h, hk => by
    obtain ⟨h1, h2⟩ := List.pairwise_cons.1 h
    unfold insB
    split
    · rename_i hlt
      refine List.pairwise_cons.2 ⟨fun z hz => ?_, insB_sorted h2 fun y hy => hk y (by simp [hy])⟩
      rcases insB_mem.1 hz with hz | rfl
      · exact h1 z hz
      · exact hlt
    · rename_i hn
      have hx : ltW x y := (ltW_or hn).resolve_left (hk y (by simp))
      refine List.pairwise_cons.2 ⟨fun z hz => ?_, h⟩
      rcases List.mem_cons.1 hz with rfl | hz
      · exact hx
      · exact ltW_trans hx (h1 z hz)
theorem sorted_one : ∀ {l l' : List Wi}, l.Pairwise ltW → l'.Pairwise ltW → (∀ x, x ∈ l ↔ x ∈ l') → l = l'
  | [], [], _, _, _ => rfl
  | [], b :: l', _, _, h => by have := (h b).2 (by simp); simp at this
  | a :: l, [], _, _, h => by have := (h a).1 (by simp); simp at this
  | a :: l, b :: l', h1, h2, h => by
    obtain ⟨a1, a2⟩ := List.pairwise_cons.1 h1
    obtain ⟨b1, b2⟩ := List.pairwise_cons.1 h2
    have hab : a = b := by
      rcases List.mem_cons.1 ((h a).1 (by simp)) with e | e
      · exact e
      · rcases List.mem_cons.1 ((h b).2 (by simp)) with e' | e'
        · exact e'.symm
        · exact (ltW_asymm (b1 a e) (a1 b e')).elim
    subst hab
    congr 1
    refine sorted_one a2 b2 fun x => ⟨fun hx => ?_, fun hx => ?_⟩
    · rcases List.mem_cons.1 ((h x).1 (by simp [hx])) with e | e
      · subst e; exact (ltW_irrefl _ (a1 x hx)).elim
      · exact e
    · rcases List.mem_cons.1 ((h x).2 (by simp [hx])) with e | e
      · subst e; exact (ltW_irrefl _ (b1 x hx)).elim
      · exact e
theorem winsOf_all {closed cell : Int} : ∀ {L out : List Wi}, out.Pairwise ltW → (∀ x, x ∈ out → x.cell = cell) → (∀ x, x ∈ L → x.cell = cell) → L.Nodup → (∀ x, x ∈ L → x ∉ out) →
    (winsOf closed L out).Pairwise ltW ∧ ∀ x, x ∈ winsOf closed L out ↔ x ∈ out ∨ (x ∈ L ∧ closed < x.epoch)
  | [], out, h, _, _, _, _ => ⟨h, fun x => by simp [winsOf]⟩
  | a :: L, out, h, hc, hL, hn, hd => by
    obtain ⟨n1, n2⟩ := List.nodup_cons.1 hn
    have e : winsOf closed (a :: L) out = winsOf closed L (if a.epoch ≤ closed then out else insB a out) := rfl
    rw [e]
    by_cases ha : a.epoch ≤ closed
    · rw [if_pos ha]
      obtain ⟨i1, i2⟩ := winsOf_all (closed := closed) (cell := cell) (L := L) (out := out) h hc (fun x hx => hL x (by simp [hx])) n2 (fun x hx => hd x (by simp [hx]))
      refine ⟨i1, fun x => (i2 x).trans ⟨?_, ?_⟩⟩
      · rintro (h | ⟨h, k⟩)
        · exact .inl h
        · exact .inr ⟨by simp [h], k⟩
      · rintro (h | ⟨h, k⟩)
        · exact .inl h
        · rcases List.mem_cons.1 h with rfl | h
          · omega
          · exact .inr ⟨h, k⟩
    · rw [if_neg ha]
      have hna : ∀ y, y ∈ out → ¬ eqK y a := fun y hy he => by
        have : y = a := eqK_eq he (by rw [hc y hy, hL a (by simp)])
        subst this
        exact hd y (by simp) hy
      obtain ⟨i1, i2⟩ := winsOf_all (closed := closed) (cell := cell) (L := L) (out := insB a out) (insB_sorted h hna) (fun x hx => by
        rcases insB_mem.1 hx with hx | rfl
        · exact hc x hx
        · exact hL x (by simp)) (fun x hx => hL x (by simp [hx])) n2 (fun x hx hx' => by
        rcases insB_mem.1 hx' with h | rfl
        · exact hd x (by simp [hx]) h
        · exact n1 hx)
      refine ⟨i1, fun x => (i2 x).trans ⟨?_, ?_⟩⟩
      · rintro (h | ⟨h, k⟩)
        · rcases insB_mem.1 h with h | rfl
          · exact .inl h
          · exact .inr ⟨by simp, by omega⟩
        · exact .inr ⟨by simp [h], k⟩
      · rintro (h | ⟨h, k⟩)
        · exact .inl (insB_mem.2 (.inl h))
        · rcases List.mem_cons.1 h with rfl | h
          · exact .inl (insB_mem.2 (.inr rfl))
          · exact .inr ⟨h, k⟩

/-- What the program's gate and the reference's have in common. -/
structure Rel (P R : Ga) : Prop where
  cell : P.cell = R.cell
  closed : P.closed = R.closed
  sorted : P.ws.Pairwise ltW
  mem : ∀ x, x ∈ P.ws ↔ x ∈ R.ws ∧ R.closed < x.epoch
  nodup : R.ws.Nodup
  ok : ∀ x, x ∈ R.ws → x.cell = R.cell ∧ okW x
theorem Rel.new (cell : Int) : Rel ⟨cell, 0, []⟩ ⟨cell, 0, []⟩ := ⟨rfl, rfl, .nil, by simp, .nil, by simp⟩
theorem Rel.wins {P R : Ga} (h : Rel P R) : winsOf R.closed R.ws [] = P.ws := by
  obtain ⟨h1, h2⟩ := winsOf_all (closed := R.closed) (cell := R.cell) (L := R.ws) (out := []) .nil (by simp) (fun x hx => (h.ok x hx).1) h.nodup (by simp)
  exact sorted_one h1 h.sorted fun x => by rw [h2, h.mem]; simp
theorem Rel.okP {P R : Ga} (h : Rel P R) {x : Wi} (hx : x ∈ P.ws) : x.cell = P.cell ∧ okW x ∧ P.closed < x.epoch := by
  obtain ⟨h1, h2⟩ := (h.mem x).1 hx
  exact ⟨by rw [h.cell]; exact (h.ok x h1).1, (h.ok x h1).2, by rw [h.closed]; exact h2⟩
theorem Rel.give {P R : Ga} (h : Rel P R) (x : Wi) : Rel (giveP P x).1 (giveR R x).1 ∧ (giveP P x).2 = (giveR R x).2 := by
  unfold giveP giveR
  rw [h.cell, h.closed]
  split
  · rename_i hok
    split
    · rename_i hc
      split
      · exact ⟨h, rfl⟩
      · rename_i he
        have hm : ∀ z, z ∈ insW x P.ws ↔ z ∈ P.ws ∨ z = x := fun z => insW_mem fun y hy => by rw [(h.okP hy).1, h.cell, hc]
        refine ⟨⟨rfl, rfl, insW_sorted h.sorted, fun z => ?_, ?_, fun z hz => ?_⟩, rfl⟩
        · simp only [hm, h.mem]
          split
          · rename_i hin
            constructor
            · rintro (h | rfl)
              · exact h
              · exact ⟨hin, by omega⟩
            · exact .inl
          · simp only [List.mem_append, List.mem_singleton]
            constructor
            · rintro (⟨a, b⟩ | rfl)
              · exact ⟨.inl a, b⟩
              · exact ⟨.inr rfl, by omega⟩
            · rintro ⟨a | a, b⟩
              · exact .inl ⟨a, b⟩
              · exact .inr a
        · simp only
          split
          · exact h.nodup
          · rename_i hin
            exact List.nodup_append.2 ⟨h.nodup, by simp, fun a ha b hb => by simp at hb; subst hb; rintro rfl; exact hin ha⟩
        · simp only at hz
          split at hz
          · exact h.ok z hz
          · rcases List.mem_append.1 hz with hz | hz
            · exact h.ok z hz
            · simp at hz; subst hz; exact ⟨hc, hok⟩
    · exact ⟨h, rfl⟩
  · exact ⟨h, rfl⟩
theorem Rel.close {P R : Ga} (h : Rel P R) (n : Int) : Rel ⟨P.cell, max P.closed n, P.ws.filter fun x => !decide (x.epoch ≤ max P.closed n)⟩ ⟨R.cell, max R.closed n, R.ws⟩ := by
  refine ⟨h.cell, by rw [h.closed], h.sorted.filter _, fun z => ?_, h.nodup, h.ok⟩
  simp only [List.mem_filter, h.mem, h.closed, Bool.not_eq_true', decide_eq_false_iff_not]
  constructor
  · rintro ⟨⟨a, b⟩, c⟩
    exact ⟨a, by omega⟩
  · rintro ⟨a, b⟩
    exact ⟨⟨a, by omega⟩, by omega⟩
theorem Rel.forget {P R : Ga} (h : Rel P R) (n : Int) : Rel ⟨P.cell, P.closed, P.ws.filter fun x => !decide (x.until_ ≤ n)⟩ ⟨R.cell, R.closed, R.ws.filter fun x => decide (n < x.until_)⟩ := by
  refine ⟨h.cell, h.closed, h.sorted.filter _, fun z => ?_, h.nodup.filter _, fun z hz => h.ok z (List.mem_filter.1 hz).1⟩
  simp only [List.mem_filter, h.mem, Bool.not_eq_true', decide_eq_false_iff_not, decide_eq_true_eq]
  constructor
  · rintro ⟨⟨a, b⟩, c⟩
    exact ⟨⟨a, by omega⟩, b⟩
  · rintro ⟨⟨a, b⟩, c⟩
    exact ⟨⟨a, c⟩, by omega⟩
theorem Rel.crash {P R : Ga} (h : Rel P R) : Rel ⟨P.cell, P.closed, []⟩ ⟨R.cell, R.closed, []⟩ := ⟨h.cell, h.closed, .nil, by simp, .nil, by simp⟩

/-! Accepts. -/
def hits (x : Wi) (v t : Int) : Prop := x.version = v ∧ x.from_ ≤ t ∧ t < x.until_
theorem accs_all : ∀ (ws : List Wi) (v t e : Int), e ≤ accs ws v t e ∧ (∀ x, x ∈ ws → hits x v t → x.epoch ≤ accs ws v t e) ∧ (accs ws v t e = e ∨ ∃ x, x ∈ ws ∧ hits x v t ∧ x.epoch = accs ws v t e)
  | [], v, t, e => ⟨Int.le_refl _, by simp, .inl rfl⟩
  | a :: ws, v, t, e => by
    have eq : accs (a :: ws) v t e = accs ws v t (if a.version = v ∧ a.from_ ≤ t ∧ t < a.until_ then max e a.epoch else e) := rfl
    rw [eq]
    obtain ⟨h1, h2, h3⟩ := accs_all ws v t (if a.version = v ∧ a.from_ ≤ t ∧ t < a.until_ then max e a.epoch else e)
    by_cases ha : a.version = v ∧ a.from_ ≤ t ∧ t < a.until_
    · rw [if_pos ha] at h1 h2 h3 ⊢
      refine ⟨by omega, fun x hx hh => ?_, ?_⟩
      · rcases List.mem_cons.1 hx with rfl | hx
        · omega
        · exact h2 x hx hh
      · rcases h3 with h3 | ⟨x, hx, hh, he⟩
        · rcases Int.le_total a.epoch e with hle | hle
          · exact .inl (by omega)
          · exact .inr ⟨a, by simp, ha, by omega⟩
        · exact .inr ⟨x, by simp [hx], hh, he⟩
    · rw [if_neg ha] at h1 h2 h3 ⊢
      refine ⟨h1, fun x hx hh => ?_, ?_⟩
      · rcases List.mem_cons.1 hx with rfl | hx
        · exact (ha hh).elim
        · exact h2 x hx hh
      · rcases h3 with h3 | ⟨x, hx, hh, he⟩
        · exact .inl h3
        · exact .inr ⟨x, by simp [hx], hh, he⟩
theorem accs_pos {ws : List Wi} {v t : Int} (hw : ∀ x, x ∈ ws → 1 ≤ x.epoch) : 0 < accs ws v t 0 ↔ ∃ x, x ∈ ws ∧ hits x v t := by
  obtain ⟨h1, h2, h3⟩ := accs_all ws v t 0
  constructor
  · intro h
    rcases h3 with h3 | ⟨x, hx, hh, _⟩
    · omega
    · exact ⟨x, hx, hh⟩
  · rintro ⟨x, hx, hh⟩
    have := h2 x hx hh
    have := hw x hx
    omega

/-! Until. -/
theorem untl_all : ∀ (ws : List Wi) (v u : Int), ws.Pairwise ltW → u ≤ untl ws v u ∧ (∀ s, u ≤ s → s < untl ws v u → ∃ x, x ∈ ws ∧ hits x v s) ∧ (∀ x, x ∈ ws → ¬ hits x v (untl ws v u)) ∧ (untl ws v u = u ∨ ∃ x, x ∈ ws ∧ untl ws v u = x.until_)
  | [], v, u, _ => ⟨Int.le_refl _, fun s h1 h2 => by simp [untl] at h2; omega, by simp, .inl rfl⟩
  | a :: ws, v, u, h => by
    obtain ⟨a1, a2⟩ := List.pairwise_cons.1 h
    have eq : untl (a :: ws) v u = untl ws v (if a.version = v ∧ a.from_ ≤ u then max u a.until_ else u) := rfl
    rw [eq]
    obtain ⟨h1, h2, h3, h4⟩ := untl_all ws v (if a.version = v ∧ a.from_ ≤ u then max u a.until_ else u) a2
    by_cases ha : a.version = v ∧ a.from_ ≤ u
    · rw [if_pos ha] at h1 h2 h3 h4 ⊢
      refine ⟨by omega, fun s hs1 hs2 => ?_, fun x hx => ?_, ?_⟩
      · rcases Int.lt_or_le s (max u a.until_) with hlt | hge
        · exact ⟨a, by simp, ha.1, by omega, by omega⟩
        · obtain ⟨x, hx, hh⟩ := h2 s hge hs2
          exact ⟨x, by simp [hx], hh⟩
      · rcases List.mem_cons.1 hx with rfl | hx
        · rintro ⟨_, _, hh⟩; omega
        · exact h3 x hx
      · rcases h4 with h4 | ⟨x, hx, he⟩
        · rcases Int.le_total a.until_ u with hle | hle
          · exact .inl (by omega)
          · exact .inr ⟨a, by simp, by omega⟩
        · exact .inr ⟨x, by simp [hx], he⟩
    · rw [if_neg ha] at h1 h2 h3 h4 ⊢
      refine ⟨h1, fun s hs1 hs2 => ?_, fun x hx => ?_, ?_⟩
      · obtain ⟨x, hx, hh⟩ := h2 s hs1 hs2
        exact ⟨x, by simp [hx], hh⟩
      · rcases List.mem_cons.1 hx with rfl | hx
        · rintro ⟨hv, hf, hu⟩
          rcases Int.lt_or_le u (untl ws v u) with hlt | hge
          · obtain ⟨y, hy, hyv, hyf, hyu⟩ := h2 u (Int.le_refl _) hlt
            have := a1 y hy
            unfold ltW at this
            exact ha ⟨hv, by omega⟩
          · have : untl ws v u = u := by omega
            rw [this] at hf
            exact ha ⟨hv, hf⟩
        · exact h3 x hx
      · rcases h4 with h4 | ⟨x, hx, he⟩
        · exact .inl h4
        · exact .inr ⟨x, by simp [hx], he⟩
end Go.Proofs.YtiabhlogadboeaaGreat

namespace Go.Proofs.YtiabhlogadboeaaGreat
open Go.RowKit
set_option linter.unusedSimpArgs false
set_option linter.unusedVariables false
attribute [local irreducible] Res.blk Res.sl Res.all Res.ex Res.pure Res.star

theorem filt_take {α : Type} {p : α → Bool} {l : List α} {q : Nat} (hq : q < l.length) : (l.take (q + 1)).filter p = (l.take q).filter p ++ (if p l[q] then [l[q]] else []) := by
  rw [List.take_succ_eq_append_getElem hq, List.filter_append]
  congr 1
  cases h : p l[q] <;> simp [h]
theorem accs_snoc (ws : List Wi) (x : Wi) (v t e : Int) : accs (ws ++ [x]) v t e = if x.version = v ∧ x.from_ ≤ t ∧ t < x.until_ then max (accs ws v t e) x.epoch else accs ws v t e := by
  unfold accs; rw [List.foldl_append]; rfl
theorem accs_same {ws ws' : List Wi} {v t : Int} (h : ∀ x, x ∈ ws ↔ x ∈ ws') : accs ws v t 0 = accs ws' v t 0 := by
  obtain ⟨h1, h2, h3⟩ := accs_all ws v t 0
  obtain ⟨k1, k2, k3⟩ := accs_all ws' v t 0
  rcases h3 with h3 | ⟨x, hx, hh, he⟩
  · rcases k3 with k3 | ⟨y, hy, hh', he'⟩
    · omega
    · have := h2 y ((h y).2 hy) hh'
      omega
  · have := k2 x ((h x).1 hx) hh
    rcases k3 with k3 | ⟨y, hy, hh', he'⟩
    · omega
    · have := h2 y ((h y).2 hy) hh'
      omega
theorem Rel.accs {P R : Ga} (h : Rel P R) (v t : Int) : Go.Proofs.YtiabhlogadboeaaGreat.accs (R.ws.filter fun x => decide (R.closed < x.epoch)) v t 0 = Go.Proofs.YtiabhlogadboeaaGreat.accs P.ws v t 0 := accs_same fun x => by rw [h.mem, List.mem_filter, decide_eq_true_eq]

theorem winsOf_take {closed : Int} {L : List Wi} {q : Nat} (hq : q < L.length) : winsOf closed (L.take (q + 1)) [] = if L[q].epoch ≤ closed then winsOf closed (L.take q) [] else insB L[q] (winsOf closed (L.take q) []) := by
  rw [List.take_succ_eq_append_getElem hq]; unfold winsOf; rw [List.foldl_append]; rfl
end Go.Proofs.YtiabhlogadboeaaGreat
