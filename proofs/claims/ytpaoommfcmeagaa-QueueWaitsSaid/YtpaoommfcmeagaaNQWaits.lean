/-
  QueueWaits: for every input the call returns true, and the arguments read afterwards as they read before.
-/
import Derived.Test.YtpaoommfcmeagaaNQf
import Derived.Test.YtpaoommfcmeagaaNArgs
namespace Go.Proofs.Ytpaoommfcmeagaa
open Go.RowKit Go.ChangeShapes Go.WideShapes Go.ChangeAt
set_option linter.unusedSimpArgs false
set_option linter.unusedVariables false

/-- No change of the list finishes what x pushed. -/
def openB (h : List Ch) (x : Ch) : Bool := h.all fun y => !(decide (y.kind = 4) && decide (y.item = x.seq))
def itOf (x : Ch) : It := ⟨x.seq, x.value⟩
def wants (h p : List Ch) : List It := (p.filter fun x => decide (x.kind = 3) && openB h x).map itOf
theorem openB_take {h : List Ch} {x : Ch} {k : Nat} (hk : k < h.length) : openB (h.take (k + 1)) x = (openB (h.take k) x && !(decide (h[k].kind = 4) && decide (h[k].item = x.seq))) := by
  unfold openB
  rw [List.take_succ_eq_append_getElem hk, List.all_append]
  simp
theorem wants_take {h p : List Ch} {k : Nat} (hk : k < p.length) : wants h (p.take (k + 1)) = wants h (p.take k) ++ (if p[k].kind = 3 ∧ openB h p[k] = true then [itOf p[k]] else []) := by
  unfold wants
  rw [List.take_succ_eq_append_getElem hk, List.filter_append, List.map_append]
  congr 1
  by_cases h1 : p[k].kind = 3 <;> by_cases h2 : openB h p[k] = true <;> simp [h1, h2]
theorem qcut : ∀ {l : List It} {n : Int}, l.Pairwise (fun a b => a.number ≠ b.number) → qidx l n < l.length → l.take (qidx l n) ++ l.drop (qidx l n + 1) = l.filter fun x => decide (x.number ≠ n)
  | [], _, _, h => by simp [qidx] at h
  | x :: l, n, hp, h => by
    obtain ⟨h1, h2⟩ := List.pairwise_cons.1 hp
    by_cases hx : x.number = n
    · have e : qidx (x :: l) n = 0 := by simp [qidx, hx]
      rw [e, List.filter_cons_of_neg (by simp [hx])]
      simp only [List.take_zero, List.nil_append, Nat.zero_add, List.drop_succ_cons, List.drop_zero]
      rw [List.filter_eq_self.2]
      intro y hy
      have := h1 y hy
      simp only [decide_eq_true_eq]
      omega
    · have e : qidx (x :: l) n = qidx l n + 1 := by simp [qidx, hx]
      rw [e] at h ⊢
      rw [List.filter_cons_of_pos (by simp [hx]), ← qcut h2 (by simpa using h)]
      rfl
/-- What is true of a copy that accepted changes have made. -/
structure Waits (c : Cp) : Prop where
  l : c.q.l = wants c.h c.h
  seq : ∀ y, y ∈ c.h → y.seq ≤ c.h.length ∧ validB y = true
  num : ∀ x, x ∈ c.q.l → x.number ≤ c.h.length
  up : c.q.l.Pairwise fun a b => a.number < b.number
theorem valid_item {x : Ch} (h : validB x = true) (hk : x.kind = 4) : x.item < x.seq := by
  simp [validB, restB, inB, hk] at h
  omega
theorem valid_kind {x : Ch} (h : validB x = true) : x.kind = 1 ∨ x.kind = 2 ∨ x.kind = 3 ∨ x.kind = 4 := by
  by_cases h1 : x.kind = 1
  · exact .inl h1
  by_cases h2 : x.kind = 2
  · exact .inr (.inl h2)
  by_cases h3 : x.kind = 3
  · exact .inr (.inr (.inl h3))
  by_cases h4 : x.kind = 4
  · exact .inr (.inr (.inr h4))
  simp [validB, restB, h1, h2, h3, h4] at h
theorem wants_not {h : List Ch} {x : Ch} (hk : x.kind ≠ 4) (p : List Ch) : wants (h ++ [x]) p = wants h p := by
  unfold wants openB
  simp [hk]
theorem wants_one {h : List Ch} {x : Ch} (hk : x.kind ≠ 3) (p : List Ch) : wants h (p ++ [x]) = wants h p := by
  unfold wants
  simp [hk]
theorem Good.waits {c : Cp} (h : Good c) : Waits c := by
  induction h with
  | zero => exact ⟨rfl, by simp [Cp.zero], by simp [Cp.zero], by simp [Cp.zero]⟩
  | @app c x hc hx ih =>
    obtain ⟨hv, hseq, _, _, _, hq, e⟩ := cApp_ok hx
    rw [e]
    have hlen : (c.h ++ [x]).length = c.h.length + 1 := by simp
    have hsq : ∀ y, y ∈ c.h ++ [x] → y.seq ≤ (c.h ++ [x]).length ∧ validB y = true := by
      intro y hy
      rw [hlen]
      rcases List.mem_append.1 hy with hy | hy
      · have := ih.seq y hy; exact ⟨by have := this.1; omega, this.2⟩
      · simp at hy; subst hy; exact ⟨by omega, hv⟩
    rcases valid_kind hv with hk | hk | hk | hk
    · have eq : qApp c.q x = (c.q, 0) := by simp [qApp, hv, hk]
      rw [eq]
      exact ⟨by simp only; rw [wants_one (by omega), wants_not (by omega)]; exact ih.l, hsq, fun y hy => by have := ih.num y hy; simp only [hlen]; omega, ih.up⟩
    · have eq : qApp c.q x = (c.q, 0) := by simp [qApp, hv, hk]
      rw [eq]
      exact ⟨by simp only; rw [wants_one (by omega), wants_not (by omega)]; exact ih.l, hsq, fun y hy => by have := ih.num y hy; simp only [hlen]; omega, ih.up⟩
    · have h1 : ¬ x.seq ≤ c.q.most := fun h1 => by simp [qApp, hv, hk, h1] at hq
      have h2 : ¬ 16 ≤ c.q.l.length := fun h2 => by simp [qApp, hv, hk, h1, h2] at hq
      have eq : qApp c.q x = (⟨c.q.l ++ [⟨x.seq, x.value⟩], c.q.r, x.seq⟩, 0) := by simp [qApp, hv, hk, h1, h2]
      rw [eq]
      have hop : openB c.h x = true := by
        unfold openB
        rw [List.all_eq_true]
        intro y hy
        have := ih.seq y hy
        by_cases h4 : y.kind = 4
        · have := valid_item this.2 h4
          have : ¬ y.item = x.seq := by omega
          simp [this]
        · simp [h4]
      refine ⟨?_, hsq, ?_, ?_⟩
      · simp only
        have ew : wants c.h (c.h ++ [x]) = wants c.h c.h ++ [⟨x.seq, x.value⟩] := by
          unfold wants
          rw [List.filter_append, List.map_append]
          simp [hk, hop, itOf]
        rw [wants_not (by omega), ew, ih.l]
      · intro y hy
        simp only [hlen]
        rcases List.mem_append.1 hy with hy | hy
        · have := ih.num y hy; omega
        · simp at hy; subst hy; simp only; omega
      · simp only
        rw [List.pairwise_append]
        refine ⟨ih.up, by simp, fun a ha b hb => ?_⟩
        simp at hb
        subst hb
        have := ih.num a ha
        simp only
        omega
    · have h1 : ¬ qat c.q.l x.item < 0 := fun h1 => by simp [qApp, hv, hk, h1] at hq
      have eq : qApp c.q x = (⟨c.q.l.take (qat c.q.l x.item).toNat ++ c.q.l.drop ((qat c.q.l x.item).toNat + 1), without c.q.r x.item, c.q.most⟩, 0) := by simp [qApp, hv, hk, h1]
      have hi : qidx c.q.l x.item < c.q.l.length := by
        unfold qat at h1
        split at h1
        · assumption
        · omega
      have hat : (qat c.q.l x.item).toNat = qidx c.q.l x.item := by
        unfold qat
        rw [if_pos hi]
        rfl
      rw [eq, hat]
      have hcut := qcut (n := x.item) (ih.up.imp fun {a b} h => by omega) hi
      simp only [hcut]
      refine ⟨?_, hsq, fun y hy => ?_, ih.up.filter _⟩
      · simp only
        rw [wants_one (by omega), ih.l]
        unfold wants
        rw [List.filter_map, List.filter_filter]
        congr 1
        apply List.filter_congr
        intro y _
        have : openB (c.h ++ [x]) y = (openB c.h y && !(decide (x.item = y.seq))) := by unfold openB; simp [hk]
        have h5 : decide ((itOf y).number ≠ x.item) = !decide (x.item = y.seq) := by
          by_cases h : x.item = y.seq
          · simp [itOf, h]
          · have h' : ¬ y.seq = x.item := fun e => h e.symm
            simp [itOf, h, h']
        simp only [Function.comp, h5, this]
        cases decide (y.kind = 3) <;> cases openB c.h y <;> cases decide (x.item = y.seq) <;> rfl
      · have := ih.num y (List.mem_filter.1 hy).1
        simp only [hlen]
        omega

set_option maxHeartbeats 4000000 in
theorem qwaits_z (l : List Int) (A : Option Addr) (cap : Nat) (r : World) (hr : Rd r 1 A l.length (l.map (Value.int .i64))) :
    Calls Try.prog 5 #[.slice A l.length cap] r fun e w' => e = .returned (.bool true) ∧ Chg [] r w' := by
  have hS := Sep.root r
  have hlen := hist_len l
  have hgood := hist_good l
  have hfold := hgood.foldQ
  have hwt := hgood.waits.l
  have hgo := hgood.ok
  refine Z.enter Try.func5 Try.ntmps5 rfl rfl ?_
  repeat' (first
    | refine Z.pr rfl ?_ | refine Sh.la hS ?_ | refine Sh.lb ?_ | refine Sh.lc ?_ | refine Sh.su ?_
    | (refine Sh.sa hS ?_; clear hS; intro w hS)
    | ((first | refine Sh.aa hS ?_ | refine Sh.ab hS ?_ | refine Sh.ac hS ?_); clear hS; intro g w hS hge)
    | refine Sh.ix ?_ | refine Sh.up ?_ | refine Sh.sl1 ?_ | refine Sh.sl2 ?_ | refine Sh.sl5 ?_ | refine Sh.sl3 ?_ | refine Sh.sl4 ?_ | refine Sh.eq ?_ | refine Sh.ne ?_ | refine Sh.ix2 ?_ | refine Sh.ix3 ?_
    | refine Z.bu rfl rfl ?_ | refine Z.pl (R.max2 rfl rfl) ?_ | refine Z.pl (R.cap rfl rfl) ?_ | refine Z.pl R.mf ?_
    | refine Z.gT rfl rfl ?_ | refine Z.gF rfl rfl ?_ | refine Z.gF0 rfl rfl ?_ | refine Z.gU rfl rfl ?_
    | with_reducible (first | refine Z.seq ?_ | refine Z.reg ?_ | refine Z.nil ?_ | refine Z.skip ?_ | refine Z.exit ?_ | refine Z.ret ?_ | refine Z.block ?_ | refine Z.thN ?_ | refine Z.thU ?_ | refine Z.thE ?_ | refine Z.thR ?_ | refine Z.blN ?_ | refine Z.blR ?_ | refine Z.blE ?_ | refine Z.label ?_ | refine Z.scope ?_ | refine Z.ngN ?_ | refine Z.ngR ?_ | refine Z.ngE ?_)
    | ((with_reducible refine Z.blX ?_ ?_); rotate_left; rfl)
    | refine Z.brT rfl ?_ | refine Z.brF rfl ?_
    | ((first | refine Z.gS rfl rfl ?_ ?_ | refine Z.br rfl ?_ ?_) <;> intro hb <;> (try simp only [decide_eq_true_eq, decide_eq_false_iff_not, Bool.not_eq_true', Bool.not_eq_false', Int.not_lt, Int.not_le] at hb) <;> (try (exfalso; first | omega | exact hb trivial))))
  refine Z.eff (Z.cl (awake25_z _ _ _ hS) rfl ?_) rfl
  clear hS
  rintro e w ⟨rfl, hS⟩
  refine ⟨_, rfl, ?_⟩
  repeat' (first
    | refine Z.pr rfl ?_ | refine Sh.la hS ?_ | refine Sh.lb ?_ | refine Sh.lc ?_ | refine Sh.su ?_
    | (refine Sh.sa hS ?_; clear hS; intro w hS)
    | ((first | refine Sh.aa hS ?_ | refine Sh.ab hS ?_ | refine Sh.ac hS ?_); clear hS; intro g w hS hge)
    | refine Sh.ix ?_ | refine Sh.up ?_ | refine Sh.sl1 ?_ | refine Sh.sl2 ?_ | refine Sh.sl5 ?_ | refine Sh.sl3 ?_ | refine Sh.sl4 ?_ | refine Sh.eq ?_ | refine Sh.ne ?_ | refine Sh.ix2 ?_ | refine Sh.ix3 ?_
    | refine Z.bu rfl rfl ?_ | refine Z.pl (R.max2 rfl rfl) ?_ | refine Z.pl (R.cap rfl rfl) ?_ | refine Z.pl R.mf ?_
    | refine Z.gT rfl rfl ?_ | refine Z.gF rfl rfl ?_ | refine Z.gF0 rfl rfl ?_ | refine Z.gU rfl rfl ?_
    | with_reducible (first | refine Z.seq ?_ | refine Z.reg ?_ | refine Z.nil ?_ | refine Z.skip ?_ | refine Z.exit ?_ | refine Z.ret ?_ | refine Z.block ?_ | refine Z.thN ?_ | refine Z.thU ?_ | refine Z.thE ?_ | refine Z.thR ?_ | refine Z.blN ?_ | refine Z.blR ?_ | refine Z.blE ?_ | refine Z.label ?_ | refine Z.scope ?_ | refine Z.ngN ?_ | refine Z.ngR ?_ | refine Z.ngE ?_)
    | ((with_reducible refine Z.blX ?_ ?_); rotate_left; rfl)
    | refine Z.brT rfl ?_ | refine Z.brF rfl ?_
    | ((first | refine Z.gS rfl rfl ?_ ?_ | refine Z.br rfl ?_ ?_) <;> intro hb <;> (try simp only [decide_eq_true_eq, decide_eq_false_iff_not, Bool.not_eq_true', Bool.not_eq_false', Int.not_lt, Int.not_le] at hb) <;> (try (exfalso; first | omega | exact hb trivial))))
  refine Z.eff (Z.cl (lightS_z _ _ _ _ _ _ hS) rfl ?_) rfl
  clear hS
  rintro e w ⟨rfl, hS⟩
  refine ⟨_, rfl, ?_⟩
  repeat' (first
    | refine Z.pr rfl ?_ | refine Sh.la hS ?_ | refine Sh.lb ?_ | refine Sh.lc ?_ | refine Sh.su ?_
    | (refine Sh.sa hS ?_; clear hS; intro w hS)
    | ((first | refine Sh.aa hS ?_ | refine Sh.ab hS ?_ | refine Sh.ac hS ?_); clear hS; intro g w hS hge)
    | refine Sh.ix ?_ | refine Sh.up ?_ | refine Sh.sl1 ?_ | refine Sh.sl2 ?_ | refine Sh.sl5 ?_ | refine Sh.sl3 ?_ | refine Sh.sl4 ?_ | refine Sh.eq ?_ | refine Sh.ne ?_ | refine Sh.ix2 ?_ | refine Sh.ix3 ?_
    | refine Z.bu rfl rfl ?_ | refine Z.pl (R.max2 rfl rfl) ?_ | refine Z.pl (R.cap rfl rfl) ?_ | refine Z.pl R.mf ?_
    | refine Z.gT rfl rfl ?_ | refine Z.gF rfl rfl ?_ | refine Z.gF0 rfl rfl ?_ | refine Z.gU rfl rfl ?_
    | with_reducible (first | refine Z.seq ?_ | refine Z.reg ?_ | refine Z.nil ?_ | refine Z.skip ?_ | refine Z.exit ?_ | refine Z.ret ?_ | refine Z.block ?_ | refine Z.thN ?_ | refine Z.thU ?_ | refine Z.thE ?_ | refine Z.thR ?_ | refine Z.blN ?_ | refine Z.blR ?_ | refine Z.blE ?_ | refine Z.label ?_ | refine Z.scope ?_ | refine Z.ngN ?_ | refine Z.ngR ?_ | refine Z.ngE ?_)
    | ((with_reducible refine Z.blX ?_ ?_); rotate_left; rfl)
    | refine Z.brT rfl ?_ | refine Z.brF rfl ?_
    | ((first | refine Z.gS rfl rfl ?_ ?_ | refine Z.br rfl ?_ ?_) <;> intro hb <;> (try simp only [decide_eq_true_eq, decide_eq_false_iff_not, Bool.not_eq_true', Bool.not_eq_false', Int.not_lt, Int.not_le] at hb) <;> (try (exfalso; first | omega | exact hb trivial))))
  · first | refine Z.done hS Try.results5 (Z.RV.tmp rfl Z.RV.nil) ?_ | refine Z.doneN hS Try.results5 (Z.RV.tmp rfl Z.RV.nil) ?_
    exact ⟨rfl, hS.chg⟩
  refine Z.eff (Z.cl (history_z l A cap _ _ _ hS hr (by omega)) rfl ?_) rfl
  clear hS
  rintro e w ⟨v, rfl, hS⟩
  refine ⟨_, rfl, ?_⟩
  obtain ⟨Ah, ch, rfl, hch⟩ := (hS.slrows .here).mform
  generalize (hist l).h = h at *
  generalize (hist l).q = q at *
  clear hgood
  repeat' (first
    | refine Z.pr rfl ?_ | refine Sh.la hS ?_ | refine Sh.lb ?_ | refine Sh.lc ?_ | refine Sh.su ?_
    | (refine Sh.sa hS ?_; clear hS; intro w hS)
    | ((first | refine Sh.aa hS ?_ | refine Sh.ab hS ?_ | refine Sh.ac hS ?_); clear hS; intro g w hS hge)
    | refine Sh.ix ?_ | refine Sh.up ?_ | refine Sh.sl1 ?_ | refine Sh.sl2 ?_ | refine Sh.sl5 ?_ | refine Sh.sl3 ?_ | refine Sh.sl4 ?_ | refine Sh.eq ?_ | refine Sh.ne ?_ | refine Sh.ix2 ?_ | refine Sh.ix3 ?_
    | refine Z.bu rfl rfl ?_ | refine Z.pl (R.max2 rfl rfl) ?_ | refine Z.pl (R.cap rfl rfl) ?_ | refine Z.pl R.mf ?_
    | refine Z.gT rfl rfl ?_ | refine Z.gF rfl rfl ?_ | refine Z.gF0 rfl rfl ?_ | refine Z.gU rfl rfl ?_
    | with_reducible (first | refine Z.seq ?_ | refine Z.reg ?_ | refine Z.nil ?_ | refine Z.skip ?_ | refine Z.exit ?_ | refine Z.ret ?_ | refine Z.block ?_ | refine Z.thN ?_ | refine Z.thU ?_ | refine Z.thE ?_ | refine Z.thR ?_ | refine Z.blN ?_ | refine Z.blR ?_ | refine Z.blE ?_ | refine Z.label ?_ | refine Z.scope ?_ | refine Z.ngN ?_ | refine Z.ngR ?_ | refine Z.ngE ?_)
    | ((with_reducible refine Z.blX ?_ ?_); rotate_left; rfl)
    | refine Z.brT rfl ?_ | refine Z.brF rfl ?_
    | ((first | refine Z.gS rfl rfl ?_ ?_ | refine Z.br rfl ?_ ?_) <;> intro hb <;> (try simp only [decide_eq_true_eq, decide_eq_false_iff_not, Bool.not_eq_true', Bool.not_eq_false', Int.not_lt, Int.not_le] at hb) <;> (try (exfalso; first | omega | exact hb trivial))))
  refine Z.eff (Z.cl (pqfold_ok h _ _ _ _ hS (Reads.of_at (by repeat (first | exact At.here | apply At.next))) (by omega) q hfold) rfl ?_) rfl
  clear hS
  rintro e w ⟨gq, rfl, hS⟩
  refine ⟨_, rfl, ?_⟩
  repeat' (first
    | refine Z.pr rfl ?_ | refine Sh.la hS ?_ | refine Sh.lb ?_ | refine Sh.lc ?_ | refine Sh.su ?_
    | (refine Sh.sa hS ?_; clear hS; intro w hS)
    | ((first | refine Sh.aa hS ?_ | refine Sh.ab hS ?_ | refine Sh.ac hS ?_); clear hS; intro g w hS hge)
    | refine Sh.ix ?_ | refine Sh.up ?_ | refine Sh.sl1 ?_ | refine Sh.sl2 ?_ | refine Sh.sl5 ?_ | refine Sh.sl3 ?_ | refine Sh.sl4 ?_ | refine Sh.eq ?_ | refine Sh.ne ?_ | refine Sh.ix2 ?_ | refine Sh.ix3 ?_
    | refine Z.bu rfl rfl ?_ | refine Z.pl (R.max2 rfl rfl) ?_ | refine Z.pl (R.cap rfl rfl) ?_ | refine Z.pl R.mf ?_
    | refine Z.gT rfl rfl ?_ | refine Z.gF rfl rfl ?_ | refine Z.gF0 rfl rfl ?_ | refine Z.gU rfl rfl ?_
    | with_reducible (first | refine Z.seq ?_ | refine Z.reg ?_ | refine Z.nil ?_ | refine Z.skip ?_ | refine Z.exit ?_ | refine Z.ret ?_ | refine Z.block ?_ | refine Z.thN ?_ | refine Z.thU ?_ | refine Z.thE ?_ | refine Z.thR ?_ | refine Z.blN ?_ | refine Z.blR ?_ | refine Z.blE ?_ | refine Z.label ?_ | refine Z.scope ?_ | refine Z.ngN ?_ | refine Z.ngR ?_ | refine Z.ngE ?_)
    | ((with_reducible refine Z.blX ?_ ?_); rotate_left; rfl)
    | refine Z.brT rfl ?_ | refine Z.brF rfl ?_
    | ((first | refine Z.gS rfl rfl ?_ ?_ | refine Z.br rfl ?_ ?_) <;> intro hb <;> (try simp only [decide_eq_true_eq, decide_eq_false_iff_not, Bool.not_eq_true', Bool.not_eq_false', Int.not_lt, Int.not_le] at hb) <;> (try (exfalso; first | omega | exact hb trivial))))
  replace hS := Z.nilsl hS 52 2 none
  refine Z.lpS [7, 9, 10, 12, 34, 35, 36, 37, 38, 39, 40, 41, 42, 43, 44, 45, 46, 47, 48, 49, 50, 51, 52, 53, 54, 55, 56, 57, 58, 59, 60, 61, 62, 63, 64, 65, 66, 67, 68, 69, 70] (fun m w s => ∃ (i : Nat) (A1 : Option Addr) (c1 : Nat), s = [(34, .int .i64 i), (7, .slice A1 (wants h (h.take i)).length c1)] ∧ i ≤ h.length ∧ m = h.length - i ∧ Sep r [] [.sl 52 2 (.slice A1 (wants h (h.take i)).length c1) ((wants h (h.take i)).map It.cells), PQ gq q, .sl 29 8 (.slice Ah h.length ch) (h.map Ch.cells)] w) _ [(34, .int .i64 (0 : Nat)), (7, .slice none 0 0)] (by repeat (first | exact trivial | refine ⟨rfl, ?_⟩)) ⟨0, none, 0, rfl, by omega, rfl, hS⟩ ?_
  clear hS
  rintro m f0 w _ ⟨i, A1, c1, rfl, hi, rfl, hS⟩
  have hwl : (wants h (h.take i)).length ≤ 60 := by
    unfold wants
    rw [List.length_map]
    exact Nat.le_trans (List.length_filter_le _ _) (by simp; omega)
  by_cases hlt : i < h.length
  · obtain ⟨gb, o, rfl, _, hra⟩ := (hS.slrows (.next (.next .here))).mat (by omega) hlt
    have hwk := wants_take (h := h) hlt
    repeat' (first
      | refine Z.pr rfl ?_ | refine Sh.la hS ?_ | refine Sh.lb ?_ | refine Sh.lc ?_ | refine Sh.su ?_
      | (refine Sh.sa hS ?_; clear hS; intro w hS)
      | ((first | refine Sh.aa hS ?_ | refine Sh.ab hS ?_ | refine Sh.ac hS ?_); clear hS; intro g w hS hge)
      | refine Sh.ix ?_ | refine Sh.up ?_ | refine Sh.sl1 ?_ | refine Sh.sl2 ?_ | refine Sh.sl5 ?_ | refine Sh.sl3 ?_ | refine Sh.sl4 ?_ | refine Sh.eq ?_ | refine Sh.ne ?_ | refine Sh.ix2 ?_ | refine Sh.ix3 ?_
      | refine Z.bu rfl rfl ?_ | refine Z.pl (R.max2 rfl rfl) ?_ | refine Z.pl (R.cap rfl rfl) ?_ | refine Z.pl R.mf ?_
      | refine Z.gT rfl rfl ?_ | refine Z.gF rfl rfl ?_ | refine Z.gF0 rfl rfl ?_ | refine Z.gU rfl rfl ?_
      | with_reducible (first | refine Z.seq ?_ | refine Z.reg ?_ | refine Z.nil ?_ | refine Z.skip ?_ | refine Z.exit ?_ | refine Z.ret ?_ | refine Z.block ?_ | refine Z.thN ?_ | refine Z.thU ?_ | refine Z.thE ?_ | refine Z.thR ?_ | refine Z.blN ?_ | refine Z.blR ?_ | refine Z.blE ?_ | refine Z.label ?_ | refine Z.scope ?_ | refine Z.ngN ?_ | refine Z.ngR ?_ | refine Z.ngE ?_)
      | ((with_reducible refine Z.blX ?_ ?_); rotate_left; rfl)
      | refine Z.brT rfl ?_ | refine Z.brF rfl ?_
      | ((first | refine Z.gS rfl rfl ?_ ?_ | refine Z.br rfl ?_ ?_) <;> intro hb <;> (try simp only [decide_eq_true_eq, decide_eq_false_iff_not, Bool.not_eq_true', Bool.not_eq_false', Int.not_lt, Int.not_le] at hb) <;> (try (exfalso; first | omega | exact hb trivial))))
    · rw [if_neg (by omega), List.append_nil] at hwk
      refine Sh.again (h.length - (i + 1)) [(34, .int .i64 (i + 1 : Nat)), (7, .slice A1 _ c1)] ?_
      rw [← hwk] at hS ⊢
      exact ⟨i + 1, A1, c1, rfl, by omega, rfl, hS.sb⟩
    · rename Nat => gx
      rename h[i].kind = 3 => hk3
      refine Z.lpS [10, 12, 43, 44, 45, 46, 47, 48, 49, 50, 51, 52, 53, 54, 55, 56, 57, 58, 59, 60] (fun m w s => ∃ (j : Nat) (b : Bool), s = [(43, .int .i64 j), (10, .bool b)] ∧ j ≤ h.length ∧ b = openB (h.take j) h[i] ∧ m = h.length - j ∧ Sep r [] [.blk gx 29 h[i].cells, .sl 52 2 (.slice A1 (wants h (h.take i)).length c1) ((wants h (h.take i)).map It.cells), PQ gq q, .sl 29 8 (.slice (some ⟨gb, o, none⟩) h.length ch) (h.map Ch.cells)] w) _ [(43, .int .i64 (0 : Nat)), (10, .bool true)] (by repeat (first | exact trivial | refine ⟨rfl, ?_⟩)) ⟨0, true, rfl, by omega, rfl, rfl, hS.sb⟩ ?_
      clear hS hra
      rintro m2 f1 w _ ⟨j, b, rfl, hj, hb0, rfl, hS⟩
      by_cases hlt2 : j < h.length
      · have hra2 := (hS.slrows (.next (.next (.next .here)))).elem (by omega) hlt2
        have hok := openB_take (x := h[i]) hlt2
        rw [← hb0] at hok
        cases b
        · repeat' (first
            | refine Z.pr rfl ?_ | refine Sh.la hS ?_ | refine Sh.lb ?_ | refine Sh.lc ?_ | refine Sh.su ?_
            | (refine Sh.sa hS ?_; clear hS; intro w hS)
            | ((first | refine Sh.aa hS ?_ | refine Sh.ab hS ?_ | refine Sh.ac hS ?_); clear hS; intro g w hS hge)
            | refine Sh.ix ?_ | refine Sh.up ?_ | refine Sh.sl1 ?_ | refine Sh.sl2 ?_ | refine Sh.sl5 ?_ | refine Sh.sl3 ?_ | refine Sh.sl4 ?_ | refine Sh.eq ?_ | refine Sh.ne ?_ | refine Sh.ix2 ?_ | refine Sh.ix3 ?_
            | refine Z.bu rfl rfl ?_ | refine Z.pl (R.max2 rfl rfl) ?_ | refine Z.pl (R.cap rfl rfl) ?_ | refine Z.pl R.mf ?_
            | refine Z.gT rfl rfl ?_ | refine Z.gF rfl rfl ?_ | refine Z.gF0 rfl rfl ?_ | refine Z.gU rfl rfl ?_
            | with_reducible (first | refine Z.seq ?_ | refine Z.reg ?_ | refine Z.nil ?_ | refine Z.skip ?_ | refine Z.exit ?_ | refine Z.ret ?_ | refine Z.block ?_ | refine Z.thN ?_ | refine Z.thU ?_ | refine Z.thE ?_ | refine Z.thR ?_ | refine Z.blN ?_ | refine Z.blR ?_ | refine Z.blE ?_ | refine Z.label ?_ | refine Z.scope ?_ | refine Z.ngN ?_ | refine Z.ngR ?_ | refine Z.ngE ?_)
            | ((with_reducible refine Z.blX ?_ ?_); rotate_left; rfl)
            | refine Z.brT rfl ?_ | refine Z.brF rfl ?_
            | ((first | refine Z.gS rfl rfl ?_ ?_ | refine Z.br rfl ?_ ?_) <;> intro hb <;> (try simp only [decide_eq_true_eq, decide_eq_false_iff_not, Bool.not_eq_true', Bool.not_eq_false', Int.not_lt, Int.not_le] at hb) <;> (try (exfalso; first | omega | exact hb trivial))))
          refine Sh.again (h.length - (j + 1)) [(43, .int .i64 (j + 1 : Nat)), (10, .bool _)] ?_
          exact ⟨j + 1, _, rfl, by omega, by rw [hok]; rfl, rfl, hS.sb⟩
        · repeat' (first
            | refine Z.pr rfl ?_ | refine Sh.la hS ?_ | refine Sh.lb ?_ | refine Sh.lc ?_ | refine Sh.su ?_
            | (refine Sh.sa hS ?_; clear hS; intro w hS)
            | ((first | refine Sh.aa hS ?_ | refine Sh.ab hS ?_ | refine Sh.ac hS ?_); clear hS; intro g w hS hge)
            | refine Sh.ix ?_ | refine Sh.up ?_ | refine Sh.sl1 ?_ | refine Sh.sl2 ?_ | refine Sh.sl5 ?_ | refine Sh.sl3 ?_ | refine Sh.sl4 ?_ | refine Sh.eq ?_ | refine Sh.ne ?_ | refine Sh.ix2 ?_ | refine Sh.ix3 ?_
            | refine Z.bu rfl rfl ?_ | refine Z.pl (R.max2 rfl rfl) ?_ | refine Z.pl (R.cap rfl rfl) ?_ | refine Z.pl R.mf ?_
            | refine Z.gT rfl rfl ?_ | refine Z.gF rfl rfl ?_ | refine Z.gF0 rfl rfl ?_ | refine Z.gU rfl rfl ?_
            | with_reducible (first | refine Z.seq ?_ | refine Z.reg ?_ | refine Z.nil ?_ | refine Z.skip ?_ | refine Z.exit ?_ | refine Z.ret ?_ | refine Z.block ?_ | refine Z.thN ?_ | refine Z.thU ?_ | refine Z.thE ?_ | refine Z.thR ?_ | refine Z.blN ?_ | refine Z.blR ?_ | refine Z.blE ?_ | refine Z.label ?_ | refine Z.scope ?_ | refine Z.ngN ?_ | refine Z.ngR ?_ | refine Z.ngE ?_)
            | ((with_reducible refine Z.blX ?_ ?_); rotate_left; rfl)
            | refine Z.brT rfl ?_ | refine Z.brF rfl ?_
            | ((first | refine Z.gS rfl rfl ?_ ?_ | refine Z.br rfl ?_ ?_) <;> intro hb <;> (try simp only [decide_eq_true_eq, decide_eq_false_iff_not, Bool.not_eq_true', Bool.not_eq_false', Int.not_lt, Int.not_le] at hb) <;> (try (exfalso; first | omega | exact hb trivial))))
          all_goals
            refine Sh.again (h.length - (j + 1)) [(43, .int .i64 (j + 1 : Nat)), (10, .bool _)] ?_
            refine ⟨j + 1, _, rfl, by omega, ?_, rfl, hS.sb⟩
            rw [hok]
            simp [hb]
      · rw [List.take_of_length_le (by omega)] at hb0
        cases b
        · rw [if_neg (by rw [← hb0]; simp), List.append_nil] at hwk
          repeat' (first
            | refine Z.pr rfl ?_ | refine Sh.la hS ?_ | refine Sh.lb ?_ | refine Sh.lc ?_ | refine Sh.su ?_
            | (refine Sh.sa hS ?_; clear hS; intro w hS)
            | ((first | refine Sh.aa hS ?_ | refine Sh.ab hS ?_ | refine Sh.ac hS ?_); clear hS; intro g w hS hge)
            | refine Sh.ix ?_ | refine Sh.up ?_ | refine Sh.sl1 ?_ | refine Sh.sl2 ?_ | refine Sh.sl5 ?_ | refine Sh.sl3 ?_ | refine Sh.sl4 ?_ | refine Sh.eq ?_ | refine Sh.ne ?_ | refine Sh.ix2 ?_ | refine Sh.ix3 ?_
            | refine Z.bu rfl rfl ?_ | refine Z.pl (R.max2 rfl rfl) ?_ | refine Z.pl (R.cap rfl rfl) ?_ | refine Z.pl R.mf ?_
            | refine Z.gT rfl rfl ?_ | refine Z.gF rfl rfl ?_ | refine Z.gF0 rfl rfl ?_ | refine Z.gU rfl rfl ?_
            | with_reducible (first | refine Z.seq ?_ | refine Z.reg ?_ | refine Z.nil ?_ | refine Z.skip ?_ | refine Z.exit ?_ | refine Z.ret ?_ | refine Z.block ?_ | refine Z.thN ?_ | refine Z.thU ?_ | refine Z.thE ?_ | refine Z.thR ?_ | refine Z.blN ?_ | refine Z.blR ?_ | refine Z.blE ?_ | refine Z.label ?_ | refine Z.scope ?_ | refine Z.ngN ?_ | refine Z.ngR ?_ | refine Z.ngE ?_)
            | ((with_reducible refine Z.blX ?_ ?_); rotate_left; rfl)
            | refine Z.brT rfl ?_ | refine Z.brF rfl ?_
            | ((first | refine Z.gS rfl rfl ?_ ?_ | refine Z.br rfl ?_ ?_) <;> intro hb <;> (try simp only [decide_eq_true_eq, decide_eq_false_iff_not, Bool.not_eq_true', Bool.not_eq_false', Int.not_lt, Int.not_le] at hb) <;> (try (exfalso; first | omega | exact hb trivial))))
          refine Sh.again (h.length - (i + 1)) [(34, .int .i64 (i + 1 : Nat)), (7, .slice A1 _ c1)] ?_
          rw [← hwk] at hS ⊢
          exact ⟨i + 1, A1, c1, rfl, by omega, rfl, hS.sb⟩
        · rw [if_pos ⟨hk3, hb0.symm⟩] at hwk
          repeat' (first
            | refine Z.pr rfl ?_ | refine Sh.la hS ?_ | refine Sh.lb ?_ | refine Sh.lc ?_ | refine Sh.su ?_
            | (refine Sh.sa hS ?_; clear hS; intro w hS)
            | ((first | refine Sh.aa hS ?_ | refine Sh.ab hS ?_ | refine Sh.ac hS ?_); clear hS; intro g w hS hge)
            | refine Sh.ix ?_ | refine Sh.up ?_ | refine Sh.sl1 ?_ | refine Sh.sl2 ?_ | refine Sh.sl5 ?_ | refine Sh.sl3 ?_ | refine Sh.sl4 ?_ | refine Sh.eq ?_ | refine Sh.ne ?_ | refine Sh.ix2 ?_ | refine Sh.ix3 ?_
            | refine Z.bu rfl rfl ?_ | refine Z.pl (R.max2 rfl rfl) ?_ | refine Z.pl (R.cap rfl rfl) ?_ | refine Z.pl R.mf ?_
            | refine Z.gT rfl rfl ?_ | refine Z.gF rfl rfl ?_ | refine Z.gF0 rfl rfl ?_ | refine Z.gU rfl rfl ?_
            | with_reducible (first | refine Z.seq ?_ | refine Z.reg ?_ | refine Z.nil ?_ | refine Z.skip ?_ | refine Z.exit ?_ | refine Z.ret ?_ | refine Z.block ?_ | refine Z.thN ?_ | refine Z.thU ?_ | refine Z.thE ?_ | refine Z.thR ?_ | refine Z.blN ?_ | refine Z.blR ?_ | refine Z.blE ?_ | refine Z.label ?_ | refine Z.scope ?_ | refine Z.ngN ?_ | refine Z.ngR ?_ | refine Z.ngE ?_)
            | ((with_reducible refine Z.blX ?_ ?_); rotate_left; rfl)
            | refine Z.brT rfl ?_ | refine Z.brF rfl ?_
            | ((first | refine Z.gS rfl rfl ?_ ?_ | refine Z.br rfl ?_ ?_) <;> intro hb <;> (try simp only [decide_eq_true_eq, decide_eq_false_iff_not, Bool.not_eq_true', Bool.not_eq_false', Int.not_lt, Int.not_le] at hb) <;> (try (exfalso; first | omega | exact hb trivial))))
          refine Z.eff (Z.apm (l' := [itOf h[i]]) hS rfl rfl rfl (by repeat (first | exact At.here | apply At.next)) (hS.lit1 (by repeat (first | exact At.here | apply At.next)) rfl rfl) (by (try simp only [maxLen, List.length_take, List.length_drop, List.length_append, List.length_cons, List.length_nil, List.length_map]); omega) (by (try simp only [maxLen, List.length_take, List.length_drop, List.length_append, List.length_cons, List.length_nil, List.length_map]); omega) ?_) rfl
          clear hS; intro A' c' w hS
          have hn : (wants h (h.take i)).length + [itOf h[i]].length = (wants h (h.take (i + 1))).length := by rw [hwk]; simp
          rw [← hwk, hn] at hS
          rw [hn]
          repeat' (first
            | refine Z.pr rfl ?_ | refine Sh.la hS ?_ | refine Sh.lb ?_ | refine Sh.lc ?_ | refine Sh.su ?_
            | (refine Sh.sa hS ?_; clear hS; intro w hS)
            | ((first | refine Sh.aa hS ?_ | refine Sh.ab hS ?_ | refine Sh.ac hS ?_); clear hS; intro g w hS hge)
            | refine Sh.ix ?_ | refine Sh.up ?_ | refine Sh.sl1 ?_ | refine Sh.sl2 ?_ | refine Sh.sl5 ?_ | refine Sh.sl3 ?_ | refine Sh.sl4 ?_ | refine Sh.eq ?_ | refine Sh.ne ?_ | refine Sh.ix2 ?_ | refine Sh.ix3 ?_
            | refine Z.bu rfl rfl ?_ | refine Z.pl (R.max2 rfl rfl) ?_ | refine Z.pl (R.cap rfl rfl) ?_ | refine Z.pl R.mf ?_
            | refine Z.gT rfl rfl ?_ | refine Z.gF rfl rfl ?_ | refine Z.gF0 rfl rfl ?_ | refine Z.gU rfl rfl ?_
            | with_reducible (first | refine Z.seq ?_ | refine Z.reg ?_ | refine Z.nil ?_ | refine Z.skip ?_ | refine Z.exit ?_ | refine Z.ret ?_ | refine Z.block ?_ | refine Z.thN ?_ | refine Z.thU ?_ | refine Z.thE ?_ | refine Z.thR ?_ | refine Z.blN ?_ | refine Z.blR ?_ | refine Z.blE ?_ | refine Z.label ?_ | refine Z.scope ?_ | refine Z.ngN ?_ | refine Z.ngR ?_ | refine Z.ngE ?_)
            | ((with_reducible refine Z.blX ?_ ?_); rotate_left; rfl)
            | refine Z.brT rfl ?_ | refine Z.brF rfl ?_
            | ((first | refine Z.gS rfl rfl ?_ ?_ | refine Z.br rfl ?_ ?_) <;> intro hb <;> (try simp only [decide_eq_true_eq, decide_eq_false_iff_not, Bool.not_eq_true', Bool.not_eq_false', Int.not_lt, Int.not_le] at hb) <;> (try (exfalso; first | omega | exact hb trivial))))
          refine Sh.again (h.length - (i + 1)) [(34, .int .i64 (i + 1 : Nat)), (7, .slice A' _ c')] ?_
          exact ⟨i + 1, A', c', rfl, by omega, rfl, hS.sb⟩
  · rw [List.take_of_length_le (by omega)] at hS hwl
    repeat' (first
      | refine Z.pr rfl ?_ | refine Sh.la hS ?_ | refine Sh.lb ?_ | refine Sh.lc ?_ | refine Sh.su ?_
      | (refine Sh.sa hS ?_; clear hS; intro w hS)
      | ((first | refine Sh.aa hS ?_ | refine Sh.ab hS ?_ | refine Sh.ac hS ?_); clear hS; intro g w hS hge)
      | refine Sh.ix ?_ | refine Sh.up ?_ | refine Sh.sl1 ?_ | refine Sh.sl2 ?_ | refine Sh.sl5 ?_ | refine Sh.sl3 ?_ | refine Sh.sl4 ?_ | refine Sh.eq ?_ | refine Sh.ne ?_ | refine Sh.ix2 ?_ | refine Sh.ix3 ?_
      | refine Z.bu rfl rfl ?_ | refine Z.pl (R.max2 rfl rfl) ?_ | refine Z.pl (R.cap rfl rfl) ?_ | refine Z.pl R.mf ?_
      | refine Z.gT rfl rfl ?_ | refine Z.gF rfl rfl ?_ | refine Z.gF0 rfl rfl ?_ | refine Z.gU rfl rfl ?_
      | with_reducible (first | refine Z.seq ?_ | refine Z.reg ?_ | refine Z.nil ?_ | refine Z.skip ?_ | refine Z.exit ?_ | refine Z.ret ?_ | refine Z.block ?_ | refine Z.thN ?_ | refine Z.thU ?_ | refine Z.thE ?_ | refine Z.thR ?_ | refine Z.blN ?_ | refine Z.blR ?_ | refine Z.blE ?_ | refine Z.label ?_ | refine Z.scope ?_ | refine Z.ngN ?_ | refine Z.ngR ?_ | refine Z.ngE ?_)
      | ((with_reducible refine Z.blX ?_ ?_); rotate_left; rfl)
      | refine Z.brT rfl ?_ | refine Z.brF rfl ?_
      | ((first | refine Z.gS rfl rfl ?_ ?_ | refine Z.br rfl ?_ ?_) <;> intro hb <;> (try simp only [decide_eq_true_eq, decide_eq_false_iff_not, Bool.not_eq_true', Bool.not_eq_false', Int.not_lt, Int.not_le] at hb) <;> (try (exfalso; first | omega | exact hb trivial))))
    replace hS := hS.fo (R := PQ gq _)
    refine Z.eff (Z.cl (pqitems_z gq q _ _ _ hS (by omega)) rfl ?_) rfl
    clear hS
    rintro e w ⟨A3, c3, rfl, hS⟩
    refine ⟨_, rfl, ?_⟩
    rw [hwt] at hS
    rw [List.take_of_length_le (by omega), hwt]
    repeat' (first
      | refine Z.pr rfl ?_ | refine Sh.la hS ?_ | refine Sh.lb ?_ | refine Sh.lc ?_ | refine Sh.su ?_
      | (refine Sh.sa hS ?_; clear hS; intro w hS)
      | ((first | refine Sh.aa hS ?_ | refine Sh.ab hS ?_ | refine Sh.ac hS ?_); clear hS; intro g w hS hge)
      | refine Sh.ix ?_ | refine Sh.up ?_ | refine Sh.sl1 ?_ | refine Sh.sl2 ?_ | refine Sh.sl5 ?_ | refine Sh.sl3 ?_ | refine Sh.sl4 ?_ | refine Sh.eq ?_ | refine Sh.ne ?_ | refine Sh.ix2 ?_ | refine Sh.ix3 ?_
      | refine Z.bu rfl rfl ?_ | refine Z.pl (R.max2 rfl rfl) ?_ | refine Z.pl (R.cap rfl rfl) ?_ | refine Z.pl R.mf ?_
      | refine Z.gT rfl rfl ?_ | refine Z.gF rfl rfl ?_ | refine Z.gF0 rfl rfl ?_ | refine Z.gU rfl rfl ?_
      | with_reducible (first | refine Z.seq ?_ | refine Z.reg ?_ | refine Z.nil ?_ | refine Z.skip ?_ | refine Z.exit ?_ | refine Z.ret ?_ | refine Z.block ?_ | refine Z.thN ?_ | refine Z.thU ?_ | refine Z.thE ?_ | refine Z.thR ?_ | refine Z.blN ?_ | refine Z.blR ?_ | refine Z.blE ?_ | refine Z.label ?_ | refine Z.scope ?_ | refine Z.ngN ?_ | refine Z.ngR ?_ | refine Z.ngE ?_)
      | ((with_reducible refine Z.blX ?_ ?_); rotate_left; rfl)
      | refine Z.brT rfl ?_ | refine Z.brF rfl ?_
      | ((first | refine Z.gS rfl rfl ?_ ?_ | refine Z.br rfl ?_ ?_) <;> intro hb <;> (try simp only [decide_eq_true_eq, decide_eq_false_iff_not, Bool.not_eq_true', Bool.not_eq_false', Int.not_lt, Int.not_le] at hb) <;> (try (exfalso; first | omega | exact hb trivial))))
    refine Z.eff (Z.cl (sameItems_z (wants h h) (wants h h) _ _ _ _ _ hS (Reads.of_at (e := 52) .here) (Reads.of_at (e := 52) (.next (.next .here))) (by omega) (by omega)) rfl ?_) rfl
    clear hS
    rintro e w ⟨rfl, hS⟩
    refine ⟨_, rfl, ?_⟩
    rw [show decide (wants h h = wants h h) = true by simp]
    repeat' (first
      | refine Z.pr rfl ?_ | refine Sh.la hS ?_ | refine Sh.lb ?_ | refine Sh.lc ?_ | refine Sh.su ?_
      | (refine Sh.sa hS ?_; clear hS; intro w hS)
      | ((first | refine Sh.aa hS ?_ | refine Sh.ab hS ?_ | refine Sh.ac hS ?_); clear hS; intro g w hS hge)
      | refine Sh.ix ?_ | refine Sh.up ?_ | refine Sh.sl1 ?_ | refine Sh.sl2 ?_ | refine Sh.sl5 ?_ | refine Sh.sl3 ?_ | refine Sh.sl4 ?_ | refine Sh.eq ?_ | refine Sh.ne ?_ | refine Sh.ix2 ?_ | refine Sh.ix3 ?_
      | refine Z.bu rfl rfl ?_ | refine Z.pl (R.max2 rfl rfl) ?_ | refine Z.pl (R.cap rfl rfl) ?_ | refine Z.pl R.mf ?_
      | refine Z.gT rfl rfl ?_ | refine Z.gF rfl rfl ?_ | refine Z.gF0 rfl rfl ?_ | refine Z.gU rfl rfl ?_
      | with_reducible (first | refine Z.seq ?_ | refine Z.reg ?_ | refine Z.nil ?_ | refine Z.skip ?_ | refine Z.exit ?_ | refine Z.ret ?_ | refine Z.block ?_ | refine Z.thN ?_ | refine Z.thU ?_ | refine Z.thE ?_ | refine Z.thR ?_ | refine Z.blN ?_ | refine Z.blR ?_ | refine Z.blE ?_ | refine Z.label ?_ | refine Z.scope ?_ | refine Z.ngN ?_ | refine Z.ngR ?_ | refine Z.ngE ?_)
      | ((with_reducible refine Z.blX ?_ ?_); rotate_left; rfl)
      | refine Z.brT rfl ?_ | refine Z.brF rfl ?_
      | ((first | refine Z.gS rfl rfl ?_ ?_ | refine Z.br rfl ?_ ?_) <;> intro hb <;> (try simp only [decide_eq_true_eq, decide_eq_false_iff_not, Bool.not_eq_true', Bool.not_eq_false', Int.not_lt, Int.not_le] at hb) <;> (try (exfalso; first | omega | exact hb trivial))))
    first | refine Z.done hS Try.results5 (Z.RV.tmp rfl Z.RV.nil) ?_ | refine Z.doneN hS Try.results5 (Z.RV.tmp rfl Z.RV.nil) ?_
    exact ⟨rfl, hS.chg⟩
set_option maxRecDepth 100000 in
theorem queueWaits_lifted (os : Os) (started : os.Started) (H : Type) (enc : TypeId × Value → H) :
    ReturnsInHanded {} Try.checked os 5 .any (Rows.queueWaitsSpec.pre6 enc Try.prog Try.f5 Rows.queueWaitsRow.domain false) (Rows.queueWaitsSpec.post enc Try.prog Try.f5 false Rows.queueWaitsRow.fresh Rows.queueWaitsRow.handsOn Rows.queueWaitsRow.again) := by
  refine returnsInHanded_of_change (C := Try.checked) Try.own started (by kernel_rfl) Try.func5
    (ChangeSpec.witness6 (enc := enc) (C := Try.checked) false ⟨#[], #[.slice none 0 0], []⟩ 8 (by kernel_rfl) (by kernel_rfl) (by kernel_rfl) (by kernel_rfl)) ?_
  intro W base args ds gs before hval0 hW _ _
  have hval : ∀ (j : Nat) t v, Try.f5.params[j]? = some t → args[j]? = some v → Value.okWide Try.prog W .any base t v := hval0
  have hW0 := hW
  obtain ⟨p, q, hA0, hV, hpq, _, _⟩ := hW
  obtain ⟨la⟩ := args
  have hA : DataW.TrodAll enc Try.prog W 0 (fun _ => true) true [36] la ds p := by have := hA0; rw [Try.params5] at this; exact this
  rw [Try.params5] at hval
  obtain ⟨v0, la0, d0, ds0, p0, q0, rfl, rfl, rfl, h0, hA⟩ := trodAll_cons hA
  obtain ⟨rfl, rfl, rfl⟩ := trodAll_nil hA
  obtain ⟨l0, A0, cap0, rfl, hr0⟩ := arg_ints (hval 0 _ _ rfl rfl) h0
  have fin : Calls Try.prog 5 _ W fun e W' => e = .returned (.bool true) ∧ Chg [] W W' := qwaits_z l0 A0 cap0 W hr0
  refine fin.mono fun e W' ⟨he, hc⟩ => ⟨_, he, ?_⟩
  exact law_post Try.laidOut (by rw [Try.params5]; intro t ht; simp only [List.mem_cons, List.not_mem_nil, or_false] at ht; rcases ht with rfl <;> exact ⟨by kernel_rfl, of_decide_eq_true (by kernel_rfl)⟩) rfl rfl Try.underlying4 rfl hW0 hc.below
theorem queueWaits_holds : Rows.QueueWaitsSaid :=
  OpenClaim.holds_of_wide 5 Try.f5 rfl rfl rfl rfl rfl rfl rfl ⟨rfl, rfl, rfl, rfl, rfl⟩ rfl rfl rfl rfl rfl (by kernel_rfl) Try.func5 (by kernel_rfl)
    (of_decide_eq_true (by kernel_rfl)) (by unfold Func.isWrapper; rw [if_neg (of_decide_eq_false (by kernel_rfl))]; exact ⟨rfl, rfl⟩)
    (fun os started H enc _ => queueWaits_lifted os started H enc)
end Go.Proofs.Ytpaoommfcmeagaa
