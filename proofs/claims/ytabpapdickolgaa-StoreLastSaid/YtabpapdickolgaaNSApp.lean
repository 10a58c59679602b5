/-
  The walk of Apply of the reference's store.
-/
import Derived.Test.YtabpapdickolgaaNFind
namespace Go.Proofs.Ytabpapdickolgaa
open Go.RowKit
set_option linter.unusedSimpArgs false
set_option linter.unusedVariables false
attribute [local irreducible] Res.blk Res.sl Res.all Res.ex Res.pure Res.star

/-- What Apply makes of a store, and what it answers. -/
def sApp (l : List Ce) (x : Ch) : List Ce × Int :=
  if validB x then
    if x.kind = 1 then
      if foundB l x.key then (l.set (fidx l x.key) ⟨x.key, x.value, x.seq⟩, 0)
      else if 32 ≤ l.length then (l, 33) else (l.take (fidx l x.key) ++ [⟨x.key, x.value, x.seq⟩] ++ l.drop (fidx l x.key), 0)
    else if x.kind = 2 then
      if foundB l x.key then (l.take (fidx l x.key) ++ l.drop (fidx l x.key + 1), 0) else (l, 34)
    else (l, 0)
  else (l, 1)
theorem found_lt {l : List Ce} {k : ByteArray} (h : foundB l k = true) : fidx l k < l.length := by
  unfold foundB keyAt at h
  rcases Nat.lt_or_ge (fidx l k) l.length with h1 | h1
  · exact h1
  · rw [List.getElem?_eq_none h1] at h; cases h
/-- The store is as it was, or has a new row. -/
def SPost (r : World) (F : List Res) (gs : Nat) (l : List Ce) (v : Value) (R : List Ce × Int) (e : Ending) (w : World) : Prop :=
  e = .returned (.int .i64 R.2) ∧ ((R.1 = l ∧ Sep r [] (.blk gs 47 [v] :: F) w) ∨
    ∃ v', Sep r [] (.blk gs 47 [v'] :: .sl 93 3 v' (R.1.map Ce.cells) :: F) w)

set_option maxHeartbeats 1000000 in
theorem sapply_z (gs : Nat) (l : List Ce) (v : Value) (x : Ch) (r : World) (F : List Res) (w : World) (hS : Sep r [] (.blk gs 47 [v] :: F) w) (hrd : Reads r F 3 v (l.map Ce.cells)) (hl : l.length ≤ 1000) :
    Calls Try.prog 26 #[.pointer (some ⟨gs, 0, none⟩), x.val] w (SPost r F gs l v (sApp l x)) := by
  obtain ⟨A, c, rfl, hc⟩ := (hrd [_] w hS).mform
  have hfl := fidx_le l x.key
  refine Z.enter Try.func26 Try.ntmps26 rfl rfl ?_
  repeat' (first
    | refine Z.pr rfl ?_ | refine Sh.la hS ?_ | refine Sh.lb ?_ | refine Sh.lc ?_ | refine Sh.su ?_
    | (refine Sh.sa hS ?_; clear hS; intro w hS)
    | ((first | refine Sh.aa hS ?_ | refine Sh.ab hS ?_ | refine Sh.ac hS ?_); clear hS; intro g w hS hge)
    | refine Sh.ix ?_ | refine Sh.up ?_ | refine Sh.sl1 ?_ | refine Sh.sl2 ?_ | refine Sh.sl5 ?_ | refine Sh.sl3 ?_ | refine Sh.sl4 ?_ | refine Sh.eq ?_ | refine Sh.ne ?_ | refine Sh.ix2 ?_ | refine Sh.ix3 ?_
    | refine Z.bu rfl rfl ?_ | refine Z.pl (R.max2 rfl rfl) ?_ | refine Z.pl (R.cap rfl rfl) ?_ | refine Z.pl R.mf ?_
    | refine Z.gT rfl rfl ?_ | refine Z.gF rfl rfl ?_ | refine Z.gF0 rfl rfl ?_ | refine Z.gU rfl rfl ?_
    | with_reducible (first | refine Z.seq ?_ | refine Z.reg ?_ | refine Z.nil ?_ | refine Z.skip ?_ | refine Z.exit ?_ | refine Z.ret ?_ | refine Z.block ?_ | refine Z.thN ?_ | refine Z.thU ?_ | refine Z.thE ?_ | refine Z.thR ?_ | refine Z.blN ?_ | refine Z.blR ?_ | refine Z.blE ?_ | refine Z.label ?_ | refine Z.scope ?_ | refine Z.ngN ?_ | refine Z.ngR ?_ | refine Z.ngE ?_)
    | ((with_reducible refine Z.blX ?_ ?_); rotate_left; rfl)
    | refine Z.brT rfl ?_ | refine Z.brF rfl ?_
    | ((first | refine Z.gS rfl rfl ?_ ?_ | refine Z.br rfl ?_ ?_) <;> intro hb <;> (try simp only [decide_eq_true_eq, decide_eq_false_iff_not, Bool.not_eq_true', Bool.not_eq_false', Int.not_lt, Int.not_le] at hb) <;> (try (exfalso; first | omega | exact hb trivial))))
  refine Z.eff (Z.cl (valid_any x _) rfl ?_) rfl
  rintro e w' ⟨rfl, hC⟩
  refine ⟨_, rfl, ?_⟩
  replace hS := hS.ext hC
  clear hC
  repeat' (first
    | refine Z.pr rfl ?_ | refine Sh.la hS ?_ | refine Sh.lb ?_ | refine Sh.lc ?_ | refine Sh.su ?_
    | (refine Sh.sa hS ?_; clear hS; intro w hS)
    | ((first | refine Sh.aa hS ?_ | refine Sh.ab hS ?_ | refine Sh.ac hS ?_); clear hS; intro g w hS hge)
    | refine Sh.ix ?_ | refine Sh.up ?_ | refine Sh.sl1 ?_ | refine Sh.sl2 ?_ | refine Sh.sl5 ?_ | refine Sh.sl3 ?_ | refine Sh.sl4 ?_ | refine Sh.eq ?_ | refine Sh.ne ?_ | refine Sh.ix2 ?_ | refine Sh.ix3 ?_
    | refine Z.bu rfl rfl ?_ | refine Z.pl (R.max2 rfl rfl) ?_ | refine Z.pl (R.cap rfl rfl) ?_ | refine Z.pl R.mf ?_
    | refine Z.gT rfl rfl ?_ | refine Z.gF rfl rfl ?_ | refine Z.gF0 rfl rfl ?_ | refine Z.gU rfl rfl ?_
    | with_reducible (first | refine Z.seq ?_ | refine Z.reg ?_ | refine Z.nil ?_ | refine Z.skip ?_ | refine Z.exit ?_ | refine Z.ret ?_ | refine Z.block ?_ | refine Z.thN ?_ | refine Z.thU ?_ | refine Z.thE ?_ | refine Z.thR ?_ | refine Z.blN ?_ | refine Z.blR ?_ | refine Z.blE ?_ | refine Z.label ?_ | refine Z.scope ?_ | refine Z.ngN ?_ | refine Z.ngR ?_ | refine Z.ngE ?_)
    | ((with_reducible refine Z.blX ?_ ?_); rotate_left; rfl)
    | refine Z.brT rfl ?_ | refine Z.brF rfl ?_
    | ((first | refine Z.gS rfl rfl ?_ ?_ | refine Z.br rfl ?_ ?_) <;> intro hb <;> (try simp only [decide_eq_true_eq, decide_eq_false_iff_not, Bool.not_eq_true', Bool.not_eq_false', Int.not_lt, Int.not_le] at hb) <;> (try (exfalso; first | omega | exact hb trivial))))
  · first | refine Z.done hS Try.results26 (Z.RV.tmp rfl Z.RV.nil) ?_ | refine Z.doneN hS Try.results26 (Z.RV.tmp rfl Z.RV.nil) ?_
    refine ⟨by simp [sApp, hb, Z.packR], .inl ⟨by simp [sApp, hb], hS.sb⟩⟩
  replace hS := hS.fo (R := .blk gs _ _)
  refine Z.eff (Z.cl (find_z gs l _ x.key r _ _ hS (hrd.cons _) hl) rfl ?_) rfl
  clear hS
  rintro e w ⟨rfl, hS⟩
  refine ⟨_, rfl, ?_⟩
  repeat' (first
    | refine Z.pr rfl ?_ | refine Sh.la hS ?_ | refine Sh.lb ?_ | refine Sh.lc ?_ | refine Sh.su ?_
    | (refine Sh.sa hS ?_; clear hS; intro w hS)
    | ((first | refine Sh.aa hS ?_ | refine Sh.ab hS ?_ | refine Sh.ac hS ?_); clear hS; intro g w hS hge)
    | refine Sh.ix ?_ | refine Sh.up ?_ | refine Sh.sl1 ?_ | refine Sh.sl2 ?_ | refine Sh.sl5 ?_ | refine Sh.sl3 ?_ | refine Sh.sl4 ?_ | refine Sh.eq ?_ | refine Sh.ne ?_ | refine Sh.ix2 ?_ | refine Sh.ix3 ?_
    | refine Z.bu rfl rfl ?_ | refine Z.pl (R.max2 rfl rfl) ?_ | refine Z.pl (R.cap rfl rfl) ?_ | refine Z.pl R.mf ?_
    | refine Z.gT rfl rfl ?_ | refine Z.gF rfl rfl ?_ | refine Z.gF0 rfl rfl ?_ | refine Z.gU rfl rfl ?_
    | with_reducible (first | refine Z.seq ?_ | refine Z.reg ?_ | refine Z.nil ?_ | refine Z.skip ?_ | refine Z.exit ?_ | refine Z.ret ?_ | refine Z.block ?_ | refine Z.thN ?_ | refine Z.thU ?_ | refine Z.thE ?_ | refine Z.thR ?_ | refine Z.blN ?_ | refine Z.blR ?_ | refine Z.blE ?_ | refine Z.label ?_ | refine Z.scope ?_ | refine Z.ngN ?_ | refine Z.ngR ?_ | refine Z.ngE ?_)
    | ((with_reducible refine Z.blX ?_ ?_); rotate_left; rfl)
    | refine Z.brT rfl ?_ | refine Z.brF rfl ?_
    | ((first | refine Z.gS rfl rfl ?_ ?_ | refine Z.br rfl ?_ ?_) <;> intro hb <;> (try simp only [decide_eq_true_eq, decide_eq_false_iff_not, Bool.not_eq_true', Bool.not_eq_false', Int.not_lt, Int.not_le] at hb) <;> (try (exfalso; first | omega | exact hb trivial))))
  · -- the key is there
    have hlt := found_lt hb
    refine Z.eff (Z.ap0m hS rfl rfl rfl (hrd [] _ (hS.sub (by repeat (first | exact Sub.rest | apply Sub.skip)))) (by (try simp only [maxLen, List.length_take, List.length_drop, List.length_append, List.length_cons, List.length_nil, List.length_map]); omega) (by (try simp only [maxLen, List.length_take, List.length_drop, List.length_append, List.length_cons, List.length_nil, List.length_map]); omega) ?_) rfl
    clear hS
    intro A' c' w hS
    obtain ⟨gA, rfl⟩ := Z.Sep_slform hS (by repeat (first | exact At.here | apply At.next)) (by simp; omega)
    repeat' (first
      | refine Z.pr rfl ?_ | refine Sh.la hS ?_ | refine Sh.lb ?_ | refine Sh.lc ?_ | refine Sh.su ?_
      | (refine Sh.sa hS ?_; clear hS; intro w hS)
      | ((first | refine Sh.aa hS ?_ | refine Sh.ab hS ?_ | refine Sh.ac hS ?_); clear hS; intro g w hS hge)
      | refine Sh.ix ?_ | refine Sh.up ?_ | refine Sh.sl1 ?_ | refine Sh.sl2 ?_ | refine Sh.sl5 ?_ | refine Sh.sl3 ?_ | refine Sh.sl4 ?_ | refine Sh.eq ?_ | refine Sh.ne ?_ | refine Sh.ix2 ?_ | refine Sh.ix3 ?_
      | refine Z.bu rfl rfl ?_ | refine Z.pl (R.max2 rfl rfl) ?_ | refine Z.pl (R.cap rfl rfl) ?_ | refine Z.pl R.mf ?_
      | refine Z.gT rfl rfl ?_ | refine Z.gF rfl rfl ?_ | refine Z.gF0 rfl rfl ?_ | refine Z.gU rfl rfl ?_
      | with_reducible (first | refine Z.seq ?_ | refine Z.reg ?_ | refine Z.nil ?_ | refine Z.skip ?_ | refine Z.exit ?_ | refine Z.ret ?_ | refine Z.block ?_ | refine Z.thN ?_ | refine Z.thU ?_ | refine Z.thE ?_ | refine Z.thR ?_ | refine Z.blN ?_ | refine Z.blR ?_ | refine Z.blE ?_ | refine Z.label ?_ | refine Z.scope ?_ | refine Z.ngN ?_ | refine Z.ngR ?_ | refine Z.ngE ?_)
      | ((with_reducible refine Z.blX ?_ ?_); rotate_left; rfl)
      | refine Z.brT rfl ?_ | refine Z.brF rfl ?_
      | ((first | refine Z.gS rfl rfl ?_ ?_ | refine Z.br rfl ?_ ?_) <;> intro hb <;> (try simp only [decide_eq_true_eq, decide_eq_false_iff_not, Bool.not_eq_true', Bool.not_eq_false', Int.not_lt, Int.not_le] at hb) <;> (try (exfalso; first | omega | exact hb trivial))))
    refine D.startS hS 13 14 (by kernel_rfl) rfl ?_
    replace hS := hS.drew
    refine Sh.dp 0 1 ?_
    refine Sh.dp 1 3 ?_
    refine Sh.dp 2 7 ?_
    refine Sh.dp 4 23 ?_
    refine Sh.dp 5 55 ?_
    refine Sh.dp 7 183 ?_
    refine Sh.dp 9 695 ?_
    refine Sh.dl 3 703 ?_
    refine Sh.dl 6 767 ?_
    refine Sh.dl 8 1023 ?_
    refine Sh.dl 10 2047 ?_
    refine D.bu 11 4095 rfl D.wantedN (by kernel_rfl) rfl rfl ?_
    first | refine D.ixn 12 8191 rfl D.wantedN (by kernel_rfl) rfl rfl rfl (by omega) ?_ | refine D.ix 12 8191 rfl D.wantedN (by kernel_rfl) rfl rfl rfl (by omega) ?_ | refine D.ia 12 8191 rfl D.wantedN (by kernel_rfl) rfl rfl rfl (by omega) ?_
    refine D.eff 13 16383 rfl D.wantedN (by kernel_rfl) (by kernel_rfl) (fun _ _ h => h) ?_
    refine Z.stEm (⟨x.key, x.value, x.seq⟩ : Ce) hS rfl (by repeat (first | exact At.here | apply At.next)) (by omega) rfl rfl rfl rfl ?_
    clear hS; intro w hS
    refine ⟨HM.last (by kernel_rfl), ?_⟩
    refine D.done (by kernel_rfl) ?_
    repeat' (first
      | refine Z.pr rfl ?_ | refine Sh.la hS ?_ | refine Sh.lb ?_ | refine Sh.lc ?_ | refine Sh.su ?_
      | (refine Sh.sa hS ?_; clear hS; intro w hS)
      | ((first | refine Sh.aa hS ?_ | refine Sh.ab hS ?_ | refine Sh.ac hS ?_); clear hS; intro g w hS hge)
      | refine Sh.ix ?_ | refine Sh.up ?_ | refine Sh.sl1 ?_ | refine Sh.sl2 ?_ | refine Sh.sl5 ?_ | refine Sh.sl3 ?_ | refine Sh.sl4 ?_ | refine Sh.eq ?_ | refine Sh.ne ?_ | refine Sh.ix2 ?_ | refine Sh.ix3 ?_
      | refine Z.bu rfl rfl ?_ | refine Z.pl (R.max2 rfl rfl) ?_ | refine Z.pl (R.cap rfl rfl) ?_ | refine Z.pl R.mf ?_
      | refine Z.gT rfl rfl ?_ | refine Z.gF rfl rfl ?_ | refine Z.gF0 rfl rfl ?_ | refine Z.gU rfl rfl ?_
      | with_reducible (first | refine Z.seq ?_ | refine Z.reg ?_ | refine Z.nil ?_ | refine Z.skip ?_ | refine Z.exit ?_ | refine Z.ret ?_ | refine Z.block ?_ | refine Z.thN ?_ | refine Z.thU ?_ | refine Z.thE ?_ | refine Z.thR ?_ | refine Z.blN ?_ | refine Z.blR ?_ | refine Z.blE ?_ | refine Z.label ?_ | refine Z.scope ?_ | refine Z.ngN ?_ | refine Z.ngR ?_ | refine Z.ngE ?_)
      | ((with_reducible refine Z.blX ?_ ?_); rotate_left; rfl)
      | refine Z.brT rfl ?_ | refine Z.brF rfl ?_
      | ((first | refine Z.gS rfl rfl ?_ ?_ | refine Z.br rfl ?_ ?_) <;> intro hb <;> (try simp only [decide_eq_true_eq, decide_eq_false_iff_not, Bool.not_eq_true', Bool.not_eq_false', Int.not_lt, Int.not_le] at hb) <;> (try (exfalso; first | omega | exact hb trivial))))
    first | refine Z.done hS Try.results26 (Z.RV.tmp rfl Z.RV.nil) ?_ | refine Z.doneN hS Try.results26 (Z.RV.tmp rfl Z.RV.nil) ?_
    have e : sApp l x = (l.set (fidx l x.key) ⟨x.key, x.value, x.seq⟩, 0) := by simp [sApp, *]
    rw [e]
    exact ⟨rfl, .inr ⟨_, hS.sb⟩⟩
  · first | refine Z.done hS Try.results26 (Z.RV.tmp rfl Z.RV.nil) ?_ | refine Z.doneN hS Try.results26 (Z.RV.tmp rfl Z.RV.nil) ?_
    have hlen : 32 ≤ l.length := by omega
    refine ⟨by simp [sApp, *, Z.packR], .inl ⟨by simp [sApp, *], hS.sb⟩⟩
  · -- a new key
    refine D.startS hS 27 28 (by kernel_rfl) rfl ?_
    replace hS := hS.drew
    refine Sh.dp 0 1 ?_
    refine Sh.dp 2 5 ?_
    refine Sh.dp 3 13 ?_
    refine Sh.dp 4 29 ?_
    refine Sh.dp 6 93 ?_
    refine Sh.dp 9 605 ?_
    refine Sh.dp 11 2653 ?_
    refine Sh.dp 13 10845 ?_
    refine Sh.dp 18 272989 ?_
    refine Sh.dp 19 797277 ?_
    refine Sh.dp 20 1845853 ?_
    refine Sh.dp 22 6040157 ?_
    refine Sh.dl 5 6040189 ?_
    refine D.pl 7 6040317 rfl D.wantedN (by kernel_rfl) (R.upto rfl rfl rfl (by omega)) ?_
    refine Sh.dl 10 6041341 ?_
    refine Sh.dl 12 6045437 ?_
    refine Sh.dl 14 6061821 ?_
    refine D.bu 15 6094589 rfl D.wantedN (by kernel_rfl) rfl rfl ?_
    refine Sh.dl 21 8191741 ?_
    refine D.pl 23 16580349 rfl D.wantedN (by kernel_rfl) (R.since rfl rfl rfl (by omega)) ?_
    refine D.each [1, 16] (by kernel_rfl) rfl ?_
    refine D.econs 1 16580351 rfl D.wantedN (by kernel_rfl) (fun _ _ h => h) ?_ ?_
    · refine Z.bs hS rfl rfl rfl ?_
      clear hS; intro g w hS hge
      refine ⟨HM.s (hS.sb), ?_⟩
      refine D.each [8, 16] (by kernel_rfl) rfl ?_
      refine D.econs 8 16580607 rfl D.wantedN (by kernel_rfl) (fun _ _ h => h) ?_ ?_
      · refine Z.ap0m hS rfl rfl rfl ((hrd [] _ (hS.sub (by repeat (first | exact Sub.rest | apply Sub.skip)))).mtake (by omega)) (by (try simp only [maxLen, List.length_take, List.length_drop, List.length_append, List.length_cons, List.length_nil, List.length_map]); omega) (by (try simp only [maxLen, List.length_take, List.length_drop, List.length_append, List.length_cons, List.length_nil, List.length_map]); omega) ?_
        clear hS; intro A' c' w hS
        refine ⟨HM.s (hS.sb), ?_⟩
        refine D.eff 16 16646143 rfl D.wantedN (by kernel_rfl) (by kernel_rfl) (fun _ _ h => h) ?_
        refine Z.bs hS rfl rfl rfl ?_
        clear hS; intro g w hS hge
        refine ⟨HM.s (hS.sb), ?_⟩
        refine D.eff 17 16777215 rfl D.wantedN (by kernel_rfl) (by kernel_rfl) (fun _ _ h => h) ?_
        refine Z.apm (l' := [(⟨x.key, x.value, x.seq⟩ : Ce)]) hS rfl rfl rfl (by repeat (first | exact At.here | apply At.next)) (hS.lit1 (by repeat (first | exact At.here | apply At.next)) rfl rfl) (by (try simp only [maxLen, List.length_take, List.length_drop, List.length_append, List.length_cons, List.length_nil, List.length_map]); omega) (by (try simp only [maxLen, List.length_take, List.length_drop, List.length_append, List.length_cons, List.length_nil, List.length_map]); omega) ?_
        clear hS; intro A' c' w hS
        refine ⟨HM.s (hS.sb), ?_⟩
        refine D.eff 24 33554431 rfl D.wantedN (by kernel_rfl) (by kernel_rfl) (fun _ _ h => h) ?_
        refine Z.apm hS rfl rfl rfl (by repeat (first | exact At.here | apply At.next)) ((hrd [] _ (hS.sub (by repeat (first | exact Sub.rest | apply Sub.skip)))).mdrop (by omega)) (by (try simp only [maxLen, List.length_take, List.length_drop, List.length_append, List.length_cons, List.length_nil, List.length_map]); omega) (by (try simp only [maxLen, List.length_take, List.length_drop, List.length_append, List.length_cons, List.length_nil, List.length_map]); omega) ?_
        clear hS; intro A' c' w hS
        refine ⟨HM.s (hS.sb), ?_⟩
        refine Sh.dp 25 67108863 ?_
        refine Sh.dp 26 134217727 ?_
        refine D.eff 27 268435455 rfl D.wantedN (by kernel_rfl) (by kernel_rfl) (fun _ _ h => h) ?_
        refine Z.st hS rfl (by repeat (first | exact At.here | apply At.next)) rfl rfl ?_
        clear hS; intro w hS
        refine ⟨HM.last (by kernel_rfl), ?_⟩
        refine D.done (by kernel_rfl) ?_
        repeat' (first
          | refine Z.pr rfl ?_ | refine Sh.la hS ?_ | refine Sh.lb ?_ | refine Sh.lc ?_ | refine Sh.su ?_
          | (refine Sh.sa hS ?_; clear hS; intro w hS)
          | ((first | refine Sh.aa hS ?_ | refine Sh.ab hS ?_ | refine Sh.ac hS ?_); clear hS; intro g w hS hge)
          | refine Sh.ix ?_ | refine Sh.up ?_ | refine Sh.sl1 ?_ | refine Sh.sl2 ?_ | refine Sh.sl5 ?_ | refine Sh.sl3 ?_ | refine Sh.sl4 ?_ | refine Sh.eq ?_ | refine Sh.ne ?_ | refine Sh.ix2 ?_ | refine Sh.ix3 ?_
          | refine Z.bu rfl rfl ?_ | refine Z.pl (R.max2 rfl rfl) ?_ | refine Z.pl (R.cap rfl rfl) ?_ | refine Z.pl R.mf ?_
          | refine Z.gT rfl rfl ?_ | refine Z.gF rfl rfl ?_ | refine Z.gF0 rfl rfl ?_ | refine Z.gU rfl rfl ?_
          | with_reducible (first | refine Z.seq ?_ | refine Z.reg ?_ | refine Z.nil ?_ | refine Z.skip ?_ | refine Z.exit ?_ | refine Z.ret ?_ | refine Z.block ?_ | refine Z.thN ?_ | refine Z.thU ?_ | refine Z.thE ?_ | refine Z.thR ?_ | refine Z.blN ?_ | refine Z.blR ?_ | refine Z.blE ?_ | refine Z.label ?_ | refine Z.scope ?_ | refine Z.ngN ?_ | refine Z.ngR ?_ | refine Z.ngE ?_)
          | ((with_reducible refine Z.blX ?_ ?_); rotate_left; rfl)
          | refine Z.brT rfl ?_ | refine Z.brF rfl ?_
          | ((first | refine Z.gS rfl rfl ?_ ?_ | refine Z.br rfl ?_ ?_) <;> intro hb <;> (try simp only [decide_eq_true_eq, decide_eq_false_iff_not, Bool.not_eq_true', Bool.not_eq_false', Int.not_lt, Int.not_le] at hb) <;> (try (exfalso; first | omega | exact hb trivial))))
        first | refine Z.done hS Try.results26 (Z.RV.tmp rfl Z.RV.nil) ?_ | refine Z.doneN hS Try.results26 (Z.RV.tmp rfl Z.RV.nil) ?_
        have hlen : ¬ 32 ≤ l.length := by omega
        have e : sApp l x = (l.take (fidx l x.key) ++ [⟨x.key, x.value, x.seq⟩] ++ l.drop (fidx l x.key), 0) := by simp [sApp, *]
        rw [e]
        exact ⟨rfl, .inr ⟨_, hS.sb⟩⟩
      refine D.econs 16 16645887 rfl D.wantedN (by kernel_rfl) (fun _ _ h => h) ?_ ?_
      · refine Z.bs hS rfl rfl rfl ?_
        clear hS; intro g w hS hge
        refine ⟨HM.s (hS.sb), ?_⟩
        refine D.eff 8 16646143 rfl D.wantedN (by kernel_rfl) (by kernel_rfl) (fun _ _ h => h) ?_
        refine Z.ap0m hS rfl rfl rfl ((hrd [] _ (hS.sub (by repeat (first | exact Sub.rest | apply Sub.skip)))).mtake (by omega)) (by (try simp only [maxLen, List.length_take, List.length_drop, List.length_append, List.length_cons, List.length_nil, List.length_map]); omega) (by (try simp only [maxLen, List.length_take, List.length_drop, List.length_append, List.length_cons, List.length_nil, List.length_map]); omega) ?_
        clear hS; intro A' c' w hS
        refine ⟨HM.s (hS.sb), ?_⟩
        refine D.eff 17 16777215 rfl D.wantedN (by kernel_rfl) (by kernel_rfl) (fun _ _ h => h) ?_
        refine Z.apm (l' := [(⟨x.key, x.value, x.seq⟩ : Ce)]) hS rfl rfl rfl (by repeat (first | exact At.here | apply At.next)) (hS.lit1 (by repeat (first | exact At.here | apply At.next)) rfl rfl) (by (try simp only [maxLen, List.length_take, List.length_drop, List.length_append, List.length_cons, List.length_nil, List.length_map]); omega) (by (try simp only [maxLen, List.length_take, List.length_drop, List.length_append, List.length_cons, List.length_nil, List.length_map]); omega) ?_
        clear hS; intro A' c' w hS
        refine ⟨HM.s (hS.sb), ?_⟩
        refine D.eff 24 33554431 rfl D.wantedN (by kernel_rfl) (by kernel_rfl) (fun _ _ h => h) ?_
        refine Z.apm hS rfl rfl rfl (by repeat (first | exact At.here | apply At.next)) ((hrd [] _ (hS.sub (by repeat (first | exact Sub.rest | apply Sub.skip)))).mdrop (by omega)) (by (try simp only [maxLen, List.length_take, List.length_drop, List.length_append, List.length_cons, List.length_nil, List.length_map]); omega) (by (try simp only [maxLen, List.length_take, List.length_drop, List.length_append, List.length_cons, List.length_nil, List.length_map]); omega) ?_
        clear hS; intro A' c' w hS
        refine ⟨HM.s (hS.sb), ?_⟩
        refine Sh.dp 25 67108863 ?_
        refine Sh.dp 26 134217727 ?_
        refine D.eff 27 268435455 rfl D.wantedN (by kernel_rfl) (by kernel_rfl) (fun _ _ h => h) ?_
        refine Z.st hS rfl (by repeat (first | exact At.here | apply At.next)) rfl rfl ?_
        clear hS; intro w hS
        refine ⟨HM.last (by kernel_rfl), ?_⟩
        refine D.done (by kernel_rfl) ?_
        repeat' (first
          | refine Z.pr rfl ?_ | refine Sh.la hS ?_ | refine Sh.lb ?_ | refine Sh.lc ?_ | refine Sh.su ?_
          | (refine Sh.sa hS ?_; clear hS; intro w hS)
          | ((first | refine Sh.aa hS ?_ | refine Sh.ab hS ?_ | refine Sh.ac hS ?_); clear hS; intro g w hS hge)
          | refine Sh.ix ?_ | refine Sh.up ?_ | refine Sh.sl1 ?_ | refine Sh.sl2 ?_ | refine Sh.sl5 ?_ | refine Sh.sl3 ?_ | refine Sh.sl4 ?_ | refine Sh.eq ?_ | refine Sh.ne ?_ | refine Sh.ix2 ?_ | refine Sh.ix3 ?_
          | refine Z.bu rfl rfl ?_ | refine Z.pl (R.max2 rfl rfl) ?_ | refine Z.pl (R.cap rfl rfl) ?_ | refine Z.pl R.mf ?_
          | refine Z.gT rfl rfl ?_ | refine Z.gF rfl rfl ?_ | refine Z.gF0 rfl rfl ?_ | refine Z.gU rfl rfl ?_
          | with_reducible (first | refine Z.seq ?_ | refine Z.reg ?_ | refine Z.nil ?_ | refine Z.skip ?_ | refine Z.exit ?_ | refine Z.ret ?_ | refine Z.block ?_ | refine Z.thN ?_ | refine Z.thU ?_ | refine Z.thE ?_ | refine Z.thR ?_ | refine Z.blN ?_ | refine Z.blR ?_ | refine Z.blE ?_ | refine Z.label ?_ | refine Z.scope ?_ | refine Z.ngN ?_ | refine Z.ngR ?_ | refine Z.ngE ?_)
          | ((with_reducible refine Z.blX ?_ ?_); rotate_left; rfl)
          | refine Z.brT rfl ?_ | refine Z.brF rfl ?_
          | ((first | refine Z.gS rfl rfl ?_ ?_ | refine Z.br rfl ?_ ?_) <;> intro hb <;> (try simp only [decide_eq_true_eq, decide_eq_false_iff_not, Bool.not_eq_true', Bool.not_eq_false', Int.not_lt, Int.not_le] at hb) <;> (try (exfalso; first | omega | exact hb trivial))))
        first | refine Z.done hS Try.results26 (Z.RV.tmp rfl Z.RV.nil) ?_ | refine Z.doneN hS Try.results26 (Z.RV.tmp rfl Z.RV.nil) ?_
        have hlen : ¬ 32 ≤ l.length := by omega
        have e : sApp l x = (l.take (fidx l x.key) ++ [⟨x.key, x.value, x.seq⟩] ++ l.drop (fidx l x.key), 0) := by simp [sApp, *]
        rw [e]
        exact ⟨rfl, .inr ⟨_, hS.sb⟩⟩
      exact D.enil
    refine D.econs 16 16645885 rfl D.wantedN (by kernel_rfl) (fun _ _ h => h) ?_ ?_
    · refine Z.bs hS rfl rfl rfl ?_
      clear hS; intro g w hS hge
      refine ⟨HM.s (hS.sb), ?_⟩
      refine D.eff 1 16645887 rfl D.wantedN (by kernel_rfl) (by kernel_rfl) (fun _ _ h => h) ?_
      refine Z.bs hS rfl rfl rfl ?_
      clear hS; intro g w hS hge
      refine ⟨HM.s (hS.sb), ?_⟩
      refine D.eff 8 16646143 rfl D.wantedN (by kernel_rfl) (by kernel_rfl) (fun _ _ h => h) ?_
      refine Z.ap0m hS rfl rfl rfl ((hrd [] _ (hS.sub (by repeat (first | exact Sub.rest | apply Sub.skip)))).mtake (by omega)) (by (try simp only [maxLen, List.length_take, List.length_drop, List.length_append, List.length_cons, List.length_nil, List.length_map]); omega) (by (try simp only [maxLen, List.length_take, List.length_drop, List.length_append, List.length_cons, List.length_nil, List.length_map]); omega) ?_
      clear hS; intro A' c' w hS
      refine ⟨HM.s (hS.sb), ?_⟩
      refine D.eff 17 16777215 rfl D.wantedN (by kernel_rfl) (by kernel_rfl) (fun _ _ h => h) ?_
      refine Z.apm (l' := [(⟨x.key, x.value, x.seq⟩ : Ce)]) hS rfl rfl rfl (by repeat (first | exact At.here | apply At.next)) (hS.lit1 (by repeat (first | exact At.here | apply At.next)) rfl rfl) (by (try simp only [maxLen, List.length_take, List.length_drop, List.length_append, List.length_cons, List.length_nil, List.length_map]); omega) (by (try simp only [maxLen, List.length_take, List.length_drop, List.length_append, List.length_cons, List.length_nil, List.length_map]); omega) ?_
      clear hS; intro A' c' w hS
      refine ⟨HM.s (hS.sb), ?_⟩
      refine D.eff 24 33554431 rfl D.wantedN (by kernel_rfl) (by kernel_rfl) (fun _ _ h => h) ?_
      refine Z.apm hS rfl rfl rfl (by repeat (first | exact At.here | apply At.next)) ((hrd [] _ (hS.sub (by repeat (first | exact Sub.rest | apply Sub.skip)))).mdrop (by omega)) (by (try simp only [maxLen, List.length_take, List.length_drop, List.length_append, List.length_cons, List.length_nil, List.length_map]); omega) (by (try simp only [maxLen, List.length_take, List.length_drop, List.length_append, List.length_cons, List.length_nil, List.length_map]); omega) ?_
      clear hS; intro A' c' w hS
      refine ⟨HM.s (hS.sb), ?_⟩
      refine Sh.dp 25 67108863 ?_
      refine Sh.dp 26 134217727 ?_
      refine D.eff 27 268435455 rfl D.wantedN (by kernel_rfl) (by kernel_rfl) (fun _ _ h => h) ?_
      refine Z.st hS rfl (by repeat (first | exact At.here | apply At.next)) rfl rfl ?_
      clear hS; intro w hS
      refine ⟨HM.last (by kernel_rfl), ?_⟩
      refine D.done (by kernel_rfl) ?_
      repeat' (first
        | refine Z.pr rfl ?_ | refine Sh.la hS ?_ | refine Sh.lb ?_ | refine Sh.lc ?_ | refine Sh.su ?_
        | (refine Sh.sa hS ?_; clear hS; intro w hS)
        | ((first | refine Sh.aa hS ?_ | refine Sh.ab hS ?_ | refine Sh.ac hS ?_); clear hS; intro g w hS hge)
        | refine Sh.ix ?_ | refine Sh.up ?_ | refine Sh.sl1 ?_ | refine Sh.sl2 ?_ | refine Sh.sl5 ?_ | refine Sh.sl3 ?_ | refine Sh.sl4 ?_ | refine Sh.eq ?_ | refine Sh.ne ?_ | refine Sh.ix2 ?_ | refine Sh.ix3 ?_
        | refine Z.bu rfl rfl ?_ | refine Z.pl (R.max2 rfl rfl) ?_ | refine Z.pl (R.cap rfl rfl) ?_ | refine Z.pl R.mf ?_
        | refine Z.gT rfl rfl ?_ | refine Z.gF rfl rfl ?_ | refine Z.gF0 rfl rfl ?_ | refine Z.gU rfl rfl ?_
        | with_reducible (first | refine Z.seq ?_ | refine Z.reg ?_ | refine Z.nil ?_ | refine Z.skip ?_ | refine Z.exit ?_ | refine Z.ret ?_ | refine Z.block ?_ | refine Z.thN ?_ | refine Z.thU ?_ | refine Z.thE ?_ | refine Z.thR ?_ | refine Z.blN ?_ | refine Z.blR ?_ | refine Z.blE ?_ | refine Z.label ?_ | refine Z.scope ?_ | refine Z.ngN ?_ | refine Z.ngR ?_ | refine Z.ngE ?_)
        | ((with_reducible refine Z.blX ?_ ?_); rotate_left; rfl)
        | refine Z.brT rfl ?_ | refine Z.brF rfl ?_
        | ((first | refine Z.gS rfl rfl ?_ ?_ | refine Z.br rfl ?_ ?_) <;> intro hb <;> (try simp only [decide_eq_true_eq, decide_eq_false_iff_not, Bool.not_eq_true', Bool.not_eq_false', Int.not_lt, Int.not_le] at hb) <;> (try (exfalso; first | omega | exact hb trivial))))
      first | refine Z.done hS Try.results26 (Z.RV.tmp rfl Z.RV.nil) ?_ | refine Z.doneN hS Try.results26 (Z.RV.tmp rfl Z.RV.nil) ?_
      have hlen : ¬ 32 ≤ l.length := by omega
      have e : sApp l x = (l.take (fidx l x.key) ++ [⟨x.key, x.value, x.seq⟩] ++ l.drop (fidx l x.key), 0) := by simp [sApp, *]
      rw [e]
      exact ⟨rfl, .inr ⟨_, hS.sb⟩⟩
    exact D.enil
  · first | refine Z.done hS Try.results26 (Z.RV.tmp rfl Z.RV.nil) ?_ | refine Z.doneN hS Try.results26 (Z.RV.tmp rfl Z.RV.nil) ?_
    refine ⟨by simp [sApp, *, Z.packR], .inl ⟨by simp [sApp, *], hS.sb⟩⟩
  · have hlt := found_lt hb
    refine D.startS hS 19 20 (by kernel_rfl) rfl ?_
    replace hS := hS.drew
    refine Sh.dp 0 1 ?_
    refine Sh.dp 2 5 ?_
    refine Sh.dp 3 13 ?_
    refine Sh.dp 4 29 ?_
    refine Sh.dp 6 93 ?_
    refine Sh.dp 9 605 ?_
    refine Sh.dp 10 1629 ?_
    refine Sh.dp 11 3677 ?_
    refine Sh.dp 13 11869 ?_
    first | refine D.sum 14 28253 rfl D.wantedN (by kernel_rfl) rfl (by constructor <;> omega) ?_ | refine D.sumW 14 28253 rfl D.wantedN (by kernel_rfl) rfl ?_
    refine Sh.dl 5 28285 ?_
    refine D.pl 7 28413 rfl D.wantedN (by kernel_rfl) (R.upto rfl rfl rfl (by omega)) ?_
    refine Sh.dl 12 32509 ?_
    refine D.pl 15 65277 rfl D.wantedN (by kernel_rfl) (R.since rfl rfl rfl (by omega)) ?_
    refine D.eff 1 65279 rfl D.wantedN (by kernel_rfl) (by kernel_rfl) (fun _ _ h => h) ?_
    refine Z.bs hS rfl rfl rfl ?_
    clear hS; intro g w hS hge
    refine ⟨HM.s (hS.sb), ?_⟩
    refine D.eff 8 65535 rfl D.wantedN (by kernel_rfl) (by kernel_rfl) (fun _ _ h => h) ?_
    refine Z.ap0m hS rfl rfl rfl ((hrd [] _ (hS.sub (by repeat (first | exact Sub.rest | apply Sub.skip)))).mtake (by omega)) (by (try simp only [maxLen, List.length_take, List.length_drop, List.length_append, List.length_cons, List.length_nil, List.length_map]); omega) (by (try simp only [maxLen, List.length_take, List.length_drop, List.length_append, List.length_cons, List.length_nil, List.length_map]); omega) ?_
    clear hS; intro A' c' w hS
    refine ⟨HM.s (hS.sb), ?_⟩
    refine D.eff 16 131071 rfl D.wantedN (by kernel_rfl) (by kernel_rfl) (fun _ _ h => h) ?_
    refine Z.apm hS rfl rfl rfl (by repeat (first | exact At.here | apply At.next)) ((hrd [] _ (hS.sub (by repeat (first | exact Sub.rest | apply Sub.skip)))).mdrop (by omega)) (by (try simp only [maxLen, List.length_take, List.length_drop, List.length_append, List.length_cons, List.length_nil, List.length_map]); omega) (by (try simp only [maxLen, List.length_take, List.length_drop, List.length_append, List.length_cons, List.length_nil, List.length_map]); omega) ?_
    clear hS; intro A' c' w hS
    refine ⟨HM.s (hS.sb), ?_⟩
    refine Sh.dp 17 262143 ?_
    refine Sh.dp 18 524287 ?_
    refine D.eff 19 1048575 rfl D.wantedN (by kernel_rfl) (by kernel_rfl) (fun _ _ h => h) ?_
    refine Z.st hS rfl (by repeat (first | exact At.here | apply At.next)) rfl rfl ?_
    clear hS; intro w hS
    refine ⟨HM.last (by kernel_rfl), ?_⟩
    refine D.done (by kernel_rfl) ?_
    repeat' (first
      | refine Z.pr rfl ?_ | refine Sh.la hS ?_ | refine Sh.lb ?_ | refine Sh.lc ?_ | refine Sh.su ?_
      | (refine Sh.sa hS ?_; clear hS; intro w hS)
      | ((first | refine Sh.aa hS ?_ | refine Sh.ab hS ?_ | refine Sh.ac hS ?_); clear hS; intro g w hS hge)
      | refine Sh.ix ?_ | refine Sh.up ?_ | refine Sh.sl1 ?_ | refine Sh.sl2 ?_ | refine Sh.sl5 ?_ | refine Sh.sl3 ?_ | refine Sh.sl4 ?_ | refine Sh.eq ?_ | refine Sh.ne ?_ | refine Sh.ix2 ?_ | refine Sh.ix3 ?_
      | refine Z.bu rfl rfl ?_ | refine Z.pl (R.max2 rfl rfl) ?_ | refine Z.pl (R.cap rfl rfl) ?_ | refine Z.pl R.mf ?_
      | refine Z.gT rfl rfl ?_ | refine Z.gF rfl rfl ?_ | refine Z.gF0 rfl rfl ?_ | refine Z.gU rfl rfl ?_
      | with_reducible (first | refine Z.seq ?_ | refine Z.reg ?_ | refine Z.nil ?_ | refine Z.skip ?_ | refine Z.exit ?_ | refine Z.ret ?_ | refine Z.block ?_ | refine Z.thN ?_ | refine Z.thU ?_ | refine Z.thE ?_ | refine Z.thR ?_ | refine Z.blN ?_ | refine Z.blR ?_ | refine Z.blE ?_ | refine Z.label ?_ | refine Z.scope ?_ | refine Z.ngN ?_ | refine Z.ngR ?_ | refine Z.ngE ?_)
      | ((with_reducible refine Z.blX ?_ ?_); rotate_left; rfl)
      | refine Z.brT rfl ?_ | refine Z.brF rfl ?_
      | ((first | refine Z.gS rfl rfl ?_ ?_ | refine Z.br rfl ?_ ?_) <;> intro hb <;> (try simp only [decide_eq_true_eq, decide_eq_false_iff_not, Bool.not_eq_true', Bool.not_eq_false', Int.not_lt, Int.not_le] at hb) <;> (try (exfalso; first | omega | exact hb trivial))))
    first | refine Z.done hS Try.results26 (Z.RV.tmp rfl Z.RV.nil) ?_ | refine Z.doneN hS Try.results26 (Z.RV.tmp rfl Z.RV.nil) ?_
    have e : sApp l x = (l.take (fidx l x.key) ++ l.drop (fidx l x.key + 1), 0) := by simp [sApp, *]
    rw [e]
    exact ⟨rfl, .inr ⟨_, hS.sb⟩⟩
  · first | refine Z.done hS Try.results26 (Z.RV.tmp rfl Z.RV.nil) ?_ | refine Z.doneN hS Try.results26 (Z.RV.tmp rfl Z.RV.nil) ?_
    refine ⟨by simp [sApp, *, Z.packR], .inl ⟨by simp [sApp, *], hS.sb⟩⟩
end Go.Proofs.Ytabpapdickolgaa
