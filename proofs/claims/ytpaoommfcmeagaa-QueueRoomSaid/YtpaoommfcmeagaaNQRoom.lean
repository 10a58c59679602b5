/-
  QueueRoom: for every input the call returns true, and the arguments read afterwards as they read before.
-/
import Derived.Test.YtpaoommfcmeagaaNQf
import Derived.Test.YtpaoommfcmeagaaNArgs
namespace Go.Proofs.Ytpaoommfcmeagaa
open Go.RowKit Go.ChangeShapes Go.WideShapes Go.ChangeAt
set_option linter.unusedSimpArgs false
set_option linter.unusedVariables false

theorem qApp_push {q : Qu} {x : Ch} (hv : validB x = true) (hk : x.kind = 3) : qApp q x = if x.seq ≤ q.most then (q, 36) else if 16 ≤ q.l.length then (q, 33) else (⟨q.l ++ [⟨x.seq, x.value⟩], q.r, x.seq⟩, 0) := by
  simp [qApp, hv, hk]
theorem qApp_done {q : Qu} {x : Ch} (hv : validB x = true) (hk : x.kind = 4) : qApp q x = if qat q.l x.item < 0 then (q, 34) else (⟨q.l.take (qat q.l x.item).toNat ++ q.l.drop ((qat q.l x.item).toNat + 1), without q.r x.item, q.most⟩, 0) := by
  simp [qApp, hv, hk]
def roomI (s : Int) (v : ByteArray) (k : Nat) : It := ⟨s + 1 + k, v⟩
def roomQ (s : Int) (v : ByteArray) (n : Nat) : Qu := ⟨(List.range n).map (roomI s v), [], if n = 0 then 0 else s + n⟩
theorem room_push {s : Int} {v : ByteArray} {n : Nat} (h0 : 0 ≤ s) (h1 : s < 1000) (hn : n < 16) (hv : v.size ≤ 64) : qApp (roomQ s v n) (pushC (s + ((n : Int) + 1)) v) = (roomQ s v (n + 1), 0) := by
  have hm : ¬ (s + ((n : Int) + 1)) ≤ (roomQ s v n).most := by unfold roomQ; simp only; split <;> omega
  have hl : ¬ 16 ≤ (roomQ s v n).l.length := by simp [roomQ]; omega
  rw [qApp_push (valid_push (by omega) (by omega) hv) rfl, if_neg (show ¬ (pushC _ _).seq ≤ _ from hm), if_neg hl]
  have e : s + ((n : Int) + 1) = s + 1 + n := by omega
  simp only [pushC, roomQ, List.range_succ, List.map_append, List.map_cons, List.map_nil, roomI, e, Prod.mk.injEq, and_true, Qu.mk.injEq, true_and]
  rw [if_neg (by omega)]
  omega
theorem room_full {s n : Int} {v : ByteArray} (h0 : 0 ≤ s) (h1 : s < 1000) (hv : v.size ≤ 64) (hn : n = s + 16) : qApp (roomQ s v 16) (pushC (n + 1) v) = (roomQ s v 16, 33) := by
  have hm : ¬ (n + 1) ≤ (roomQ s v 16).most := by unfold roomQ; simp only; rw [if_neg (by omega)]; omega
  have hl : 16 ≤ (roomQ s v 16).l.length := by simp [roomQ]
  rw [qApp_push (valid_push (by omega) (by omega) hv) rfl, if_neg (show ¬ (pushC _ _).seq ≤ _ from hm), if_pos hl]
theorem room_gap {s n : Int} {v : ByteArray} (h0 : 0 ≤ s) (h1 : s < 1000) (hv : v.size ≤ 64) (hn : n = s + 16) : qApp (roomQ s v 16) (pushC n v) = (roomQ s v 16, 36) := by
  have hm : n ≤ (roomQ s v 16).most := by unfold roomQ; simp only; rw [if_neg (by omega)]; omega
  rw [qApp_push (valid_push (by omega) (by omega) hv) rfl, if_pos (show (pushC _ _).seq ≤ _ from hm)]
theorem valid_done {n i : Int} (h1 : 1 ≤ n) (h2 : n ≤ 4096) (h3 : 1 ≤ i) (h4 : i < n) : validB (doneC n i) = true := by
  have h5 : n ≤ 1048576 := by omega
  have h6 : i ≤ n - 1 := by omega
  simp [validB, restB, inB, doneC, h1, h2, h3, h5, h6]
def lessQ (s : Int) (v : ByteArray) : Qu := ⟨(0 :: List.range' 2 14).map (roomI s v), [], s + 16⟩
theorem room_done {s n : Int} {v : ByteArray} (h0 : 0 ≤ s) (h1 : s < 1000) (hn : n = s + 16) : qApp (roomQ s v 16) (doneC (n + 1) (s + 2)) = (lessQ s v, 0) := by
  have hq : qat (roomQ s v 16).l (s + 2) = 1 := by
    have e : (roomQ s v 16).l = roomI s v 0 :: roomI s v 1 :: (List.range' 2 14).map (roomI s v) := rfl
    have e0 : ¬ (roomI s v 0).number = s + 2 := by simp [roomI]
    have e1 : (roomI s v 1).number = s + 2 := by simp [roomI]; omega
    have : qidx (roomQ s v 16).l (s + 2) = 1 := by rw [e]; simp [qidx, e0, e1]
    unfold qat
    rw [this, if_pos (by simp [roomQ])]
    rfl
  replace hq : qat (roomQ s v 16).l (doneC (n + 1) (s + 2)).item = 1 := hq
  rw [qApp_done (valid_done (by omega) (by omega) (by omega) (by omega)) rfl, if_neg (by rw [hq]; omega), hq]
  rfl
theorem room_none {s n : Int} {v : ByteArray} (h0 : 0 ≤ s) (h1 : s < 1000) (hn : n = s + 16) : qApp (lessQ s v) (doneC (n + 2) (s + 2)) = (lessQ s v, 34) := by
  have hq : qat (lessQ s v).l (s + 2) = -1 := by
    unfold qat
    rw [qidx_none, if_neg (by omega)]
    intro y hy
    obtain ⟨k, hk, rfl⟩ := List.mem_map.1 hy
    simp only [List.mem_cons, List.mem_range'_1] at hk
    simp only [roomI]
    omega
  replace hq : qat (lessQ s v).l (doneC (n + 2) (s + 2)).item = -1 := hq
  rw [qApp_done (valid_done (by omega) (by omega) (by omega) (by omega)) rfl, if_pos (by rw [hq]; omega)]
theorem room_again {s n : Int} {v : ByteArray} (h0 : 0 ≤ s) (h1 : s < 1000) (hv : v.size ≤ 64) (hn : n = s + 16) : qApp (lessQ s v) (pushC (n + 3) v) = (⟨(lessQ s v).l ++ [⟨n + 3, v⟩], [], n + 3⟩, 0) := by
  have hm : ¬ (n + 3) ≤ (lessQ s v).most := by unfold lessQ; simp only; omega
  have hl : ¬ 16 ≤ (lessQ s v).l.length := by simp [lessQ]
  rw [qApp_push (valid_push (by omega) (by omega) hv) rfl, if_neg (show ¬ (pushC _ _).seq ≤ _ from hm), if_neg hl]
  rfl
theorem done_z (n i : Int) (r : World) (F : List Res) (w : World) (hS : Sep r [] F w) : Calls Try.prog 15 #[.int .i64 n, .int .i64 i] w fun e w' => e = .returned (doneC n i).val ∧ Sep r [] F w' := by
  refine Z.enter Try.func15 Try.ntmps15 rfl rfl ?_
  repeat' (first
    | refine Z.pr rfl ?_ | refine Sh.la hS ?_ | refine Sh.lb ?_ | refine Sh.lc ?_ | refine Sh.su ?_
    | (refine Sh.sa hS ?_; clear hS; intro w hS)
    | ((first | refine Sh.aa hS ?_ | refine Sh.ab hS ?_ | refine Sh.ac hS ?_); clear hS; intro g w hS hge)
    | refine Sh.ix ?_ | refine Sh.up ?_ | refine Sh.sl1 ?_ | refine Sh.sl2 ?_ | refine Sh.sl5 ?_ | refine Sh.sl3 ?_ | refine Sh.sl4 ?_ | refine Sh.eq ?_ | refine Sh.ne ?_ | refine Sh.ix2 ?_ | refine Sh.ix3 ?_
    | refine Z.bu rfl rfl ?_ | refine Z.pl (R.max2 rfl rfl) ?_ | refine Z.pl (R.cap rfl rfl) ?_ | refine Z.pl R.mf ?_
    | refine Z.gT rfl rfl ?_ | refine Z.gF rfl rfl ?_ | refine Z.gF0 rfl rfl ?_ | refine Z.gU rfl rfl ?_
    | with_reducible (first | refine Z.seq ?_ | refine Z.reg ?_ | refine Z.nil ?_ | refine Z.skip ?_ | refine Z.exit ?_ | refine Z.ret ?_ | refine Z.block ?_ | refine Z.thN ?_ | refine Z.thU ?_ | refine Z.thE ?_ | refine Z.thR ?_ | refine Z.blN ?_ | refine Z.blR ?_ | refine Z.blE ?_ | refine Z.label ?_ | refine Z.scope ?_ | refine Z.ngN ?_ | refine Z.ngR ?_ | refine Z.ngE ?_)
    | ((with_reducible refine Z.blX ?_ ?_); rotate_left; rfl)
    | refine Z.brT rfl ?_ | refine Z.brF rfl ?_
    | ((first | refine Z.gS rfl rfl ?_ ?_ | refine Z.br rfl ?_ ?_) <;> intro hb <;> (try simp only [decide_eq_true_eq, decide_eq_false_iff_not, Bool.not_eq_true', Bool.not_eq_false', Int.not_lt, Int.not_le] at hb) <;> (try (exfalso; first | omega | exact hb trivial))))
  first | refine Z.done hS Try.results15 (Z.RV.cell rfl (by repeat (first | exact At.here | apply At.next)) rfl Z.RV.nil) ?_ | refine Z.doneN hS Try.results15 (Z.RV.cell rfl (by repeat (first | exact At.here | apply At.next)) rfl Z.RV.nil) ?_
  exact ⟨rfl, hS.sb⟩
set_option maxHeartbeats 4000000 in
theorem room_z (s0 : Int) (v : ByteArray) (r : World) (_ : -9223372036854775808 ≤ s0 ∧ s0 ≤ 9223372036854775807) (_ : v.size ≤ maxLen) :
    Calls Try.prog 3 #[.int .i64 s0, .string v] r fun e w' => e = .returned (.bool true) ∧ Chg [] r w' := by
  have hS := Sep.root r
  refine Z.enter Try.func3 Try.ntmps3 rfl rfl ?_
  repeat' (first
    | refine Z.pr rfl ?_ | refine Sh.la hS ?_ | refine Sh.lb ?_ | refine Sh.lc ?_ | refine Sh.su ?_
    | (refine Sh.sa hS ?_; clear hS; intro w hS)
    | ((first | refine Sh.aa hS ?_ | refine Sh.ab hS ?_ | refine Sh.ac hS ?_); clear hS; intro g w hS hge)
    | refine Sh.ix ?_ | refine Sh.up ?_ | refine Sh.sl1 ?_ | refine Sh.sl2 ?_ | refine Sh.sl5 ?_ | refine Sh.sl3 ?_ | refine Sh.sl4 ?_ | refine Sh.eq ?_ | refine Sh.ne ?_ | refine Sh.ix2 ?_ | refine Sh.ix3 ?_
    | refine Z.bu rfl rfl ?_ | refine Z.pl (R.max2 rfl rfl) ?_ | refine Z.pl (R.cap rfl rfl) ?_ | refine Z.pl R.mf ?_
    | refine Z.gT rfl rfl ?_ | refine Z.gF rfl rfl ?_ | refine Z.gF0 rfl rfl ?_ | refine Z.gU rfl rfl ?_
    | with_reducible (first | refine Z.seq ?_ | refine Z.reg ?_ | refine Z.nil ?_ | refine Z.skip ?_ | refine Z.exit ?_ | refine Z.ret ?_ | refine Z.block ?_ | refine Z.thN ?_ | refine Z.thU ?_ | refine Z.thE ?_ | refine Z.thR ?_ | refine Z.blN ?_ | refine Z.blR ?_ | refine Z.blE ?_ | refine Z.label ?_ | refine Z.scope ?_ | refine Z.ngN ?_ | refine Z.ngR ?_ | refine Z.ngE ?_)
    | ((with_reducible refine Z.blX ?_ ?_); rotate_left; rfl)
    | refine Z.brT rfl ?_ | refine Z.brF rfl ?_
    | ((first | refine Z.gS rfl rfl ?_ ?_ | refine Z.br rfl ?_ ?_) <;> intro hb <;> (try simp only [decide_eq_true_eq, decide_eq_false_iff_not, Bool.not_eq_true', Bool.not_eq_false', Int.not_lt, Int.not_le] at hb) <;> (try (exfalso; first | omega | exact hb trivial))))
  refine Z.eff (Z.cl (awake25_z _ _ _ hS) rfl ?_) rfl
  clear hS
  rintro e w ⟨rfl, hS⟩
  refine ⟨_, rfl, ?_⟩
  repeat' (first
    | refine Z.pr rfl ?_ | refine Sh.la hS ?_ | refine Sh.lb ?_ | refine Sh.lc ?_ | refine Sh.su ?_
    | (refine Sh.sa hS ?_; clear hS; intro w hS)
    | ((first | refine Sh.aa hS ?_ | refine Sh.ab hS ?_ | refine Sh.ac hS ?_); clear hS; intro g w hS hge)
    | refine Sh.ix ?_ | refine Sh.up ?_ | refine Sh.sl1 ?_ | refine Sh.sl2 ?_ | refine Sh.sl5 ?_ | refine Sh.sl3 ?_ | refine Sh.sl4 ?_ | refine Sh.eq ?_ | refine Sh.ne ?_ | refine Sh.ix2 ?_ | refine Sh.ix3 ?_
    | refine Z.bu rfl rfl ?_ | refine Z.pl (R.max2 rfl rfl) ?_ | refine Z.pl (R.cap rfl rfl) ?_ | refine Z.pl R.mf ?_
    | refine Z.gT rfl rfl ?_ | refine Z.gF rfl rfl ?_ | refine Z.gF0 rfl rfl ?_ | refine Z.gU rfl rfl ?_
    | with_reducible (first | refine Z.seq ?_ | refine Z.reg ?_ | refine Z.nil ?_ | refine Z.skip ?_ | refine Z.exit ?_ | refine Z.ret ?_ | refine Z.block ?_ | refine Z.thN ?_ | refine Z.thU ?_ | refine Z.thE ?_ | refine Z.thR ?_ | refine Z.blN ?_ | refine Z.blR ?_ | refine Z.blE ?_ | refine Z.label ?_ | refine Z.scope ?_ | refine Z.ngN ?_ | refine Z.ngR ?_ | refine Z.ngE ?_)
    | ((with_reducible refine Z.blX ?_ ?_); rotate_left; rfl)
    | refine Z.brT rfl ?_ | refine Z.brF rfl ?_
    | ((first | refine Z.gS rfl rfl ?_ ?_ | refine Z.br rfl ?_ ?_) <;> intro hb <;> (try simp only [decide_eq_true_eq, decide_eq_false_iff_not, Bool.not_eq_true', Bool.not_eq_false', Int.not_lt, Int.not_le] at hb) <;> (try (exfalso; first | omega | exact hb trivial))))
  · first | refine Z.done hS Try.results3 (Z.RV.tmp rfl Z.RV.nil) ?_ | refine Z.doneN hS Try.results3 (Z.RV.tmp rfl Z.RV.nil) ?_
    exact ⟨rfl, hS.chg⟩
  have hv : v.size ≤ 64 := by omega
  refine Z.eff (Z.cl (modS_z s0 1000 _ _ _ hS (by omega) (by omega)) rfl ?_) rfl
  clear hS
  rintro e w ⟨rfl, hS⟩
  refine ⟨_, rfl, ?_⟩
  have hs := modN_bd s0 1000 (by omega)
  generalize modN s0 1000 = s at *
  repeat' (first
    | refine Z.pr rfl ?_ | refine Sh.la hS ?_ | refine Sh.lb ?_ | refine Sh.lc ?_ | refine Sh.su ?_
    | (refine Sh.sa hS ?_; clear hS; intro w hS)
    | ((first | refine Sh.aa hS ?_ | refine Sh.ab hS ?_ | refine Sh.ac hS ?_); clear hS; intro g w hS hge)
    | refine Sh.ix ?_ | refine Sh.up ?_ | refine Sh.sl1 ?_ | refine Sh.sl2 ?_ | refine Sh.sl5 ?_ | refine Sh.sl3 ?_ | refine Sh.sl4 ?_ | refine Sh.eq ?_ | refine Sh.ne ?_ | refine Sh.ix2 ?_ | refine Sh.ix3 ?_
    | refine Z.bu rfl rfl ?_ | refine Z.pl (R.max2 rfl rfl) ?_ | refine Z.pl (R.cap rfl rfl) ?_ | refine Z.pl R.mf ?_
    | refine Z.gT rfl rfl ?_ | refine Z.gF rfl rfl ?_ | refine Z.gF0 rfl rfl ?_ | refine Z.gU rfl rfl ?_
    | with_reducible (first | refine Z.seq ?_ | refine Z.reg ?_ | refine Z.nil ?_ | refine Z.skip ?_ | refine Z.exit ?_ | refine Z.ret ?_ | refine Z.block ?_ | refine Z.thN ?_ | refine Z.thU ?_ | refine Z.thE ?_ | refine Z.thR ?_ | refine Z.blN ?_ | refine Z.blR ?_ | refine Z.blE ?_ | refine Z.label ?_ | refine Z.scope ?_ | refine Z.ngN ?_ | refine Z.ngR ?_ | refine Z.ngE ?_)
    | ((with_reducible refine Z.blX ?_ ?_); rotate_left; rfl)
    | refine Z.brT rfl ?_ | refine Z.brF rfl ?_
    | ((first | refine Z.gS rfl rfl ?_ ?_ | refine Z.br rfl ?_ ?_) <;> intro hb <;> (try simp only [decide_eq_true_eq, decide_eq_false_iff_not, Bool.not_eq_true', Bool.not_eq_false', Int.not_lt, Int.not_le] at hb) <;> (try (exfalso; first | omega | exact hb trivial))))
  refine Z.eff (Z.cl (pqnew_z _ _ _ hS) rfl ?_) rfl
  clear hS
  rintro e w ⟨gp, rfl, hS⟩
  refine ⟨_, rfl, ?_⟩
  repeat' (first
    | refine Z.pr rfl ?_ | refine Sh.la hS ?_ | refine Sh.lb ?_ | refine Sh.lc ?_ | refine Sh.su ?_
    | (refine Sh.sa hS ?_; clear hS; intro w hS)
    | ((first | refine Sh.aa hS ?_ | refine Sh.ab hS ?_ | refine Sh.ac hS ?_); clear hS; intro g w hS hge)
    | refine Sh.ix ?_ | refine Sh.up ?_ | refine Sh.sl1 ?_ | refine Sh.sl2 ?_ | refine Sh.sl5 ?_ | refine Sh.sl3 ?_ | refine Sh.sl4 ?_ | refine Sh.eq ?_ | refine Sh.ne ?_ | refine Sh.ix2 ?_ | refine Sh.ix3 ?_
    | refine Z.bu rfl rfl ?_ | refine Z.pl (R.max2 rfl rfl) ?_ | refine Z.pl (R.cap rfl rfl) ?_ | refine Z.pl R.mf ?_
    | refine Z.gT rfl rfl ?_ | refine Z.gF rfl rfl ?_ | refine Z.gF0 rfl rfl ?_ | refine Z.gU rfl rfl ?_
    | with_reducible (first | refine Z.seq ?_ | refine Z.reg ?_ | refine Z.nil ?_ | refine Z.skip ?_ | refine Z.exit ?_ | refine Z.ret ?_ | refine Z.block ?_ | refine Z.thN ?_ | refine Z.thU ?_ | refine Z.thE ?_ | refine Z.thR ?_ | refine Z.blN ?_ | refine Z.blR ?_ | refine Z.blE ?_ | refine Z.label ?_ | refine Z.scope ?_ | refine Z.ngN ?_ | refine Z.ngR ?_ | refine Z.ngE ?_)
    | ((with_reducible refine Z.blX ?_ ?_); rotate_left; rfl)
    | refine Z.brT rfl ?_ | refine Z.brF rfl ?_
    | ((first | refine Z.gS rfl rfl ?_ ?_ | refine Z.br rfl ?_ ?_) <;> intro hb <;> (try simp only [decide_eq_true_eq, decide_eq_false_iff_not, Bool.not_eq_true', Bool.not_eq_false', Int.not_lt, Int.not_le] at hb) <;> (try (exfalso; first | omega | exact hb trivial))))
  refine Z.lpS [4, 6, 16, 17, 18, 19, 20, 21, 22, 23, 24, 25, 26, 27] (fun m w sl => ∃ n : Nat, sl = [(6, .int .i64 ((n : Int) + 1))] ∧ n ≤ 16 ∧ m = 16 - n ∧ Sep r [] (PQ gp (roomQ s v n) :: []) w) _ [(6, .int .i64 1)] (by repeat (first | exact trivial | refine ⟨rfl, ?_⟩)) ⟨0, rfl, by omega, rfl, hS⟩ ?_
  clear hS
  rintro m f0 w _ ⟨n, rfl, hn, rfl, hS⟩
  by_cases hlt : n < 16
  · repeat' (first
      | refine Z.pr rfl ?_ | refine Sh.la hS ?_ | refine Sh.lb ?_ | refine Sh.lc ?_ | refine Sh.su ?_
      | (refine Sh.sa hS ?_; clear hS; intro w hS)
      | ((first | refine Sh.aa hS ?_ | refine Sh.ab hS ?_ | refine Sh.ac hS ?_); clear hS; intro g w hS hge)
      | refine Sh.ix ?_ | refine Sh.up ?_ | refine Sh.sl1 ?_ | refine Sh.sl2 ?_ | refine Sh.sl5 ?_ | refine Sh.sl3 ?_ | refine Sh.sl4 ?_ | refine Sh.eq ?_ | refine Sh.ne ?_ | refine Sh.ix2 ?_ | refine Sh.ix3 ?_
      | refine Z.bu rfl rfl ?_ | refine Z.pl (R.max2 rfl rfl) ?_ | refine Z.pl (R.cap rfl rfl) ?_ | refine Z.pl R.mf ?_
      | refine Z.gT rfl rfl ?_ | refine Z.gF rfl rfl ?_ | refine Z.gF0 rfl rfl ?_ | refine Z.gU rfl rfl ?_
      | with_reducible (first | refine Z.seq ?_ | refine Z.reg ?_ | refine Z.nil ?_ | refine Z.skip ?_ | refine Z.exit ?_ | refine Z.ret ?_ | refine Z.block ?_ | refine Z.thN ?_ | refine Z.thU ?_ | refine Z.thE ?_ | refine Z.thR ?_ | refine Z.blN ?_ | refine Z.blR ?_ | refine Z.blE ?_ | refine Z.label ?_ | refine Z.scope ?_ | refine Z.ngN ?_ | refine Z.ngR ?_ | refine Z.ngE ?_)
      | ((with_reducible refine Z.blX ?_ ?_); rotate_left; rfl)
      | refine Z.brT rfl ?_ | refine Z.brF rfl ?_
      | ((first | refine Z.gS rfl rfl ?_ ?_ | refine Z.br rfl ?_ ?_) <;> intro hb <;> (try simp only [decide_eq_true_eq, decide_eq_false_iff_not, Bool.not_eq_true', Bool.not_eq_false', Int.not_lt, Int.not_le] at hb) <;> (try (exfalso; first | omega | exact hb trivial))))
    refine Z.eff (Z.cl (push_z _ v _ _ _ hS) rfl ?_) rfl
    clear hS
    rintro e w ⟨rfl, hS⟩
    refine ⟨_, rfl, ?_⟩
    repeat' (first
      | refine Z.pr rfl ?_ | refine Sh.la hS ?_ | refine Sh.lb ?_ | refine Sh.lc ?_ | refine Sh.su ?_
      | (refine Sh.sa hS ?_; clear hS; intro w hS)
      | ((first | refine Sh.aa hS ?_ | refine Sh.ab hS ?_ | refine Sh.ac hS ?_); clear hS; intro g w hS hge)
      | refine Sh.ix ?_ | refine Sh.up ?_ | refine Sh.sl1 ?_ | refine Sh.sl2 ?_ | refine Sh.sl5 ?_ | refine Sh.sl3 ?_ | refine Sh.sl4 ?_ | refine Sh.eq ?_ | refine Sh.ne ?_ | refine Sh.ix2 ?_ | refine Sh.ix3 ?_
      | refine Z.bu rfl rfl ?_ | refine Z.pl (R.max2 rfl rfl) ?_ | refine Z.pl (R.cap rfl rfl) ?_ | refine Z.pl R.mf ?_
      | refine Z.gT rfl rfl ?_ | refine Z.gF rfl rfl ?_ | refine Z.gF0 rfl rfl ?_ | refine Z.gU rfl rfl ?_
      | with_reducible (first | refine Z.seq ?_ | refine Z.reg ?_ | refine Z.nil ?_ | refine Z.skip ?_ | refine Z.exit ?_ | refine Z.ret ?_ | refine Z.block ?_ | refine Z.thN ?_ | refine Z.thU ?_ | refine Z.thE ?_ | refine Z.thR ?_ | refine Z.blN ?_ | refine Z.blR ?_ | refine Z.blE ?_ | refine Z.label ?_ | refine Z.scope ?_ | refine Z.ngN ?_ | refine Z.ngR ?_ | refine Z.ngE ?_)
      | ((with_reducible refine Z.blX ?_ ?_); rotate_left; rfl)
      | refine Z.brT rfl ?_ | refine Z.brF rfl ?_
      | ((first | refine Z.gS rfl rfl ?_ ?_ | refine Z.br rfl ?_ ?_) <;> intro hb <;> (try simp only [decide_eq_true_eq, decide_eq_false_iff_not, Bool.not_eq_true', Bool.not_eq_false', Int.not_lt, Int.not_le] at hb) <;> (try (exfalso; first | omega | exact hb trivial))))
    refine Z.eff (Z.cl (pqapply_z gp _ _ _ _ _ hS (by simp [roomQ]; omega) (by simp [roomQ])) rfl ?_) rfl
    clear hS
    rintro e w ⟨rfl, hS⟩
    refine ⟨_, rfl, ?_⟩
    rw [room_push hs.1 hs.2 hlt hv] at hS ⊢
    repeat' (first
      | refine Z.pr rfl ?_ | refine Sh.la hS ?_ | refine Sh.lb ?_ | refine Sh.lc ?_ | refine Sh.su ?_
      | (refine Sh.sa hS ?_; clear hS; intro w hS)
      | ((first | refine Sh.aa hS ?_ | refine Sh.ab hS ?_ | refine Sh.ac hS ?_); clear hS; intro g w hS hge)
      | refine Sh.ix ?_ | refine Sh.up ?_ | refine Sh.sl1 ?_ | refine Sh.sl2 ?_ | refine Sh.sl5 ?_ | refine Sh.sl3 ?_ | refine Sh.sl4 ?_ | refine Sh.eq ?_ | refine Sh.ne ?_ | refine Sh.ix2 ?_ | refine Sh.ix3 ?_
      | refine Z.bu rfl rfl ?_ | refine Z.pl (R.max2 rfl rfl) ?_ | refine Z.pl (R.cap rfl rfl) ?_ | refine Z.pl R.mf ?_
      | refine Z.gT rfl rfl ?_ | refine Z.gF rfl rfl ?_ | refine Z.gF0 rfl rfl ?_ | refine Z.gU rfl rfl ?_
      | with_reducible (first | refine Z.seq ?_ | refine Z.reg ?_ | refine Z.nil ?_ | refine Z.skip ?_ | refine Z.exit ?_ | refine Z.ret ?_ | refine Z.block ?_ | refine Z.thN ?_ | refine Z.thU ?_ | refine Z.thE ?_ | refine Z.thR ?_ | refine Z.blN ?_ | refine Z.blR ?_ | refine Z.blE ?_ | refine Z.label ?_ | refine Z.scope ?_ | refine Z.ngN ?_ | refine Z.ngR ?_ | refine Z.ngE ?_)
      | ((with_reducible refine Z.blX ?_ ?_); rotate_left; rfl)
      | refine Z.brT rfl ?_ | refine Z.brF rfl ?_
      | ((first | refine Z.gS rfl rfl ?_ ?_ | refine Z.br rfl ?_ ?_) <;> intro hb <;> (try simp only [decide_eq_true_eq, decide_eq_false_iff_not, Bool.not_eq_true', Bool.not_eq_false', Int.not_lt, Int.not_le] at hb) <;> (try (exfalso; first | omega | exact hb trivial))))
    refine Sh.again (16 - (n + 1)) [(6, .int .i64 (((n + 1 : Nat) : Int) + 1))] ?_
    exact ⟨n + 1, rfl, by omega, rfl, hS⟩
  · have : n = 16 := by omega
    subst this
    repeat' (first
      | refine Z.pr rfl ?_ | refine Sh.la hS ?_ | refine Sh.lb ?_ | refine Sh.lc ?_ | refine Sh.su ?_
      | (refine Sh.sa hS ?_; clear hS; intro w hS)
      | ((first | refine Sh.aa hS ?_ | refine Sh.ab hS ?_ | refine Sh.ac hS ?_); clear hS; intro g w hS hge)
      | refine Sh.ix ?_ | refine Sh.up ?_ | refine Sh.sl1 ?_ | refine Sh.sl2 ?_ | refine Sh.sl5 ?_ | refine Sh.sl3 ?_ | refine Sh.sl4 ?_ | refine Sh.eq ?_ | refine Sh.ne ?_ | refine Sh.ix2 ?_ | refine Sh.ix3 ?_
      | refine Z.bu rfl rfl ?_ | refine Z.pl (R.max2 rfl rfl) ?_ | refine Z.pl (R.cap rfl rfl) ?_ | refine Z.pl R.mf ?_
      | refine Z.gT rfl rfl ?_ | refine Z.gF rfl rfl ?_ | refine Z.gF0 rfl rfl ?_ | refine Z.gU rfl rfl ?_
      | with_reducible (first | refine Z.seq ?_ | refine Z.reg ?_ | refine Z.nil ?_ | refine Z.skip ?_ | refine Z.exit ?_ | refine Z.ret ?_ | refine Z.block ?_ | refine Z.thN ?_ | refine Z.thU ?_ | refine Z.thE ?_ | refine Z.thR ?_ | refine Z.blN ?_ | refine Z.blR ?_ | refine Z.blE ?_ | refine Z.label ?_ | refine Z.scope ?_ | refine Z.ngN ?_ | refine Z.ngR ?_ | refine Z.ngE ?_)
      | ((with_reducible refine Z.blX ?_ ?_); rotate_left; rfl)
      | refine Z.brT rfl ?_ | refine Z.brF rfl ?_
      | ((first | refine Z.gS rfl rfl ?_ ?_ | refine Z.br rfl ?_ ?_) <;> intro hb <;> (try simp only [decide_eq_true_eq, decide_eq_false_iff_not, Bool.not_eq_true', Bool.not_eq_false', Int.not_lt, Int.not_le] at hb) <;> (try (exfalso; first | omega | exact hb trivial))))
    generalize hN : s + 16 = N at *
    refine Z.eff (Z.cl (push_z _ v _ _ _ hS) rfl ?_) rfl
    clear hS
    rintro e w ⟨rfl, hS⟩
    refine ⟨_, rfl, ?_⟩
    repeat' (first
      | refine Z.pr rfl ?_ | refine Sh.la hS ?_ | refine Sh.lb ?_ | refine Sh.lc ?_ | refine Sh.su ?_
      | (refine Sh.sa hS ?_; clear hS; intro w hS)
      | ((first | refine Sh.aa hS ?_ | refine Sh.ab hS ?_ | refine Sh.ac hS ?_); clear hS; intro g w hS hge)
      | refine Sh.ix ?_ | refine Sh.up ?_ | refine Sh.sl1 ?_ | refine Sh.sl2 ?_ | refine Sh.sl5 ?_ | refine Sh.sl3 ?_ | refine Sh.sl4 ?_ | refine Sh.eq ?_ | refine Sh.ne ?_ | refine Sh.ix2 ?_ | refine Sh.ix3 ?_
      | refine Z.bu rfl rfl ?_ | refine Z.pl (R.max2 rfl rfl) ?_ | refine Z.pl (R.cap rfl rfl) ?_ | refine Z.pl R.mf ?_
      | refine Z.gT rfl rfl ?_ | refine Z.gF rfl rfl ?_ | refine Z.gF0 rfl rfl ?_ | refine Z.gU rfl rfl ?_
      | with_reducible (first | refine Z.seq ?_ | refine Z.reg ?_ | refine Z.nil ?_ | refine Z.skip ?_ | refine Z.exit ?_ | refine Z.ret ?_ | refine Z.block ?_ | refine Z.thN ?_ | refine Z.thU ?_ | refine Z.thE ?_ | refine Z.thR ?_ | refine Z.blN ?_ | refine Z.blR ?_ | refine Z.blE ?_ | refine Z.label ?_ | refine Z.scope ?_ | refine Z.ngN ?_ | refine Z.ngR ?_ | refine Z.ngE ?_)
      | ((with_reducible refine Z.blX ?_ ?_); rotate_left; rfl)
      | refine Z.brT rfl ?_ | refine Z.brF rfl ?_
      | ((first | refine Z.gS rfl rfl ?_ ?_ | refine Z.br rfl ?_ ?_) <;> intro hb <;> (try simp only [decide_eq_true_eq, decide_eq_false_iff_not, Bool.not_eq_true', Bool.not_eq_false', Int.not_lt, Int.not_le] at hb) <;> (try (exfalso; first | omega | exact hb trivial))))
    refine Z.eff (Z.cl (pqapply_z gp _ _ _ _ _ hS (by simp [roomQ]) (by simp [roomQ])) rfl ?_) rfl
    clear hS
    rintro e w ⟨rfl, hS⟩
    refine ⟨_, rfl, ?_⟩
    rw [room_full hs.1 hs.2 hv hN.symm] at hS ⊢
    repeat' (first
      | refine Z.pr rfl ?_ | refine Sh.la hS ?_ | refine Sh.lb ?_ | refine Sh.lc ?_ | refine Sh.su ?_
      | (refine Sh.sa hS ?_; clear hS; intro w hS)
      | ((first | refine Sh.aa hS ?_ | refine Sh.ab hS ?_ | refine Sh.ac hS ?_); clear hS; intro g w hS hge)
      | refine Sh.ix ?_ | refine Sh.up ?_ | refine Sh.sl1 ?_ | refine Sh.sl2 ?_ | refine Sh.sl5 ?_ | refine Sh.sl3 ?_ | refine Sh.sl4 ?_ | refine Sh.eq ?_ | refine Sh.ne ?_ | refine Sh.ix2 ?_ | refine Sh.ix3 ?_
      | refine Z.bu rfl rfl ?_ | refine Z.pl (R.max2 rfl rfl) ?_ | refine Z.pl (R.cap rfl rfl) ?_ | refine Z.pl R.mf ?_
      | refine Z.gT rfl rfl ?_ | refine Z.gF rfl rfl ?_ | refine Z.gF0 rfl rfl ?_ | refine Z.gU rfl rfl ?_
      | with_reducible (first | refine Z.seq ?_ | refine Z.reg ?_ | refine Z.nil ?_ | refine Z.skip ?_ | refine Z.exit ?_ | refine Z.ret ?_ | refine Z.block ?_ | refine Z.thN ?_ | refine Z.thU ?_ | refine Z.thE ?_ | refine Z.thR ?_ | refine Z.blN ?_ | refine Z.blR ?_ | refine Z.blE ?_ | refine Z.label ?_ | refine Z.scope ?_ | refine Z.ngN ?_ | refine Z.ngR ?_ | refine Z.ngE ?_)
      | ((with_reducible refine Z.blX ?_ ?_); rotate_left; rfl)
      | refine Z.brT rfl ?_ | refine Z.brF rfl ?_
      | ((first | refine Z.gS rfl rfl ?_ ?_ | refine Z.br rfl ?_ ?_) <;> intro hb <;> (try simp only [decide_eq_true_eq, decide_eq_false_iff_not, Bool.not_eq_true', Bool.not_eq_false', Int.not_lt, Int.not_le] at hb) <;> (try (exfalso; first | omega | exact hb trivial))))
    refine Z.eff (Z.cl (push_z _ v _ _ _ hS) rfl ?_) rfl
    clear hS
    rintro e w ⟨rfl, hS⟩
    refine ⟨_, rfl, ?_⟩
    repeat' (first
      | refine Z.pr rfl ?_ | refine Sh.la hS ?_ | refine Sh.lb ?_ | refine Sh.lc ?_ | refine Sh.su ?_
      | (refine Sh.sa hS ?_; clear hS; intro w hS)
      | ((first | refine Sh.aa hS ?_ | refine Sh.ab hS ?_ | refine Sh.ac hS ?_); clear hS; intro g w hS hge)
      | refine Sh.ix ?_ | refine Sh.up ?_ | refine Sh.sl1 ?_ | refine Sh.sl2 ?_ | refine Sh.sl5 ?_ | refine Sh.sl3 ?_ | refine Sh.sl4 ?_ | refine Sh.eq ?_ | refine Sh.ne ?_ | refine Sh.ix2 ?_ | refine Sh.ix3 ?_
      | refine Z.bu rfl rfl ?_ | refine Z.pl (R.max2 rfl rfl) ?_ | refine Z.pl (R.cap rfl rfl) ?_ | refine Z.pl R.mf ?_
      | refine Z.gT rfl rfl ?_ | refine Z.gF rfl rfl ?_ | refine Z.gF0 rfl rfl ?_ | refine Z.gU rfl rfl ?_
      | with_reducible (first | refine Z.seq ?_ | refine Z.reg ?_ | refine Z.nil ?_ | refine Z.skip ?_ | refine Z.exit ?_ | refine Z.ret ?_ | refine Z.block ?_ | refine Z.thN ?_ | refine Z.thU ?_ | refine Z.thE ?_ | refine Z.thR ?_ | refine Z.blN ?_ | refine Z.blR ?_ | refine Z.blE ?_ | refine Z.label ?_ | refine Z.scope ?_ | refine Z.ngN ?_ | refine Z.ngR ?_ | refine Z.ngE ?_)
      | ((with_reducible refine Z.blX ?_ ?_); rotate_left; rfl)
      | refine Z.brT rfl ?_ | refine Z.brF rfl ?_
      | ((first | refine Z.gS rfl rfl ?_ ?_ | refine Z.br rfl ?_ ?_) <;> intro hb <;> (try simp only [decide_eq_true_eq, decide_eq_false_iff_not, Bool.not_eq_true', Bool.not_eq_false', Int.not_lt, Int.not_le] at hb) <;> (try (exfalso; first | omega | exact hb trivial))))
    refine Z.eff (Z.cl (pqapply_z gp _ _ _ _ _ hS (by simp [roomQ]) (by simp [roomQ])) rfl ?_) rfl
    clear hS
    rintro e w ⟨rfl, hS⟩
    refine ⟨_, rfl, ?_⟩
    rw [room_gap hs.1 hs.2 hv hN.symm] at hS ⊢
    repeat' (first
      | refine Z.pr rfl ?_ | refine Sh.la hS ?_ | refine Sh.lb ?_ | refine Sh.lc ?_ | refine Sh.su ?_
      | (refine Sh.sa hS ?_; clear hS; intro w hS)
      | ((first | refine Sh.aa hS ?_ | refine Sh.ab hS ?_ | refine Sh.ac hS ?_); clear hS; intro g w hS hge)
      | refine Sh.ix ?_ | refine Sh.up ?_ | refine Sh.sl1 ?_ | refine Sh.sl2 ?_ | refine Sh.sl5 ?_ | refine Sh.sl3 ?_ | refine Sh.sl4 ?_ | refine Sh.eq ?_ | refine Sh.ne ?_ | refine Sh.ix2 ?_ | refine Sh.ix3 ?_
      | refine Z.bu rfl rfl ?_ | refine Z.pl (R.max2 rfl rfl) ?_ | refine Z.pl (R.cap rfl rfl) ?_ | refine Z.pl R.mf ?_
      | refine Z.gT rfl rfl ?_ | refine Z.gF rfl rfl ?_ | refine Z.gF0 rfl rfl ?_ | refine Z.gU rfl rfl ?_
      | with_reducible (first | refine Z.seq ?_ | refine Z.reg ?_ | refine Z.nil ?_ | refine Z.skip ?_ | refine Z.exit ?_ | refine Z.ret ?_ | refine Z.block ?_ | refine Z.thN ?_ | refine Z.thU ?_ | refine Z.thE ?_ | refine Z.thR ?_ | refine Z.blN ?_ | refine Z.blR ?_ | refine Z.blE ?_ | refine Z.label ?_ | refine Z.scope ?_ | refine Z.ngN ?_ | refine Z.ngR ?_ | refine Z.ngE ?_)
      | ((with_reducible refine Z.blX ?_ ?_); rotate_left; rfl)
      | refine Z.brT rfl ?_ | refine Z.brF rfl ?_
      | ((first | refine Z.gS rfl rfl ?_ ?_ | refine Z.br rfl ?_ ?_) <;> intro hb <;> (try simp only [decide_eq_true_eq, decide_eq_false_iff_not, Bool.not_eq_true', Bool.not_eq_false', Int.not_lt, Int.not_le] at hb) <;> (try (exfalso; first | omega | exact hb trivial))))
    refine Z.eff (Z.cl (done_z _ _ _ _ _ hS) rfl ?_) rfl
    clear hS
    rintro e w ⟨rfl, hS⟩
    refine ⟨_, rfl, ?_⟩
    repeat' (first
      | refine Z.pr rfl ?_ | refine Sh.la hS ?_ | refine Sh.lb ?_ | refine Sh.lc ?_ | refine Sh.su ?_
      | (refine Sh.sa hS ?_; clear hS; intro w hS)
      | ((first | refine Sh.aa hS ?_ | refine Sh.ab hS ?_ | refine Sh.ac hS ?_); clear hS; intro g w hS hge)
      | refine Sh.ix ?_ | refine Sh.up ?_ | refine Sh.sl1 ?_ | refine Sh.sl2 ?_ | refine Sh.sl5 ?_ | refine Sh.sl3 ?_ | refine Sh.sl4 ?_ | refine Sh.eq ?_ | refine Sh.ne ?_ | refine Sh.ix2 ?_ | refine Sh.ix3 ?_
      | refine Z.bu rfl rfl ?_ | refine Z.pl (R.max2 rfl rfl) ?_ | refine Z.pl (R.cap rfl rfl) ?_ | refine Z.pl R.mf ?_
      | refine Z.gT rfl rfl ?_ | refine Z.gF rfl rfl ?_ | refine Z.gF0 rfl rfl ?_ | refine Z.gU rfl rfl ?_
      | with_reducible (first | refine Z.seq ?_ | refine Z.reg ?_ | refine Z.nil ?_ | refine Z.skip ?_ | refine Z.exit ?_ | refine Z.ret ?_ | refine Z.block ?_ | refine Z.thN ?_ | refine Z.thU ?_ | refine Z.thE ?_ | refine Z.thR ?_ | refine Z.blN ?_ | refine Z.blR ?_ | refine Z.blE ?_ | refine Z.label ?_ | refine Z.scope ?_ | refine Z.ngN ?_ | refine Z.ngR ?_ | refine Z.ngE ?_)
      | ((with_reducible refine Z.blX ?_ ?_); rotate_left; rfl)
      | refine Z.brT rfl ?_ | refine Z.brF rfl ?_
      | ((first | refine Z.gS rfl rfl ?_ ?_ | refine Z.br rfl ?_ ?_) <;> intro hb <;> (try simp only [decide_eq_true_eq, decide_eq_false_iff_not, Bool.not_eq_true', Bool.not_eq_false', Int.not_lt, Int.not_le] at hb) <;> (try (exfalso; first | omega | exact hb trivial))))
    refine Z.eff (Z.cl (pqapply_z gp _ _ _ _ _ hS (by simp [roomQ]) (by simp [roomQ])) rfl ?_) rfl
    clear hS
    rintro e w ⟨rfl, hS⟩
    refine ⟨_, rfl, ?_⟩
    rw [room_done hs.1 hs.2 hN.symm] at hS ⊢
    repeat' (first
      | refine Z.pr rfl ?_ | refine Sh.la hS ?_ | refine Sh.lb ?_ | refine Sh.lc ?_ | refine Sh.su ?_
      | (refine Sh.sa hS ?_; clear hS; intro w hS)
      | ((first | refine Sh.aa hS ?_ | refine Sh.ab hS ?_ | refine Sh.ac hS ?_); clear hS; intro g w hS hge)
      | refine Sh.ix ?_ | refine Sh.up ?_ | refine Sh.sl1 ?_ | refine Sh.sl2 ?_ | refine Sh.sl5 ?_ | refine Sh.sl3 ?_ | refine Sh.sl4 ?_ | refine Sh.eq ?_ | refine Sh.ne ?_ | refine Sh.ix2 ?_ | refine Sh.ix3 ?_
      | refine Z.bu rfl rfl ?_ | refine Z.pl (R.max2 rfl rfl) ?_ | refine Z.pl (R.cap rfl rfl) ?_ | refine Z.pl R.mf ?_
      | refine Z.gT rfl rfl ?_ | refine Z.gF rfl rfl ?_ | refine Z.gF0 rfl rfl ?_ | refine Z.gU rfl rfl ?_
      | with_reducible (first | refine Z.seq ?_ | refine Z.reg ?_ | refine Z.nil ?_ | refine Z.skip ?_ | refine Z.exit ?_ | refine Z.ret ?_ | refine Z.block ?_ | refine Z.thN ?_ | refine Z.thU ?_ | refine Z.thE ?_ | refine Z.thR ?_ | refine Z.blN ?_ | refine Z.blR ?_ | refine Z.blE ?_ | refine Z.label ?_ | refine Z.scope ?_ | refine Z.ngN ?_ | refine Z.ngR ?_ | refine Z.ngE ?_)
      | ((with_reducible refine Z.blX ?_ ?_); rotate_left; rfl)
      | refine Z.brT rfl ?_ | refine Z.brF rfl ?_
      | ((first | refine Z.gS rfl rfl ?_ ?_ | refine Z.br rfl ?_ ?_) <;> intro hb <;> (try simp only [decide_eq_true_eq, decide_eq_false_iff_not, Bool.not_eq_true', Bool.not_eq_false', Int.not_lt, Int.not_le] at hb) <;> (try (exfalso; first | omega | exact hb trivial))))
    refine Z.eff (Z.cl (done_z _ _ _ _ _ hS) rfl ?_) rfl
    clear hS
    rintro e w ⟨rfl, hS⟩
    refine ⟨_, rfl, ?_⟩
    repeat' (first
      | refine Z.pr rfl ?_ | refine Sh.la hS ?_ | refine Sh.lb ?_ | refine Sh.lc ?_ | refine Sh.su ?_
      | (refine Sh.sa hS ?_; clear hS; intro w hS)
      | ((first | refine Sh.aa hS ?_ | refine Sh.ab hS ?_ | refine Sh.ac hS ?_); clear hS; intro g w hS hge)
      | refine Sh.ix ?_ | refine Sh.up ?_ | refine Sh.sl1 ?_ | refine Sh.sl2 ?_ | refine Sh.sl5 ?_ | refine Sh.sl3 ?_ | refine Sh.sl4 ?_ | refine Sh.eq ?_ | refine Sh.ne ?_ | refine Sh.ix2 ?_ | refine Sh.ix3 ?_
      | refine Z.bu rfl rfl ?_ | refine Z.pl (R.max2 rfl rfl) ?_ | refine Z.pl (R.cap rfl rfl) ?_ | refine Z.pl R.mf ?_
      | refine Z.gT rfl rfl ?_ | refine Z.gF rfl rfl ?_ | refine Z.gF0 rfl rfl ?_ | refine Z.gU rfl rfl ?_
      | with_reducible (first | refine Z.seq ?_ | refine Z.reg ?_ | refine Z.nil ?_ | refine Z.skip ?_ | refine Z.exit ?_ | refine Z.ret ?_ | refine Z.block ?_ | refine Z.thN ?_ | refine Z.thU ?_ | refine Z.thE ?_ | refine Z.thR ?_ | refine Z.blN ?_ | refine Z.blR ?_ | refine Z.blE ?_ | refine Z.label ?_ | refine Z.scope ?_ | refine Z.ngN ?_ | refine Z.ngR ?_ | refine Z.ngE ?_)
      | ((with_reducible refine Z.blX ?_ ?_); rotate_left; rfl)
      | refine Z.brT rfl ?_ | refine Z.brF rfl ?_
      | ((first | refine Z.gS rfl rfl ?_ ?_ | refine Z.br rfl ?_ ?_) <;> intro hb <;> (try simp only [decide_eq_true_eq, decide_eq_false_iff_not, Bool.not_eq_true', Bool.not_eq_false', Int.not_lt, Int.not_le] at hb) <;> (try (exfalso; first | omega | exact hb trivial))))
    refine Z.eff (Z.cl (pqapply_z gp _ _ _ _ _ hS (by simp [lessQ]) (by simp [lessQ])) rfl ?_) rfl
    clear hS
    rintro e w ⟨rfl, hS⟩
    refine ⟨_, rfl, ?_⟩
    rw [room_none hs.1 hs.2 hN.symm] at hS ⊢
    repeat' (first
      | refine Z.pr rfl ?_ | refine Sh.la hS ?_ | refine Sh.lb ?_ | refine Sh.lc ?_ | refine Sh.su ?_
      | (refine Sh.sa hS ?_; clear hS; intro w hS)
      | ((first | refine Sh.aa hS ?_ | refine Sh.ab hS ?_ | refine Sh.ac hS ?_); clear hS; intro g w hS hge)
      | refine Sh.ix ?_ | refine Sh.up ?_ | refine Sh.sl1 ?_ | refine Sh.sl2 ?_ | refine Sh.sl5 ?_ | refine Sh.sl3 ?_ | refine Sh.sl4 ?_ | refine Sh.eq ?_ | refine Sh.ne ?_ | refine Sh.ix2 ?_ | refine Sh.ix3 ?_
      | refine Z.bu rfl rfl ?_ | refine Z.pl (R.max2 rfl rfl) ?_ | refine Z.pl (R.cap rfl rfl) ?_ | refine Z.pl R.mf ?_
      | refine Z.gT rfl rfl ?_ | refine Z.gF rfl rfl ?_ | refine Z.gF0 rfl rfl ?_ | refine Z.gU rfl rfl ?_
      | with_reducible (first | refine Z.seq ?_ | refine Z.reg ?_ | refine Z.nil ?_ | refine Z.skip ?_ | refine Z.exit ?_ | refine Z.ret ?_ | refine Z.block ?_ | refine Z.thN ?_ | refine Z.thU ?_ | refine Z.thE ?_ | refine Z.thR ?_ | refine Z.blN ?_ | refine Z.blR ?_ | refine Z.blE ?_ | refine Z.label ?_ | refine Z.scope ?_ | refine Z.ngN ?_ | refine Z.ngR ?_ | refine Z.ngE ?_)
      | ((with_reducible refine Z.blX ?_ ?_); rotate_left; rfl)
      | refine Z.brT rfl ?_ | refine Z.brF rfl ?_
      | ((first | refine Z.gS rfl rfl ?_ ?_ | refine Z.br rfl ?_ ?_) <;> intro hb <;> (try simp only [decide_eq_true_eq, decide_eq_false_iff_not, Bool.not_eq_true', Bool.not_eq_false', Int.not_lt, Int.not_le] at hb) <;> (try (exfalso; first | omega | exact hb trivial))))
    refine Z.eff (Z.cl (push_z _ v _ _ _ hS) rfl ?_) rfl
    clear hS
    rintro e w ⟨rfl, hS⟩
    refine ⟨_, rfl, ?_⟩
    repeat' (first
      | refine Z.pr rfl ?_ | refine Sh.la hS ?_ | refine Sh.lb ?_ | refine Sh.lc ?_ | refine Sh.su ?_
      | (refine Sh.sa hS ?_; clear hS; intro w hS)
      | ((first | refine Sh.aa hS ?_ | refine Sh.ab hS ?_ | refine Sh.ac hS ?_); clear hS; intro g w hS hge)
      | refine Sh.ix ?_ | refine Sh.up ?_ | refine Sh.sl1 ?_ | refine Sh.sl2 ?_ | refine Sh.sl5 ?_ | refine Sh.sl3 ?_ | refine Sh.sl4 ?_ | refine Sh.eq ?_ | refine Sh.ne ?_ | refine Sh.ix2 ?_ | refine Sh.ix3 ?_
      | refine Z.bu rfl rfl ?_ | refine Z.pl (R.max2 rfl rfl) ?_ | refine Z.pl (R.cap rfl rfl) ?_ | refine Z.pl R.mf ?_
      | refine Z.gT rfl rfl ?_ | refine Z.gF rfl rfl ?_ | refine Z.gF0 rfl rfl ?_ | refine Z.gU rfl rfl ?_
      | with_reducible (first | refine Z.seq ?_ | refine Z.reg ?_ | refine Z.nil ?_ | refine Z.skip ?_ | refine Z.exit ?_ | refine Z.ret ?_ | refine Z.block ?_ | refine Z.thN ?_ | refine Z.thU ?_ | refine Z.thE ?_ | refine Z.thR ?_ | refine Z.blN ?_ | refine Z.blR ?_ | refine Z.blE ?_ | refine Z.label ?_ | refine Z.scope ?_ | refine Z.ngN ?_ | refine Z.ngR ?_ | refine Z.ngE ?_)
      | ((with_reducible refine Z.blX ?_ ?_); rotate_left; rfl)
      | refine Z.brT rfl ?_ | refine Z.brF rfl ?_
      | ((first | refine Z.gS rfl rfl ?_ ?_ | refine Z.br rfl ?_ ?_) <;> intro hb <;> (try simp only [decide_eq_true_eq, decide_eq_false_iff_not, Bool.not_eq_true', Bool.not_eq_false', Int.not_lt, Int.not_le] at hb) <;> (try (exfalso; first | omega | exact hb trivial))))
    refine Z.eff (Z.cl (pqapply_z gp _ _ _ _ _ hS (by simp [lessQ]) (by simp [lessQ])) rfl ?_) rfl
    clear hS
    rintro e w ⟨rfl, hS⟩
    refine ⟨_, rfl, ?_⟩
    rw [room_again hs.1 hs.2 hv hN.symm] at hS ⊢
    repeat' (first
      | refine Z.pr rfl ?_ | refine Sh.la hS ?_ | refine Sh.lb ?_ | refine Sh.lc ?_ | refine Sh.su ?_
      | (refine Sh.sa hS ?_; clear hS; intro w hS)
      | ((first | refine Sh.aa hS ?_ | refine Sh.ab hS ?_ | refine Sh.ac hS ?_); clear hS; intro g w hS hge)
      | refine Sh.ix ?_ | refine Sh.up ?_ | refine Sh.sl1 ?_ | refine Sh.sl2 ?_ | refine Sh.sl5 ?_ | refine Sh.sl3 ?_ | refine Sh.sl4 ?_ | refine Sh.eq ?_ | refine Sh.ne ?_ | refine Sh.ix2 ?_ | refine Sh.ix3 ?_
      | refine Z.bu rfl rfl ?_ | refine Z.pl (R.max2 rfl rfl) ?_ | refine Z.pl (R.cap rfl rfl) ?_ | refine Z.pl R.mf ?_
      | refine Z.gT rfl rfl ?_ | refine Z.gF rfl rfl ?_ | refine Z.gF0 rfl rfl ?_ | refine Z.gU rfl rfl ?_
      | with_reducible (first | refine Z.seq ?_ | refine Z.reg ?_ | refine Z.nil ?_ | refine Z.skip ?_ | refine Z.exit ?_ | refine Z.ret ?_ | refine Z.block ?_ | refine Z.thN ?_ | refine Z.thU ?_ | refine Z.thE ?_ | refine Z.thR ?_ | refine Z.blN ?_ | refine Z.blR ?_ | refine Z.blE ?_ | refine Z.label ?_ | refine Z.scope ?_ | refine Z.ngN ?_ | refine Z.ngR ?_ | refine Z.ngE ?_)
      | ((with_reducible refine Z.blX ?_ ?_); rotate_left; rfl)
      | refine Z.brT rfl ?_ | refine Z.brF rfl ?_
      | ((first | refine Z.gS rfl rfl ?_ ?_ | refine Z.br rfl ?_ ?_) <;> intro hb <;> (try simp only [decide_eq_true_eq, decide_eq_false_iff_not, Bool.not_eq_true', Bool.not_eq_false', Int.not_lt, Int.not_le] at hb) <;> (try (exfalso; first | omega | exact hb trivial))))
    refine Z.eff (Z.cl (pqitems_z gp _ _ _ _ hS (by simp [lessQ])) rfl ?_) rfl
    clear hS
    rintro e w ⟨A, c, rfl, hS⟩
    refine ⟨_, rfl, ?_⟩
    have hlen : ((lessQ s v).l ++ [(⟨N + 3, v⟩ : It)]).length = 16 := by simp [lessQ]
    simp only [hlen]
    repeat' (first
      | refine Z.pr rfl ?_ | refine Sh.la hS ?_ | refine Sh.lb ?_ | refine Sh.lc ?_ | refine Sh.su ?_
      | (refine Sh.sa hS ?_; clear hS; intro w hS)
      | ((first | refine Sh.aa hS ?_ | refine Sh.ab hS ?_ | refine Sh.ac hS ?_); clear hS; intro g w hS hge)
      | refine Sh.ix ?_ | refine Sh.up ?_ | refine Sh.sl1 ?_ | refine Sh.sl2 ?_ | refine Sh.sl5 ?_ | refine Sh.sl3 ?_ | refine Sh.sl4 ?_ | refine Sh.eq ?_ | refine Sh.ne ?_ | refine Sh.ix2 ?_ | refine Sh.ix3 ?_
      | refine Z.bu rfl rfl ?_ | refine Z.pl (R.max2 rfl rfl) ?_ | refine Z.pl (R.cap rfl rfl) ?_ | refine Z.pl R.mf ?_
      | refine Z.gT rfl rfl ?_ | refine Z.gF rfl rfl ?_ | refine Z.gF0 rfl rfl ?_ | refine Z.gU rfl rfl ?_
      | with_reducible (first | refine Z.seq ?_ | refine Z.reg ?_ | refine Z.nil ?_ | refine Z.skip ?_ | refine Z.exit ?_ | refine Z.ret ?_ | refine Z.block ?_ | refine Z.thN ?_ | refine Z.thU ?_ | refine Z.thE ?_ | refine Z.thR ?_ | refine Z.blN ?_ | refine Z.blR ?_ | refine Z.blE ?_ | refine Z.label ?_ | refine Z.scope ?_ | refine Z.ngN ?_ | refine Z.ngR ?_ | refine Z.ngE ?_)
      | ((with_reducible refine Z.blX ?_ ?_); rotate_left; rfl)
      | refine Z.brT rfl ?_ | refine Z.brF rfl ?_
      | ((first | refine Z.gS rfl rfl ?_ ?_ | refine Z.br rfl ?_ ?_) <;> intro hb <;> (try simp only [decide_eq_true_eq, decide_eq_false_iff_not, Bool.not_eq_true', Bool.not_eq_false', Int.not_lt, Int.not_le] at hb) <;> (try (exfalso; first | omega | exact hb trivial))))
    first | refine Z.done hS Try.results3 (Z.RV.tmp rfl Z.RV.nil) ?_ | refine Z.doneN hS Try.results3 (Z.RV.tmp rfl Z.RV.nil) ?_
    exact ⟨by first | rfl | simp [Z.packR], hS.chg⟩
set_option maxRecDepth 100000 in
theorem queueRoom_lifted (os : Os) (started : os.Started) (H : Type) (enc : TypeId × Value → H) :
    ReturnsInHanded {} Try.checked os 3 .any (Rows.queueRoomSpec.pre6 enc Try.prog Try.f3 Rows.queueRoomRow.domain false) (Rows.queueRoomSpec.post enc Try.prog Try.f3 false Rows.queueRoomRow.fresh Rows.queueRoomRow.handsOn Rows.queueRoomRow.again) := by
  refine returnsInHanded_of_change (C := Try.checked) Try.own started (by kernel_rfl) Try.func3
    (ChangeSpec.witness6 (enc := enc) (C := Try.checked) false ⟨#[], #[.int .i64 0, .string ⟨#[]⟩], []⟩ 8 (by kernel_rfl) (by kernel_rfl) (by kernel_rfl) (by kernel_rfl)) ?_
  intro W base args ds gs before hval0 hW _ _
  have hval : ∀ (j : Nat) t v, Try.f3.params[j]? = some t → args[j]? = some v → Value.okWide Try.prog W .any base t v := hval0
  have hW0 := hW
  obtain ⟨p, q, hA0, hV, hpq, _, _⟩ := hW
  obtain ⟨la⟩ := args
  have hA : DataW.TrodAll enc Try.prog W 0 (fun _ => true) true [3, 9] la ds p := by have := hA0; rw [Try.params3] at this; exact this
  rw [Try.params3] at hval
  obtain ⟨v0, la0, d0, ds0, p0, q0, rfl, rfl, rfl, h0, hA⟩ := trodAll_cons hA
  obtain ⟨v1, la1, d1, ds1, p1, q1, rfl, rfl, rfl, h1, hA⟩ := trodAll_cons hA
  obtain ⟨rfl, rfl, rfl⟩ := trodAll_nil hA
  obtain ⟨z0, rfl, hr0⟩ := arg_int (hval 0 _ _ rfl rfl) h0
  obtain ⟨s1, rfl, hr1⟩ := arg_str (hval 1 _ _ rfl rfl) h1
  have fin : Calls Try.prog 3 _ W fun e W' => e = .returned (.bool true) ∧ Chg [] W W' := room_z z0 s1 W hr0 hr1
  refine fin.mono fun e W' ⟨he, hc⟩ => ⟨_, he, ?_⟩
  exact law_post Try.laidOut (by rw [Try.params3]; intro t ht; simp only [List.mem_cons, List.not_mem_nil, or_false] at ht; rcases ht with rfl | rfl <;> exact ⟨by kernel_rfl, of_decide_eq_true (by kernel_rfl)⟩) rfl rfl Try.underlying4 rfl hW0 hc.below
theorem queueRoom_holds : Rows.QueueRoomSaid :=
  OpenClaim.holds_of_wide 3 Try.f3 rfl rfl rfl rfl rfl rfl rfl ⟨rfl, rfl, rfl, rfl, rfl⟩ rfl rfl rfl rfl rfl (by kernel_rfl) Try.func3 (by kernel_rfl)
    (of_decide_eq_true (by kernel_rfl)) (by unfold Func.isWrapper; rw [if_neg (of_decide_eq_false (by kernel_rfl))]; exact ⟨rfl, rfl⟩)
    (fun os started H enc _ => queueRoom_lifted os started H enc)
end Go.Proofs.Ytpaoommfcmeagaa
