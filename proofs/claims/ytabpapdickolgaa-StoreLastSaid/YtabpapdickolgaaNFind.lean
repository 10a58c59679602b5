/-
  The walk of find of the reference's store.
-/
import Derived.Test.YtabpapdickolgaaZs
import Derived.Test.YtabpapdickolgaaValid
namespace Go.Proofs.Ytabpapdickolgaa
open Go.RowKit
set_option linter.unusedSimpArgs false
set_option linter.unusedVariables false
attribute [local irreducible] Res.blk Res.sl Res.all Res.ex Res.pure Res.star

/-- How many keys at the head are smaller. -/
def fidx : List Ce → ByteArray → Nat
  | [], _ => 0
  | c :: l, k => if Op.bytesLess c.key.toList k.toList then fidx l k + 1 else 0
def keyAt (l : List Ce) (i : Nat) (k : ByteArray) : Bool := match l[i]? with | some c => decide (c.key = k) | none => false
def foundB (l : List Ce) (k : ByteArray) : Bool := keyAt l (fidx l k) k
theorem fidx_le : ∀ (l : List Ce) (k : ByteArray), fidx l k ≤ l.length
  | [], _ => Nat.le_refl _
  | c :: l, k => by
    unfold fidx
    have := fidx_le l k
    split <;> simp <;> omega
theorem fidx_drop {l : List Ce} {k : ByteArray} {q : Nat} (hq : q < l.length) : fidx (l.drop q) k = if Op.bytesLess l[q].key.toList k.toList then fidx (l.drop (q + 1)) k + 1 else 0 := by
  rw [List.drop_eq_getElem_cons hq]
  simp [fidx]

set_option maxHeartbeats 400000 in
theorem find_z (gs : Nat) (l : List Ce) (v : Value) (key : ByteArray) (r : World) (F : List Res) (w : World) (hS : Sep r [] (.blk gs 47 [v] :: F) w) (hrd : Reads r F 3 v (l.map Ce.cells)) (hl : l.length ≤ 1000) :
    Calls Try.prog 49 #[.pointer (some ⟨gs, 0, none⟩), .string key] w fun e w' =>
      e = .returned (.tuple #[.int .i64 (fidx l key), .bool (foundB l key)]) ∧ Sep r [] (.blk gs 47 [v] :: F) w' := by
  obtain ⟨A, c, rfl, hc⟩ := (hrd [_] w hS).mform
  refine Z.enter Try.func49 Try.ntmps49 rfl rfl ?_
  repeat' (first
    | refine Z.pr rfl ?_ | refine Sh.la hS ?_ | refine Sh.lb ?_ | refine Sh.lc ?_ | refine Sh.su ?_
    | (refine Sh.sa hS ?_; clear hS; intro w hS)
    | ((first | refine Sh.aa hS ?_ | refine Sh.ab hS ?_ | refine Sh.ac hS ?_); clear hS; intro g w hS hge)
    | refine Sh.ix ?_ | refine Sh.up ?_ | refine Sh.sl1 ?_ | refine Sh.sl2 ?_ | refine Sh.sl5 ?_ | refine Sh.sl3 ?_ | refine Sh.sl4 ?_ | refine Sh.eq ?_ | refine Sh.ne ?_ | refine Sh.ix2 ?_ | refine Sh.ix3 ?_
    | refine Z.bu rfl rfl ?_ | refine Z.pl (R.max2 rfl rfl) ?_ | refine Z.pl (R.cap rfl rfl) ?_ | refine Z.pl R.mf ?_
    | refine Z.gT rfl rfl ?_ | refine Z.gF rfl rfl ?_ | refine Z.gF0 rfl rfl ?_ | refine Z.gU rfl rfl ?_
    | with_reducible (first | refine Z.seq ?_ | refine Z.reg ?_ | refine Z.nil ?_ | refine Z.skip ?_ | refine Z.exit ?_ | refine Z.ret ?_ | refine Z.block ?_ | refine Z.thN ?_ | refine Z.thU ?_ | refine Z.thE ?_ | refine Z.thR ?_ | refine Z.blN ?_ | refine Z.blR ?_ | refine Z.blE ?_ | refine Z.label ?_ | refine Z.scope ?_ | refine Z.ngN ?_ | refine Z.ngR ?_ | refine Z.ngE ?_)
    | ((with_reducible refine Z.blX ?_ ?_); rotate_left; rfl)
    | refine Z.brT rfl ?_ | refine Z.brF rfl ?_
    | ((first | refine Z.gS rfl rfl ?_ ?_ | refine Z.br rfl ?_ ?_) <;> intro hb <;> (try simp only [decide_eq_true_eq, decide_eq_false_iff_not, Bool.not_eq_true', Bool.not_eq_false', Int.not_lt, Int.not_le] at hb) <;> (try (exfalso; first | omega | exact hb trivial))))
  refine Z.lpS [6, 7, 8, 9, 10, 11, 12, 13, 14, 15, 16, 17, 18, 19, 20, 21, 22, 23, 24, 25, 26, 27] (fun m w s => ∃ q : Nat, s = [(6, .int .i64 q)] ∧ q ≤ l.length ∧ fidx l key = q + fidx (l.drop q) key ∧ m = l.length - q ∧ Sep r [] (.blk gs 47 [.slice A l.length c] :: F) w) _ [(6, .int .i64 (0 : Nat))] (by repeat (first | exact trivial | refine ⟨rfl, ?_⟩)) ⟨0, rfl, by omega, by simp, rfl, hS⟩ ?_
  clear hS w
  rintro m g w _ ⟨q, rfl, hq, hf, rfl, hS⟩
  by_cases hlt : q < l.length
  · obtain ⟨gb, o, rfl, _, hra⟩ := (hrd [_] w hS).mat (by omega) hlt
    have hfd := fidx_drop (k := key) hlt
    repeat' (first
      | refine Z.pr rfl ?_ | refine Sh.la hS ?_ | refine Sh.lb ?_ | refine Sh.lc ?_ | refine Sh.su ?_
      | (refine Sh.sa hS ?_; clear hS; intro w hS)
      | ((first | refine Sh.aa hS ?_ | refine Sh.ab hS ?_ | refine Sh.ac hS ?_); clear hS; intro g w hS hge)
      | refine Sh.ix ?_ | refine Sh.up ?_ | refine Sh.sl1 ?_ | refine Sh.sl2 ?_ | refine Sh.sl5 ?_ | refine Sh.sl3 ?_ | refine Sh.sl4 ?_ | refine Sh.eq ?_ | refine Sh.ne ?_ | refine Sh.ix2 ?_ | refine Sh.ix3 ?_
      | refine Z.bu rfl rfl ?_ | refine Z.pl (R.max2 rfl rfl) ?_ | refine Z.pl (R.cap rfl rfl) ?_ | refine Z.pl R.mf ?_
      | refine Z.gT rfl rfl ?_ | refine Z.gF rfl rfl ?_ | refine Z.gF0 rfl rfl ?_ | refine Z.gU rfl rfl ?_
      | with_reducible (first | refine Z.seq ?_ | refine Z.reg ?_ | refine Z.nil ?_ | refine Z.skip ?_ | refine Z.exit ?_ | refine Z.ret ?_ | refine Z.block ?_ | refine Z.thN ?_ | refine Z.thU ?_ | refine Z.thE ?_ | refine Z.thR ?_ | refine Z.blN ?_ | refine Z.blR ?_ | refine Z.blE ?_ | refine Z.label ?_ | refine Z.scope ?_ | refine Z.ngN ?_ | refine Z.ngR ?_ | refine Z.ngE ?_)
      | ((with_reducible refine Z.blX ?_ ?_); rotate_left; rfl)
      | refine Z.brT rfl ?_ | refine Z.brF rfl ?_
      | ((first | refine Z.gS rfl rfl ?_ ?_ | refine Z.br rfl ?_ ?_) <;> intro hb <;> (try simp only [decide_eq_true_eq, decide_eq_false_iff_not, Bool.not_eq_true', Bool.not_eq_false', Int.not_lt, Int.not_le] at hb) <;> (try (exfalso; first | omega | exact hb trivial))))
    · refine Sh.again (l.length - (q + 1)) [(6, .int .i64 (q + 1 : Nat))] ?_
      rw [hb, if_pos rfl] at hfd
      exact ⟨q + 1, rfl, by omega, by omega, rfl, hS⟩
    · rw [hb] at hfd
      simp only [Bool.false_eq_true, if_false] at hfd
      have hfq : fidx l key = q := by omega
      have hra' : ∀ W, Sep r [] (.blk gs 47 [.slice (some ⟨gb, o, none⟩) l.length c] :: F) W → W.rangeAt gb (o + q * 3) l[q].cells := fun W h => (hrd [_] W h).elem (by omega) hlt
      refine D.startS hS 22 22 (by kernel_rfl) rfl ?_
      replace hS := hS.drew
      refine Sh.dp 0 1 ?_
      refine Sh.dp 1 3 ?_
      refine Sh.dp 2 7 ?_
      refine Sh.dp 3 15 ?_
      refine Sh.dp 4 31 ?_
      refine Sh.dl 5 63 ?_
      refine Sh.dp 6 127 ?_
      refine Sh.dp 7 255 ?_
      refine Sh.dp 8 511 ?_
      refine Sh.dp 20 1049087 ?_
      refine D.slot 36 rfl (fun hb => ?_) (fun hb => by exfalso; (try simp only [decide_eq_true_eq, decide_eq_false_iff_not, Bool.not_eq_true', Bool.not_eq_false', Int.not_lt, Int.not_le] at hb) <;> first | omega | exact hb trivial | cases hb)
      (try simp only [decide_eq_true_eq, decide_eq_false_iff_not, Bool.not_eq_true', Bool.not_eq_false', Int.not_lt, Int.not_le] at hb)
      refine Sh.dp 9 1049599 ?_
      refine Sh.dp 10 1050623 ?_
      refine Sh.dp 11 1052671 ?_
      refine Sh.dp 13 1060863 ?_
      refine Sh.dp 17 1191935 ?_
      refine Sh.dl 12 1196031 ?_
      first | refine D.ixn 14 1212415 rfl (D.wantedT rfl rfl) (by kernel_rfl) rfl rfl rfl (by omega) ?_ | refine D.ix 14 1212415 rfl (D.wantedT rfl rfl) (by kernel_rfl) rfl rfl rfl (by omega) ?_ | refine D.ia 14 1212415 rfl (D.wantedT rfl rfl) (by kernel_rfl) rfl rfl rfl (by omega) ?_
      refine Sh.dp 15 1245183 ?_
      refine D.ldE 16 1310719 rfl (D.wantedT rfl rfl) (by kernel_rfl) rfl hra' rfl ?_
      first | refine D.pr 18 1572863 rfl (D.wantedT rfl rfl) (by kernel_rfl) rfl ?_ | refine D.pl 18 1572863 rfl (D.wantedT rfl rfl) (by kernel_rfl) (R.eqa rfl rfl rfl rfl) ?_
      refine Sh.dp 19 2097151 ?_
      refine Sh.dp 21 4194303 ?_
      refine D.done (by kernel_rfl) ?_
      repeat' (first
        | refine Z.pr rfl ?_ | refine Sh.la hS ?_ | refine Sh.lb ?_ | refine Sh.lc ?_ | refine Sh.su ?_
        | (refine Sh.sa hS ?_; clear hS; intro w hS)
        | ((first | refine Sh.aa hS ?_ | refine Sh.ab hS ?_ | refine Sh.ac hS ?_); clear hS; intro g w hS hge)
        | refine Sh.ix ?_ | refine Sh.up ?_ | refine Sh.sl1 ?_ | refine Sh.sl2 ?_ | refine Sh.sl5 ?_ | refine Sh.sl3 ?_ | refine Sh.sl4 ?_ | refine Sh.eq ?_ | refine Sh.ne ?_ | refine Sh.ix2 ?_ | refine Sh.ix3 ?_
        | refine Z.bu rfl rfl ?_ | refine Z.pl (R.max2 rfl rfl) ?_ | refine Z.pl (R.cap rfl rfl) ?_ | refine Z.pl R.mf ?_
        | refine Z.gT rfl rfl ?_ | refine Z.gF rfl rfl ?_ | refine Z.gF0 rfl rfl ?_ | refine Z.gU rfl rfl ?_
        | with_reducible (first | refine Z.seq ?_ | refine Z.reg ?_ | refine Z.nil ?_ | refine Z.skip ?_ | refine Z.exit ?_ | refine Z.ret ?_ | refine Z.block ?_ | refine Z.thN ?_ | refine Z.thU ?_ | refine Z.thE ?_ | refine Z.thR ?_ | refine Z.blN ?_ | refine Z.blR ?_ | refine Z.blE ?_ | refine Z.label ?_ | refine Z.scope ?_ | refine Z.ngN ?_ | refine Z.ngR ?_ | refine Z.ngE ?_)
        | ((with_reducible refine Z.blX ?_ ?_); rotate_left; rfl)
        | refine Z.brT rfl ?_ | refine Z.brF rfl ?_
        | ((first | refine Z.gS rfl rfl ?_ ?_ | refine Z.br rfl ?_ ?_) <;> intro hb <;> (try simp only [decide_eq_true_eq, decide_eq_false_iff_not, Bool.not_eq_true', Bool.not_eq_false', Int.not_lt, Int.not_le] at hb) <;> (try (exfalso; first | omega | exact hb trivial))))
      first | refine Z.done hS Try.results49 (Z.RV.tmp rfl (Z.RV.tmp rfl Z.RV.nil)) ?_ | refine Z.doneN hS Try.results49 (Z.RV.tmp rfl (Z.RV.tmp rfl Z.RV.nil)) ?_
      refine ⟨?_, hS⟩
      rw [hfq]
      simp [Z.packR, foundB, keyAt, hfq, hlt]
  · have hfd : fidx (l.drop q) key = 0 := by rw [List.drop_eq_nil_of_le (by omega)]; rfl
    repeat' (first
      | refine Z.pr rfl ?_ | refine Sh.la hS ?_ | refine Sh.lb ?_ | refine Sh.lc ?_ | refine Sh.su ?_
      | (refine Sh.sa hS ?_; clear hS; intro w hS)
      | ((first | refine Sh.aa hS ?_ | refine Sh.ab hS ?_ | refine Sh.ac hS ?_); clear hS; intro g w hS hge)
      | refine Sh.ix ?_ | refine Sh.up ?_ | refine Sh.sl1 ?_ | refine Sh.sl2 ?_ | refine Sh.sl5 ?_ | refine Sh.sl3 ?_ | refine Sh.sl4 ?_ | refine Sh.eq ?_ | refine Sh.ne ?_ | refine Sh.ix2 ?_ | refine Sh.ix3 ?_
      | refine Z.bu rfl rfl ?_ | refine Z.pl (R.max2 rfl rfl) ?_ | refine Z.pl (R.cap rfl rfl) ?_ | refine Z.pl R.mf ?_
      | refine Z.gT rfl rfl ?_ | refine Z.gF rfl rfl ?_ | refine Z.gF0 rfl rfl ?_ | refine Z.gU rfl rfl ?_
      | with_reducible (first | refine Z.seq ?_ | refine Z.reg ?_ | refine Z.nil ?_ | refine Z.skip ?_ | refine Z.exit ?_ | refine Z.ret ?_ | refine Z.block ?_ | refine Z.thN ?_ | refine Z.thU ?_ | refine Z.thE ?_ | refine Z.thR ?_ | refine Z.blN ?_ | refine Z.blR ?_ | refine Z.blE ?_ | refine Z.label ?_ | refine Z.scope ?_ | refine Z.ngN ?_ | refine Z.ngR ?_ | refine Z.ngE ?_)
      | ((with_reducible refine Z.blX ?_ ?_); rotate_left; rfl)
      | refine Z.brT rfl ?_ | refine Z.brF rfl ?_
      | ((first | refine Z.gS rfl rfl ?_ ?_ | refine Z.br rfl ?_ ?_) <;> intro hb <;> (try simp only [decide_eq_true_eq, decide_eq_false_iff_not, Bool.not_eq_true', Bool.not_eq_false', Int.not_lt, Int.not_le] at hb) <;> (try (exfalso; first | omega | exact hb trivial))))
    refine D.startS hS 22 22 (by kernel_rfl) rfl ?_
    replace hS := hS.drew
    refine Sh.dp 0 1 ?_
    refine Sh.dp 1 3 ?_
    refine Sh.dp 2 7 ?_
    refine Sh.dp 3 15 ?_
    refine Sh.dp 4 31 ?_
    refine Sh.dl 5 63 ?_
    refine Sh.dp 6 127 ?_
    refine Sh.dp 7 255 ?_
    refine Sh.dp 8 511 ?_
    refine Sh.dp 20 1049087 ?_
    refine D.slot 36 rfl (fun hb => by exfalso; (try simp only [decide_eq_true_eq, decide_eq_false_iff_not, Bool.not_eq_true', Bool.not_eq_false', Int.not_lt, Int.not_le] at hb) <;> first | omega | exact hb trivial | cases hb) (fun hb => ?_)
    (try simp only [decide_eq_true_eq, decide_eq_false_iff_not, Bool.not_eq_true', Bool.not_eq_false', Int.not_lt, Int.not_le] at hb)
    refine D.skF 9 1049599 rfl (by kernel_rfl) rfl rfl ?_
    refine D.skF 10 1050623 rfl (by kernel_rfl) rfl rfl ?_
    refine D.skF 11 1052671 rfl (by kernel_rfl) rfl rfl ?_
    refine D.skF 12 1056767 rfl (by kernel_rfl) rfl rfl ?_
    refine D.skF 13 1064959 rfl (by kernel_rfl) rfl rfl ?_
    refine D.skF 14 1081343 rfl (by kernel_rfl) rfl rfl ?_
    refine D.skF 15 1114111 rfl (by kernel_rfl) rfl rfl ?_
    refine D.skF 16 1179647 rfl (by kernel_rfl) rfl rfl ?_
    refine D.skF 17 1310719 rfl (by kernel_rfl) rfl rfl ?_
    refine D.skF 18 1572863 rfl (by kernel_rfl) rfl rfl ?_
    refine Sh.dp 19 2097151 ?_
    refine Sh.dp 21 4194303 ?_
    refine D.done (by kernel_rfl) ?_
    repeat' (first
      | refine Z.pr rfl ?_ | refine Sh.la hS ?_ | refine Sh.lb ?_ | refine Sh.lc ?_ | refine Sh.su ?_
      | (refine Sh.sa hS ?_; clear hS; intro w hS)
      | ((first | refine Sh.aa hS ?_ | refine Sh.ab hS ?_ | refine Sh.ac hS ?_); clear hS; intro g w hS hge)
      | refine Sh.ix ?_ | refine Sh.up ?_ | refine Sh.sl1 ?_ | refine Sh.sl2 ?_ | refine Sh.sl5 ?_ | refine Sh.sl3 ?_ | refine Sh.sl4 ?_ | refine Sh.eq ?_ | refine Sh.ne ?_ | refine Sh.ix2 ?_ | refine Sh.ix3 ?_
      | refine Z.bu rfl rfl ?_ | refine Z.pl (R.max2 rfl rfl) ?_ | refine Z.pl (R.cap rfl rfl) ?_ | refine Z.pl R.mf ?_
      | refine Z.gT rfl rfl ?_ | refine Z.gF rfl rfl ?_ | refine Z.gF0 rfl rfl ?_ | refine Z.gU rfl rfl ?_
      | with_reducible (first | refine Z.seq ?_ | refine Z.reg ?_ | refine Z.nil ?_ | refine Z.skip ?_ | refine Z.exit ?_ | refine Z.ret ?_ | refine Z.block ?_ | refine Z.thN ?_ | refine Z.thU ?_ | refine Z.thE ?_ | refine Z.thR ?_ | refine Z.blN ?_ | refine Z.blR ?_ | refine Z.blE ?_ | refine Z.label ?_ | refine Z.scope ?_ | refine Z.ngN ?_ | refine Z.ngR ?_ | refine Z.ngE ?_)
      | ((with_reducible refine Z.blX ?_ ?_); rotate_left; rfl)
      | refine Z.brT rfl ?_ | refine Z.brF rfl ?_
      | ((first | refine Z.gS rfl rfl ?_ ?_ | refine Z.br rfl ?_ ?_) <;> intro hb <;> (try simp only [decide_eq_true_eq, decide_eq_false_iff_not, Bool.not_eq_true', Bool.not_eq_false', Int.not_lt, Int.not_le] at hb) <;> (try (exfalso; first | omega | exact hb trivial))))
    first | refine Z.done hS Try.results49 (Z.RV.tmp rfl (Z.RV.tmp rfl Z.RV.nil)) ?_ | refine Z.doneN hS Try.results49 (Z.RV.tmp rfl (Z.RV.tmp rfl Z.RV.nil)) ?_
    refine ⟨?_, hS⟩
    have hfq : fidx l key = q := by omega
    rw [hfq]
    simp [Z.packR, foundB, keyAt, hfq, List.getElem?_eq_none (show l.length ≤ q by omega)]
end Go.Proofs.Ytabpapdickolgaa
