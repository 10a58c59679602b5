/-
  The reference's gate: Accepts, Windows.
-/
import Derived.Test.YtppbjlakbmgfdaaNGateP
namespace Go.Proofs.Ytppbjlakbmgfdaa
open Go.RowKit
set_option linter.unusedSimpArgs false
set_option linter.unusedVariables false
attribute [local irreducible] Res.blk Res.sl Res.all Res.ex Res.pure Res.star

theorem filt_take {α : Type} {p : α → Bool} {l : List α} {q : Nat} (hq : q < l.length) : (l.take (q + 1)).filter p = (l.take q).filter p ++ (if p l[q] then [l[q]] else []) := by
  rw [List.take_succ_eq_append_getElem hq, List.filter_append]
  congr 1
  cases h : p l[q] <;> simp [h]
theorem accs_snoc (ws : List Wi) (x : Wi) (v t e : Int) : accs (ws ++ [x]) v t e = if x.version = v ∧ x.from_ ≤ t ∧ t < x.until_ then max (accs ws v t e) x.epoch else accs ws v t e := by
  unfold accs; rw [List.foldl_append]; rfl
set_option maxHeartbeats 2000000 in
theorem raccepts_z (gg : Nat) (G : Ga) (v t : Int) (r : World) (F : List Res) (w : World) (hS : Sep r [] (GR gg G :: F) w) (hl : G.ws.length ≤ 100000) : Calls Try.prog 46 #[.pointer (some ⟨gg, 0, none⟩), .int .i64 v, .int .i64 t] w fun e w' => e = .returned (.tuple #[.int .i64 (accs (G.ws.filter fun x => decide (G.closed < x.epoch)) v t 0), .bool (decide (0 < accs (G.ws.filter fun x => decide (G.closed < x.epoch)) v t 0))]) ∧ Sep r [] (GR gg G :: F) w' := by
  obtain ⟨A, c, hS⟩ := Sep.GR_open.1 hS
  refine Z.enter Try.func46 Try.ntmps46 rfl rfl ?_
  repeat' (first
    | refine Z.pr rfl ?_
    | refine Z.eff (Z.ld hS rfl (by repeat (first | exact At.here | apply At.next)) rfl ?_) rfl
    | refine Z.eff (Z.ldR rfl (by assumption) rfl ?_) rfl
    | refine Z.eff (Z.ldE rfl (by assumption) rfl ?_) rfl
    | refine Z.sum rfl (by constructor <;> omega) ?_
    | (refine Z.eff (Z.st hS rfl (by repeat (first | exact At.here | apply At.next)) rfl rfl ?_) rfl; clear hS; intro w hS)
    | (refine Z.eff (Z.al hS ?_) rfl; clear hS; intro g w hS hge)
    | (refine Z.eff (Z.bx hS rfl ?_) rfl; clear hS; intro g w hS hge)
    | refine Z.ixn rfl rfl rfl (by omega) ?_
    | refine Z.pl (R.upto rfl rfl rfl (by omega)) ?_
    | refine Z.pl (R.sinceL rfl rfl rfl (by omega) (by omega)) ?_
    | refine Z.pl (R.since rfl rfl rfl (by omega)) ?_
    | refine Z.pl (R.span rfl rfl rfl rfl (by omega) (by omega)) ?_
    | refine Z.pl (R.whole rfl rfl) ?_
    | refine Z.pl (R.eqa rfl rfl rfl rfl) ?_
    | refine Z.pl (R.nea rfl rfl rfl rfl) ?_
    | refine Z.ix rfl rfl rfl (by omega) ?_
    | refine Z.ia rfl rfl rfl (by omega) ?_
    | refine Z.bu rfl rfl ?_
    | refine Z.pl (R.max2 rfl rfl) ?_
    | refine Z.pl (R.cap rfl rfl) ?_
    | refine Z.pl R.mf ?_
    | (refine Z.eff (Z.bs hS rfl rfl rfl ?_) rfl; clear hS; intro g w hS hge)
    | refine Z.gT rfl rfl ?_
    | refine Z.gF rfl rfl ?_
    | refine Z.gF0 rfl rfl ?_
    | (refine Z.gS rfl rfl ?_ ?_ <;> intro hb <;> (try simp only [decide_eq_true_eq, decide_eq_false_iff_not, Bool.not_eq_true', Bool.not_eq_false', Int.not_lt, Int.not_le] at hb) <;> (try (exfalso; first | omega | exact hb trivial)))
    | with_reducible refine Z.seq ?_
    | with_reducible refine Z.reg ?_
    | with_reducible refine Z.nil ?_
    | with_reducible refine Z.skip ?_
    | with_reducible refine Z.exit ?_
    | with_reducible refine Z.ret ?_
    | with_reducible refine Z.block ?_
    | with_reducible refine Z.thN ?_
    | with_reducible refine Z.thU ?_
    | with_reducible refine Z.thE ?_
    | with_reducible refine Z.thR ?_
    | with_reducible refine Z.blN ?_
    | with_reducible refine Z.blR ?_
    | with_reducible refine Z.blE ?_
    | (with_reducible refine Z.blX ?_ ?_; rotate_left; rfl)
    | refine Z.brT rfl ?_
    | refine Z.brF rfl ?_
    | (refine Z.br rfl ?_ ?_ <;> intro hb <;> (try simp only [decide_eq_true_eq, decide_eq_false_iff_not, Bool.not_eq_true', Bool.not_eq_false', Int.not_lt, Int.not_le] at hb) <;> (try (exfalso; first | omega | exact hb trivial))))
  refine Z.lpS [8, 10, 16, 17, 18, 19, 20, 21, 22, 23, 24, 25, 26, 27, 28, 29, 30, 31, 32, 33, 34, 35, 36, 37, 38, 39, 40, 41, 42, 43, 44, 45, 46, 47, 48, 49] (fun m w s => ∃ (q : Nat) (e : Int), s = [(8, .int .i64 e), (16, .int .i64 q)] ∧ q ≤ G.ws.length ∧ e = accs ((G.ws.take q).filter fun x => decide (G.closed < x.epoch)) v t 0 ∧ m = G.ws.length - q ∧ Sep r [] (.blk gg 65 [.int .i64 G.cell, .int .i64 G.closed, .slice A G.ws.length c] :: .sl 69 5 (.slice A G.ws.length c) (G.ws.map Wi.cells) :: F) w) _ [(8, .int .i64 0), (16, .int .i64 (0 : Nat))] (by repeat (first | exact trivial | refine ⟨rfl, ?_⟩)) ⟨0, 0, rfl, by omega, by simp [accs], rfl, hS⟩ ?_
  clear hS
  rintro m f0 w _ ⟨q, e, rfl, hq, he, rfl, hS⟩
  by_cases hlt : q < G.ws.length
  · obtain ⟨gb, o, rfl, _, hra⟩ := (hS.slrows (.next .here)).mat (by omega) hlt
    have hn : accs ((G.ws.take (q + 1)).filter fun x => decide (G.closed < x.epoch)) v t 0 = if G.closed < G.ws[q].epoch ∧ G.ws[q].version = v ∧ G.ws[q].from_ ≤ t ∧ t < G.ws[q].until_ then max e G.ws[q].epoch else e := by
      rw [filt_take hlt]
      by_cases h : G.closed < G.ws[q].epoch
      · simp only [h, decide_true, if_true, true_and]
        rw [accs_snoc, ← he]
      · simp only [h, decide_false, Bool.false_eq_true, if_false, List.append_nil, false_and]
        exact he.symm
    repeat' (first
      | refine Z.pr rfl ?_
      | refine Z.eff (Z.ld hS rfl (by repeat (first | exact At.here | apply At.next)) rfl ?_) rfl
      | refine Z.eff (Z.ldR rfl (by assumption) rfl ?_) rfl
      | refine Z.eff (Z.ldE rfl (by assumption) rfl ?_) rfl
      | refine Z.sum rfl (by constructor <;> omega) ?_
      | (refine Z.eff (Z.st hS rfl (by repeat (first | exact At.here | apply At.next)) rfl rfl ?_) rfl; clear hS; intro w hS)
      | (refine Z.eff (Z.al hS ?_) rfl; clear hS; intro g w hS hge)
      | (refine Z.eff (Z.bx hS rfl ?_) rfl; clear hS; intro g w hS hge)
      | refine Z.ixn rfl rfl rfl (by omega) ?_
      | refine Z.pl (R.upto rfl rfl rfl (by omega)) ?_
      | refine Z.pl (R.sinceL rfl rfl rfl (by omega) (by omega)) ?_
      | refine Z.pl (R.since rfl rfl rfl (by omega)) ?_
      | refine Z.pl (R.span rfl rfl rfl rfl (by omega) (by omega)) ?_
      | refine Z.pl (R.whole rfl rfl) ?_
      | refine Z.pl (R.eqa rfl rfl rfl rfl) ?_
      | refine Z.pl (R.nea rfl rfl rfl rfl) ?_
      | refine Z.ix rfl rfl rfl (by omega) ?_
      | refine Z.ia rfl rfl rfl (by omega) ?_
      | refine Z.bu rfl rfl ?_
      | refine Z.pl (R.max2 rfl rfl) ?_
      | refine Z.pl (R.cap rfl rfl) ?_
      | refine Z.pl R.mf ?_
      | (refine Z.eff (Z.bs hS rfl rfl rfl ?_) rfl; clear hS; intro g w hS hge)
      | refine Z.gT rfl rfl ?_
      | refine Z.gF rfl rfl ?_
      | refine Z.gF0 rfl rfl ?_
      | (refine Z.gS rfl rfl ?_ ?_ <;> intro hb <;> (try simp only [decide_eq_true_eq, decide_eq_false_iff_not, Bool.not_eq_true', Bool.not_eq_false', Int.not_lt, Int.not_le] at hb) <;> (try (exfalso; first | omega | exact hb trivial)))
      | with_reducible refine Z.seq ?_
      | with_reducible refine Z.reg ?_
      | with_reducible refine Z.nil ?_
      | with_reducible refine Z.skip ?_
      | with_reducible refine Z.exit ?_
      | with_reducible refine Z.ret ?_
      | with_reducible refine Z.block ?_
      | with_reducible refine Z.thN ?_
      | with_reducible refine Z.thU ?_
      | with_reducible refine Z.thE ?_
      | with_reducible refine Z.thR ?_
      | with_reducible refine Z.blN ?_
      | with_reducible refine Z.blR ?_
      | with_reducible refine Z.blE ?_
      | (with_reducible refine Z.blX ?_ ?_; rotate_left; rfl)
      | refine Z.brT rfl ?_
      | refine Z.brF rfl ?_
      | (refine Z.br rfl ?_ ?_ <;> intro hb <;> (try simp only [decide_eq_true_eq, decide_eq_false_iff_not, Bool.not_eq_true', Bool.not_eq_false', Int.not_lt, Int.not_le] at hb) <;> (try (exfalso; first | omega | exact hb trivial))))
    by_cases h1 : G.closed < G.ws[q].epoch
    · by_cases h2 : G.ws[q].version = v
      · by_cases h3 : G.ws[q].from_ ≤ t
        · refine D.startS hS 25 25 (by kernel_rfl) rfl ?_
          replace hS := hS.drew
          refine D.pr 0 1 rfl D.wantedN (by kernel_rfl) rfl ?_
          refine D.pr 2 5 rfl D.wantedN (by kernel_rfl) rfl ?_
          refine D.pr 3 13 rfl D.wantedN (by kernel_rfl) rfl ?_
          refine D.pr 4 29 rfl D.wantedN (by kernel_rfl) rfl ?_
          refine D.ld 1 31 rfl D.wantedN (by kernel_rfl) rfl (fun W h => h.blk (by repeat (first | exact At.here | apply At.next))) rfl ?_
          refine D.ld 5 63 rfl D.wantedN (by kernel_rfl) rfl (fun W h => h.blk (by repeat (first | exact At.here | apply At.next))) rfl ?_
          refine D.pr 6 127 rfl D.wantedN (by kernel_rfl) rfl ?_
          refine D.pr 7 255 rfl D.wantedN (by kernel_rfl) rfl ?_
          refine D.slot 27 rfl (fun hb => ?_) (fun hb => by exfalso; (try simp only [decide_eq_true_eq, decide_eq_false_iff_not, Bool.not_eq_true', Bool.not_eq_false', Int.not_lt, Int.not_le] at hb) <;> first | omega | exact hb trivial)
          (try simp only [decide_eq_true_eq, decide_eq_false_iff_not, Bool.not_eq_true', Bool.not_eq_false', Int.not_lt, Int.not_le] at hb)
          refine D.pr 8 511 rfl (D.wantedT rfl rfl) (by kernel_rfl) rfl ?_
          refine D.pr 10 1535 rfl (D.wantedT rfl rfl) (by kernel_rfl) rfl ?_
          refine D.ld 9 2047 rfl (D.wantedT rfl rfl) (by kernel_rfl) rfl (fun W h => h.blk (by repeat (first | exact At.here | apply At.next))) rfl ?_
          first | refine D.pr 11 4095 rfl (D.wantedT rfl rfl) (by kernel_rfl) rfl ?_ | refine D.pl 11 4095 rfl (D.wantedT rfl rfl) (by kernel_rfl) (R.eqa rfl rfl rfl rfl) ?_
          refine D.pr 12 8191 rfl D.wantedN (by kernel_rfl) rfl ?_
          refine D.pr 13 16383 rfl D.wantedN (by kernel_rfl) rfl ?_
          refine D.slot 33 rfl (fun hb => ?_) (fun hb => by exfalso; (try simp only [decide_eq_true_eq, decide_eq_false_iff_not, Bool.not_eq_true', Bool.not_eq_false', Int.not_lt, Int.not_le] at hb) <;> first | omega | exact hb trivial)
          (try simp only [decide_eq_true_eq, decide_eq_false_iff_not, Bool.not_eq_true', Bool.not_eq_false', Int.not_lt, Int.not_le] at hb)
          refine D.pr 14 32767 rfl (D.wantedT rfl rfl) (by kernel_rfl) rfl ?_
          refine D.pr 16 98303 rfl (D.wantedT rfl rfl) (by kernel_rfl) rfl ?_
          refine D.ld 15 131071 rfl (D.wantedT rfl rfl) (by kernel_rfl) rfl (fun W h => h.blk (by repeat (first | exact At.here | apply At.next))) rfl ?_
          refine D.pr 17 262143 rfl (D.wantedT rfl rfl) (by kernel_rfl) rfl ?_
          refine D.pr 18 524287 rfl D.wantedN (by kernel_rfl) rfl ?_
          refine D.pr 19 1048575 rfl D.wantedN (by kernel_rfl) rfl ?_
          refine D.slot 39 rfl (fun hb => ?_) (fun hb => by exfalso; (try simp only [decide_eq_true_eq, decide_eq_false_iff_not, Bool.not_eq_true', Bool.not_eq_false', Int.not_lt, Int.not_le] at hb) <;> first | omega | exact hb trivial)
          (try simp only [decide_eq_true_eq, decide_eq_false_iff_not, Bool.not_eq_true', Bool.not_eq_false', Int.not_lt, Int.not_le] at hb)
          refine D.pr 20 2097151 rfl (D.wantedT rfl rfl) (by kernel_rfl) rfl ?_
          refine D.pr 21 4194303 rfl (D.wantedT rfl rfl) (by kernel_rfl) rfl ?_
          refine D.ld 22 8388607 rfl (D.wantedT rfl rfl) (by kernel_rfl) rfl (fun W h => h.blk (by repeat (first | exact At.here | apply At.next))) rfl ?_
          refine D.pr 23 16777215 rfl (D.wantedT rfl rfl) (by kernel_rfl) rfl ?_
          refine D.pr 24 33554431 rfl D.wantedN (by kernel_rfl) rfl ?_
          refine D.done (by kernel_rfl) ?_
          repeat' (first
            | refine Z.pr rfl ?_
            | refine Z.eff (Z.ld hS rfl (by repeat (first | exact At.here | apply At.next)) rfl ?_) rfl
            | refine Z.eff (Z.ldR rfl (by assumption) rfl ?_) rfl
            | refine Z.eff (Z.ldE rfl (by assumption) rfl ?_) rfl
            | refine Z.sum rfl (by constructor <;> omega) ?_
            | (refine Z.eff (Z.st hS rfl (by repeat (first | exact At.here | apply At.next)) rfl rfl ?_) rfl; clear hS; intro w hS)
            | (refine Z.eff (Z.al hS ?_) rfl; clear hS; intro g w hS hge)
            | (refine Z.eff (Z.bx hS rfl ?_) rfl; clear hS; intro g w hS hge)
            | refine Z.ixn rfl rfl rfl (by omega) ?_
            | refine Z.pl (R.upto rfl rfl rfl (by omega)) ?_
            | refine Z.pl (R.sinceL rfl rfl rfl (by omega) (by omega)) ?_
            | refine Z.pl (R.since rfl rfl rfl (by omega)) ?_
            | refine Z.pl (R.span rfl rfl rfl rfl (by omega) (by omega)) ?_
            | refine Z.pl (R.whole rfl rfl) ?_
            | refine Z.pl (R.eqa rfl rfl rfl rfl) ?_
            | refine Z.pl (R.nea rfl rfl rfl rfl) ?_
            | refine Z.ix rfl rfl rfl (by omega) ?_
            | refine Z.ia rfl rfl rfl (by omega) ?_
            | refine Z.bu rfl rfl ?_
            | refine Z.pl (R.max2 rfl rfl) ?_
            | refine Z.pl (R.cap rfl rfl) ?_
            | refine Z.pl R.mf ?_
            | (refine Z.eff (Z.bs hS rfl rfl rfl ?_) rfl; clear hS; intro g w hS hge)
            | refine Z.gT rfl rfl ?_
            | refine Z.gF rfl rfl ?_
            | refine Z.gF0 rfl rfl ?_
            | (refine Z.gS rfl rfl ?_ ?_ <;> intro hb <;> (try simp only [decide_eq_true_eq, decide_eq_false_iff_not, Bool.not_eq_true', Bool.not_eq_false', Int.not_lt, Int.not_le] at hb) <;> (try (exfalso; first | omega | exact hb trivial)))
            | with_reducible refine Z.seq ?_
            | with_reducible refine Z.reg ?_
            | with_reducible refine Z.nil ?_
            | with_reducible refine Z.skip ?_
            | with_reducible refine Z.exit ?_
            | with_reducible refine Z.ret ?_
            | with_reducible refine Z.block ?_
            | with_reducible refine Z.thN ?_
            | with_reducible refine Z.thU ?_
            | with_reducible refine Z.thE ?_
            | with_reducible refine Z.thR ?_
            | with_reducible refine Z.blN ?_
            | with_reducible refine Z.blR ?_
            | with_reducible refine Z.blE ?_
            | (with_reducible refine Z.blX ?_ ?_; rotate_left; rfl)
            | refine Z.brT rfl ?_
            | refine Z.brF rfl ?_
            | (refine Z.br rfl ?_ ?_ <;> intro hb <;> (try simp only [decide_eq_true_eq, decide_eq_false_iff_not, Bool.not_eq_true', Bool.not_eq_false', Int.not_lt, Int.not_le] at hb) <;> (try (exfalso; first | omega | exact hb trivial))))
          · refine Z.againS (G.ws.length - (q + 1)) [(8, .int .i64 (max e G.ws[q].epoch)), (16, .int .i64 (q + 1 : Nat))] (by omega) (by repeat (first | with_reducible exact Same.mix | ((with_reducible refine Same.upd ?_ ?_); · rfl) | ((with_reducible refine Same.cons ?_ ?_); · rfl) | with_reducible exact Same.refl | with_reducible refine Same.nil ?_ | ((with_reducible refine Same.mixS ?_ ?_); · rfl))) (by repeat (first | exact trivial | refine ⟨rfl, ?_⟩)) ?_
            exact ⟨q + 1, _, rfl, by omega, by rw [hn, if_pos (by omega)], rfl, hS.sub (by repeat (first | exact Sub.rest | exact Sub.nil | exact .skip .rest | exact .skip (.skip .rest) | exact .skip (.skip (.skip .rest)) | apply Sub.keep | refine Sub.cons (by repeat (first | exact At.here | apply At.next)) ?_ | apply Sub.skip))⟩
          · refine Z.againS (G.ws.length - (q + 1)) [(8, .int .i64 e), (16, .int .i64 (q + 1 : Nat))] (by omega) (by repeat (first | with_reducible exact Same.mix | ((with_reducible refine Same.upd ?_ ?_); · rfl) | ((with_reducible refine Same.cons ?_ ?_); · rfl) | with_reducible exact Same.refl | with_reducible refine Same.nil ?_ | ((with_reducible refine Same.mixS ?_ ?_); · rfl))) (by repeat (first | exact trivial | refine ⟨rfl, ?_⟩)) ?_
            exact ⟨q + 1, _, rfl, by omega, by rw [hn, if_neg (by omega)], rfl, hS.sub (by repeat (first | exact Sub.rest | exact Sub.nil | exact .skip .rest | exact .skip (.skip .rest) | exact .skip (.skip (.skip .rest)) | apply Sub.keep | refine Sub.cons (by repeat (first | exact At.here | apply At.next)) ?_ | apply Sub.skip))⟩
        · refine D.startS hS 25 25 (by kernel_rfl) rfl ?_
          replace hS := hS.drew
          refine D.pr 0 1 rfl D.wantedN (by kernel_rfl) rfl ?_
          refine D.pr 2 5 rfl D.wantedN (by kernel_rfl) rfl ?_
          refine D.pr 3 13 rfl D.wantedN (by kernel_rfl) rfl ?_
          refine D.pr 4 29 rfl D.wantedN (by kernel_rfl) rfl ?_
          refine D.ld 1 31 rfl D.wantedN (by kernel_rfl) rfl (fun W h => h.blk (by repeat (first | exact At.here | apply At.next))) rfl ?_
          refine D.ld 5 63 rfl D.wantedN (by kernel_rfl) rfl (fun W h => h.blk (by repeat (first | exact At.here | apply At.next))) rfl ?_
          refine D.pr 6 127 rfl D.wantedN (by kernel_rfl) rfl ?_
          refine D.pr 7 255 rfl D.wantedN (by kernel_rfl) rfl ?_
          refine D.slot 27 rfl (fun hb => ?_) (fun hb => by exfalso; (try simp only [decide_eq_true_eq, decide_eq_false_iff_not, Bool.not_eq_true', Bool.not_eq_false', Int.not_lt, Int.not_le] at hb) <;> first | omega | exact hb trivial)
          (try simp only [decide_eq_true_eq, decide_eq_false_iff_not, Bool.not_eq_true', Bool.not_eq_false', Int.not_lt, Int.not_le] at hb)
          refine D.pr 8 511 rfl (D.wantedT rfl rfl) (by kernel_rfl) rfl ?_
          refine D.pr 10 1535 rfl (D.wantedT rfl rfl) (by kernel_rfl) rfl ?_
          refine D.ld 9 2047 rfl (D.wantedT rfl rfl) (by kernel_rfl) rfl (fun W h => h.blk (by repeat (first | exact At.here | apply At.next))) rfl ?_
          first | refine D.pr 11 4095 rfl (D.wantedT rfl rfl) (by kernel_rfl) rfl ?_ | refine D.pl 11 4095 rfl (D.wantedT rfl rfl) (by kernel_rfl) (R.eqa rfl rfl rfl rfl) ?_
          refine D.pr 12 8191 rfl D.wantedN (by kernel_rfl) rfl ?_
          refine D.pr 13 16383 rfl D.wantedN (by kernel_rfl) rfl ?_
          refine D.slot 33 rfl (fun hb => ?_) (fun hb => by exfalso; (try simp only [decide_eq_true_eq, decide_eq_false_iff_not, Bool.not_eq_true', Bool.not_eq_false', Int.not_lt, Int.not_le] at hb) <;> first | omega | exact hb trivial)
          (try simp only [decide_eq_true_eq, decide_eq_false_iff_not, Bool.not_eq_true', Bool.not_eq_false', Int.not_lt, Int.not_le] at hb)
          refine D.pr 14 32767 rfl (D.wantedT rfl rfl) (by kernel_rfl) rfl ?_
          refine D.pr 16 98303 rfl (D.wantedT rfl rfl) (by kernel_rfl) rfl ?_
          refine D.ld 15 131071 rfl (D.wantedT rfl rfl) (by kernel_rfl) rfl (fun W h => h.blk (by repeat (first | exact At.here | apply At.next))) rfl ?_
          refine D.pr 17 262143 rfl (D.wantedT rfl rfl) (by kernel_rfl) rfl ?_
          refine D.pr 18 524287 rfl D.wantedN (by kernel_rfl) rfl ?_
          refine D.pr 19 1048575 rfl D.wantedN (by kernel_rfl) rfl ?_
          refine D.slot 39 rfl (fun hb => by exfalso; (try simp only [decide_eq_true_eq, decide_eq_false_iff_not, Bool.not_eq_true', Bool.not_eq_false', Int.not_lt, Int.not_le] at hb) <;> first | omega | exact hb trivial) (fun hb => ?_)
          (try simp only [decide_eq_true_eq, decide_eq_false_iff_not, Bool.not_eq_true', Bool.not_eq_false', Int.not_lt, Int.not_le] at hb)
          refine D.skF 20 2097151 rfl (by kernel_rfl) rfl rfl ?_
          refine D.skF 21 4194303 rfl (by kernel_rfl) rfl rfl ?_
          refine D.skF 22 8388607 rfl (by kernel_rfl) rfl rfl ?_
          refine D.skF 23 16777215 rfl (by kernel_rfl) rfl rfl ?_
          refine D.pr 24 33554431 rfl D.wantedN (by kernel_rfl) rfl ?_
          refine D.done (by kernel_rfl) ?_
          repeat' (first
            | refine Z.pr rfl ?_
            | refine Z.eff (Z.ld hS rfl (by repeat (first | exact At.here | apply At.next)) rfl ?_) rfl
            | refine Z.eff (Z.ldR rfl (by assumption) rfl ?_) rfl
            | refine Z.eff (Z.ldE rfl (by assumption) rfl ?_) rfl
            | refine Z.sum rfl (by constructor <;> omega) ?_
            | (refine Z.eff (Z.st hS rfl (by repeat (first | exact At.here | apply At.next)) rfl rfl ?_) rfl; clear hS; intro w hS)
            | (refine Z.eff (Z.al hS ?_) rfl; clear hS; intro g w hS hge)
            | (refine Z.eff (Z.bx hS rfl ?_) rfl; clear hS; intro g w hS hge)
            | refine Z.ixn rfl rfl rfl (by omega) ?_
            | refine Z.pl (R.upto rfl rfl rfl (by omega)) ?_
            | refine Z.pl (R.sinceL rfl rfl rfl (by omega) (by omega)) ?_
            | refine Z.pl (R.since rfl rfl rfl (by omega)) ?_
            | refine Z.pl (R.span rfl rfl rfl rfl (by omega) (by omega)) ?_
            | refine Z.pl (R.whole rfl rfl) ?_
            | refine Z.pl (R.eqa rfl rfl rfl rfl) ?_
            | refine Z.pl (R.nea rfl rfl rfl rfl) ?_
            | refine Z.ix rfl rfl rfl (by omega) ?_
            | refine Z.ia rfl rfl rfl (by omega) ?_
            | refine Z.bu rfl rfl ?_
            | refine Z.pl (R.max2 rfl rfl) ?_
            | refine Z.pl (R.cap rfl rfl) ?_
            | refine Z.pl R.mf ?_
            | (refine Z.eff (Z.bs hS rfl rfl rfl ?_) rfl; clear hS; intro g w hS hge)
            | refine Z.gT rfl rfl ?_
            | refine Z.gF rfl rfl ?_
            | refine Z.gF0 rfl rfl ?_
            | (refine Z.gS rfl rfl ?_ ?_ <;> intro hb <;> (try simp only [decide_eq_true_eq, decide_eq_false_iff_not, Bool.not_eq_true', Bool.not_eq_false', Int.not_lt, Int.not_le] at hb) <;> (try (exfalso; first | omega | exact hb trivial)))
            | with_reducible refine Z.seq ?_
            | with_reducible refine Z.reg ?_
            | with_reducible refine Z.nil ?_
            | with_reducible refine Z.skip ?_
            | with_reducible refine Z.exit ?_
            | with_reducible refine Z.ret ?_
            | with_reducible refine Z.block ?_
            | with_reducible refine Z.thN ?_
            | with_reducible refine Z.thU ?_
            | with_reducible refine Z.thE ?_
            | with_reducible refine Z.thR ?_
            | with_reducible refine Z.blN ?_
            | with_reducible refine Z.blR ?_
            | with_reducible refine Z.blE ?_
            | (with_reducible refine Z.blX ?_ ?_; rotate_left; rfl)
            | refine Z.brT rfl ?_
            | refine Z.brF rfl ?_
            | (refine Z.br rfl ?_ ?_ <;> intro hb <;> (try simp only [decide_eq_true_eq, decide_eq_false_iff_not, Bool.not_eq_true', Bool.not_eq_false', Int.not_lt, Int.not_le] at hb) <;> (try (exfalso; first | omega | exact hb trivial))))
          refine Z.againS (G.ws.length - (q + 1)) [(8, .int .i64 e), (16, .int .i64 (q + 1 : Nat))] (by omega) (by repeat (first | with_reducible exact Same.mix | ((with_reducible refine Same.upd ?_ ?_); · rfl) | ((with_reducible refine Same.cons ?_ ?_); · rfl) | with_reducible exact Same.refl | with_reducible refine Same.nil ?_ | ((with_reducible refine Same.mixS ?_ ?_); · rfl))) (by repeat (first | exact trivial | refine ⟨rfl, ?_⟩)) ?_
          exact ⟨q + 1, _, rfl, by omega, by rw [hn, if_neg (by omega)], rfl, hS.sub (by repeat (first | exact Sub.rest | exact Sub.nil | exact .skip .rest | exact .skip (.skip .rest) | exact .skip (.skip (.skip .rest)) | apply Sub.keep | refine Sub.cons (by repeat (first | exact At.here | apply At.next)) ?_ | apply Sub.skip))⟩
      · refine D.startS hS 25 25 (by kernel_rfl) rfl ?_
        replace hS := hS.drew
        refine D.pr 0 1 rfl D.wantedN (by kernel_rfl) rfl ?_
        refine D.pr 2 5 rfl D.wantedN (by kernel_rfl) rfl ?_
        refine D.pr 3 13 rfl D.wantedN (by kernel_rfl) rfl ?_
        refine D.pr 4 29 rfl D.wantedN (by kernel_rfl) rfl ?_
        refine D.ld 1 31 rfl D.wantedN (by kernel_rfl) rfl (fun W h => h.blk (by repeat (first | exact At.here | apply At.next))) rfl ?_
        refine D.ld 5 63 rfl D.wantedN (by kernel_rfl) rfl (fun W h => h.blk (by repeat (first | exact At.here | apply At.next))) rfl ?_
        refine D.pr 6 127 rfl D.wantedN (by kernel_rfl) rfl ?_
        refine D.pr 7 255 rfl D.wantedN (by kernel_rfl) rfl ?_
        refine D.slot 27 rfl (fun hb => ?_) (fun hb => by exfalso; (try simp only [decide_eq_true_eq, decide_eq_false_iff_not, Bool.not_eq_true', Bool.not_eq_false', Int.not_lt, Int.not_le] at hb) <;> first | omega | exact hb trivial)
        (try simp only [decide_eq_true_eq, decide_eq_false_iff_not, Bool.not_eq_true', Bool.not_eq_false', Int.not_lt, Int.not_le] at hb)
        refine D.pr 8 511 rfl (D.wantedT rfl rfl) (by kernel_rfl) rfl ?_
        refine D.pr 10 1535 rfl (D.wantedT rfl rfl) (by kernel_rfl) rfl ?_
        refine D.ld 9 2047 rfl (D.wantedT rfl rfl) (by kernel_rfl) rfl (fun W h => h.blk (by repeat (first | exact At.here | apply At.next))) rfl ?_
        first | refine D.pr 11 4095 rfl (D.wantedT rfl rfl) (by kernel_rfl) rfl ?_ | refine D.pl 11 4095 rfl (D.wantedT rfl rfl) (by kernel_rfl) (R.eqa rfl rfl rfl rfl) ?_
        refine D.pr 12 8191 rfl D.wantedN (by kernel_rfl) rfl ?_
        refine D.pr 13 16383 rfl D.wantedN (by kernel_rfl) rfl ?_
        refine D.slot 33 rfl (fun hb => by exfalso; (try simp only [decide_eq_true_eq, decide_eq_false_iff_not, Bool.not_eq_true', Bool.not_eq_false', Int.not_lt, Int.not_le] at hb) <;> first | omega | exact hb trivial) (fun hb => ?_)
        (try simp only [decide_eq_true_eq, decide_eq_false_iff_not, Bool.not_eq_true', Bool.not_eq_false', Int.not_lt, Int.not_le] at hb)
        refine D.skF 14 32767 rfl (by kernel_rfl) rfl rfl ?_
        refine D.skF 15 65535 rfl (by kernel_rfl) rfl rfl ?_
        refine D.skF 16 131071 rfl (by kernel_rfl) rfl rfl ?_
        refine D.skF 17 262143 rfl (by kernel_rfl) rfl rfl ?_
        refine D.pr 18 524287 rfl D.wantedN (by kernel_rfl) rfl ?_
        refine D.pr 19 1048575 rfl D.wantedN (by kernel_rfl) rfl ?_
        refine D.skF 20 2097151 rfl (by kernel_rfl) rfl rfl ?_
        refine D.skF 21 4194303 rfl (by kernel_rfl) rfl rfl ?_
        refine D.skF 22 8388607 rfl (by kernel_rfl) rfl rfl ?_
        refine D.skF 23 16777215 rfl (by kernel_rfl) rfl rfl ?_
        refine D.pr 24 33554431 rfl D.wantedN (by kernel_rfl) rfl ?_
        refine D.done (by kernel_rfl) ?_
        repeat' (first
          | refine Z.pr rfl ?_
          | refine Z.eff (Z.ld hS rfl (by repeat (first | exact At.here | apply At.next)) rfl ?_) rfl
          | refine Z.eff (Z.ldR rfl (by assumption) rfl ?_) rfl
          | refine Z.eff (Z.ldE rfl (by assumption) rfl ?_) rfl
          | refine Z.sum rfl (by constructor <;> omega) ?_
          | (refine Z.eff (Z.st hS rfl (by repeat (first | exact At.here | apply At.next)) rfl rfl ?_) rfl; clear hS; intro w hS)
          | (refine Z.eff (Z.al hS ?_) rfl; clear hS; intro g w hS hge)
          | (refine Z.eff (Z.bx hS rfl ?_) rfl; clear hS; intro g w hS hge)
          | refine Z.ixn rfl rfl rfl (by omega) ?_
          | refine Z.pl (R.upto rfl rfl rfl (by omega)) ?_
          | refine Z.pl (R.sinceL rfl rfl rfl (by omega) (by omega)) ?_
          | refine Z.pl (R.since rfl rfl rfl (by omega)) ?_
          | refine Z.pl (R.span rfl rfl rfl rfl (by omega) (by omega)) ?_
          | refine Z.pl (R.whole rfl rfl) ?_
          | refine Z.pl (R.eqa rfl rfl rfl rfl) ?_
          | refine Z.pl (R.nea rfl rfl rfl rfl) ?_
          | refine Z.ix rfl rfl rfl (by omega) ?_
          | refine Z.ia rfl rfl rfl (by omega) ?_
          | refine Z.bu rfl rfl ?_
          | refine Z.pl (R.max2 rfl rfl) ?_
          | refine Z.pl (R.cap rfl rfl) ?_
          | refine Z.pl R.mf ?_
          | (refine Z.eff (Z.bs hS rfl rfl rfl ?_) rfl; clear hS; intro g w hS hge)
          | refine Z.gT rfl rfl ?_
          | refine Z.gF rfl rfl ?_
          | refine Z.gF0 rfl rfl ?_
          | (refine Z.gS rfl rfl ?_ ?_ <;> intro hb <;> (try simp only [decide_eq_true_eq, decide_eq_false_iff_not, Bool.not_eq_true', Bool.not_eq_false', Int.not_lt, Int.not_le] at hb) <;> (try (exfalso; first | omega | exact hb trivial)))
          | with_reducible refine Z.seq ?_
          | with_reducible refine Z.reg ?_
          | with_reducible refine Z.nil ?_
          | with_reducible refine Z.skip ?_
          | with_reducible refine Z.exit ?_
          | with_reducible refine Z.ret ?_
          | with_reducible refine Z.block ?_
          | with_reducible refine Z.thN ?_
          | with_reducible refine Z.thU ?_
          | with_reducible refine Z.thE ?_
          | with_reducible refine Z.thR ?_
          | with_reducible refine Z.blN ?_
          | with_reducible refine Z.blR ?_
          | with_reducible refine Z.blE ?_
          | (with_reducible refine Z.blX ?_ ?_; rotate_left; rfl)
          | refine Z.brT rfl ?_
          | refine Z.brF rfl ?_
          | (refine Z.br rfl ?_ ?_ <;> intro hb <;> (try simp only [decide_eq_true_eq, decide_eq_false_iff_not, Bool.not_eq_true', Bool.not_eq_false', Int.not_lt, Int.not_le] at hb) <;> (try (exfalso; first | omega | exact hb trivial))))
        refine Z.againS (G.ws.length - (q + 1)) [(8, .int .i64 e), (16, .int .i64 (q + 1 : Nat))] (by omega) (by repeat (first | with_reducible exact Same.mix | ((with_reducible refine Same.upd ?_ ?_); · rfl) | ((with_reducible refine Same.cons ?_ ?_); · rfl) | with_reducible exact Same.refl | with_reducible refine Same.nil ?_ | ((with_reducible refine Same.mixS ?_ ?_); · rfl))) (by repeat (first | exact trivial | refine ⟨rfl, ?_⟩)) ?_
        exact ⟨q + 1, _, rfl, by omega, by rw [hn, if_neg (by omega)], rfl, hS.sub (by repeat (first | exact Sub.rest | exact Sub.nil | exact .skip .rest | exact .skip (.skip .rest) | exact .skip (.skip (.skip .rest)) | apply Sub.keep | refine Sub.cons (by repeat (first | exact At.here | apply At.next)) ?_ | apply Sub.skip))⟩
    · refine D.startS hS 25 25 (by kernel_rfl) rfl ?_
      replace hS := hS.drew
      refine D.pr 0 1 rfl D.wantedN (by kernel_rfl) rfl ?_
      refine D.pr 2 5 rfl D.wantedN (by kernel_rfl) rfl ?_
      refine D.pr 3 13 rfl D.wantedN (by kernel_rfl) rfl ?_
      refine D.pr 4 29 rfl D.wantedN (by kernel_rfl) rfl ?_
      refine D.ld 1 31 rfl D.wantedN (by kernel_rfl) rfl (fun W h => h.blk (by repeat (first | exact At.here | apply At.next))) rfl ?_
      refine D.ld 5 63 rfl D.wantedN (by kernel_rfl) rfl (fun W h => h.blk (by repeat (first | exact At.here | apply At.next))) rfl ?_
      refine D.pr 6 127 rfl D.wantedN (by kernel_rfl) rfl ?_
      refine D.pr 7 255 rfl D.wantedN (by kernel_rfl) rfl ?_
      refine D.slot 27 rfl (fun hb => by exfalso; (try simp only [decide_eq_true_eq, decide_eq_false_iff_not, Bool.not_eq_true', Bool.not_eq_false', Int.not_lt, Int.not_le] at hb) <;> first | omega | exact hb trivial) (fun hb => ?_)
      (try simp only [decide_eq_true_eq, decide_eq_false_iff_not, Bool.not_eq_true', Bool.not_eq_false', Int.not_lt, Int.not_le] at hb)
      refine D.skF 8 511 rfl (by kernel_rfl) rfl rfl ?_
      refine D.skF 9 1023 rfl (by kernel_rfl) rfl rfl ?_
      refine D.skF 10 2047 rfl (by kernel_rfl) rfl rfl ?_
      refine D.skF 11 4095 rfl (by kernel_rfl) rfl rfl ?_
      refine D.pr 12 8191 rfl D.wantedN (by kernel_rfl) rfl ?_
      refine D.pr 13 16383 rfl D.wantedN (by kernel_rfl) rfl ?_
      refine D.skF 14 32767 rfl (by kernel_rfl) rfl rfl ?_
      refine D.skF 15 65535 rfl (by kernel_rfl) rfl rfl ?_
      refine D.skF 16 131071 rfl (by kernel_rfl) rfl rfl ?_
      refine D.skF 17 262143 rfl (by kernel_rfl) rfl rfl ?_
      refine D.pr 18 524287 rfl D.wantedN (by kernel_rfl) rfl ?_
      refine D.pr 19 1048575 rfl D.wantedN (by kernel_rfl) rfl ?_
      refine D.skF 20 2097151 rfl (by kernel_rfl) rfl rfl ?_
      refine D.skF 21 4194303 rfl (by kernel_rfl) rfl rfl ?_
      refine D.skF 22 8388607 rfl (by kernel_rfl) rfl rfl ?_
      refine D.skF 23 16777215 rfl (by kernel_rfl) rfl rfl ?_
      refine D.pr 24 33554431 rfl D.wantedN (by kernel_rfl) rfl ?_
      refine D.done (by kernel_rfl) ?_
      repeat' (first
        | refine Z.pr rfl ?_
        | refine Z.eff (Z.ld hS rfl (by repeat (first | exact At.here | apply At.next)) rfl ?_) rfl
        | refine Z.eff (Z.ldR rfl (by assumption) rfl ?_) rfl
        | refine Z.eff (Z.ldE rfl (by assumption) rfl ?_) rfl
        | refine Z.sum rfl (by constructor <;> omega) ?_
        | (refine Z.eff (Z.st hS rfl (by repeat (first | exact At.here | apply At.next)) rfl rfl ?_) rfl; clear hS; intro w hS)
        | (refine Z.eff (Z.al hS ?_) rfl; clear hS; intro g w hS hge)
        | (refine Z.eff (Z.bx hS rfl ?_) rfl; clear hS; intro g w hS hge)
        | refine Z.ixn rfl rfl rfl (by omega) ?_
        | refine Z.pl (R.upto rfl rfl rfl (by omega)) ?_
        | refine Z.pl (R.sinceL rfl rfl rfl (by omega) (by omega)) ?_
        | refine Z.pl (R.since rfl rfl rfl (by omega)) ?_
        | refine Z.pl (R.span rfl rfl rfl rfl (by omega) (by omega)) ?_
        | refine Z.pl (R.whole rfl rfl) ?_
        | refine Z.pl (R.eqa rfl rfl rfl rfl) ?_
        | refine Z.pl (R.nea rfl rfl rfl rfl) ?_
        | refine Z.ix rfl rfl rfl (by omega) ?_
        | refine Z.ia rfl rfl rfl (by omega) ?_
        | refine Z.bu rfl rfl ?_
        | refine Z.pl (R.max2 rfl rfl) ?_
        | refine Z.pl (R.cap rfl rfl) ?_
        | refine Z.pl R.mf ?_
        | (refine Z.eff (Z.bs hS rfl rfl rfl ?_) rfl; clear hS; intro g w hS hge)
        | refine Z.gT rfl rfl ?_
        | refine Z.gF rfl rfl ?_
        | refine Z.gF0 rfl rfl ?_
        | (refine Z.gS rfl rfl ?_ ?_ <;> intro hb <;> (try simp only [decide_eq_true_eq, decide_eq_false_iff_not, Bool.not_eq_true', Bool.not_eq_false', Int.not_lt, Int.not_le] at hb) <;> (try (exfalso; first | omega | exact hb trivial)))
        | with_reducible refine Z.seq ?_
        | with_reducible refine Z.reg ?_
        | with_reducible refine Z.nil ?_
        | with_reducible refine Z.skip ?_
        | with_reducible refine Z.exit ?_
        | with_reducible refine Z.ret ?_
        | with_reducible refine Z.block ?_
        | with_reducible refine Z.thN ?_
        | with_reducible refine Z.thU ?_
        | with_reducible refine Z.thE ?_
        | with_reducible refine Z.thR ?_
        | with_reducible refine Z.blN ?_
        | with_reducible refine Z.blR ?_
        | with_reducible refine Z.blE ?_
        | (with_reducible refine Z.blX ?_ ?_; rotate_left; rfl)
        | refine Z.brT rfl ?_
        | refine Z.brF rfl ?_
        | (refine Z.br rfl ?_ ?_ <;> intro hb <;> (try simp only [decide_eq_true_eq, decide_eq_false_iff_not, Bool.not_eq_true', Bool.not_eq_false', Int.not_lt, Int.not_le] at hb) <;> (try (exfalso; first | omega | exact hb trivial))))
      refine Z.againS (G.ws.length - (q + 1)) [(8, .int .i64 e), (16, .int .i64 (q + 1 : Nat))] (by omega) (by repeat (first | with_reducible exact Same.mix | ((with_reducible refine Same.upd ?_ ?_); · rfl) | ((with_reducible refine Same.cons ?_ ?_); · rfl) | with_reducible exact Same.refl | with_reducible refine Same.nil ?_ | ((with_reducible refine Same.mixS ?_ ?_); · rfl))) (by repeat (first | exact trivial | refine ⟨rfl, ?_⟩)) ?_
      exact ⟨q + 1, _, rfl, by omega, by rw [hn, if_neg (by omega)], rfl, hS.sub (by repeat (first | exact Sub.rest | exact Sub.nil | exact .skip .rest | exact .skip (.skip .rest) | exact .skip (.skip (.skip .rest)) | apply Sub.keep | refine Sub.cons (by repeat (first | exact At.here | apply At.next)) ?_ | apply Sub.skip))⟩
  · repeat' (first
      | refine Z.pr rfl ?_
      | refine Z.eff (Z.ld hS rfl (by repeat (first | exact At.here | apply At.next)) rfl ?_) rfl
      | refine Z.eff (Z.ldR rfl (by assumption) rfl ?_) rfl
      | refine Z.eff (Z.ldE rfl (by assumption) rfl ?_) rfl
      | refine Z.sum rfl (by constructor <;> omega) ?_
      | (refine Z.eff (Z.st hS rfl (by repeat (first | exact At.here | apply At.next)) rfl rfl ?_) rfl; clear hS; intro w hS)
      | (refine Z.eff (Z.al hS ?_) rfl; clear hS; intro g w hS hge)
      | (refine Z.eff (Z.bx hS rfl ?_) rfl; clear hS; intro g w hS hge)
      | refine Z.ixn rfl rfl rfl (by omega) ?_
      | refine Z.pl (R.upto rfl rfl rfl (by omega)) ?_
      | refine Z.pl (R.sinceL rfl rfl rfl (by omega) (by omega)) ?_
      | refine Z.pl (R.since rfl rfl rfl (by omega)) ?_
      | refine Z.pl (R.span rfl rfl rfl rfl (by omega) (by omega)) ?_
      | refine Z.pl (R.whole rfl rfl) ?_
      | refine Z.pl (R.eqa rfl rfl rfl rfl) ?_
      | refine Z.pl (R.nea rfl rfl rfl rfl) ?_
      | refine Z.ix rfl rfl rfl (by omega) ?_
      | refine Z.ia rfl rfl rfl (by omega) ?_
      | refine Z.bu rfl rfl ?_
      | refine Z.pl (R.max2 rfl rfl) ?_
      | refine Z.pl (R.cap rfl rfl) ?_
      | refine Z.pl R.mf ?_
      | (refine Z.eff (Z.bs hS rfl rfl rfl ?_) rfl; clear hS; intro g w hS hge)
      | refine Z.gT rfl rfl ?_
      | refine Z.gF rfl rfl ?_
      | refine Z.gF0 rfl rfl ?_
      | (refine Z.gS rfl rfl ?_ ?_ <;> intro hb <;> (try simp only [decide_eq_true_eq, decide_eq_false_iff_not, Bool.not_eq_true', Bool.not_eq_false', Int.not_lt, Int.not_le] at hb) <;> (try (exfalso; first | omega | exact hb trivial)))
      | with_reducible refine Z.seq ?_
      | with_reducible refine Z.reg ?_
      | with_reducible refine Z.nil ?_
      | with_reducible refine Z.skip ?_
      | with_reducible refine Z.exit ?_
      | with_reducible refine Z.ret ?_
      | with_reducible refine Z.block ?_
      | with_reducible refine Z.thN ?_
      | with_reducible refine Z.thU ?_
      | with_reducible refine Z.thE ?_
      | with_reducible refine Z.thR ?_
      | with_reducible refine Z.blN ?_
      | with_reducible refine Z.blR ?_
      | with_reducible refine Z.blE ?_
      | (with_reducible refine Z.blX ?_ ?_; rotate_left; rfl)
      | refine Z.brT rfl ?_
      | refine Z.brF rfl ?_
      | (refine Z.br rfl ?_ ?_ <;> intro hb <;> (try simp only [decide_eq_true_eq, decide_eq_false_iff_not, Bool.not_eq_true', Bool.not_eq_false', Int.not_lt, Int.not_le] at hb) <;> (try (exfalso; first | omega | exact hb trivial))))
    first | refine Z.done hS Try.results46 (Z.RV.tmp rfl (Z.RV.tmp rfl Z.RV.nil)) ?_ | refine Z.doneN hS Try.results46 (Z.RV.tmp rfl (Z.RV.tmp rfl Z.RV.nil)) ?_
    rw [List.take_of_length_le (by omega)] at he
    exact ⟨by rw [he]; rfl, Sep.GR_open.2 ⟨_, _, hS⟩⟩
theorem accs_same {ws ws' : List Wi} {v t : Int} (h : ∀ x, x ∈ ws ↔ x ∈ ws') : accs ws v t 0 = accs ws' v t 0 := by
  obtain ⟨h1, h2, h3⟩ := accs_all ws v t 0
  obtain ⟨k1, k2, k3⟩ := accs_all ws' v t 0
  rcases h3 with h3 | ⟨x, hx, hh, he⟩
  · rcases k3 with k3 | ⟨y, hy, hh', he'⟩
    · omega
    · have := h2 y ((h y).2 hy) hh'
      omega
  · have := k2 x ((h x).1 hx) hh
    rcases k3 with k3 | ⟨y, hy, hh', he'⟩
    · omega
    · have := h2 y ((h y).2 hy) hh'
      omega
theorem Rel.accs {P R : Ga} (h : Rel P R) (v t : Int) : Go.Proofs.Ytppbjlakbmgfdaa.accs (R.ws.filter fun x => decide (R.closed < x.epoch)) v t 0 = Go.Proofs.Ytppbjlakbmgfdaa.accs P.ws v t 0 := accs_same fun x => by rw [h.mem, List.mem_filter, decide_eq_true_eq]

theorem winsOf_take {closed : Int} {L : List Wi} {q : Nat} (hq : q < L.length) : winsOf closed (L.take (q + 1)) [] = if L[q].epoch ≤ closed then winsOf closed (L.take q) [] else insB L[q] (winsOf closed (L.take q) []) := by
  rw [List.take_succ_eq_append_getElem hq]; unfold winsOf; rw [List.foldl_append]; rfl
set_option maxHeartbeats 4000000 in
theorem rwindows_z (gg : Nat) (G : Ga) (r : World) (F : List Res) (w : World) (hS : Sep r [] (GR gg G :: F) w) (hl : G.ws.length ≤ 100000) : Calls Try.prog 44 #[.pointer (some ⟨gg, 0, none⟩)] w fun e w' => ∃ A' c', e = .returned (.slice A' (winsOf G.closed G.ws []).length c') ∧ Sep r [] (.sl 69 5 (.slice A' (winsOf G.closed G.ws []).length c') ((winsOf G.closed G.ws []).map Wi.cells) :: GR gg G :: F) w' := by
  obtain ⟨A, c, hS⟩ := Sep.GR_open.1 hS
  refine Z.enter Try.func44 Try.ntmps44 rfl rfl ?_
  repeat' (first
    | refine Z.pr rfl ?_
    | refine Z.eff (Z.ld hS rfl (by repeat (first | exact At.here | apply At.next)) rfl ?_) rfl
    | refine Z.eff (Z.ldR rfl (by assumption) rfl ?_) rfl
    | refine Z.eff (Z.ldE rfl (by assumption) rfl ?_) rfl
    | refine Z.sum rfl (by constructor <;> omega) ?_
    | (refine Z.eff (Z.st hS rfl (by repeat (first | exact At.here | apply At.next)) rfl rfl ?_) rfl; clear hS; intro w hS)
    | (refine Z.eff (Z.al hS ?_) rfl; clear hS; intro g w hS hge)
    | (refine Z.eff (Z.bx hS rfl ?_) rfl; clear hS; intro g w hS hge)
    | refine Z.ixn rfl rfl rfl (by omega) ?_
    | refine Z.pl (R.upto rfl rfl rfl (by omega)) ?_
    | refine Z.pl (R.sinceL rfl rfl rfl (by omega) (by omega)) ?_
    | refine Z.pl (R.since rfl rfl rfl (by omega)) ?_
    | refine Z.pl (R.span rfl rfl rfl rfl (by omega) (by omega)) ?_
    | refine Z.pl (R.whole rfl rfl) ?_
    | refine Z.pl (R.eqa rfl rfl rfl rfl) ?_
    | refine Z.pl (R.nea rfl rfl rfl rfl) ?_
    | refine Z.ix rfl rfl rfl (by omega) ?_
    | refine Z.ia rfl rfl rfl (by omega) ?_
    | refine Z.bu rfl rfl ?_
    | refine Z.pl (R.max2 rfl rfl) ?_
    | refine Z.pl (R.cap rfl rfl) ?_
    | refine Z.pl R.mf ?_
    | (refine Z.eff (Z.bs hS rfl rfl rfl ?_) rfl; clear hS; intro g w hS hge)
    | refine Z.gT rfl rfl ?_
    | refine Z.gF rfl rfl ?_
    | refine Z.gF0 rfl rfl ?_
    | (refine Z.gS rfl rfl ?_ ?_ <;> intro hb <;> (try simp only [decide_eq_true_eq, decide_eq_false_iff_not, Bool.not_eq_true', Bool.not_eq_false', Int.not_lt, Int.not_le] at hb) <;> (try (exfalso; first | omega | exact hb trivial)))
    | with_reducible refine Z.seq ?_
    | with_reducible refine Z.reg ?_
    | with_reducible refine Z.nil ?_
    | with_reducible refine Z.skip ?_
    | with_reducible refine Z.exit ?_
    | with_reducible refine Z.ret ?_
    | with_reducible refine Z.block ?_
    | with_reducible refine Z.thN ?_
    | with_reducible refine Z.thU ?_
    | with_reducible refine Z.thE ?_
    | with_reducible refine Z.thR ?_
    | with_reducible refine Z.blN ?_
    | with_reducible refine Z.blR ?_
    | with_reducible refine Z.blE ?_
    | (with_reducible refine Z.blX ?_ ?_; rotate_left; rfl)
    | refine Z.brT rfl ?_
    | refine Z.brF rfl ?_
    | (refine Z.br rfl ?_ ?_ <;> intro hb <;> (try simp only [decide_eq_true_eq, decide_eq_false_iff_not, Bool.not_eq_true', Bool.not_eq_false', Int.not_lt, Int.not_le] at hb) <;> (try (exfalso; first | omega | exact hb trivial))))
  replace hS := Z.nilsl hS 69 5 none
  refine Z.lpS [3, 5, 6, 12, 13, 14, 15, 16, 17, 18, 19, 20, 21, 22, 23, 24, 25, 26, 27, 28, 29, 30, 31, 32, 33, 34, 35, 36, 37, 38, 39, 40, 41, 42, 43, 44, 45, 46, 47, 48, 49] (fun m w s => ∃ (q : Nat) (out : List Wi) (A' : Option Addr) (c' : Nat), s = [(3, .slice A' out.length c'), (12, .int .i64 q)] ∧ q ≤ G.ws.length ∧ out = winsOf G.closed (G.ws.take q) [] ∧ out.length ≤ q ∧ m = G.ws.length - q ∧ Sep r [] (.sl 69 5 (.slice A' out.length c') (out.map Wi.cells) :: .blk gg 65 [.int .i64 G.cell, .int .i64 G.closed, .slice A G.ws.length c] :: .sl 69 5 (.slice A G.ws.length c) (G.ws.map Wi.cells) :: F) w) _ [(3, .slice none 0 0), (12, .int .i64 (0 : Nat))] (by repeat (first | exact trivial | refine ⟨rfl, ?_⟩)) ⟨0, [], none, 0, rfl, by omega, by simp [winsOf], by simp, rfl, hS⟩ ?_
  clear hS
  rintro m f0 w _ ⟨q, out, A', c', rfl, hq, hout, hol, rfl, hS⟩
  by_cases hlt : q < G.ws.length
  · have hn := winsOf_take (closed := G.closed) hlt
    rw [← hout] at hn
    obtain ⟨gb, o, rfl, _, hra⟩ := (hS.slrows (.next (.next .here))).mat (by omega) hlt
    generalize G.ws[q] = x at *
    repeat' (first
      | refine Z.pr rfl ?_
      | refine Z.eff (Z.ld hS rfl (by repeat (first | exact At.here | apply At.next)) rfl ?_) rfl
      | refine Z.eff (Z.ldR rfl (by assumption) rfl ?_) rfl
      | refine Z.eff (Z.ldE rfl (by assumption) rfl ?_) rfl
      | refine Z.sum rfl (by constructor <;> omega) ?_
      | (refine Z.eff (Z.st hS rfl (by repeat (first | exact At.here | apply At.next)) rfl rfl ?_) rfl; clear hS; intro w hS)
      | (refine Z.eff (Z.al hS ?_) rfl; clear hS; intro g w hS hge)
      | (refine Z.eff (Z.bx hS rfl ?_) rfl; clear hS; intro g w hS hge)
      | refine Z.ixn rfl rfl rfl (by omega) ?_
      | refine Z.pl (R.upto rfl rfl rfl (by omega)) ?_
      | refine Z.pl (R.sinceL rfl rfl rfl (by omega) (by omega)) ?_
      | refine Z.pl (R.since rfl rfl rfl (by omega)) ?_
      | refine Z.pl (R.span rfl rfl rfl rfl (by omega) (by omega)) ?_
      | refine Z.pl (R.whole rfl rfl) ?_
      | refine Z.pl (R.eqa rfl rfl rfl rfl) ?_
      | refine Z.pl (R.nea rfl rfl rfl rfl) ?_
      | refine Z.ix rfl rfl rfl (by omega) ?_
      | refine Z.ia rfl rfl rfl (by omega) ?_
      | refine Z.bu rfl rfl ?_
      | refine Z.pl (R.max2 rfl rfl) ?_
      | refine Z.pl (R.cap rfl rfl) ?_
      | refine Z.pl R.mf ?_
      | (refine Z.eff (Z.bs hS rfl rfl rfl ?_) rfl; clear hS; intro g w hS hge)
      | refine Z.gT rfl rfl ?_
      | refine Z.gF rfl rfl ?_
      | refine Z.gF0 rfl rfl ?_
      | (refine Z.gS rfl rfl ?_ ?_ <;> intro hb <;> (try simp only [decide_eq_true_eq, decide_eq_false_iff_not, Bool.not_eq_true', Bool.not_eq_false', Int.not_lt, Int.not_le] at hb) <;> (try (exfalso; first | omega | exact hb trivial)))
      | with_reducible refine Z.seq ?_
      | with_reducible refine Z.reg ?_
      | with_reducible refine Z.nil ?_
      | with_reducible refine Z.skip ?_
      | with_reducible refine Z.exit ?_
      | with_reducible refine Z.ret ?_
      | with_reducible refine Z.block ?_
      | with_reducible refine Z.thN ?_
      | with_reducible refine Z.thU ?_
      | with_reducible refine Z.thE ?_
      | with_reducible refine Z.thR ?_
      | with_reducible refine Z.blN ?_
      | with_reducible refine Z.blR ?_
      | with_reducible refine Z.blE ?_
      | (with_reducible refine Z.blX ?_ ?_; rotate_left; rfl)
      | refine Z.brT rfl ?_
      | refine Z.brF rfl ?_
      | (refine Z.br rfl ?_ ?_ <;> intro hb <;> (try simp only [decide_eq_true_eq, decide_eq_false_iff_not, Bool.not_eq_true', Bool.not_eq_false', Int.not_lt, Int.not_le] at hb) <;> (try (exfalso; first | omega | exact hb trivial))))
    rename Nat => gx
    refine D.startS hS 7 7 (by kernel_rfl) rfl ?_
    replace hS := hS.drew
    refine D.pr 0 1 rfl D.wantedN (by kernel_rfl) rfl ?_
    refine D.pr 2 5 rfl D.wantedN (by kernel_rfl) rfl ?_
    refine D.pr 3 13 rfl D.wantedN (by kernel_rfl) rfl ?_
    refine D.pr 4 29 rfl D.wantedN (by kernel_rfl) rfl ?_
    refine D.ld 1 31 rfl D.wantedN (by kernel_rfl) rfl (fun W h => h.blk (by repeat (first | exact At.here | apply At.next))) rfl ?_
    refine D.ld 5 63 rfl D.wantedN (by kernel_rfl) rfl (fun W h => h.blk (by repeat (first | exact At.here | apply At.next))) rfl ?_
    refine D.pr 6 127 rfl D.wantedN (by kernel_rfl) rfl ?_
    refine D.done (by kernel_rfl) ?_
    repeat' (first
      | refine Z.pr rfl ?_
      | refine Z.eff (Z.ld hS rfl (by repeat (first | exact At.here | apply At.next)) rfl ?_) rfl
      | refine Z.eff (Z.ldR rfl (by assumption) rfl ?_) rfl
      | refine Z.eff (Z.ldE rfl (by assumption) rfl ?_) rfl
      | refine Z.sum rfl (by constructor <;> omega) ?_
      | (refine Z.eff (Z.st hS rfl (by repeat (first | exact At.here | apply At.next)) rfl rfl ?_) rfl; clear hS; intro w hS)
      | (refine Z.eff (Z.al hS ?_) rfl; clear hS; intro g w hS hge)
      | (refine Z.eff (Z.bx hS rfl ?_) rfl; clear hS; intro g w hS hge)
      | refine Z.ixn rfl rfl rfl (by omega) ?_
      | refine Z.pl (R.upto rfl rfl rfl (by omega)) ?_
      | refine Z.pl (R.sinceL rfl rfl rfl (by omega) (by omega)) ?_
      | refine Z.pl (R.since rfl rfl rfl (by omega)) ?_
      | refine Z.pl (R.span rfl rfl rfl rfl (by omega) (by omega)) ?_
      | refine Z.pl (R.whole rfl rfl) ?_
      | refine Z.pl (R.eqa rfl rfl rfl rfl) ?_
      | refine Z.pl (R.nea rfl rfl rfl rfl) ?_
      | refine Z.ix rfl rfl rfl (by omega) ?_
      | refine Z.ia rfl rfl rfl (by omega) ?_
      | refine Z.bu rfl rfl ?_
      | refine Z.pl (R.max2 rfl rfl) ?_
      | refine Z.pl (R.cap rfl rfl) ?_
      | refine Z.pl R.mf ?_
      | (refine Z.eff (Z.bs hS rfl rfl rfl ?_) rfl; clear hS; intro g w hS hge)
      | refine Z.gT rfl rfl ?_
      | refine Z.gF rfl rfl ?_
      | refine Z.gF0 rfl rfl ?_
      | (refine Z.gS rfl rfl ?_ ?_ <;> intro hb <;> (try simp only [decide_eq_true_eq, decide_eq_false_iff_not, Bool.not_eq_true', Bool.not_eq_false', Int.not_lt, Int.not_le] at hb) <;> (try (exfalso; first | omega | exact hb trivial)))
      | with_reducible refine Z.seq ?_
      | with_reducible refine Z.reg ?_
      | with_reducible refine Z.nil ?_
      | with_reducible refine Z.skip ?_
      | with_reducible refine Z.exit ?_
      | with_reducible refine Z.ret ?_
      | with_reducible refine Z.block ?_
      | with_reducible refine Z.thN ?_
      | with_reducible refine Z.thU ?_
      | with_reducible refine Z.thE ?_
      | with_reducible refine Z.thR ?_
      | with_reducible refine Z.blN ?_
      | with_reducible refine Z.blR ?_
      | with_reducible refine Z.blE ?_
      | (with_reducible refine Z.blX ?_ ?_; rotate_left; rfl)
      | refine Z.brT rfl ?_
      | refine Z.brF rfl ?_
      | (refine Z.br rfl ?_ ?_ <;> intro hb <;> (try simp only [decide_eq_true_eq, decide_eq_false_iff_not, Bool.not_eq_true', Bool.not_eq_false', Int.not_lt, Int.not_le] at hb) <;> (try (exfalso; first | omega | exact hb trivial))))
    · refine Z.againS (G.ws.length - (q + 1)) [(3, .slice A' out.length c'), (12, .int .i64 (q + 1 : Nat))] (by omega) (by repeat (first | with_reducible exact Same.mix | ((with_reducible refine Same.upd ?_ ?_); · rfl) | ((with_reducible refine Same.cons ?_ ?_); · rfl) | with_reducible exact Same.refl | with_reducible refine Same.nil ?_ | ((with_reducible refine Same.mixS ?_ ?_); · rfl))) (by repeat (first | exact trivial | refine ⟨rfl, ?_⟩)) ?_
      exact ⟨q + 1, out, A', c', rfl, by omega, by rw [hn, if_pos hb], by omega, rfl, hS.sub (by repeat (first | exact Sub.rest | exact Sub.nil | exact .skip .rest | exact .skip (.skip .rest) | exact .skip (.skip (.skip .rest)) | apply Sub.keep | refine Sub.cons (by repeat (first | exact At.here | apply At.next)) ?_ | apply Sub.skip))⟩
    rw [if_neg (by omega)] at hn
    refine Z.lpS [6, 23, 24, 25, 26, 27, 28, 29, 30, 31, 32, 33, 34, 35, 36] (fun m w s => ∃ i : Nat, s = [(6, .int .i64 i)] ∧ i ≤ out.length ∧ (∀ k (hk : k < out.length), k < i → ltW out[k] x) ∧ m = out.length - i ∧ Sep r [] (.sl 69 5 (.slice A' out.length c') (out.map Wi.cells) :: .blk gx 69 x.cells :: .blk gg 65 [.int .i64 G.cell, .int .i64 G.closed, .slice (some ⟨gb, o, none⟩) G.ws.length c] :: .sl 69 5 (.slice (some ⟨gb, o, none⟩) G.ws.length c) (G.ws.map Wi.cells) :: F) w) _ [(6, .int .i64 (0 : Nat))] (by repeat (first | exact trivial | refine ⟨rfl, ?_⟩)) ⟨0, rfl, by omega, by intro k _ h; omega, rfl, hS.sub (by repeat (first | exact Sub.rest | exact Sub.nil | exact .skip .rest | exact .skip (.skip .rest) | exact .skip (.skip (.skip .rest)) | apply Sub.keep | refine Sub.cons (by repeat (first | exact At.here | apply At.next)) ?_ | apply Sub.skip))⟩ ?_
    clear hS hra
    rintro m f1 w _ ⟨i, rfl, hi, hlo, rfl, hS⟩
    have hoc : out.length ≤ c' := by
      obtain ⟨_, _, h1, h2⟩ := (hS.slrows .here).mform
      injection h1 with _ _ e3
      rw [e3]; exact h2
    have fin : (∀ hi' : i < out.length, ¬ ltW out[i] x) → insB x out = out.take i ++ x :: out.drop i := fun h => insB_at hi hlo h
    by_cases hil : i < out.length
    · obtain ⟨gb', o', rfl, _, _⟩ := (hS.slrows .here).mat (by omega) hil
      by_cases hlx : ltW out[i] x
      · have hdec : decide (ltW out[i] x) = true := decide_eq_true hlx
        repeat' (first
          | refine Z.pr rfl ?_
          | refine Z.eff (Z.ld hS rfl (by repeat (first | exact At.here | apply At.next)) rfl ?_) rfl
          | refine Z.eff (Z.ldR rfl (by assumption) rfl ?_) rfl
          | refine Z.eff (Z.ldE rfl (by assumption) rfl ?_) rfl
          | refine Z.sum rfl (by constructor <;> omega) ?_
          | (refine Z.eff (Z.st hS rfl (by repeat (first | exact At.here | apply At.next)) rfl rfl ?_) rfl; clear hS; intro w hS)
          | (refine Z.eff (Z.al hS ?_) rfl; clear hS; intro g w hS hge)
          | (refine Z.eff (Z.bx hS rfl ?_) rfl; clear hS; intro g w hS hge)
          | refine Z.ixn rfl rfl rfl (by omega) ?_
          | refine Z.pl (R.upto rfl rfl rfl (by omega)) ?_
          | refine Z.pl (R.sinceL rfl rfl rfl (by omega) (by omega)) ?_
          | refine Z.pl (R.since rfl rfl rfl (by omega)) ?_
          | refine Z.pl (R.span rfl rfl rfl rfl (by omega) (by omega)) ?_
          | refine Z.pl (R.whole rfl rfl) ?_
          | refine Z.pl (R.eqa rfl rfl rfl rfl) ?_
          | refine Z.pl (R.nea rfl rfl rfl rfl) ?_
          | refine Z.ix rfl rfl rfl (by omega) ?_
          | refine Z.ia rfl rfl rfl (by omega) ?_
          | refine Z.bu rfl rfl ?_
          | refine Z.pl (R.max2 rfl rfl) ?_
          | refine Z.pl (R.cap rfl rfl) ?_
          | refine Z.pl R.mf ?_
          | (refine Z.eff (Z.bs hS rfl rfl rfl ?_) rfl; clear hS; intro g w hS hge)
          | refine Z.gT rfl rfl ?_
          | refine Z.gF rfl rfl ?_
          | refine Z.gF0 rfl rfl ?_
          | (refine Z.gS rfl rfl ?_ ?_ <;> intro hb <;> (try simp only [decide_eq_true_eq, decide_eq_false_iff_not, Bool.not_eq_true', Bool.not_eq_false', Int.not_lt, Int.not_le] at hb) <;> (try (exfalso; first | omega | exact hb trivial)))
          | with_reducible refine Z.seq ?_
          | with_reducible refine Z.reg ?_
          | with_reducible refine Z.nil ?_
          | with_reducible refine Z.skip ?_
          | with_reducible refine Z.exit ?_
          | with_reducible refine Z.ret ?_
          | with_reducible refine Z.block ?_
          | with_reducible refine Z.thN ?_
          | with_reducible refine Z.thU ?_
          | with_reducible refine Z.thE ?_
          | with_reducible refine Z.thR ?_
          | with_reducible refine Z.blN ?_
          | with_reducible refine Z.blR ?_
          | with_reducible refine Z.blE ?_
          | (with_reducible refine Z.blX ?_ ?_; rotate_left; rfl)
          | refine Z.brT rfl ?_
          | refine Z.brF rfl ?_
          | (refine Z.br rfl ?_ ?_ <;> intro hb <;> (try simp only [decide_eq_true_eq, decide_eq_false_iff_not, Bool.not_eq_true', Bool.not_eq_false', Int.not_lt, Int.not_le] at hb) <;> (try (exfalso; first | omega | exact hb trivial))))
        refine D.startS hS 12 12 (by kernel_rfl) rfl ?_
        replace hS := hS.drew
        refine D.pr 0 1 rfl D.wantedN (by kernel_rfl) rfl ?_
        refine D.pr 1 3 rfl D.wantedN (by kernel_rfl) rfl ?_
        refine D.pr 2 7 rfl D.wantedN (by kernel_rfl) rfl ?_
        refine D.pr 3 15 rfl D.wantedN (by kernel_rfl) rfl ?_
        refine D.pr 4 31 rfl D.wantedN (by kernel_rfl) rfl ?_
        refine D.slot 27 rfl (fun hb => ?_) (fun hb => by exfalso; (try simp only [decide_eq_true_eq, decide_eq_false_iff_not, Bool.not_eq_true', Bool.not_eq_false', Int.not_lt, Int.not_le] at hb) <;> first | omega | exact hb trivial)
        (try simp only [decide_eq_true_eq, decide_eq_false_iff_not, Bool.not_eq_true', Bool.not_eq_false', Int.not_lt, Int.not_le] at hb)
        refine D.pr 5 63 rfl (D.wantedT rfl rfl) (by kernel_rfl) rfl ?_
        refine D.pr 6 127 rfl (D.wantedT rfl rfl) (by kernel_rfl) rfl ?_
        first | refine D.ixn 7 255 rfl (D.wantedT rfl rfl) (by kernel_rfl) rfl rfl rfl (by omega) ?_ | refine D.ix 7 255 rfl (D.wantedT rfl rfl) (by kernel_rfl) rfl rfl rfl (by omega) ?_ | refine D.ia 7 255 rfl (D.wantedT rfl rfl) (by kernel_rfl) rfl rfl rfl (by omega) ?_
        refine D.ldR 8 511 rfl (D.wantedT rfl rfl) (by kernel_rfl) rfl (fun W h => (h.slrows .here).elem (by omega) hil) rfl ?_
        refine D.ld 9 1023 rfl (D.wantedT rfl rfl) (by kernel_rfl) rfl (fun W h => h.blk (by repeat (first | exact At.here | apply At.next))) rfl ?_
        refine D.eff 10 2047 rfl (D.wantedT rfl rfl) (by kernel_rfl) (by kernel_rfl) (fun _ _ h => h) ?_
        refine WE.guard ?_
        refine Z.cl (before_z out[i] x _ _ _ hS) rfl ?_
        clear hS
        rintro e w ⟨rfl, hS⟩
        refine ⟨_, rfl, ?_⟩
        rw [hdec]
        refine ⟨HM.s (hS.sub (by repeat (first | exact Sub.rest | exact Sub.nil | exact .skip .rest | exact .skip (.skip .rest) | exact .skip (.skip (.skip .rest)) | apply Sub.keep | refine Sub.cons (by repeat (first | exact At.here | apply At.next)) ?_ | apply Sub.skip))), ?_⟩
        refine D.pr 11 4095 rfl D.wantedN (by kernel_rfl) rfl ?_
        refine D.done (by kernel_rfl) ?_
        repeat' (first
          | refine Z.pr rfl ?_
          | refine Z.eff (Z.ld hS rfl (by repeat (first | exact At.here | apply At.next)) rfl ?_) rfl
          | refine Z.eff (Z.ldR rfl (by assumption) rfl ?_) rfl
          | refine Z.eff (Z.ldE rfl (by assumption) rfl ?_) rfl
          | refine Z.sum rfl (by constructor <;> omega) ?_
          | (refine Z.eff (Z.st hS rfl (by repeat (first | exact At.here | apply At.next)) rfl rfl ?_) rfl; clear hS; intro w hS)
          | (refine Z.eff (Z.al hS ?_) rfl; clear hS; intro g w hS hge)
          | (refine Z.eff (Z.bx hS rfl ?_) rfl; clear hS; intro g w hS hge)
          | refine Z.ixn rfl rfl rfl (by omega) ?_
          | refine Z.pl (R.upto rfl rfl rfl (by omega)) ?_
          | refine Z.pl (R.sinceL rfl rfl rfl (by omega) (by omega)) ?_
          | refine Z.pl (R.since rfl rfl rfl (by omega)) ?_
          | refine Z.pl (R.span rfl rfl rfl rfl (by omega) (by omega)) ?_
          | refine Z.pl (R.whole rfl rfl) ?_
          | refine Z.pl (R.eqa rfl rfl rfl rfl) ?_
          | refine Z.pl (R.nea rfl rfl rfl rfl) ?_
          | refine Z.ix rfl rfl rfl (by omega) ?_
          | refine Z.ia rfl rfl rfl (by omega) ?_
          | refine Z.bu rfl rfl ?_
          | refine Z.pl (R.max2 rfl rfl) ?_
          | refine Z.pl (R.cap rfl rfl) ?_
          | refine Z.pl R.mf ?_
          | (refine Z.eff (Z.bs hS rfl rfl rfl ?_) rfl; clear hS; intro g w hS hge)
          | refine Z.gT rfl rfl ?_
          | refine Z.gF rfl rfl ?_
          | refine Z.gF0 rfl rfl ?_
          | (refine Z.gS rfl rfl ?_ ?_ <;> intro hb <;> (try simp only [decide_eq_true_eq, decide_eq_false_iff_not, Bool.not_eq_true', Bool.not_eq_false', Int.not_lt, Int.not_le] at hb) <;> (try (exfalso; first | omega | exact hb trivial)))
          | with_reducible refine Z.seq ?_
          | with_reducible refine Z.reg ?_
          | with_reducible refine Z.nil ?_
          | with_reducible refine Z.skip ?_
          | with_reducible refine Z.exit ?_
          | with_reducible refine Z.ret ?_
          | with_reducible refine Z.block ?_
          | with_reducible refine Z.thN ?_
          | with_reducible refine Z.thU ?_
          | with_reducible refine Z.thE ?_
          | with_reducible refine Z.thR ?_
          | with_reducible refine Z.blN ?_
          | with_reducible refine Z.blR ?_
          | with_reducible refine Z.blE ?_
          | (with_reducible refine Z.blX ?_ ?_; rotate_left; rfl)
          | refine Z.brT rfl ?_
          | refine Z.brF rfl ?_
          | (refine Z.br rfl ?_ ?_ <;> intro hb <;> (try simp only [decide_eq_true_eq, decide_eq_false_iff_not, Bool.not_eq_true', Bool.not_eq_false', Int.not_lt, Int.not_le] at hb) <;> (try (exfalso; first | omega | exact hb trivial))))
        refine Z.againS (out.length - (i + 1)) [(6, .int .i64 (i + 1 : Nat))] (by omega) (by repeat (first | with_reducible exact Same.mix | ((with_reducible refine Same.upd ?_ ?_); · rfl) | ((with_reducible refine Same.cons ?_ ?_); · rfl) | with_reducible exact Same.refl | with_reducible refine Same.nil ?_ | ((with_reducible refine Same.mixS ?_ ?_); · rfl))) (by repeat (first | exact trivial | refine ⟨rfl, ?_⟩)) ?_
        refine ⟨i + 1, rfl, by omega, fun k hk hki => ?_, rfl, hS⟩
        rcases Nat.lt_or_ge k i with h1 | h1
        · exact hlo k hk h1
        · have : k = i := by omega
          subst this
          exact hlx
      · have hdec : decide (ltW out[i] x) = false := decide_eq_false hlx
        repeat' (first
          | refine Z.pr rfl ?_
          | refine Z.eff (Z.ld hS rfl (by repeat (first | exact At.here | apply At.next)) rfl ?_) rfl
          | refine Z.eff (Z.ldR rfl (by assumption) rfl ?_) rfl
          | refine Z.eff (Z.ldE rfl (by assumption) rfl ?_) rfl
          | refine Z.sum rfl (by constructor <;> omega) ?_
          | (refine Z.eff (Z.st hS rfl (by repeat (first | exact At.here | apply At.next)) rfl rfl ?_) rfl; clear hS; intro w hS)
          | (refine Z.eff (Z.al hS ?_) rfl; clear hS; intro g w hS hge)
          | (refine Z.eff (Z.bx hS rfl ?_) rfl; clear hS; intro g w hS hge)
          | refine Z.ixn rfl rfl rfl (by omega) ?_
          | refine Z.pl (R.upto rfl rfl rfl (by omega)) ?_
          | refine Z.pl (R.sinceL rfl rfl rfl (by omega) (by omega)) ?_
          | refine Z.pl (R.since rfl rfl rfl (by omega)) ?_
          | refine Z.pl (R.span rfl rfl rfl rfl (by omega) (by omega)) ?_
          | refine Z.pl (R.whole rfl rfl) ?_
          | refine Z.pl (R.eqa rfl rfl rfl rfl) ?_
          | refine Z.pl (R.nea rfl rfl rfl rfl) ?_
          | refine Z.ix rfl rfl rfl (by omega) ?_
          | refine Z.ia rfl rfl rfl (by omega) ?_
          | refine Z.bu rfl rfl ?_
          | refine Z.pl (R.max2 rfl rfl) ?_
          | refine Z.pl (R.cap rfl rfl) ?_
          | refine Z.pl R.mf ?_
          | (refine Z.eff (Z.bs hS rfl rfl rfl ?_) rfl; clear hS; intro g w hS hge)
          | refine Z.gT rfl rfl ?_
          | refine Z.gF rfl rfl ?_
          | refine Z.gF0 rfl rfl ?_
          | (refine Z.gS rfl rfl ?_ ?_ <;> intro hb <;> (try simp only [decide_eq_true_eq, decide_eq_false_iff_not, Bool.not_eq_true', Bool.not_eq_false', Int.not_lt, Int.not_le] at hb) <;> (try (exfalso; first | omega | exact hb trivial)))
          | with_reducible refine Z.seq ?_
          | with_reducible refine Z.reg ?_
          | with_reducible refine Z.nil ?_
          | with_reducible refine Z.skip ?_
          | with_reducible refine Z.exit ?_
          | with_reducible refine Z.ret ?_
          | with_reducible refine Z.block ?_
          | with_reducible refine Z.thN ?_
          | with_reducible refine Z.thU ?_
          | with_reducible refine Z.thE ?_
          | with_reducible refine Z.thR ?_
          | with_reducible refine Z.blN ?_
          | with_reducible refine Z.blR ?_
          | with_reducible refine Z.blE ?_
          | (with_reducible refine Z.blX ?_ ?_; rotate_left; rfl)
          | refine Z.brT rfl ?_
          | refine Z.brF rfl ?_
          | (refine Z.br rfl ?_ ?_ <;> intro hb <;> (try simp only [decide_eq_true_eq, decide_eq_false_iff_not, Bool.not_eq_true', Bool.not_eq_false', Int.not_lt, Int.not_le] at hb) <;> (try (exfalso; first | omega | exact hb trivial))))
        refine D.startS hS 12 12 (by kernel_rfl) rfl ?_
        replace hS := hS.drew
        refine D.pr 0 1 rfl D.wantedN (by kernel_rfl) rfl ?_
        refine D.pr 1 3 rfl D.wantedN (by kernel_rfl) rfl ?_
        refine D.pr 2 7 rfl D.wantedN (by kernel_rfl) rfl ?_
        refine D.pr 3 15 rfl D.wantedN (by kernel_rfl) rfl ?_
        refine D.pr 4 31 rfl D.wantedN (by kernel_rfl) rfl ?_
        refine D.slot 27 rfl (fun hb => ?_) (fun hb => by exfalso; (try simp only [decide_eq_true_eq, decide_eq_false_iff_not, Bool.not_eq_true', Bool.not_eq_false', Int.not_lt, Int.not_le] at hb) <;> first | omega | exact hb trivial)
        (try simp only [decide_eq_true_eq, decide_eq_false_iff_not, Bool.not_eq_true', Bool.not_eq_false', Int.not_lt, Int.not_le] at hb)
        refine D.pr 5 63 rfl (D.wantedT rfl rfl) (by kernel_rfl) rfl ?_
        refine D.pr 6 127 rfl (D.wantedT rfl rfl) (by kernel_rfl) rfl ?_
        first | refine D.ixn 7 255 rfl (D.wantedT rfl rfl) (by kernel_rfl) rfl rfl rfl (by omega) ?_ | refine D.ix 7 255 rfl (D.wantedT rfl rfl) (by kernel_rfl) rfl rfl rfl (by omega) ?_ | refine D.ia 7 255 rfl (D.wantedT rfl rfl) (by kernel_rfl) rfl rfl rfl (by omega) ?_
        refine D.ldR 8 511 rfl (D.wantedT rfl rfl) (by kernel_rfl) rfl (fun W h => (h.slrows .here).elem (by omega) hil) rfl ?_
        refine D.ld 9 1023 rfl (D.wantedT rfl rfl) (by kernel_rfl) rfl (fun W h => h.blk (by repeat (first | exact At.here | apply At.next))) rfl ?_
        refine D.eff 10 2047 rfl (D.wantedT rfl rfl) (by kernel_rfl) (by kernel_rfl) (fun _ _ h => h) ?_
        refine WE.guard ?_
        refine Z.cl (before_z out[i] x _ _ _ hS) rfl ?_
        clear hS
        rintro e w ⟨rfl, hS⟩
        refine ⟨_, rfl, ?_⟩
        rw [hdec]
        refine ⟨HM.s (hS.sub (by repeat (first | exact Sub.rest | exact Sub.nil | exact .skip .rest | exact .skip (.skip .rest) | exact .skip (.skip (.skip .rest)) | apply Sub.keep | refine Sub.cons (by repeat (first | exact At.here | apply At.next)) ?_ | apply Sub.skip))), ?_⟩
        refine D.pr 11 4095 rfl D.wantedN (by kernel_rfl) rfl ?_
        refine D.done (by kernel_rfl) ?_
        repeat' (first
          | refine Z.pr rfl ?_
          | refine Z.eff (Z.ld hS rfl (by repeat (first | exact At.here | apply At.next)) rfl ?_) rfl
          | refine Z.eff (Z.ldR rfl (by assumption) rfl ?_) rfl
          | refine Z.eff (Z.ldE rfl (by assumption) rfl ?_) rfl
          | refine Z.sum rfl (by constructor <;> omega) ?_
          | (refine Z.eff (Z.st hS rfl (by repeat (first | exact At.here | apply At.next)) rfl rfl ?_) rfl; clear hS; intro w hS)
          | (refine Z.eff (Z.al hS ?_) rfl; clear hS; intro g w hS hge)
          | (refine Z.eff (Z.bx hS rfl ?_) rfl; clear hS; intro g w hS hge)
          | refine Z.ixn rfl rfl rfl (by omega) ?_
          | refine Z.pl (R.upto rfl rfl rfl (by omega)) ?_
          | refine Z.pl (R.sinceL rfl rfl rfl (by omega) (by omega)) ?_
          | refine Z.pl (R.since rfl rfl rfl (by omega)) ?_
          | refine Z.pl (R.span rfl rfl rfl rfl (by omega) (by omega)) ?_
          | refine Z.pl (R.whole rfl rfl) ?_
          | refine Z.pl (R.eqa rfl rfl rfl rfl) ?_
          | refine Z.pl (R.nea rfl rfl rfl rfl) ?_
          | refine Z.ix rfl rfl rfl (by omega) ?_
          | refine Z.ia rfl rfl rfl (by omega) ?_
          | refine Z.bu rfl rfl ?_
          | refine Z.pl (R.max2 rfl rfl) ?_
          | refine Z.pl (R.cap rfl rfl) ?_
          | refine Z.pl R.mf ?_
          | (refine Z.eff (Z.bs hS rfl rfl rfl ?_) rfl; clear hS; intro g w hS hge)
          | refine Z.gT rfl rfl ?_
          | refine Z.gF rfl rfl ?_
          | refine Z.gF0 rfl rfl ?_
          | (refine Z.gS rfl rfl ?_ ?_ <;> intro hb <;> (try simp only [decide_eq_true_eq, decide_eq_false_iff_not, Bool.not_eq_true', Bool.not_eq_false', Int.not_lt, Int.not_le] at hb) <;> (try (exfalso; first | omega | exact hb trivial)))
          | with_reducible refine Z.seq ?_
          | with_reducible refine Z.reg ?_
          | with_reducible refine Z.nil ?_
          | with_reducible refine Z.skip ?_
          | with_reducible refine Z.exit ?_
          | with_reducible refine Z.ret ?_
          | with_reducible refine Z.block ?_
          | with_reducible refine Z.thN ?_
          | with_reducible refine Z.thU ?_
          | with_reducible refine Z.thE ?_
          | with_reducible refine Z.thR ?_
          | with_reducible refine Z.blN ?_
          | with_reducible refine Z.blR ?_
          | with_reducible refine Z.blE ?_
          | (with_reducible refine Z.blX ?_ ?_; rotate_left; rfl)
          | refine Z.brT rfl ?_
          | refine Z.brF rfl ?_
          | (refine Z.br rfl ?_ ?_ <;> intro hb <;> (try simp only [decide_eq_true_eq, decide_eq_false_iff_not, Bool.not_eq_true', Bool.not_eq_false', Int.not_lt, Int.not_le] at hb) <;> (try (exfalso; first | omega | exact hb trivial))))
        rw [fin (fun _ => hlx)] at hn
        refine D.startS (Lr := [.blk gx 69 x.cells]) (hS.sub (by repeat (first | exact Sub.rest | exact Sub.nil | exact .skip .rest | exact .skip (.skip .rest) | exact .skip (.skip (.skip .rest)) | apply Sub.keep | refine Sub.cons (by repeat (first | exact At.here | apply At.next)) ?_ | apply Sub.skip))) 13 13 (by kernel_rfl) rfl ?_
        replace hS := hS.drew
        refine D.pr 1 2 rfl D.wantedN (by kernel_rfl) rfl ?_
        refine D.pr 2 6 rfl D.wantedN (by kernel_rfl) rfl ?_
        refine D.pl 3 14 rfl D.wantedN (by kernel_rfl) (R.upto rfl rfl rfl (by omega)) ?_
        refine D.pr 8 270 rfl D.wantedN (by kernel_rfl) rfl ?_
        refine D.pr 9 782 rfl D.wantedN (by kernel_rfl) rfl ?_
        refine D.pl 10 1806 rfl D.wantedN (by kernel_rfl) (R.since rfl rfl rfl (by omega)) ?_
        refine D.ld 5 1838 rfl D.wantedN (by kernel_rfl) rfl (fun W h => h.blk (by repeat (first | exact At.here | apply At.next))) rfl ?_
        refine D.each [0, 6] (by kernel_rfl) rfl ?_
        refine D.econs 0 1839 rfl D.wantedN (by kernel_rfl) (fun _ _ h => h) ?_ ?_
        · refine Z.bs hS rfl rfl rfl ?_
          clear hS; intro g w hS hge
          refine ⟨HM.s (hS.sub (by repeat (first | exact Sub.rest | exact Sub.nil | exact .skip .rest | exact .skip (.skip .rest) | exact .skip (.skip (.skip .rest)) | apply Sub.keep | refine Sub.cons (by repeat (first | exact At.here | apply At.next)) ?_ | apply Sub.skip))), ?_⟩
          refine D.each [4, 6] (by kernel_rfl) rfl ?_
          refine D.econs 4 1855 rfl D.wantedN (by kernel_rfl) (fun _ _ h => h) ?_ ?_
          · refine Z.ap0m (fc := Wi.cells) hS rfl rfl rfl ((hS.slrows (by repeat (first | exact At.here | apply At.next))).mtake hi) (by (try simp only [maxLen, List.length_take, List.length_drop, List.length_append, List.length_cons, List.length_nil, List.length_map]); omega) (by (try simp only [maxLen, List.length_take, List.length_drop, List.length_append, List.length_cons, List.length_nil, List.length_map]); omega) ?_
            clear hS; intro A1 c1 w hS
            refine ⟨HM.s (hS.sub (by repeat (first | exact Sub.rest | exact Sub.nil | exact .skip .rest | exact .skip (.skip .rest) | exact .skip (.skip (.skip .rest)) | apply Sub.keep | refine Sub.cons (by repeat (first | exact At.here | apply At.next)) ?_ | apply Sub.skip))), ?_⟩
            refine D.eff 6 1919 rfl D.wantedN (by kernel_rfl) (by kernel_rfl) (fun _ _ h => h) ?_
            refine Z.bs hS rfl rfl rfl ?_
            clear hS; intro g w hS hge
            refine ⟨HM.s (hS.sub (by repeat (first | exact Sub.rest | exact Sub.nil | exact .skip .rest | exact .skip (.skip .rest) | exact .skip (.skip (.skip .rest)) | apply Sub.keep | refine Sub.cons (by repeat (first | exact At.here | apply At.next)) ?_ | apply Sub.skip))), ?_⟩
            refine D.eff 7 2047 rfl D.wantedN (by kernel_rfl) (by kernel_rfl) (fun _ _ h => h) ?_
            refine Z.apm (l' := [x]) hS rfl rfl rfl (by repeat (first | exact At.here | apply At.next)) (hS.lit1 (by repeat (first | exact At.here | apply At.next)) rfl rfl) (by (try simp only [maxLen, List.length_take, List.length_drop, List.length_append, List.length_cons, List.length_nil, List.length_map]); omega) (by (try simp only [maxLen, List.length_take, List.length_drop, List.length_append, List.length_cons, List.length_nil, List.length_map]); omega) ?_
            clear hS; intro A2 c2 w hS
            refine ⟨HM.s (hS.sub (by repeat (first | exact Sub.rest | exact Sub.nil | exact .skip .rest | exact .skip (.skip .rest) | exact .skip (.skip (.skip .rest)) | apply Sub.keep | refine Sub.cons (by repeat (first | exact At.here | apply At.next)) ?_ | apply Sub.skip))), ?_⟩
            refine D.eff 11 4095 rfl D.wantedN (by kernel_rfl) (by kernel_rfl) (fun _ _ h => h) ?_
            refine Z.apm hS rfl rfl rfl (by repeat (first | exact At.here | apply At.next)) ((hS.slrows (by repeat (first | exact At.here | apply At.next))).mdrop hi) (by (try simp only [maxLen, List.length_take, List.length_drop, List.length_append, List.length_cons, List.length_nil, List.length_map]); omega) (by (try simp only [maxLen, List.length_take, List.length_drop, List.length_append, List.length_cons, List.length_nil, List.length_map]); omega) ?_
            clear hS; intro A3 c3 w hS
            refine ⟨HM.s (hS.sub (by repeat (first | exact Sub.rest | exact Sub.nil | exact .skip .rest | exact .skip (.skip .rest) | exact .skip (.skip (.skip .rest)) | apply Sub.keep | refine Sub.cons (by repeat (first | exact At.here | apply At.next)) ?_ | apply Sub.skip))), ?_⟩
            refine D.pr 12 8191 rfl D.wantedN (by kernel_rfl) rfl ?_
            refine D.done (by kernel_rfl) ?_
            repeat' (first
              | refine Z.pr rfl ?_
              | refine Z.eff (Z.ld hS rfl (by repeat (first | exact At.here | apply At.next)) rfl ?_) rfl
              | refine Z.eff (Z.ldR rfl (by assumption) rfl ?_) rfl
              | refine Z.eff (Z.ldE rfl (by assumption) rfl ?_) rfl
              | refine Z.sum rfl (by constructor <;> omega) ?_
              | (refine Z.eff (Z.st hS rfl (by repeat (first | exact At.here | apply At.next)) rfl rfl ?_) rfl; clear hS; intro w hS)
              | (refine Z.eff (Z.al hS ?_) rfl; clear hS; intro g w hS hge)
              | (refine Z.eff (Z.bx hS rfl ?_) rfl; clear hS; intro g w hS hge)
              | refine Z.ixn rfl rfl rfl (by omega) ?_
              | refine Z.pl (R.upto rfl rfl rfl (by omega)) ?_
              | refine Z.pl (R.sinceL rfl rfl rfl (by omega) (by omega)) ?_
              | refine Z.pl (R.since rfl rfl rfl (by omega)) ?_
              | refine Z.pl (R.span rfl rfl rfl rfl (by omega) (by omega)) ?_
              | refine Z.pl (R.whole rfl rfl) ?_
              | refine Z.pl (R.eqa rfl rfl rfl rfl) ?_
              | refine Z.pl (R.nea rfl rfl rfl rfl) ?_
              | refine Z.ix rfl rfl rfl (by omega) ?_
              | refine Z.ia rfl rfl rfl (by omega) ?_
              | refine Z.bu rfl rfl ?_
              | refine Z.pl (R.max2 rfl rfl) ?_
              | refine Z.pl (R.cap rfl rfl) ?_
              | refine Z.pl R.mf ?_
              | (refine Z.eff (Z.bs hS rfl rfl rfl ?_) rfl; clear hS; intro g w hS hge)
              | refine Z.gT rfl rfl ?_
              | refine Z.gF rfl rfl ?_
              | refine Z.gF0 rfl rfl ?_
              | (refine Z.gS rfl rfl ?_ ?_ <;> intro hb <;> (try simp only [decide_eq_true_eq, decide_eq_false_iff_not, Bool.not_eq_true', Bool.not_eq_false', Int.not_lt, Int.not_le] at hb) <;> (try (exfalso; first | omega | exact hb trivial)))
              | with_reducible refine Z.seq ?_
              | with_reducible refine Z.reg ?_
              | with_reducible refine Z.nil ?_
              | with_reducible refine Z.skip ?_
              | with_reducible refine Z.exit ?_
              | with_reducible refine Z.ret ?_
              | with_reducible refine Z.block ?_
              | with_reducible refine Z.thN ?_
              | with_reducible refine Z.thU ?_
              | with_reducible refine Z.thE ?_
              | with_reducible refine Z.thR ?_
              | with_reducible refine Z.blN ?_
              | with_reducible refine Z.blR ?_
              | with_reducible refine Z.blE ?_
              | (with_reducible refine Z.blX ?_ ?_; rotate_left; rfl)
              | refine Z.brT rfl ?_
              | refine Z.brF rfl ?_
              | (refine Z.br rfl ?_ ?_ <;> intro hb <;> (try simp only [decide_eq_true_eq, decide_eq_false_iff_not, Bool.not_eq_true', Bool.not_eq_false', Int.not_lt, Int.not_le] at hb) <;> (try (exfalso; first | omega | exact hb trivial))))
            have hln : (out.take i ++ [x]).length + (out.drop i).length = out.length + 1 := by simp; omega
            refine Z.againS (G.ws.length - (q + 1)) [(3, _), (12, .int .i64 (q + 1 : Nat))] (by omega) (by repeat (first | with_reducible exact Same.mix | ((with_reducible refine Same.upd ?_ ?_); · rfl) | ((with_reducible refine Same.cons ?_ ?_); · rfl) | with_reducible exact Same.refl | with_reducible refine Same.nil ?_ | ((with_reducible refine Same.mixS ?_ ?_); · rfl))) (by repeat (first | exact trivial | refine ⟨rfl, ?_⟩)) ?_
            refine ⟨q + 1, out.take i ++ [x] ++ out.drop i, A3, c3, by simp; omega, by omega, by rw [hn]; simp, by simp; omega, rfl, ?_⟩
            rw [List.length_append]
            exact hS.sub (by repeat (first | exact Sub.rest | exact Sub.nil | exact .skip .rest | exact .skip (.skip .rest) | exact .skip (.skip (.skip .rest)) | apply Sub.keep | refine Sub.cons (by repeat (first | exact At.here | apply At.next)) ?_ | apply Sub.skip))
          refine D.econs 6 1903 rfl D.wantedN (by kernel_rfl) (fun _ _ h => h) ?_ ?_
          · refine Z.bs hS rfl rfl rfl ?_
            clear hS; intro g w hS hge
            refine ⟨HM.s (hS.sub (by repeat (first | exact Sub.rest | exact Sub.nil | exact .skip .rest | exact .skip (.skip .rest) | exact .skip (.skip (.skip .rest)) | apply Sub.keep | refine Sub.cons (by repeat (first | exact At.here | apply At.next)) ?_ | apply Sub.skip))), ?_⟩
            refine D.eff 4 1919 rfl D.wantedN (by kernel_rfl) (by kernel_rfl) (fun _ _ h => h) ?_
            refine Z.ap0m (fc := Wi.cells) hS rfl rfl rfl ((hS.slrows (by repeat (first | exact At.here | apply At.next))).mtake hi) (by (try simp only [maxLen, List.length_take, List.length_drop, List.length_append, List.length_cons, List.length_nil, List.length_map]); omega) (by (try simp only [maxLen, List.length_take, List.length_drop, List.length_append, List.length_cons, List.length_nil, List.length_map]); omega) ?_
            clear hS; intro A1 c1 w hS
            refine ⟨HM.s (hS.sub (by repeat (first | exact Sub.rest | exact Sub.nil | exact .skip .rest | exact .skip (.skip .rest) | exact .skip (.skip (.skip .rest)) | apply Sub.keep | refine Sub.cons (by repeat (first | exact At.here | apply At.next)) ?_ | apply Sub.skip))), ?_⟩
            refine D.eff 7 2047 rfl D.wantedN (by kernel_rfl) (by kernel_rfl) (fun _ _ h => h) ?_
            refine Z.apm (l' := [x]) hS rfl rfl rfl (by repeat (first | exact At.here | apply At.next)) (hS.lit1 (by repeat (first | exact At.here | apply At.next)) rfl rfl) (by (try simp only [maxLen, List.length_take, List.length_drop, List.length_append, List.length_cons, List.length_nil, List.length_map]); omega) (by (try simp only [maxLen, List.length_take, List.length_drop, List.length_append, List.length_cons, List.length_nil, List.length_map]); omega) ?_
            clear hS; intro A2 c2 w hS
            refine ⟨HM.s (hS.sub (by repeat (first | exact Sub.rest | exact Sub.nil | exact .skip .rest | exact .skip (.skip .rest) | exact .skip (.skip (.skip .rest)) | apply Sub.keep | refine Sub.cons (by repeat (first | exact At.here | apply At.next)) ?_ | apply Sub.skip))), ?_⟩
            refine D.eff 11 4095 rfl D.wantedN (by kernel_rfl) (by kernel_rfl) (fun _ _ h => h) ?_
            refine Z.apm hS rfl rfl rfl (by repeat (first | exact At.here | apply At.next)) ((hS.slrows (by repeat (first | exact At.here | apply At.next))).mdrop hi) (by (try simp only [maxLen, List.length_take, List.length_drop, List.length_append, List.length_cons, List.length_nil, List.length_map]); omega) (by (try simp only [maxLen, List.length_take, List.length_drop, List.length_append, List.length_cons, List.length_nil, List.length_map]); omega) ?_
            clear hS; intro A3 c3 w hS
            refine ⟨HM.s (hS.sub (by repeat (first | exact Sub.rest | exact Sub.nil | exact .skip .rest | exact .skip (.skip .rest) | exact .skip (.skip (.skip .rest)) | apply Sub.keep | refine Sub.cons (by repeat (first | exact At.here | apply At.next)) ?_ | apply Sub.skip))), ?_⟩
            refine D.pr 12 8191 rfl D.wantedN (by kernel_rfl) rfl ?_
            refine D.done (by kernel_rfl) ?_
            repeat' (first
              | refine Z.pr rfl ?_
              | refine Z.eff (Z.ld hS rfl (by repeat (first | exact At.here | apply At.next)) rfl ?_) rfl
              | refine Z.eff (Z.ldR rfl (by assumption) rfl ?_) rfl
              | refine Z.eff (Z.ldE rfl (by assumption) rfl ?_) rfl
              | refine Z.sum rfl (by constructor <;> omega) ?_
              | (refine Z.eff (Z.st hS rfl (by repeat (first | exact At.here | apply At.next)) rfl rfl ?_) rfl; clear hS; intro w hS)
              | (refine Z.eff (Z.al hS ?_) rfl; clear hS; intro g w hS hge)
              | (refine Z.eff (Z.bx hS rfl ?_) rfl; clear hS; intro g w hS hge)
              | refine Z.ixn rfl rfl rfl (by omega) ?_
              | refine Z.pl (R.upto rfl rfl rfl (by omega)) ?_
              | refine Z.pl (R.sinceL rfl rfl rfl (by omega) (by omega)) ?_
              | refine Z.pl (R.since rfl rfl rfl (by omega)) ?_
              | refine Z.pl (R.span rfl rfl rfl rfl (by omega) (by omega)) ?_
              | refine Z.pl (R.whole rfl rfl) ?_
              | refine Z.pl (R.eqa rfl rfl rfl rfl) ?_
              | refine Z.pl (R.nea rfl rfl rfl rfl) ?_
              | refine Z.ix rfl rfl rfl (by omega) ?_
              | refine Z.ia rfl rfl rfl (by omega) ?_
              | refine Z.bu rfl rfl ?_
              | refine Z.pl (R.max2 rfl rfl) ?_
              | refine Z.pl (R.cap rfl rfl) ?_
              | refine Z.pl R.mf ?_
              | (refine Z.eff (Z.bs hS rfl rfl rfl ?_) rfl; clear hS; intro g w hS hge)
              | refine Z.gT rfl rfl ?_
              | refine Z.gF rfl rfl ?_
              | refine Z.gF0 rfl rfl ?_
              | (refine Z.gS rfl rfl ?_ ?_ <;> intro hb <;> (try simp only [decide_eq_true_eq, decide_eq_false_iff_not, Bool.not_eq_true', Bool.not_eq_false', Int.not_lt, Int.not_le] at hb) <;> (try (exfalso; first | omega | exact hb trivial)))
              | with_reducible refine Z.seq ?_
              | with_reducible refine Z.reg ?_
              | with_reducible refine Z.nil ?_
              | with_reducible refine Z.skip ?_
              | with_reducible refine Z.exit ?_
              | with_reducible refine Z.ret ?_
              | with_reducible refine Z.block ?_
              | with_reducible refine Z.thN ?_
              | with_reducible refine Z.thU ?_
              | with_reducible refine Z.thE ?_
              | with_reducible refine Z.thR ?_
              | with_reducible refine Z.blN ?_
              | with_reducible refine Z.blR ?_
              | with_reducible refine Z.blE ?_
              | (with_reducible refine Z.blX ?_ ?_; rotate_left; rfl)
              | refine Z.brT rfl ?_
              | refine Z.brF rfl ?_
              | (refine Z.br rfl ?_ ?_ <;> intro hb <;> (try simp only [decide_eq_true_eq, decide_eq_false_iff_not, Bool.not_eq_true', Bool.not_eq_false', Int.not_lt, Int.not_le] at hb) <;> (try (exfalso; first | omega | exact hb trivial))))
            have hln : (out.take i ++ [x]).length + (out.drop i).length = out.length + 1 := by simp; omega
            refine Z.againS (G.ws.length - (q + 1)) [(3, _), (12, .int .i64 (q + 1 : Nat))] (by omega) (by repeat (first | with_reducible exact Same.mix | ((with_reducible refine Same.upd ?_ ?_); · rfl) | ((with_reducible refine Same.cons ?_ ?_); · rfl) | with_reducible exact Same.refl | with_reducible refine Same.nil ?_ | ((with_reducible refine Same.mixS ?_ ?_); · rfl))) (by repeat (first | exact trivial | refine ⟨rfl, ?_⟩)) ?_
            refine ⟨q + 1, out.take i ++ [x] ++ out.drop i, A3, c3, by simp; omega, by omega, by rw [hn]; simp, by simp; omega, rfl, ?_⟩
            rw [List.length_append]
            exact hS.sub (by repeat (first | exact Sub.rest | exact Sub.nil | exact .skip .rest | exact .skip (.skip .rest) | exact .skip (.skip (.skip .rest)) | apply Sub.keep | refine Sub.cons (by repeat (first | exact At.here | apply At.next)) ?_ | apply Sub.skip))
          exact D.enil
        refine D.econs 6 1902 rfl D.wantedN (by kernel_rfl) (fun _ _ h => h) ?_ ?_
        · refine Z.bs hS rfl rfl rfl ?_
          clear hS; intro g w hS hge
          refine ⟨HM.s (hS.sub (by repeat (first | exact Sub.rest | exact Sub.nil | exact .skip .rest | exact .skip (.skip .rest) | exact .skip (.skip (.skip .rest)) | apply Sub.keep | refine Sub.cons (by repeat (first | exact At.here | apply At.next)) ?_ | apply Sub.skip))), ?_⟩
          refine D.eff 0 1903 rfl D.wantedN (by kernel_rfl) (by kernel_rfl) (fun _ _ h => h) ?_
          refine Z.bs hS rfl rfl rfl ?_
          clear hS; intro g w hS hge
          refine ⟨HM.s (hS.sub (by repeat (first | exact Sub.rest | exact Sub.nil | exact .skip .rest | exact .skip (.skip .rest) | exact .skip (.skip (.skip .rest)) | apply Sub.keep | refine Sub.cons (by repeat (first | exact At.here | apply At.next)) ?_ | apply Sub.skip))), ?_⟩
          refine D.eff 4 1919 rfl D.wantedN (by kernel_rfl) (by kernel_rfl) (fun _ _ h => h) ?_
          refine Z.ap0m (fc := Wi.cells) hS rfl rfl rfl ((hS.slrows (by repeat (first | exact At.here | apply At.next))).mtake hi) (by (try simp only [maxLen, List.length_take, List.length_drop, List.length_append, List.length_cons, List.length_nil, List.length_map]); omega) (by (try simp only [maxLen, List.length_take, List.length_drop, List.length_append, List.length_cons, List.length_nil, List.length_map]); omega) ?_
          clear hS; intro A1 c1 w hS
          refine ⟨HM.s (hS.sub (by repeat (first | exact Sub.rest | exact Sub.nil | exact .skip .rest | exact .skip (.skip .rest) | exact .skip (.skip (.skip .rest)) | apply Sub.keep | refine Sub.cons (by repeat (first | exact At.here | apply At.next)) ?_ | apply Sub.skip))), ?_⟩
          refine D.eff 7 2047 rfl D.wantedN (by kernel_rfl) (by kernel_rfl) (fun _ _ h => h) ?_
          refine Z.apm (l' := [x]) hS rfl rfl rfl (by repeat (first | exact At.here | apply At.next)) (hS.lit1 (by repeat (first | exact At.here | apply At.next)) rfl rfl) (by (try simp only [maxLen, List.length_take, List.length_drop, List.length_append, List.length_cons, List.length_nil, List.length_map]); omega) (by (try simp only [maxLen, List.length_take, List.length_drop, List.length_append, List.length_cons, List.length_nil, List.length_map]); omega) ?_
          clear hS; intro A2 c2 w hS
          refine ⟨HM.s (hS.sub (by repeat (first | exact Sub.rest | exact Sub.nil | exact .skip .rest | exact .skip (.skip .rest) | exact .skip (.skip (.skip .rest)) | apply Sub.keep | refine Sub.cons (by repeat (first | exact At.here | apply At.next)) ?_ | apply Sub.skip))), ?_⟩
          refine D.eff 11 4095 rfl D.wantedN (by kernel_rfl) (by kernel_rfl) (fun _ _ h => h) ?_
          refine Z.apm hS rfl rfl rfl (by repeat (first | exact At.here | apply At.next)) ((hS.slrows (by repeat (first | exact At.here | apply At.next))).mdrop hi) (by (try simp only [maxLen, List.length_take, List.length_drop, List.length_append, List.length_cons, List.length_nil, List.length_map]); omega) (by (try simp only [maxLen, List.length_take, List.length_drop, List.length_append, List.length_cons, List.length_nil, List.length_map]); omega) ?_
          clear hS; intro A3 c3 w hS
          refine ⟨HM.s (hS.sub (by repeat (first | exact Sub.rest | exact Sub.nil | exact .skip .rest | exact .skip (.skip .rest) | exact .skip (.skip (.skip .rest)) | apply Sub.keep | refine Sub.cons (by repeat (first | exact At.here | apply At.next)) ?_ | apply Sub.skip))), ?_⟩
          refine D.pr 12 8191 rfl D.wantedN (by kernel_rfl) rfl ?_
          refine D.done (by kernel_rfl) ?_
          repeat' (first
            | refine Z.pr rfl ?_
            | refine Z.eff (Z.ld hS rfl (by repeat (first | exact At.here | apply At.next)) rfl ?_) rfl
            | refine Z.eff (Z.ldR rfl (by assumption) rfl ?_) rfl
            | refine Z.eff (Z.ldE rfl (by assumption) rfl ?_) rfl
            | refine Z.sum rfl (by constructor <;> omega) ?_
            | (refine Z.eff (Z.st hS rfl (by repeat (first | exact At.here | apply At.next)) rfl rfl ?_) rfl; clear hS; intro w hS)
            | (refine Z.eff (Z.al hS ?_) rfl; clear hS; intro g w hS hge)
            | (refine Z.eff (Z.bx hS rfl ?_) rfl; clear hS; intro g w hS hge)
            | refine Z.ixn rfl rfl rfl (by omega) ?_
            | refine Z.pl (R.upto rfl rfl rfl (by omega)) ?_
            | refine Z.pl (R.sinceL rfl rfl rfl (by omega) (by omega)) ?_
            | refine Z.pl (R.since rfl rfl rfl (by omega)) ?_
            | refine Z.pl (R.span rfl rfl rfl rfl (by omega) (by omega)) ?_
            | refine Z.pl (R.whole rfl rfl) ?_
            | refine Z.pl (R.eqa rfl rfl rfl rfl) ?_
            | refine Z.pl (R.nea rfl rfl rfl rfl) ?_
            | refine Z.ix rfl rfl rfl (by omega) ?_
            | refine Z.ia rfl rfl rfl (by omega) ?_
            | refine Z.bu rfl rfl ?_
            | refine Z.pl (R.max2 rfl rfl) ?_
            | refine Z.pl (R.cap rfl rfl) ?_
            | refine Z.pl R.mf ?_
            | (refine Z.eff (Z.bs hS rfl rfl rfl ?_) rfl; clear hS; intro g w hS hge)
            | refine Z.gT rfl rfl ?_
            | refine Z.gF rfl rfl ?_
            | refine Z.gF0 rfl rfl ?_
            | (refine Z.gS rfl rfl ?_ ?_ <;> intro hb <;> (try simp only [decide_eq_true_eq, decide_eq_false_iff_not, Bool.not_eq_true', Bool.not_eq_false', Int.not_lt, Int.not_le] at hb) <;> (try (exfalso; first | omega | exact hb trivial)))
            | with_reducible refine Z.seq ?_
            | with_reducible refine Z.reg ?_
            | with_reducible refine Z.nil ?_
            | with_reducible refine Z.skip ?_
            | with_reducible refine Z.exit ?_
            | with_reducible refine Z.ret ?_
            | with_reducible refine Z.block ?_
            | with_reducible refine Z.thN ?_
            | with_reducible refine Z.thU ?_
            | with_reducible refine Z.thE ?_
            | with_reducible refine Z.thR ?_
            | with_reducible refine Z.blN ?_
            | with_reducible refine Z.blR ?_
            | with_reducible refine Z.blE ?_
            | (with_reducible refine Z.blX ?_ ?_; rotate_left; rfl)
            | refine Z.brT rfl ?_
            | refine Z.brF rfl ?_
            | (refine Z.br rfl ?_ ?_ <;> intro hb <;> (try simp only [decide_eq_true_eq, decide_eq_false_iff_not, Bool.not_eq_true', Bool.not_eq_false', Int.not_lt, Int.not_le] at hb) <;> (try (exfalso; first | omega | exact hb trivial))))
          have hln : (out.take i ++ [x]).length + (out.drop i).length = out.length + 1 := by simp; omega
          refine Z.againS (G.ws.length - (q + 1)) [(3, _), (12, .int .i64 (q + 1 : Nat))] (by omega) (by repeat (first | with_reducible exact Same.mix | ((with_reducible refine Same.upd ?_ ?_); · rfl) | ((with_reducible refine Same.cons ?_ ?_); · rfl) | with_reducible exact Same.refl | with_reducible refine Same.nil ?_ | ((with_reducible refine Same.mixS ?_ ?_); · rfl))) (by repeat (first | exact trivial | refine ⟨rfl, ?_⟩)) ?_
          refine ⟨q + 1, out.take i ++ [x] ++ out.drop i, A3, c3, by simp; omega, by omega, by rw [hn]; simp, by simp; omega, rfl, ?_⟩
          rw [List.length_append]
          exact hS.sub (by repeat (first | exact Sub.rest | exact Sub.nil | exact .skip .rest | exact .skip (.skip .rest) | exact .skip (.skip (.skip .rest)) | apply Sub.keep | refine Sub.cons (by repeat (first | exact At.here | apply At.next)) ?_ | apply Sub.skip))
        exact D.enil
    · repeat' (first
        | refine Z.pr rfl ?_
        | refine Z.eff (Z.ld hS rfl (by repeat (first | exact At.here | apply At.next)) rfl ?_) rfl
        | refine Z.eff (Z.ldR rfl (by assumption) rfl ?_) rfl
        | refine Z.eff (Z.ldE rfl (by assumption) rfl ?_) rfl
        | refine Z.sum rfl (by constructor <;> omega) ?_
        | (refine Z.eff (Z.st hS rfl (by repeat (first | exact At.here | apply At.next)) rfl rfl ?_) rfl; clear hS; intro w hS)
        | (refine Z.eff (Z.al hS ?_) rfl; clear hS; intro g w hS hge)
        | (refine Z.eff (Z.bx hS rfl ?_) rfl; clear hS; intro g w hS hge)
        | refine Z.ixn rfl rfl rfl (by omega) ?_
        | refine Z.pl (R.upto rfl rfl rfl (by omega)) ?_
        | refine Z.pl (R.sinceL rfl rfl rfl (by omega) (by omega)) ?_
        | refine Z.pl (R.since rfl rfl rfl (by omega)) ?_
        | refine Z.pl (R.span rfl rfl rfl rfl (by omega) (by omega)) ?_
        | refine Z.pl (R.whole rfl rfl) ?_
        | refine Z.pl (R.eqa rfl rfl rfl rfl) ?_
        | refine Z.pl (R.nea rfl rfl rfl rfl) ?_
        | refine Z.ix rfl rfl rfl (by omega) ?_
        | refine Z.ia rfl rfl rfl (by omega) ?_
        | refine Z.bu rfl rfl ?_
        | refine Z.pl (R.max2 rfl rfl) ?_
        | refine Z.pl (R.cap rfl rfl) ?_
        | refine Z.pl R.mf ?_
        | (refine Z.eff (Z.bs hS rfl rfl rfl ?_) rfl; clear hS; intro g w hS hge)
        | refine Z.gT rfl rfl ?_
        | refine Z.gF rfl rfl ?_
        | refine Z.gF0 rfl rfl ?_
        | (refine Z.gS rfl rfl ?_ ?_ <;> intro hb <;> (try simp only [decide_eq_true_eq, decide_eq_false_iff_not, Bool.not_eq_true', Bool.not_eq_false', Int.not_lt, Int.not_le] at hb) <;> (try (exfalso; first | omega | exact hb trivial)))
        | with_reducible refine Z.seq ?_
        | with_reducible refine Z.reg ?_
        | with_reducible refine Z.nil ?_
        | with_reducible refine Z.skip ?_
        | with_reducible refine Z.exit ?_
        | with_reducible refine Z.ret ?_
        | with_reducible refine Z.block ?_
        | with_reducible refine Z.thN ?_
        | with_reducible refine Z.thU ?_
        | with_reducible refine Z.thE ?_
        | with_reducible refine Z.thR ?_
        | with_reducible refine Z.blN ?_
        | with_reducible refine Z.blR ?_
        | with_reducible refine Z.blE ?_
        | (with_reducible refine Z.blX ?_ ?_; rotate_left; rfl)
        | refine Z.brT rfl ?_
        | refine Z.brF rfl ?_
        | (refine Z.br rfl ?_ ?_ <;> intro hb <;> (try simp only [decide_eq_true_eq, decide_eq_false_iff_not, Bool.not_eq_true', Bool.not_eq_false', Int.not_lt, Int.not_le] at hb) <;> (try (exfalso; first | omega | exact hb trivial))))
      refine D.startS hS 12 12 (by kernel_rfl) rfl ?_
      replace hS := hS.drew
      refine D.pr 0 1 rfl D.wantedN (by kernel_rfl) rfl ?_
      refine D.pr 1 3 rfl D.wantedN (by kernel_rfl) rfl ?_
      refine D.pr 2 7 rfl D.wantedN (by kernel_rfl) rfl ?_
      refine D.pr 3 15 rfl D.wantedN (by kernel_rfl) rfl ?_
      refine D.pr 4 31 rfl D.wantedN (by kernel_rfl) rfl ?_
      refine D.slot 27 rfl (fun hb => by exfalso; (try simp only [decide_eq_true_eq, decide_eq_false_iff_not, Bool.not_eq_true', Bool.not_eq_false', Int.not_lt, Int.not_le] at hb) <;> first | omega | exact hb trivial) (fun hb => ?_)
      (try simp only [decide_eq_true_eq, decide_eq_false_iff_not, Bool.not_eq_true', Bool.not_eq_false', Int.not_lt, Int.not_le] at hb)
      refine D.skF 5 63 rfl (by kernel_rfl) rfl rfl ?_
      refine D.skF 6 127 rfl (by kernel_rfl) rfl rfl ?_
      refine D.skF 7 255 rfl (by kernel_rfl) rfl rfl ?_
      refine D.skF 8 511 rfl (by kernel_rfl) rfl rfl ?_
      refine D.skF 9 1023 rfl (by kernel_rfl) rfl rfl ?_
      refine D.skF 10 2047 rfl (by kernel_rfl) rfl rfl ?_
      refine D.pr 11 4095 rfl D.wantedN (by kernel_rfl) rfl ?_
      refine D.done (by kernel_rfl) ?_
      repeat' (first
        | refine Z.pr rfl ?_
        | refine Z.eff (Z.ld hS rfl (by repeat (first | exact At.here | apply At.next)) rfl ?_) rfl
        | refine Z.eff (Z.ldR rfl (by assumption) rfl ?_) rfl
        | refine Z.eff (Z.ldE rfl (by assumption) rfl ?_) rfl
        | refine Z.sum rfl (by constructor <;> omega) ?_
        | (refine Z.eff (Z.st hS rfl (by repeat (first | exact At.here | apply At.next)) rfl rfl ?_) rfl; clear hS; intro w hS)
        | (refine Z.eff (Z.al hS ?_) rfl; clear hS; intro g w hS hge)
        | (refine Z.eff (Z.bx hS rfl ?_) rfl; clear hS; intro g w hS hge)
        | refine Z.ixn rfl rfl rfl (by omega) ?_
        | refine Z.pl (R.upto rfl rfl rfl (by omega)) ?_
        | refine Z.pl (R.sinceL rfl rfl rfl (by omega) (by omega)) ?_
        | refine Z.pl (R.since rfl rfl rfl (by omega)) ?_
        | refine Z.pl (R.span rfl rfl rfl rfl (by omega) (by omega)) ?_
        | refine Z.pl (R.whole rfl rfl) ?_
        | refine Z.pl (R.eqa rfl rfl rfl rfl) ?_
        | refine Z.pl (R.nea rfl rfl rfl rfl) ?_
        | refine Z.ix rfl rfl rfl (by omega) ?_
        | refine Z.ia rfl rfl rfl (by omega) ?_
        | refine Z.bu rfl rfl ?_
        | refine Z.pl (R.max2 rfl rfl) ?_
        | refine Z.pl (R.cap rfl rfl) ?_
        | refine Z.pl R.mf ?_
        | (refine Z.eff (Z.bs hS rfl rfl rfl ?_) rfl; clear hS; intro g w hS hge)
        | refine Z.gT rfl rfl ?_
        | refine Z.gF rfl rfl ?_
        | refine Z.gF0 rfl rfl ?_
        | (refine Z.gS rfl rfl ?_ ?_ <;> intro hb <;> (try simp only [decide_eq_true_eq, decide_eq_false_iff_not, Bool.not_eq_true', Bool.not_eq_false', Int.not_lt, Int.not_le] at hb) <;> (try (exfalso; first | omega | exact hb trivial)))
        | with_reducible refine Z.seq ?_
        | with_reducible refine Z.reg ?_
        | with_reducible refine Z.nil ?_
        | with_reducible refine Z.skip ?_
        | with_reducible refine Z.exit ?_
        | with_reducible refine Z.ret ?_
        | with_reducible refine Z.block ?_
        | with_reducible refine Z.thN ?_
        | with_reducible refine Z.thU ?_
        | with_reducible refine Z.thE ?_
        | with_reducible refine Z.thR ?_
        | with_reducible refine Z.blN ?_
        | with_reducible refine Z.blR ?_
        | with_reducible refine Z.blE ?_
        | (with_reducible refine Z.blX ?_ ?_; rotate_left; rfl)
        | refine Z.brT rfl ?_
        | refine Z.brF rfl ?_
        | (refine Z.br rfl ?_ ?_ <;> intro hb <;> (try simp only [decide_eq_true_eq, decide_eq_false_iff_not, Bool.not_eq_true', Bool.not_eq_false', Int.not_lt, Int.not_le] at hb) <;> (try (exfalso; first | omega | exact hb trivial))))
      rw [fin (fun h => absurd h hil)] at hn
      refine D.startS (Lr := [.blk gx 69 x.cells]) (hS.sub (by repeat (first | exact Sub.rest | exact Sub.nil | exact .skip .rest | exact .skip (.skip .rest) | exact .skip (.skip (.skip .rest)) | apply Sub.keep | refine Sub.cons (by repeat (first | exact At.here | apply At.next)) ?_ | apply Sub.skip))) 13 13 (by kernel_rfl) rfl ?_
      replace hS := hS.drew
      refine D.pr 1 2 rfl D.wantedN (by kernel_rfl) rfl ?_
      refine D.pr 2 6 rfl D.wantedN (by kernel_rfl) rfl ?_
      refine D.pl 3 14 rfl D.wantedN (by kernel_rfl) (R.upto rfl rfl rfl (by omega)) ?_
      refine D.pr 8 270 rfl D.wantedN (by kernel_rfl) rfl ?_
      refine D.pr 9 782 rfl D.wantedN (by kernel_rfl) rfl ?_
      refine D.pl 10 1806 rfl D.wantedN (by kernel_rfl) (R.since rfl rfl rfl (by omega)) ?_
      refine D.ld 5 1838 rfl D.wantedN (by kernel_rfl) rfl (fun W h => h.blk (by repeat (first | exact At.here | apply At.next))) rfl ?_
      refine D.each [0, 6] (by kernel_rfl) rfl ?_
      refine D.econs 0 1839 rfl D.wantedN (by kernel_rfl) (fun _ _ h => h) ?_ ?_
      · refine Z.bs hS rfl rfl rfl ?_
        clear hS; intro g w hS hge
        refine ⟨HM.s (hS.sub (by repeat (first | exact Sub.rest | exact Sub.nil | exact .skip .rest | exact .skip (.skip .rest) | exact .skip (.skip (.skip .rest)) | apply Sub.keep | refine Sub.cons (by repeat (first | exact At.here | apply At.next)) ?_ | apply Sub.skip))), ?_⟩
        refine D.each [4, 6] (by kernel_rfl) rfl ?_
        refine D.econs 4 1855 rfl D.wantedN (by kernel_rfl) (fun _ _ h => h) ?_ ?_
        · refine Z.ap0m (fc := Wi.cells) hS rfl rfl rfl ((hS.slrows (by repeat (first | exact At.here | apply At.next))).mtake hi) (by (try simp only [maxLen, List.length_take, List.length_drop, List.length_append, List.length_cons, List.length_nil, List.length_map]); omega) (by (try simp only [maxLen, List.length_take, List.length_drop, List.length_append, List.length_cons, List.length_nil, List.length_map]); omega) ?_
          clear hS; intro A1 c1 w hS
          refine ⟨HM.s (hS.sub (by repeat (first | exact Sub.rest | exact Sub.nil | exact .skip .rest | exact .skip (.skip .rest) | exact .skip (.skip (.skip .rest)) | apply Sub.keep | refine Sub.cons (by repeat (first | exact At.here | apply At.next)) ?_ | apply Sub.skip))), ?_⟩
          refine D.eff 6 1919 rfl D.wantedN (by kernel_rfl) (by kernel_rfl) (fun _ _ h => h) ?_
          refine Z.bs hS rfl rfl rfl ?_
          clear hS; intro g w hS hge
          refine ⟨HM.s (hS.sub (by repeat (first | exact Sub.rest | exact Sub.nil | exact .skip .rest | exact .skip (.skip .rest) | exact .skip (.skip (.skip .rest)) | apply Sub.keep | refine Sub.cons (by repeat (first | exact At.here | apply At.next)) ?_ | apply Sub.skip))), ?_⟩
          refine D.eff 7 2047 rfl D.wantedN (by kernel_rfl) (by kernel_rfl) (fun _ _ h => h) ?_
          refine Z.apm (l' := [x]) hS rfl rfl rfl (by repeat (first | exact At.here | apply At.next)) (hS.lit1 (by repeat (first | exact At.here | apply At.next)) rfl rfl) (by (try simp only [maxLen, List.length_take, List.length_drop, List.length_append, List.length_cons, List.length_nil, List.length_map]); omega) (by (try simp only [maxLen, List.length_take, List.length_drop, List.length_append, List.length_cons, List.length_nil, List.length_map]); omega) ?_
          clear hS; intro A2 c2 w hS
          refine ⟨HM.s (hS.sub (by repeat (first | exact Sub.rest | exact Sub.nil | exact .skip .rest | exact .skip (.skip .rest) | exact .skip (.skip (.skip .rest)) | apply Sub.keep | refine Sub.cons (by repeat (first | exact At.here | apply At.next)) ?_ | apply Sub.skip))), ?_⟩
          refine D.eff 11 4095 rfl D.wantedN (by kernel_rfl) (by kernel_rfl) (fun _ _ h => h) ?_
          refine Z.apm hS rfl rfl rfl (by repeat (first | exact At.here | apply At.next)) ((hS.slrows (by repeat (first | exact At.here | apply At.next))).mdrop hi) (by (try simp only [maxLen, List.length_take, List.length_drop, List.length_append, List.length_cons, List.length_nil, List.length_map]); omega) (by (try simp only [maxLen, List.length_take, List.length_drop, List.length_append, List.length_cons, List.length_nil, List.length_map]); omega) ?_
          clear hS; intro A3 c3 w hS
          refine ⟨HM.s (hS.sub (by repeat (first | exact Sub.rest | exact Sub.nil | exact .skip .rest | exact .skip (.skip .rest) | exact .skip (.skip (.skip .rest)) | apply Sub.keep | refine Sub.cons (by repeat (first | exact At.here | apply At.next)) ?_ | apply Sub.skip))), ?_⟩
          refine D.pr 12 8191 rfl D.wantedN (by kernel_rfl) rfl ?_
          refine D.done (by kernel_rfl) ?_
          repeat' (first
            | refine Z.pr rfl ?_
            | refine Z.eff (Z.ld hS rfl (by repeat (first | exact At.here | apply At.next)) rfl ?_) rfl
            | refine Z.eff (Z.ldR rfl (by assumption) rfl ?_) rfl
            | refine Z.eff (Z.ldE rfl (by assumption) rfl ?_) rfl
            | refine Z.sum rfl (by constructor <;> omega) ?_
            | (refine Z.eff (Z.st hS rfl (by repeat (first | exact At.here | apply At.next)) rfl rfl ?_) rfl; clear hS; intro w hS)
            | (refine Z.eff (Z.al hS ?_) rfl; clear hS; intro g w hS hge)
            | (refine Z.eff (Z.bx hS rfl ?_) rfl; clear hS; intro g w hS hge)
            | refine Z.ixn rfl rfl rfl (by omega) ?_
            | refine Z.pl (R.upto rfl rfl rfl (by omega)) ?_
            | refine Z.pl (R.sinceL rfl rfl rfl (by omega) (by omega)) ?_
            | refine Z.pl (R.since rfl rfl rfl (by omega)) ?_
            | refine Z.pl (R.span rfl rfl rfl rfl (by omega) (by omega)) ?_
            | refine Z.pl (R.whole rfl rfl) ?_
            | refine Z.pl (R.eqa rfl rfl rfl rfl) ?_
            | refine Z.pl (R.nea rfl rfl rfl rfl) ?_
            | refine Z.ix rfl rfl rfl (by omega) ?_
            | refine Z.ia rfl rfl rfl (by omega) ?_
            | refine Z.bu rfl rfl ?_
            | refine Z.pl (R.max2 rfl rfl) ?_
            | refine Z.pl (R.cap rfl rfl) ?_
            | refine Z.pl R.mf ?_
            | (refine Z.eff (Z.bs hS rfl rfl rfl ?_) rfl; clear hS; intro g w hS hge)
            | refine Z.gT rfl rfl ?_
            | refine Z.gF rfl rfl ?_
            | refine Z.gF0 rfl rfl ?_
            | (refine Z.gS rfl rfl ?_ ?_ <;> intro hb <;> (try simp only [decide_eq_true_eq, decide_eq_false_iff_not, Bool.not_eq_true', Bool.not_eq_false', Int.not_lt, Int.not_le] at hb) <;> (try (exfalso; first | omega | exact hb trivial)))
            | with_reducible refine Z.seq ?_
            | with_reducible refine Z.reg ?_
            | with_reducible refine Z.nil ?_
            | with_reducible refine Z.skip ?_
            | with_reducible refine Z.exit ?_
            | with_reducible refine Z.ret ?_
            | with_reducible refine Z.block ?_
            | with_reducible refine Z.thN ?_
            | with_reducible refine Z.thU ?_
            | with_reducible refine Z.thE ?_
            | with_reducible refine Z.thR ?_
            | with_reducible refine Z.blN ?_
            | with_reducible refine Z.blR ?_
            | with_reducible refine Z.blE ?_
            | (with_reducible refine Z.blX ?_ ?_; rotate_left; rfl)
            | refine Z.brT rfl ?_
            | refine Z.brF rfl ?_
            | (refine Z.br rfl ?_ ?_ <;> intro hb <;> (try simp only [decide_eq_true_eq, decide_eq_false_iff_not, Bool.not_eq_true', Bool.not_eq_false', Int.not_lt, Int.not_le] at hb) <;> (try (exfalso; first | omega | exact hb trivial))))
          have hln : (out.take i ++ [x]).length + (out.drop i).length = out.length + 1 := by simp; omega
          refine Z.againS (G.ws.length - (q + 1)) [(3, _), (12, .int .i64 (q + 1 : Nat))] (by omega) (by repeat (first | with_reducible exact Same.mix | ((with_reducible refine Same.upd ?_ ?_); · rfl) | ((with_reducible refine Same.cons ?_ ?_); · rfl) | with_reducible exact Same.refl | with_reducible refine Same.nil ?_ | ((with_reducible refine Same.mixS ?_ ?_); · rfl))) (by repeat (first | exact trivial | refine ⟨rfl, ?_⟩)) ?_
          refine ⟨q + 1, out.take i ++ [x] ++ out.drop i, A3, c3, by simp; omega, by omega, by rw [hn]; simp, by simp; omega, rfl, ?_⟩
          rw [List.length_append]
          exact hS.sub (by repeat (first | exact Sub.rest | exact Sub.nil | exact .skip .rest | exact .skip (.skip .rest) | exact .skip (.skip (.skip .rest)) | apply Sub.keep | refine Sub.cons (by repeat (first | exact At.here | apply At.next)) ?_ | apply Sub.skip))
        refine D.econs 6 1903 rfl D.wantedN (by kernel_rfl) (fun _ _ h => h) ?_ ?_
        · refine Z.bs hS rfl rfl rfl ?_
          clear hS; intro g w hS hge
          refine ⟨HM.s (hS.sub (by repeat (first | exact Sub.rest | exact Sub.nil | exact .skip .rest | exact .skip (.skip .rest) | exact .skip (.skip (.skip .rest)) | apply Sub.keep | refine Sub.cons (by repeat (first | exact At.here | apply At.next)) ?_ | apply Sub.skip))), ?_⟩
          refine D.eff 4 1919 rfl D.wantedN (by kernel_rfl) (by kernel_rfl) (fun _ _ h => h) ?_
          refine Z.ap0m (fc := Wi.cells) hS rfl rfl rfl ((hS.slrows (by repeat (first | exact At.here | apply At.next))).mtake hi) (by (try simp only [maxLen, List.length_take, List.length_drop, List.length_append, List.length_cons, List.length_nil, List.length_map]); omega) (by (try simp only [maxLen, List.length_take, List.length_drop, List.length_append, List.length_cons, List.length_nil, List.length_map]); omega) ?_
          clear hS; intro A1 c1 w hS
          refine ⟨HM.s (hS.sub (by repeat (first | exact Sub.rest | exact Sub.nil | exact .skip .rest | exact .skip (.skip .rest) | exact .skip (.skip (.skip .rest)) | apply Sub.keep | refine Sub.cons (by repeat (first | exact At.here | apply At.next)) ?_ | apply Sub.skip))), ?_⟩
          refine D.eff 7 2047 rfl D.wantedN (by kernel_rfl) (by kernel_rfl) (fun _ _ h => h) ?_
          refine Z.apm (l' := [x]) hS rfl rfl rfl (by repeat (first | exact At.here | apply At.next)) (hS.lit1 (by repeat (first | exact At.here | apply At.next)) rfl rfl) (by (try simp only [maxLen, List.length_take, List.length_drop, List.length_append, List.length_cons, List.length_nil, List.length_map]); omega) (by (try simp only [maxLen, List.length_take, List.length_drop, List.length_append, List.length_cons, List.length_nil, List.length_map]); omega) ?_
          clear hS; intro A2 c2 w hS
          refine ⟨HM.s (hS.sub (by repeat (first | exact Sub.rest | exact Sub.nil | exact .skip .rest | exact .skip (.skip .rest) | exact .skip (.skip (.skip .rest)) | apply Sub.keep | refine Sub.cons (by repeat (first | exact At.here | apply At.next)) ?_ | apply Sub.skip))), ?_⟩
          refine D.eff 11 4095 rfl D.wantedN (by kernel_rfl) (by kernel_rfl) (fun _ _ h => h) ?_
          refine Z.apm hS rfl rfl rfl (by repeat (first | exact At.here | apply At.next)) ((hS.slrows (by repeat (first | exact At.here | apply At.next))).mdrop hi) (by (try simp only [maxLen, List.length_take, List.length_drop, List.length_append, List.length_cons, List.length_nil, List.length_map]); omega) (by (try simp only [maxLen, List.length_take, List.length_drop, List.length_append, List.length_cons, List.length_nil, List.length_map]); omega) ?_
          clear hS; intro A3 c3 w hS
          refine ⟨HM.s (hS.sub (by repeat (first | exact Sub.rest | exact Sub.nil | exact .skip .rest | exact .skip (.skip .rest) | exact .skip (.skip (.skip .rest)) | apply Sub.keep | refine Sub.cons (by repeat (first | exact At.here | apply At.next)) ?_ | apply Sub.skip))), ?_⟩
          refine D.pr 12 8191 rfl D.wantedN (by kernel_rfl) rfl ?_
          refine D.done (by kernel_rfl) ?_
          repeat' (first
            | refine Z.pr rfl ?_
            | refine Z.eff (Z.ld hS rfl (by repeat (first | exact At.here | apply At.next)) rfl ?_) rfl
            | refine Z.eff (Z.ldR rfl (by assumption) rfl ?_) rfl
            | refine Z.eff (Z.ldE rfl (by assumption) rfl ?_) rfl
            | refine Z.sum rfl (by constructor <;> omega) ?_
            | (refine Z.eff (Z.st hS rfl (by repeat (first | exact At.here | apply At.next)) rfl rfl ?_) rfl; clear hS; intro w hS)
            | (refine Z.eff (Z.al hS ?_) rfl; clear hS; intro g w hS hge)
            | (refine Z.eff (Z.bx hS rfl ?_) rfl; clear hS; intro g w hS hge)
            | refine Z.ixn rfl rfl rfl (by omega) ?_
            | refine Z.pl (R.upto rfl rfl rfl (by omega)) ?_
            | refine Z.pl (R.sinceL rfl rfl rfl (by omega) (by omega)) ?_
            | refine Z.pl (R.since rfl rfl rfl (by omega)) ?_
            | refine Z.pl (R.span rfl rfl rfl rfl (by omega) (by omega)) ?_
            | refine Z.pl (R.whole rfl rfl) ?_
            | refine Z.pl (R.eqa rfl rfl rfl rfl) ?_
            | refine Z.pl (R.nea rfl rfl rfl rfl) ?_
            | refine Z.ix rfl rfl rfl (by omega) ?_
            | refine Z.ia rfl rfl rfl (by omega) ?_
            | refine Z.bu rfl rfl ?_
            | refine Z.pl (R.max2 rfl rfl) ?_
            | refine Z.pl (R.cap rfl rfl) ?_
            | refine Z.pl R.mf ?_
            | (refine Z.eff (Z.bs hS rfl rfl rfl ?_) rfl; clear hS; intro g w hS hge)
            | refine Z.gT rfl rfl ?_
            | refine Z.gF rfl rfl ?_
            | refine Z.gF0 rfl rfl ?_
            | (refine Z.gS rfl rfl ?_ ?_ <;> intro hb <;> (try simp only [decide_eq_true_eq, decide_eq_false_iff_not, Bool.not_eq_true', Bool.not_eq_false', Int.not_lt, Int.not_le] at hb) <;> (try (exfalso; first | omega | exact hb trivial)))
            | with_reducible refine Z.seq ?_
            | with_reducible refine Z.reg ?_
            | with_reducible refine Z.nil ?_
            | with_reducible refine Z.skip ?_
            | with_reducible refine Z.exit ?_
            | with_reducible refine Z.ret ?_
            | with_reducible refine Z.block ?_
            | with_reducible refine Z.thN ?_
            | with_reducible refine Z.thU ?_
            | with_reducible refine Z.thE ?_
            | with_reducible refine Z.thR ?_
            | with_reducible refine Z.blN ?_
            | with_reducible refine Z.blR ?_
            | with_reducible refine Z.blE ?_
            | (with_reducible refine Z.blX ?_ ?_; rotate_left; rfl)
            | refine Z.brT rfl ?_
            | refine Z.brF rfl ?_
            | (refine Z.br rfl ?_ ?_ <;> intro hb <;> (try simp only [decide_eq_true_eq, decide_eq_false_iff_not, Bool.not_eq_true', Bool.not_eq_false', Int.not_lt, Int.not_le] at hb) <;> (try (exfalso; first | omega | exact hb trivial))))
          have hln : (out.take i ++ [x]).length + (out.drop i).length = out.length + 1 := by simp; omega
          refine Z.againS (G.ws.length - (q + 1)) [(3, _), (12, .int .i64 (q + 1 : Nat))] (by omega) (by repeat (first | with_reducible exact Same.mix | ((with_reducible refine Same.upd ?_ ?_); · rfl) | ((with_reducible refine Same.cons ?_ ?_); · rfl) | with_reducible exact Same.refl | with_reducible refine Same.nil ?_ | ((with_reducible refine Same.mixS ?_ ?_); · rfl))) (by repeat (first | exact trivial | refine ⟨rfl, ?_⟩)) ?_
          refine ⟨q + 1, out.take i ++ [x] ++ out.drop i, A3, c3, by simp; omega, by omega, by rw [hn]; simp, by simp; omega, rfl, ?_⟩
          rw [List.length_append]
          exact hS.sub (by repeat (first | exact Sub.rest | exact Sub.nil | exact .skip .rest | exact .skip (.skip .rest) | exact .skip (.skip (.skip .rest)) | apply Sub.keep | refine Sub.cons (by repeat (first | exact At.here | apply At.next)) ?_ | apply Sub.skip))
        exact D.enil
      refine D.econs 6 1902 rfl D.wantedN (by kernel_rfl) (fun _ _ h => h) ?_ ?_
      · refine Z.bs hS rfl rfl rfl ?_
        clear hS; intro g w hS hge
        refine ⟨HM.s (hS.sub (by repeat (first | exact Sub.rest | exact Sub.nil | exact .skip .rest | exact .skip (.skip .rest) | exact .skip (.skip (.skip .rest)) | apply Sub.keep | refine Sub.cons (by repeat (first | exact At.here | apply At.next)) ?_ | apply Sub.skip))), ?_⟩
        refine D.eff 0 1903 rfl D.wantedN (by kernel_rfl) (by kernel_rfl) (fun _ _ h => h) ?_
        refine Z.bs hS rfl rfl rfl ?_
        clear hS; intro g w hS hge
        refine ⟨HM.s (hS.sub (by repeat (first | exact Sub.rest | exact Sub.nil | exact .skip .rest | exact .skip (.skip .rest) | exact .skip (.skip (.skip .rest)) | apply Sub.keep | refine Sub.cons (by repeat (first | exact At.here | apply At.next)) ?_ | apply Sub.skip))), ?_⟩
        refine D.eff 4 1919 rfl D.wantedN (by kernel_rfl) (by kernel_rfl) (fun _ _ h => h) ?_
        refine Z.ap0m (fc := Wi.cells) hS rfl rfl rfl ((hS.slrows (by repeat (first | exact At.here | apply At.next))).mtake hi) (by (try simp only [maxLen, List.length_take, List.length_drop, List.length_append, List.length_cons, List.length_nil, List.length_map]); omega) (by (try simp only [maxLen, List.length_take, List.length_drop, List.length_append, List.length_cons, List.length_nil, List.length_map]); omega) ?_
        clear hS; intro A1 c1 w hS
        refine ⟨HM.s (hS.sub (by repeat (first | exact Sub.rest | exact Sub.nil | exact .skip .rest | exact .skip (.skip .rest) | exact .skip (.skip (.skip .rest)) | apply Sub.keep | refine Sub.cons (by repeat (first | exact At.here | apply At.next)) ?_ | apply Sub.skip))), ?_⟩
        refine D.eff 7 2047 rfl D.wantedN (by kernel_rfl) (by kernel_rfl) (fun _ _ h => h) ?_
        refine Z.apm (l' := [x]) hS rfl rfl rfl (by repeat (first | exact At.here | apply At.next)) (hS.lit1 (by repeat (first | exact At.here | apply At.next)) rfl rfl) (by (try simp only [maxLen, List.length_take, List.length_drop, List.length_append, List.length_cons, List.length_nil, List.length_map]); omega) (by (try simp only [maxLen, List.length_take, List.length_drop, List.length_append, List.length_cons, List.length_nil, List.length_map]); omega) ?_
        clear hS; intro A2 c2 w hS
        refine ⟨HM.s (hS.sub (by repeat (first | exact Sub.rest | exact Sub.nil | exact .skip .rest | exact .skip (.skip .rest) | exact .skip (.skip (.skip .rest)) | apply Sub.keep | refine Sub.cons (by repeat (first | exact At.here | apply At.next)) ?_ | apply Sub.skip))), ?_⟩
        refine D.eff 11 4095 rfl D.wantedN (by kernel_rfl) (by kernel_rfl) (fun _ _ h => h) ?_
        refine Z.apm hS rfl rfl rfl (by repeat (first | exact At.here | apply At.next)) ((hS.slrows (by repeat (first | exact At.here | apply At.next))).mdrop hi) (by (try simp only [maxLen, List.length_take, List.length_drop, List.length_append, List.length_cons, List.length_nil, List.length_map]); omega) (by (try simp only [maxLen, List.length_take, List.length_drop, List.length_append, List.length_cons, List.length_nil, List.length_map]); omega) ?_
        clear hS; intro A3 c3 w hS
        refine ⟨HM.s (hS.sub (by repeat (first | exact Sub.rest | exact Sub.nil | exact .skip .rest | exact .skip (.skip .rest) | exact .skip (.skip (.skip .rest)) | apply Sub.keep | refine Sub.cons (by repeat (first | exact At.here | apply At.next)) ?_ | apply Sub.skip))), ?_⟩
        refine D.pr 12 8191 rfl D.wantedN (by kernel_rfl) rfl ?_
        refine D.done (by kernel_rfl) ?_
        repeat' (first
          | refine Z.pr rfl ?_
          | refine Z.eff (Z.ld hS rfl (by repeat (first | exact At.here | apply At.next)) rfl ?_) rfl
          | refine Z.eff (Z.ldR rfl (by assumption) rfl ?_) rfl
          | refine Z.eff (Z.ldE rfl (by assumption) rfl ?_) rfl
          | refine Z.sum rfl (by constructor <;> omega) ?_
          | (refine Z.eff (Z.st hS rfl (by repeat (first | exact At.here | apply At.next)) rfl rfl ?_) rfl; clear hS; intro w hS)
          | (refine Z.eff (Z.al hS ?_) rfl; clear hS; intro g w hS hge)
          | (refine Z.eff (Z.bx hS rfl ?_) rfl; clear hS; intro g w hS hge)
          | refine Z.ixn rfl rfl rfl (by omega) ?_
          | refine Z.pl (R.upto rfl rfl rfl (by omega)) ?_
          | refine Z.pl (R.sinceL rfl rfl rfl (by omega) (by omega)) ?_
          | refine Z.pl (R.since rfl rfl rfl (by omega)) ?_
          | refine Z.pl (R.span rfl rfl rfl rfl (by omega) (by omega)) ?_
          | refine Z.pl (R.whole rfl rfl) ?_
          | refine Z.pl (R.eqa rfl rfl rfl rfl) ?_
          | refine Z.pl (R.nea rfl rfl rfl rfl) ?_
          | refine Z.ix rfl rfl rfl (by omega) ?_
          | refine Z.ia rfl rfl rfl (by omega) ?_
          | refine Z.bu rfl rfl ?_
          | refine Z.pl (R.max2 rfl rfl) ?_
          | refine Z.pl (R.cap rfl rfl) ?_
          | refine Z.pl R.mf ?_
          | (refine Z.eff (Z.bs hS rfl rfl rfl ?_) rfl; clear hS; intro g w hS hge)
          | refine Z.gT rfl rfl ?_
          | refine Z.gF rfl rfl ?_
          | refine Z.gF0 rfl rfl ?_
          | (refine Z.gS rfl rfl ?_ ?_ <;> intro hb <;> (try simp only [decide_eq_true_eq, decide_eq_false_iff_not, Bool.not_eq_true', Bool.not_eq_false', Int.not_lt, Int.not_le] at hb) <;> (try (exfalso; first | omega | exact hb trivial)))
          | with_reducible refine Z.seq ?_
          | with_reducible refine Z.reg ?_
          | with_reducible refine Z.nil ?_
          | with_reducible refine Z.skip ?_
          | with_reducible refine Z.exit ?_
          | with_reducible refine Z.ret ?_
          | with_reducible refine Z.block ?_
          | with_reducible refine Z.thN ?_
          | with_reducible refine Z.thU ?_
          | with_reducible refine Z.thE ?_
          | with_reducible refine Z.thR ?_
          | with_reducible refine Z.blN ?_
          | with_reducible refine Z.blR ?_
          | with_reducible refine Z.blE ?_
          | (with_reducible refine Z.blX ?_ ?_; rotate_left; rfl)
          | refine Z.brT rfl ?_
          | refine Z.brF rfl ?_
          | (refine Z.br rfl ?_ ?_ <;> intro hb <;> (try simp only [decide_eq_true_eq, decide_eq_false_iff_not, Bool.not_eq_true', Bool.not_eq_false', Int.not_lt, Int.not_le] at hb) <;> (try (exfalso; first | omega | exact hb trivial))))
        have hln : (out.take i ++ [x]).length + (out.drop i).length = out.length + 1 := by simp; omega
        refine Z.againS (G.ws.length - (q + 1)) [(3, _), (12, .int .i64 (q + 1 : Nat))] (by omega) (by repeat (first | with_reducible exact Same.mix | ((with_reducible refine Same.upd ?_ ?_); · rfl) | ((with_reducible refine Same.cons ?_ ?_); · rfl) | with_reducible exact Same.refl | with_reducible refine Same.nil ?_ | ((with_reducible refine Same.mixS ?_ ?_); · rfl))) (by repeat (first | exact trivial | refine ⟨rfl, ?_⟩)) ?_
        refine ⟨q + 1, out.take i ++ [x] ++ out.drop i, A3, c3, by simp; omega, by omega, by rw [hn]; simp, by simp; omega, rfl, ?_⟩
        rw [List.length_append]
        exact hS.sub (by repeat (first | exact Sub.rest | exact Sub.nil | exact .skip .rest | exact .skip (.skip .rest) | exact .skip (.skip (.skip .rest)) | apply Sub.keep | refine Sub.cons (by repeat (first | exact At.here | apply At.next)) ?_ | apply Sub.skip))
      exact D.enil
  · repeat' (first
      | refine Z.pr rfl ?_
      | refine Z.eff (Z.ld hS rfl (by repeat (first | exact At.here | apply At.next)) rfl ?_) rfl
      | refine Z.eff (Z.ldR rfl (by assumption) rfl ?_) rfl
      | refine Z.eff (Z.ldE rfl (by assumption) rfl ?_) rfl
      | refine Z.sum rfl (by constructor <;> omega) ?_
      | (refine Z.eff (Z.st hS rfl (by repeat (first | exact At.here | apply At.next)) rfl rfl ?_) rfl; clear hS; intro w hS)
      | (refine Z.eff (Z.al hS ?_) rfl; clear hS; intro g w hS hge)
      | (refine Z.eff (Z.bx hS rfl ?_) rfl; clear hS; intro g w hS hge)
      | refine Z.ixn rfl rfl rfl (by omega) ?_
      | refine Z.pl (R.upto rfl rfl rfl (by omega)) ?_
      | refine Z.pl (R.sinceL rfl rfl rfl (by omega) (by omega)) ?_
      | refine Z.pl (R.since rfl rfl rfl (by omega)) ?_
      | refine Z.pl (R.span rfl rfl rfl rfl (by omega) (by omega)) ?_
      | refine Z.pl (R.whole rfl rfl) ?_
      | refine Z.pl (R.eqa rfl rfl rfl rfl) ?_
      | refine Z.pl (R.nea rfl rfl rfl rfl) ?_
      | refine Z.ix rfl rfl rfl (by omega) ?_
      | refine Z.ia rfl rfl rfl (by omega) ?_
      | refine Z.bu rfl rfl ?_
      | refine Z.pl (R.max2 rfl rfl) ?_
      | refine Z.pl (R.cap rfl rfl) ?_
      | refine Z.pl R.mf ?_
      | (refine Z.eff (Z.bs hS rfl rfl rfl ?_) rfl; clear hS; intro g w hS hge)
      | refine Z.gT rfl rfl ?_
      | refine Z.gF rfl rfl ?_
      | refine Z.gF0 rfl rfl ?_
      | (refine Z.gS rfl rfl ?_ ?_ <;> intro hb <;> (try simp only [decide_eq_true_eq, decide_eq_false_iff_not, Bool.not_eq_true', Bool.not_eq_false', Int.not_lt, Int.not_le] at hb) <;> (try (exfalso; first | omega | exact hb trivial)))
      | with_reducible refine Z.seq ?_
      | with_reducible refine Z.reg ?_
      | with_reducible refine Z.nil ?_
      | with_reducible refine Z.skip ?_
      | with_reducible refine Z.exit ?_
      | with_reducible refine Z.ret ?_
      | with_reducible refine Z.block ?_
      | with_reducible refine Z.thN ?_
      | with_reducible refine Z.thU ?_
      | with_reducible refine Z.thE ?_
      | with_reducible refine Z.thR ?_
      | with_reducible refine Z.blN ?_
      | with_reducible refine Z.blR ?_
      | with_reducible refine Z.blE ?_
      | (with_reducible refine Z.blX ?_ ?_; rotate_left; rfl)
      | refine Z.brT rfl ?_
      | refine Z.brF rfl ?_
      | (refine Z.br rfl ?_ ?_ <;> intro hb <;> (try simp only [decide_eq_true_eq, decide_eq_false_iff_not, Bool.not_eq_true', Bool.not_eq_false', Int.not_lt, Int.not_le] at hb) <;> (try (exfalso; first | omega | exact hb trivial))))
    first | refine Z.done hS Try.results44 (Z.RV.tmp rfl Z.RV.nil) ?_ | refine Z.doneN hS Try.results44 (Z.RV.tmp rfl Z.RV.nil) ?_
    rw [List.take_of_length_le (by omega)] at hout
    rw [← hout]
    refine ⟨A', c', rfl, ?_⟩
    exact (Sep.GR_open.2 ⟨A, c, hS.sub (L' := .blk gg 65 [.int .i64 G.cell, .int .i64 G.closed, .slice A G.ws.length c] :: .sl 69 5 (.slice A G.ws.length c) (G.ws.map Wi.cells) :: .sl 69 5 (.slice A' out.length c') (out.map Wi.cells) :: F) (by repeat (first | exact Sub.rest | exact Sub.nil | exact .skip .rest | exact .skip (.skip .rest) | exact .skip (.skip (.skip .rest)) | apply Sub.keep | refine Sub.cons (by repeat (first | exact At.here | apply At.next)) ?_ | apply Sub.skip))⟩).sub (by repeat (first | exact Sub.rest | exact Sub.nil | exact .skip .rest | exact .skip (.skip .rest) | exact .skip (.skip (.skip .rest)) | apply Sub.keep | refine Sub.cons (by repeat (first | exact At.here | apply At.next)) ?_ | apply Sub.skip))
end Go.Proofs.Ytppbjlakbmgfdaa
