/-
  Lists of numbers compared.
-/
import Derived.Test.YtmjdkgpckcdndaaGreatZx
namespace Go.Proofs.YtmjdkgpckcdndaaGreat
open Go.RowKit
set_option linter.unusedSimpArgs false
set_option linter.unusedVariables false
attribute [local irreducible] Res.blk Res.sl Res.all Res.ex Res.pure Res.star

set_option maxHeartbeats 1000000 in
theorem sameInts_z (l l' : List Int) (v v' : Value) (r : World) (F : List Res) (w : World) (hS : Sep r [] F w) (hrd : Reads r F 1 v (l.map intC)) (hrd' : Reads r F 1 v' (l'.map intC)) (hl : l.length ≤ 100000) (hl' : l'.length ≤ 100000) :
    Calls Tryz.prog 19 #[v, v'] w fun e w' => e = .returned (.bool (decide (l = l'))) ∧ Sep r [] F w' := by
  obtain ⟨A, c, rfl, hc⟩ := (hrd [] w hS).mform
  obtain ⟨A', c', rfl, hc'⟩ := (hrd' [] w hS).mform
  refine Z.enter Tryz.func19 Tryz.ntmps19 rfl rfl ?_
  repeat' (first|refine VP ?_|refine Sh.la hS ?_|refine Sh.lb ?_|refine Sh.lc ?_|refine Sh.su ?_|(refine Sh.sa hS ?_;clear hS;intro w hS)|((first|refine Sh.aa hS ?_|refine Sh.ab hS ?_|refine Sh.ac hS ?_);clear hS;intro g w hS hge)|refine Sh.ix ?_|refine Sh.up ?_|refine Sh.sl1 ?_|refine Sh.sl2 ?_|refine Sh.sl5 ?_|refine Sh.sl3 ?_|refine Sh.sl4 ?_|refine Sh.eq ?_|refine Sh.ne ?_|refine Sh.ix2 ?_|refine Sh.ix3 ?_|refine Z.bu rfl rfl ?_|refine Z.buA rfl rfl ?_|refine VM ?_|refine Z.pl (R.cap rfl rfl) ?_|refine Z.pl R.mf ?_|refine Z.pl (R.min2 rfl rfl) ?_|refine G1 ?_|refine G2 ?_|refine G3 ?_|refine G4 ?_|with_reducible (first|refine V0 ?_|refine Z.block ?_)|((with_reducible refine Z.blX ?_ ?_);rotate_left;rfl)|refine VT ?_|refine VF ?_|((first|refine GS ?_ ?_|refine VB ?_ ?_)<;>intro hb<;>(try simp only [J1,J2,J3,J4,J5,J6] at hb)<;>(try (exfalso;first|omega|exact hb trivial))))
  · first | refine Z.done hS Tryz.results19 (Z.RV.tmp rfl Z.RV.nil) ?_ | refine Z.doneN hS Tryz.results19 (Z.RV.tmp rfl Z.RV.nil) ?_
    have : l ≠ l' := by rintro rfl; exact hb rfl
    exact ⟨by simp [this, Z.packR], hS⟩
  have hlen : l.length = l'.length := by omega
  refine Z.lpS [4, 5, 13, 14, 15, 16, 17, 18, 19, 20, 21, 22, 23, 24, 25] (fun m w s => ∃ q : Nat, s = [(13, .int .i64 q)] ∧ q ≤ l.length ∧ l.take q = l'.take q ∧ m = l.length - q ∧ Sep r [] F w) _ [(13, .int .i64 (0 : Nat))] (by repeat (first | exact trivial | refine ⟨rfl, ?_⟩)) ⟨0, rfl, by omega, by simp, rfl, hS⟩ ?_
  clear hS
  rintro m f0 w _ ⟨q, rfl, hq, heq, rfl, hS⟩
  by_cases hlt : q < l.length
  · have hlt' : q < l'.length := by omega
    obtain ⟨gb, o, rfl, _, _⟩ := (hrd [] w hS).mat (by omega) hlt
    obtain ⟨gb', o', rfl, _, _⟩ := (hrd' [] w hS).mat (by omega) hlt'
    have hra : ∀ W, Sep r [] F W → W.rangeAt gb (o + q * 1) (intC l[q]) := fun W h => (hrd [] W h).elem (by omega) hlt
    have hra' : ∀ W, Sep r [] F W → W.rangeAt gb' (o' + q * 1) (intC l'[q]) := fun W h => (hrd' [] W h).elem (by omega) hlt'
    repeat' (first|refine VP ?_|refine Sh.la hS ?_|refine Sh.lb ?_|refine Sh.lc ?_|refine Sh.su ?_|(refine Sh.sa hS ?_;clear hS;intro w hS)|((first|refine Sh.aa hS ?_|refine Sh.ab hS ?_|refine Sh.ac hS ?_);clear hS;intro g w hS hge)|refine Sh.ix ?_|refine Sh.up ?_|refine Sh.sl1 ?_|refine Sh.sl2 ?_|refine Sh.sl5 ?_|refine Sh.sl3 ?_|refine Sh.sl4 ?_|refine Sh.eq ?_|refine Sh.ne ?_|refine Sh.ix2 ?_|refine Sh.ix3 ?_|refine Z.bu rfl rfl ?_|refine Z.buA rfl rfl ?_|refine VM ?_|refine Z.pl (R.cap rfl rfl) ?_|refine Z.pl R.mf ?_|refine Z.pl (R.min2 rfl rfl) ?_|refine G1 ?_|refine G2 ?_|refine G3 ?_|refine G4 ?_|with_reducible (first|refine V0 ?_|refine Z.block ?_)|((with_reducible refine Z.blX ?_ ?_);rotate_left;rfl)|refine VT ?_|refine VF ?_|((first|refine GS ?_ ?_|refine VB ?_ ?_)<;>intro hb<;>(try simp only [J1,J2,J3,J4,J5,J6] at hb)<;>(try (exfalso;first|omega|exact hb trivial))))
    refine D.startS hS 9 9 (by kernel_rfl) rfl ?_
    replace hS := hS.drew
    refine Sh.dp 0 1 ?_
    refine Sh.dp 1 3 ?_
    first | refine D.ixn 2 7 rfl D.wantedN (by kernel_rfl) rfl rfl rfl (by omega) ?_ | refine D.ix 2 7 rfl D.wantedN (by kernel_rfl) rfl rfl rfl (by omega) ?_ | refine D.ia 2 7 rfl D.wantedN (by kernel_rfl) rfl rfl rfl (by omega) ?_
    refine Sh.dp 4 23 ?_
    refine Sh.dp 5 55 ?_
    first | refine D.ixn 6 119 rfl D.wantedN (by kernel_rfl) rfl rfl rfl (by omega) ?_ | refine D.ix 6 119 rfl D.wantedN (by kernel_rfl) rfl rfl rfl (by omega) ?_ | refine D.ia 6 119 rfl D.wantedN (by kernel_rfl) rfl rfl rfl (by omega) ?_
    refine D.ldR 3 127 rfl D.wantedN (by kernel_rfl) rfl hra rfl ?_
    refine D.ldR 7 255 rfl D.wantedN (by kernel_rfl) rfl hra' rfl ?_
    first | refine D.pr 8 511 rfl D.wantedN (by kernel_rfl) rfl ?_ | refine D.pl 8 511 rfl D.wantedN (by kernel_rfl) (R.nea rfl rfl rfl rfl) ?_
    refine D.done (by kernel_rfl) ?_
    repeat' (first|refine VP ?_|refine Sh.la hS ?_|refine Sh.lb ?_|refine Sh.lc ?_|refine Sh.su ?_|(refine Sh.sa hS ?_;clear hS;intro w hS)|((first|refine Sh.aa hS ?_|refine Sh.ab hS ?_|refine Sh.ac hS ?_);clear hS;intro g w hS hge)|refine Sh.ix ?_|refine Sh.up ?_|refine Sh.sl1 ?_|refine Sh.sl2 ?_|refine Sh.sl5 ?_|refine Sh.sl3 ?_|refine Sh.sl4 ?_|refine Sh.eq ?_|refine Sh.ne ?_|refine Sh.ix2 ?_|refine Sh.ix3 ?_|refine Z.bu rfl rfl ?_|refine Z.buA rfl rfl ?_|refine VM ?_|refine Z.pl (R.cap rfl rfl) ?_|refine Z.pl R.mf ?_|refine Z.pl (R.min2 rfl rfl) ?_|refine G1 ?_|refine G2 ?_|refine G3 ?_|refine G4 ?_|with_reducible (first|refine V0 ?_|refine Z.block ?_)|((with_reducible refine Z.blX ?_ ?_);rotate_left;rfl)|refine VT ?_|refine VF ?_|((first|refine GS ?_ ?_|refine VB ?_ ?_)<;>intro hb<;>(try simp only [J1,J2,J3,J4,J5,J6] at hb)<;>(try (exfalso;first|omega|exact hb trivial))))
    · first | refine Z.done hS Tryz.results19 (Z.RV.tmp rfl Z.RV.nil) ?_ | refine Z.doneN hS Tryz.results19 (Z.RV.tmp rfl Z.RV.nil) ?_
      have : l ≠ l' := by rintro rfl; exact hb rfl
      exact ⟨by simp [this, Z.packR], hS⟩
    · refine Sh.again (l.length - (q + 1)) [(13, .int .i64 (q + 1 : Nat))] ?_
      have hb' : l[q] = l'[q] := by first | exact hb | omega
      exact ⟨q + 1, rfl, by omega, by rw [List.take_succ_eq_append_getElem hlt, List.take_succ_eq_append_getElem hlt', heq, hb'], rfl, hS⟩
  · repeat' (first|refine VP ?_|refine Sh.la hS ?_|refine Sh.lb ?_|refine Sh.lc ?_|refine Sh.su ?_|(refine Sh.sa hS ?_;clear hS;intro w hS)|((first|refine Sh.aa hS ?_|refine Sh.ab hS ?_|refine Sh.ac hS ?_);clear hS;intro g w hS hge)|refine Sh.ix ?_|refine Sh.up ?_|refine Sh.sl1 ?_|refine Sh.sl2 ?_|refine Sh.sl5 ?_|refine Sh.sl3 ?_|refine Sh.sl4 ?_|refine Sh.eq ?_|refine Sh.ne ?_|refine Sh.ix2 ?_|refine Sh.ix3 ?_|refine Z.bu rfl rfl ?_|refine Z.buA rfl rfl ?_|refine VM ?_|refine Z.pl (R.cap rfl rfl) ?_|refine Z.pl R.mf ?_|refine Z.pl (R.min2 rfl rfl) ?_|refine G1 ?_|refine G2 ?_|refine G3 ?_|refine G4 ?_|with_reducible (first|refine V0 ?_|refine Z.block ?_)|((with_reducible refine Z.blX ?_ ?_);rotate_left;rfl)|refine VT ?_|refine VF ?_|((first|refine GS ?_ ?_|refine VB ?_ ?_)<;>intro hb<;>(try simp only [J1,J2,J3,J4,J5,J6] at hb)<;>(try (exfalso;first|omega|exact hb trivial))))
    first | refine Z.done hS Tryz.results19 (Z.RV.tmp rfl Z.RV.nil) ?_ | refine Z.doneN hS Tryz.results19 (Z.RV.tmp rfl Z.RV.nil) ?_
    have : l = l' := by rw [← List.take_of_length_le (l := l) (i := q) (by omega), ← List.take_of_length_le (l := l') (i := q) (by omega), heq]
    exact ⟨by simp [this, Z.packR], hS⟩
end Go.Proofs.YtmjdkgpckcdndaaGreat
