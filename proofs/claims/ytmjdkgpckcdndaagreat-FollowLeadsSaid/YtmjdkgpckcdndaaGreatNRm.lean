/-
  The walks of Ship, Hear, Acknowledge and Ready of the reference's leader.
-/
import Derived.Test.YtmjdkgpckcdndaaGreatNRl
import Derived.Test.YtmjdkgpckcdndaaGreatNLe
namespace Go.Proofs.YtmjdkgpckcdndaaGreat
open Go.RowKit
set_option linter.unusedSimpArgs false
set_option linter.unusedVariables false
attribute [local irreducible] Res.blk Res.sl Res.all Res.ex Res.pure Res.star


set_option maxHeartbeats 1000000 in
theorem rlready_z (gl : Nat) (L : Ld) (c : Int) (r : World) (F : List Res) (w : World) (hS : Sep r [] (RL gl L :: F) w) (hok : L.ok) :
    Calls Tryz.prog 22 #[.pointer (some ⟨gl, 0, none⟩), .int .i64 c] w fun e w' => e = .returned (.bool (readyL L c)) ∧ Sep r [] (RL gl L :: F) w' := by
  obtain ⟨A, c0, hS⟩ := Sep.RL_open.1 hS
  have hlen := hok.len
  have hlag := hok.lag
  have hak := hok.acked
  refine Z.enter Tryz.func22 Tryz.ntmps22 rfl rfl ?_
  repeat' (first|refine VP ?_|refine Sh.la hS ?_|refine Sh.lb ?_|refine Sh.lc ?_|refine Sh.su ?_|(refine Sh.sa hS ?_;clear hS;intro w hS)|((first|refine Sh.aa hS ?_|refine Sh.ab hS ?_|refine Sh.ac hS ?_);clear hS;intro g w hS hge)|refine Sh.ix ?_|refine Sh.up ?_|refine Sh.sl1 ?_|refine Sh.sl2 ?_|refine Sh.sl5 ?_|refine Sh.sl3 ?_|refine Sh.sl4 ?_|refine Sh.eq ?_|refine Sh.ne ?_|refine Sh.ix2 ?_|refine Sh.ix3 ?_|refine Z.bu rfl rfl ?_|refine Z.buA rfl rfl ?_|refine VM ?_|refine Z.pl (R.cap rfl rfl) ?_|refine Z.pl R.mf ?_|refine Z.pl (R.min2 rfl rfl) ?_|refine G1 ?_|refine G2 ?_|refine G3 ?_|refine G4 ?_|with_reducible (first|refine V0 ?_|refine Z.block ?_)|((with_reducible refine Z.blX ?_ ?_);rotate_left;rfl)|refine VT ?_|refine VF ?_|((first|refine GS ?_ ?_|refine VB ?_ ?_)<;>intro hb<;>(try simp only [J1,J2,J3,J4,J5,J6] at hb)<;>(try (exfalso;first|omega|exact hb trivial))))
  refine Z.eff (Z.cl (rlat_z gl _ _ _ _ L.l c _ _ _ hS (Reads.of_at (e := 90) (v := .slice A L.l.length c0) (by repeat (first | exact At.here | apply At.next))) (by omega)) rfl ?_) rfl
  clear hS
  rintro e w ⟨rfl, hS⟩
  refine ⟨_, rfl, ?_⟩
  unfold readyL
  cases hx : sdAt L.l c with
  | none =>
    rw [atI_none hx]
    repeat' (first|refine VP ?_|refine Sh.la hS ?_|refine Sh.lb ?_|refine Sh.lc ?_|refine Sh.su ?_|(refine Sh.sa hS ?_;clear hS;intro w hS)|((first|refine Sh.aa hS ?_|refine Sh.ab hS ?_|refine Sh.ac hS ?_);clear hS;intro g w hS hge)|refine Sh.ix ?_|refine Sh.up ?_|refine Sh.sl1 ?_|refine Sh.sl2 ?_|refine Sh.sl5 ?_|refine Sh.sl3 ?_|refine Sh.sl4 ?_|refine Sh.eq ?_|refine Sh.ne ?_|refine Sh.ix2 ?_|refine Sh.ix3 ?_|refine Z.bu rfl rfl ?_|refine Z.buA rfl rfl ?_|refine VM ?_|refine Z.pl (R.cap rfl rfl) ?_|refine Z.pl R.mf ?_|refine Z.pl (R.min2 rfl rfl) ?_|refine G1 ?_|refine G2 ?_|refine G3 ?_|refine G4 ?_|with_reducible (first|refine V0 ?_|refine Z.block ?_)|((with_reducible refine Z.blX ?_ ?_);rotate_left;rfl)|refine VT ?_|refine VF ?_|((first|refine GS ?_ ?_|refine VB ?_ ?_)<;>intro hb<;>(try simp only [J1,J2,J3,J4,J5,J6] at hb)<;>(try (exfalso;first|omega|exact hb trivial))))
    refine D.startS hS 40 40 (by kernel_rfl) rfl ?_
    replace hS := hS.drew
    refine Sh.dp 0 1 ?_
    refine Sh.dp 1 3 ?_
    refine Sh.dp 2 7 ?_
    refine D.slot 11 rfl (fun hb => by exfalso; (try simp only [decide_eq_true_eq, decide_eq_false_iff_not, Bool.not_eq_true', Bool.not_eq_false', Int.not_lt, Int.not_le] at hb) <;> first | omega | exact hb trivial | cases hb) (fun hb => ?_)
    (try simp only [decide_eq_true_eq, decide_eq_false_iff_not, Bool.not_eq_true', Bool.not_eq_false', Int.not_lt, Int.not_le] at hb)
    refine D.skF 3 15 rfl (by kernel_rfl) rfl rfl ?_
    refine D.skF 4 31 rfl (by kernel_rfl) rfl rfl ?_
    refine D.skF 5 63 rfl (by kernel_rfl) rfl rfl ?_
    refine D.skF 6 127 rfl (by kernel_rfl) rfl rfl ?_
    refine D.skF 7 255 rfl (by kernel_rfl) rfl rfl ?_
    refine D.skF 8 511 rfl (by kernel_rfl) rfl rfl ?_
    refine D.skF 9 1023 rfl (by kernel_rfl) rfl rfl ?_
    refine D.skF 10 2047 rfl (by kernel_rfl) rfl rfl ?_
    refine Sh.dp 11 4095 ?_
    refine Sh.dp 12 8191 ?_
    refine D.skF 13 16383 rfl (by kernel_rfl) rfl rfl ?_
    refine D.skF 14 32767 rfl (by kernel_rfl) rfl rfl ?_
    refine D.skF 15 65535 rfl (by kernel_rfl) rfl rfl ?_
    refine D.skF 16 131071 rfl (by kernel_rfl) rfl rfl ?_
    refine D.skF 17 262143 rfl (by kernel_rfl) rfl rfl ?_
    refine D.skF 18 524287 rfl (by kernel_rfl) rfl rfl ?_
    refine D.skU 19 1048575 rfl (by kernel_rfl) rfl rfl ?_
    refine D.skU 20 2097151 rfl (by kernel_rfl) rfl rfl ?_
    refine D.skU 21 4194303 rfl (by kernel_rfl) rfl rfl ?_
    refine D.skU 22 8388607 rfl (by kernel_rfl) rfl rfl ?_
    refine D.skU 23 16777215 rfl (by kernel_rfl) rfl rfl ?_
    refine D.skU 24 33554431 rfl (by kernel_rfl) rfl rfl ?_
    refine D.skU 25 67108863 rfl (by kernel_rfl) rfl rfl ?_
    refine D.skU 26 134217727 rfl (by kernel_rfl) rfl rfl ?_
    refine D.skU 27 268435455 rfl (by kernel_rfl) rfl rfl ?_
    refine D.skU 28 536870911 rfl (by kernel_rfl) rfl rfl ?_
    refine D.skU 29 1073741823 rfl (by kernel_rfl) rfl rfl ?_
    refine D.skU 30 2147483647 rfl (by kernel_rfl) rfl rfl ?_
    refine D.skU 31 4294967295 rfl (by kernel_rfl) rfl rfl ?_
    refine D.skU 32 8589934591 rfl (by kernel_rfl) rfl rfl ?_
    refine D.skU 33 17179869183 rfl (by kernel_rfl) rfl rfl ?_
    refine D.skU 34 34359738367 rfl (by kernel_rfl) rfl rfl ?_
    refine D.skU 35 68719476735 rfl (by kernel_rfl) rfl rfl ?_
    refine D.skU 36 137438953471 rfl (by kernel_rfl) rfl rfl ?_
    refine D.skF 37 274877906943 rfl (by kernel_rfl) rfl rfl ?_
    refine Sh.dp 38 549755813887 ?_
    refine Sh.dp 39 1099511627775 ?_
    refine D.done (by kernel_rfl) ?_
    repeat' (first|refine VP ?_|refine Sh.la hS ?_|refine Sh.lb ?_|refine Sh.lc ?_|refine Sh.su ?_|(refine Sh.sa hS ?_;clear hS;intro w hS)|((first|refine Sh.aa hS ?_|refine Sh.ab hS ?_|refine Sh.ac hS ?_);clear hS;intro g w hS hge)|refine Sh.ix ?_|refine Sh.up ?_|refine Sh.sl1 ?_|refine Sh.sl2 ?_|refine Sh.sl5 ?_|refine Sh.sl3 ?_|refine Sh.sl4 ?_|refine Sh.eq ?_|refine Sh.ne ?_|refine Sh.ix2 ?_|refine Sh.ix3 ?_|refine Z.bu rfl rfl ?_|refine Z.buA rfl rfl ?_|refine VM ?_|refine Z.pl (R.cap rfl rfl) ?_|refine Z.pl R.mf ?_|refine Z.pl (R.min2 rfl rfl) ?_|refine G1 ?_|refine G2 ?_|refine G3 ?_|refine G4 ?_|with_reducible (first|refine V0 ?_|refine Z.block ?_)|((with_reducible refine Z.blX ?_ ?_);rotate_left;rfl)|refine VT ?_|refine VF ?_|((first|refine GS ?_ ?_|refine VB ?_ ?_)<;>intro hb<;>(try simp only [J1,J2,J3,J4,J5,J6] at hb)<;>(try (exfalso;first|omega|exact hb trivial))))
    first | refine Z.done hS Tryz.results22 (Z.RV.tmp rfl Z.RV.nil) ?_ | refine Z.doneN hS Tryz.results22 (Z.RV.tmp rfl Z.RV.nil) ?_
    exact ⟨rfl, Sep.RL_open.2 ⟨A, c0, hS⟩⟩
  | some x =>
    obtain ⟨hi, h1, _⟩ := sdAt_some hx
    rw [atI_some hx]
    obtain ⟨gb, o, rfl, _, _⟩ := (hS.slrows (e := 90) (v := .slice A L.l.length c0) (by repeat (first | exact At.here | apply At.next))).mat (by omega) hi
    repeat' (first|refine VP ?_|refine Sh.la hS ?_|refine Sh.lb ?_|refine Sh.lc ?_|refine Sh.su ?_|(refine Sh.sa hS ?_;clear hS;intro w hS)|((first|refine Sh.aa hS ?_|refine Sh.ab hS ?_|refine Sh.ac hS ?_);clear hS;intro g w hS hge)|refine Sh.ix ?_|refine Sh.up ?_|refine Sh.sl1 ?_|refine Sh.sl2 ?_|refine Sh.sl5 ?_|refine Sh.sl3 ?_|refine Sh.sl4 ?_|refine Sh.eq ?_|refine Sh.ne ?_|refine Sh.ix2 ?_|refine Sh.ix3 ?_|refine Z.bu rfl rfl ?_|refine Z.buA rfl rfl ?_|refine VM ?_|refine Z.pl (R.cap rfl rfl) ?_|refine Z.pl R.mf ?_|refine Z.pl (R.min2 rfl rfl) ?_|refine G1 ?_|refine G2 ?_|refine G3 ?_|refine G4 ?_|with_reducible (first|refine V0 ?_|refine Z.block ?_)|((with_reducible refine Z.blX ?_ ?_);rotate_left;rfl)|refine VT ?_|refine VF ?_|((first|refine GS ?_ ?_|refine VB ?_ ?_)<;>intro hb<;>(try simp only [J1,J2,J3,J4,J5,J6] at hb)<;>(try (exfalso;first|omega|exact hb trivial))))
    refine D.startS hS 40 40 (by kernel_rfl) rfl ?_
    replace hS := hS.drew
    refine Sh.dp 0 1 ?_
    refine Sh.dp 1 3 ?_
    refine Sh.dp 2 7 ?_
    refine D.slot 11 rfl (fun hb => ?_) (fun hb => by exfalso; (try simp only [decide_eq_true_eq, decide_eq_false_iff_not, Bool.not_eq_true', Bool.not_eq_false', Int.not_lt, Int.not_le] at hb) <;> first | omega | exact hb trivial | cases hb)
    (try simp only [decide_eq_true_eq, decide_eq_false_iff_not, Bool.not_eq_true', Bool.not_eq_false', Int.not_lt, Int.not_le] at hb)
    refine Sh.dp 3 15 ?_
    refine Sh.dp 4 31 ?_
    refine Sh.dp 5 63 ?_
    refine Sh.dp 7 191 ?_
    refine Sh.dl 6 255 ?_
    first | refine D.ixn 8 511 rfl (D.wantedT rfl rfl) (by kernel_rfl) rfl rfl rfl (by omega) ?_ | refine D.ix 8 511 rfl (D.wantedT rfl rfl) (by kernel_rfl) rfl rfl rfl (by omega) ?_ | refine D.ia 8 511 rfl (D.wantedT rfl rfl) (by kernel_rfl) rfl rfl rfl (by omega) ?_
    refine Sh.dp 9 1023 ?_
    refine D.ldE 10 2047 rfl (D.wantedT rfl rfl) (by kernel_rfl) rfl (fun W h => (h.slrows (e := 90) (v := .slice _ L.l.length c0) (by repeat (first | exact At.here | apply At.next))).elem (by omega) hi) rfl ?_
    refine Sh.dp 11 4095 ?_
    refine Sh.dp 12 8191 ?_
    refine D.slot 21 rfl (fun hb => ?_) (fun hb => ?_)
    · (try simp only [decide_eq_true_eq, decide_eq_false_iff_not, Bool.not_eq_true', Bool.not_eq_false', Int.not_lt, Int.not_le] at hb)
      refine Sh.dp 13 16383 ?_
      refine Sh.dp 14 32767 ?_
      refine Sh.dp 15 65535 ?_
      refine Sh.dl 16 131071 ?_
      refine Sh.dp 17 262143 ?_
      refine Sh.dp 18 524287 ?_
      refine D.slot 27 rfl (fun hb => ?_) (fun hb => ?_)
      · (try simp only [decide_eq_true_eq, decide_eq_false_iff_not, Bool.not_eq_true', Bool.not_eq_false', Int.not_lt, Int.not_le] at hb)
        refine D.skF 19 1048575 rfl (by kernel_rfl) rfl rfl ?_
        refine D.skF 20 2097151 rfl (by kernel_rfl) rfl rfl ?_
        refine D.skF 21 4194303 rfl (by kernel_rfl) rfl rfl ?_
        refine D.skF 22 8388607 rfl (by kernel_rfl) rfl rfl ?_
        refine D.skF 23 16777215 rfl (by kernel_rfl) rfl rfl ?_
        refine D.skF 24 33554431 rfl (by kernel_rfl) rfl rfl ?_
        refine D.skF 25 67108863 rfl (by kernel_rfl) rfl rfl ?_
        refine D.skF 26 134217727 rfl (by kernel_rfl) rfl rfl ?_
        refine D.skF 27 268435455 rfl (by kernel_rfl) rfl rfl ?_
        refine D.skF 28 536870911 rfl (by kernel_rfl) rfl rfl ?_
        refine D.skF 29 1073741823 rfl (by kernel_rfl) rfl rfl ?_
        refine D.skF 30 2147483647 rfl (by kernel_rfl) rfl rfl ?_
        refine D.skF 31 4294967295 rfl (by kernel_rfl) rfl rfl ?_
        refine D.skF 32 8589934591 rfl (by kernel_rfl) rfl rfl ?_
        refine D.skF 33 17179869183 rfl (by kernel_rfl) rfl rfl ?_
        refine D.skF 34 34359738367 rfl (by kernel_rfl) rfl rfl ?_
        refine D.skF 35 68719476735 rfl (by kernel_rfl) rfl rfl ?_
        refine D.skF 36 137438953471 rfl (by kernel_rfl) rfl rfl ?_
        refine Sh.dp 37 274877906943 ?_
        refine Sh.dp 38 549755813887 ?_
        refine Sh.dp 39 1099511627775 ?_
        refine D.done (by kernel_rfl) ?_
        repeat' (first|refine VP ?_|refine Sh.la hS ?_|refine Sh.lb ?_|refine Sh.lc ?_|refine Sh.su ?_|(refine Sh.sa hS ?_;clear hS;intro w hS)|((first|refine Sh.aa hS ?_|refine Sh.ab hS ?_|refine Sh.ac hS ?_);clear hS;intro g w hS hge)|refine Sh.ix ?_|refine Sh.up ?_|refine Sh.sl1 ?_|refine Sh.sl2 ?_|refine Sh.sl5 ?_|refine Sh.sl3 ?_|refine Sh.sl4 ?_|refine Sh.eq ?_|refine Sh.ne ?_|refine Sh.ix2 ?_|refine Sh.ix3 ?_|refine Z.bu rfl rfl ?_|refine Z.buA rfl rfl ?_|refine VM ?_|refine Z.pl (R.cap rfl rfl) ?_|refine Z.pl R.mf ?_|refine Z.pl (R.min2 rfl rfl) ?_|refine G1 ?_|refine G2 ?_|refine G3 ?_|refine G4 ?_|with_reducible (first|refine V0 ?_|refine Z.block ?_)|((with_reducible refine Z.blX ?_ ?_);rotate_left;rfl)|refine VT ?_|refine VF ?_|((first|refine GS ?_ ?_|refine VB ?_ ?_)<;>intro hb<;>(try simp only [J1,J2,J3,J4,J5,J6] at hb)<;>(try (exfalso;first|omega|exact hb trivial))))
        first | refine Z.done hS Tryz.results22 (Z.RV.tmp rfl Z.RV.nil) ?_ | refine Z.doneN hS Tryz.results22 (Z.RV.tmp rfl Z.RV.nil) ?_
        refine ⟨?_, Sep.RL_open.2 ⟨_, c0, hS.sb⟩⟩
        try rw [h1]
        first
          | (simp_all [Z.packR]; done)
          | (simp_all [Z.packR]; omega)
      · (try simp only [decide_eq_true_eq, decide_eq_false_iff_not, Bool.not_eq_true', Bool.not_eq_false', Int.not_lt, Int.not_le] at hb)
        refine Sh.dp 19 1048575 ?_
        refine Sh.dp 20 2097151 ?_
        refine Sh.dp 21 4194303 ?_
        refine Sh.dp 23 12582911 ?_
        refine Sh.dp 27 146800639 ?_
        refine Sh.dp 28 415236095 ?_
        refine Sh.dp 29 952107007 ?_
        refine Sh.dp 31 3099590655 ?_
        refine Sh.dp 32 7394557951 ?_
        refine Sh.dp 33 15984492543 ?_
        refine Sh.dl 22 15988686847 ?_
        first | refine D.ixn 24 16005464063 rfl (D.wantedT rfl rfl) (by kernel_rfl) rfl rfl rfl (by omega) ?_ | refine D.ix 24 16005464063 rfl (D.wantedT rfl rfl) (by kernel_rfl) rfl rfl rfl (by omega) ?_ | refine D.ia 24 16005464063 rfl (D.wantedT rfl rfl) (by kernel_rfl) rfl rfl rfl (by omega) ?_
        refine Sh.dp 25 16039018495 ?_
        refine D.ldE 26 16106127359 rfl (D.wantedT rfl rfl) (by kernel_rfl) rfl (fun W h => (h.slrows (e := 90) (v := .slice _ L.l.length c0) (by repeat (first | exact At.here | apply At.next))).elem (by omega) hi) rfl ?_
        refine Sh.dl 30 17179869183 ?_
        refine Sh.dl 34 34359738367 ?_
        first | refine D.sum 35 68719476735 rfl (D.wantedT rfl rfl) (by kernel_rfl) rfl (by constructor <;> omega) ?_ | refine D.sumW 35 68719476735 rfl (D.wantedT rfl rfl) (by kernel_rfl) rfl ?_
        refine Sh.dp 36 137438953471 ?_
        refine Sh.dp 37 274877906943 ?_
        refine Sh.dp 38 549755813887 ?_
        refine Sh.dp 39 1099511627775 ?_
        refine D.done (by kernel_rfl) ?_
        repeat' (first|refine VP ?_|refine Sh.la hS ?_|refine Sh.lb ?_|refine Sh.lc ?_|refine Sh.su ?_|(refine Sh.sa hS ?_;clear hS;intro w hS)|((first|refine Sh.aa hS ?_|refine Sh.ab hS ?_|refine Sh.ac hS ?_);clear hS;intro g w hS hge)|refine Sh.ix ?_|refine Sh.up ?_|refine Sh.sl1 ?_|refine Sh.sl2 ?_|refine Sh.sl5 ?_|refine Sh.sl3 ?_|refine Sh.sl4 ?_|refine Sh.eq ?_|refine Sh.ne ?_|refine Sh.ix2 ?_|refine Sh.ix3 ?_|refine Z.bu rfl rfl ?_|refine Z.buA rfl rfl ?_|refine VM ?_|refine Z.pl (R.cap rfl rfl) ?_|refine Z.pl R.mf ?_|refine Z.pl (R.min2 rfl rfl) ?_|refine G1 ?_|refine G2 ?_|refine G3 ?_|refine G4 ?_|with_reducible (first|refine V0 ?_|refine Z.block ?_)|((with_reducible refine Z.blX ?_ ?_);rotate_left;rfl)|refine VT ?_|refine VF ?_|((first|refine GS ?_ ?_|refine VB ?_ ?_)<;>intro hb<;>(try simp only [J1,J2,J3,J4,J5,J6] at hb)<;>(try (exfalso;first|omega|exact hb trivial))))
        first | refine Z.done hS Tryz.results22 (Z.RV.tmp rfl Z.RV.nil) ?_ | refine Z.doneN hS Tryz.results22 (Z.RV.tmp rfl Z.RV.nil) ?_
        refine ⟨?_, Sep.RL_open.2 ⟨_, c0, hS.sb⟩⟩
        try rw [h1]
        first
          | (simp_all [Z.packR]; done)
          | (simp_all [Z.packR]; omega)
    · (try simp only [decide_eq_true_eq, decide_eq_false_iff_not, Bool.not_eq_true', Bool.not_eq_false', Int.not_lt, Int.not_le] at hb)
      refine D.skF 13 16383 rfl (by kernel_rfl) rfl rfl ?_
      refine D.skF 14 32767 rfl (by kernel_rfl) rfl rfl ?_
      refine D.skF 15 65535 rfl (by kernel_rfl) rfl rfl ?_
      refine D.skF 16 131071 rfl (by kernel_rfl) rfl rfl ?_
      refine D.skF 17 262143 rfl (by kernel_rfl) rfl rfl ?_
      refine D.skF 18 524287 rfl (by kernel_rfl) rfl rfl ?_
      refine D.skU 19 1048575 rfl (by kernel_rfl) rfl rfl ?_
      refine D.skU 20 2097151 rfl (by kernel_rfl) rfl rfl ?_
      refine D.skU 21 4194303 rfl (by kernel_rfl) rfl rfl ?_
      refine D.skU 22 8388607 rfl (by kernel_rfl) rfl rfl ?_
      refine D.skU 23 16777215 rfl (by kernel_rfl) rfl rfl ?_
      refine D.skU 24 33554431 rfl (by kernel_rfl) rfl rfl ?_
      refine D.skU 25 67108863 rfl (by kernel_rfl) rfl rfl ?_
      refine D.skU 26 134217727 rfl (by kernel_rfl) rfl rfl ?_
      refine D.skU 27 268435455 rfl (by kernel_rfl) rfl rfl ?_
      refine D.skU 28 536870911 rfl (by kernel_rfl) rfl rfl ?_
      refine D.skU 29 1073741823 rfl (by kernel_rfl) rfl rfl ?_
      refine D.skU 30 2147483647 rfl (by kernel_rfl) rfl rfl ?_
      refine D.skU 31 4294967295 rfl (by kernel_rfl) rfl rfl ?_
      refine D.skU 32 8589934591 rfl (by kernel_rfl) rfl rfl ?_
      refine D.skU 33 17179869183 rfl (by kernel_rfl) rfl rfl ?_
      refine D.skU 34 34359738367 rfl (by kernel_rfl) rfl rfl ?_
      refine D.skU 35 68719476735 rfl (by kernel_rfl) rfl rfl ?_
      refine D.skU 36 137438953471 rfl (by kernel_rfl) rfl rfl ?_
      refine D.skF 37 274877906943 rfl (by kernel_rfl) rfl rfl ?_
      refine Sh.dp 38 549755813887 ?_
      refine Sh.dp 39 1099511627775 ?_
      refine D.done (by kernel_rfl) ?_
      repeat' (first|refine VP ?_|refine Sh.la hS ?_|refine Sh.lb ?_|refine Sh.lc ?_|refine Sh.su ?_|(refine Sh.sa hS ?_;clear hS;intro w hS)|((first|refine Sh.aa hS ?_|refine Sh.ab hS ?_|refine Sh.ac hS ?_);clear hS;intro g w hS hge)|refine Sh.ix ?_|refine Sh.up ?_|refine Sh.sl1 ?_|refine Sh.sl2 ?_|refine Sh.sl5 ?_|refine Sh.sl3 ?_|refine Sh.sl4 ?_|refine Sh.eq ?_|refine Sh.ne ?_|refine Sh.ix2 ?_|refine Sh.ix3 ?_|refine Z.bu rfl rfl ?_|refine Z.buA rfl rfl ?_|refine VM ?_|refine Z.pl (R.cap rfl rfl) ?_|refine Z.pl R.mf ?_|refine Z.pl (R.min2 rfl rfl) ?_|refine G1 ?_|refine G2 ?_|refine G3 ?_|refine G4 ?_|with_reducible (first|refine V0 ?_|refine Z.block ?_)|((with_reducible refine Z.blX ?_ ?_);rotate_left;rfl)|refine VT ?_|refine VF ?_|((first|refine GS ?_ ?_|refine VB ?_ ?_)<;>intro hb<;>(try simp only [J1,J2,J3,J4,J5,J6] at hb)<;>(try (exfalso;first|omega|exact hb trivial))))
      first | refine Z.done hS Tryz.results22 (Z.RV.tmp rfl Z.RV.nil) ?_ | refine Z.doneN hS Tryz.results22 (Z.RV.tmp rfl Z.RV.nil) ?_
      refine ⟨?_, Sep.RL_open.2 ⟨_, c0, hS.sb⟩⟩
      try rw [h1]
      first
        | (simp_all [Z.packR]; done)
        | (simp_all [Z.packR]; omega)

set_option maxHeartbeats 2000000 in
theorem rlhear_z (gl : Nat) (L : Ld) (c : Int) (m : He) (r : World) (F : List Res) (w : World) (hS : Sep r [] (RL gl L :: F) w) (hok : L.ok) :
    Calls Tryz.prog 42 #[.pointer (some ⟨gl, 0, none⟩), .int .i64 c, m.val] w fun e w' => e = .returned (.bool (hearL L c m).2) ∧ Sep r [] (RL gl (hearL L c m).1 :: F) w' := by
  obtain ⟨A, c0, hS⟩ := Sep.RL_open.1 hS
  have hlen := hok.len
  unfold hearL
  refine Z.enter Tryz.func42 Tryz.ntmps42 rfl rfl ?_
  repeat' (first|refine VP ?_|refine Sh.la hS ?_|refine Sh.lb ?_|refine Sh.lc ?_|refine Sh.su ?_|(refine Sh.sa hS ?_;clear hS;intro w hS)|((first|refine Sh.aa hS ?_|refine Sh.ab hS ?_|refine Sh.ac hS ?_);clear hS;intro g w hS hge)|refine Sh.ix ?_|refine Sh.up ?_|refine Sh.sl1 ?_|refine Sh.sl2 ?_|refine Sh.sl5 ?_|refine Sh.sl3 ?_|refine Sh.sl4 ?_|refine Sh.eq ?_|refine Sh.ne ?_|refine Sh.ix2 ?_|refine Sh.ix3 ?_|refine Z.bu rfl rfl ?_|refine Z.buA rfl rfl ?_|refine VM ?_|refine Z.pl (R.cap rfl rfl) ?_|refine Z.pl R.mf ?_|refine Z.pl (R.min2 rfl rfl) ?_|refine G1 ?_|refine G2 ?_|refine G3 ?_|refine G4 ?_|with_reducible (first|refine V0 ?_|refine Z.block ?_)|((with_reducible refine Z.blX ?_ ?_);rotate_left;rfl)|refine VT ?_|refine VF ?_|((first|refine GS ?_ ?_|refine VB ?_ ?_)<;>intro hb<;>(try simp only [J1,J2,J3,J4,J5,J6] at hb)<;>(try (exfalso;first|omega|exact hb trivial))))
  rename Nat => gm
  replace hS := hS.fo (R := .blk gl _ _)
  refine Z.eff (Z.cl (rlat_z gl _ _ _ _ L.l c _ _ _ hS (Reads.of_at (e := 90) (v := .slice A L.l.length c0) (by repeat (first | exact At.here | apply At.next))) (by omega)) rfl ?_) rfl
  clear hS
  rintro e w ⟨rfl, hS⟩
  refine ⟨_, rfl, ?_⟩
  cases hx : sdAt L.l c with
  | none =>
    rw [atI_none hx]
    repeat' (first|refine VP ?_|refine Sh.la hS ?_|refine Sh.lb ?_|refine Sh.lc ?_|refine Sh.su ?_|(refine Sh.sa hS ?_;clear hS;intro w hS)|((first|refine Sh.aa hS ?_|refine Sh.ab hS ?_|refine Sh.ac hS ?_);clear hS;intro g w hS hge)|refine Sh.ix ?_|refine Sh.up ?_|refine Sh.sl1 ?_|refine Sh.sl2 ?_|refine Sh.sl5 ?_|refine Sh.sl3 ?_|refine Sh.sl4 ?_|refine Sh.eq ?_|refine Sh.ne ?_|refine Sh.ix2 ?_|refine Sh.ix3 ?_|refine Z.bu rfl rfl ?_|refine Z.buA rfl rfl ?_|refine VM ?_|refine Z.pl (R.cap rfl rfl) ?_|refine Z.pl R.mf ?_|refine Z.pl (R.min2 rfl rfl) ?_|refine G1 ?_|refine G2 ?_|refine G3 ?_|refine G4 ?_|with_reducible (first|refine V0 ?_|refine Z.block ?_)|((with_reducible refine Z.blX ?_ ?_);rotate_left;rfl)|refine VT ?_|refine VF ?_|((first|refine GS ?_ ?_|refine VB ?_ ?_)<;>intro hb<;>(try simp only [J1,J2,J3,J4,J5,J6] at hb)<;>(try (exfalso;first|omega|exact hb trivial))))
    refine D.startS hS 21 21 (by kernel_rfl) rfl ?_
    replace hS := hS.drew
    refine Sh.dp 0 1 ?_
    refine Sh.dp 1 3 ?_
    refine Sh.dp 2 7 ?_
    refine D.slot 14 rfl (fun hb => ?_) (fun hb => by exfalso; (try simp only [decide_eq_true_eq, decide_eq_false_iff_not, Bool.not_eq_true', Bool.not_eq_false', Int.not_lt, Int.not_le] at hb) <;> first | omega | exact hb trivial | cases hb)
    (try simp only [decide_eq_true_eq, decide_eq_false_iff_not, Bool.not_eq_true', Bool.not_eq_false', Int.not_lt, Int.not_le] at hb)
    refine D.skF 3 15 rfl (by kernel_rfl) rfl rfl ?_
    refine D.skF 4 31 rfl (by kernel_rfl) rfl rfl ?_
    refine D.skF 5 63 rfl (by kernel_rfl) rfl rfl ?_
    refine D.skF 6 127 rfl (by kernel_rfl) rfl rfl ?_
    refine D.skF 7 255 rfl (by kernel_rfl) rfl rfl ?_
    refine D.skF 8 511 rfl (by kernel_rfl) rfl rfl ?_
    refine D.skF 9 1023 rfl (by kernel_rfl) rfl rfl ?_
    refine Sh.dp 10 2047 ?_
    refine Sh.dp 11 4095 ?_
    refine D.skF 12 8191 rfl (by kernel_rfl) rfl rfl ?_
    refine D.skF 13 16383 rfl (by kernel_rfl) rfl rfl ?_
    refine D.skF 14 32767 rfl (by kernel_rfl) rfl rfl ?_
    refine Sh.dp 15 65535 ?_
    refine Sh.dp 16 131071 ?_
    refine D.skF 17 262143 rfl (by kernel_rfl) rfl rfl ?_
    refine D.skF 18 524287 rfl (by kernel_rfl) rfl rfl ?_
    refine D.skF 19 1048575 rfl (by kernel_rfl) rfl rfl ?_
    refine Sh.dp 20 2097151 ?_
    refine D.done (by kernel_rfl) ?_
    repeat' (first|refine VP ?_|refine Sh.la hS ?_|refine Sh.lb ?_|refine Sh.lc ?_|refine Sh.su ?_|(refine Sh.sa hS ?_;clear hS;intro w hS)|((first|refine Sh.aa hS ?_|refine Sh.ab hS ?_|refine Sh.ac hS ?_);clear hS;intro g w hS hge)|refine Sh.ix ?_|refine Sh.up ?_|refine Sh.sl1 ?_|refine Sh.sl2 ?_|refine Sh.sl5 ?_|refine Sh.sl3 ?_|refine Sh.sl4 ?_|refine Sh.eq ?_|refine Sh.ne ?_|refine Sh.ix2 ?_|refine Sh.ix3 ?_|refine Z.bu rfl rfl ?_|refine Z.buA rfl rfl ?_|refine VM ?_|refine Z.pl (R.cap rfl rfl) ?_|refine Z.pl R.mf ?_|refine Z.pl (R.min2 rfl rfl) ?_|refine G1 ?_|refine G2 ?_|refine G3 ?_|refine G4 ?_|with_reducible (first|refine V0 ?_|refine Z.block ?_)|((with_reducible refine Z.blX ?_ ?_);rotate_left;rfl)|refine VT ?_|refine VF ?_|((first|refine GS ?_ ?_|refine VB ?_ ?_)<;>intro hb<;>(try simp only [J1,J2,J3,J4,J5,J6] at hb)<;>(try (exfalso;first|omega|exact hb trivial))))
    first | refine Z.done hS Tryz.results42 (Z.RV.tmp rfl Z.RV.nil) ?_ | refine Z.doneN hS Tryz.results42 (Z.RV.tmp rfl Z.RV.nil) ?_
    exact ⟨rfl, Sep.RL_open.2 ⟨A, c0, hS.sb⟩⟩
  | some x =>
    obtain ⟨hi, h1, hc⟩ := sdAt_some hx
    rw [atI_some hx]
    obtain ⟨g, rfl⟩ := Z.Sep_slform hS (e := 90) (sz := 4) (c := c0) (A := A) (rows := L.l.map Sd.rc) (n0 := L.l.length) (by repeat (first | exact At.here | apply At.next)) (by rw [List.length_map]; omega)
    repeat' (first|refine VP ?_|refine Sh.la hS ?_|refine Sh.lb ?_|refine Sh.lc ?_|refine Sh.su ?_|(refine Sh.sa hS ?_;clear hS;intro w hS)|((first|refine Sh.aa hS ?_|refine Sh.ab hS ?_|refine Sh.ac hS ?_);clear hS;intro g w hS hge)|refine Sh.ix ?_|refine Sh.up ?_|refine Sh.sl1 ?_|refine Sh.sl2 ?_|refine Sh.sl5 ?_|refine Sh.sl3 ?_|refine Sh.sl4 ?_|refine Sh.eq ?_|refine Sh.ne ?_|refine Sh.ix2 ?_|refine Sh.ix3 ?_|refine Z.bu rfl rfl ?_|refine Z.buA rfl rfl ?_|refine VM ?_|refine Z.pl (R.cap rfl rfl) ?_|refine Z.pl R.mf ?_|refine Z.pl (R.min2 rfl rfl) ?_|refine G1 ?_|refine G2 ?_|refine G3 ?_|refine G4 ?_|with_reducible (first|refine V0 ?_|refine Z.block ?_)|((with_reducible refine Z.blX ?_ ?_);rotate_left;rfl)|refine VT ?_|refine VF ?_|((first|refine GS ?_ ?_|refine VB ?_ ?_)<;>intro hb<;>(try simp only [J1,J2,J3,J4,J5,J6] at hb)<;>(try (exfalso;first|omega|exact hb trivial))))
    refine Z.cut [12, 13, 14, 15, 16, 17, 18, 19, 20, 21, 22, 23, 24, 25, 26, 27, 28, 29, 30, 31, 32] (fun w s => s = [(32, .bool (decide (m.ep ≠ L.ep ∨ m.applied < 0 ∨ 4096 < m.applied)))] ∧ Sep r [] (.blk gl 50 [.int .i64 L.ep, .int .i64 L.lag, .int .i64 L.acked, .slice (some ⟨g, 0, none⟩) L.l.length c0] :: .sl 90 4 (.slice (some ⟨g, 0, none⟩) L.l.length c0) (L.l.map Sd.rc) :: .blk gm 43 m.cells :: F) w) ?_ ?_
    · refine D.startS hS 21 21 (by kernel_rfl) rfl ?_
      replace hS := hS.drew
      refine Sh.dp 0 1 ?_
      refine Sh.dp 1 3 ?_
      refine Sh.dp 2 7 ?_
      refine D.slot 14 rfl (fun hb => by exfalso; (try simp only [decide_eq_true_eq, decide_eq_false_iff_not, Bool.not_eq_true', Bool.not_eq_false', Int.not_lt, Int.not_le] at hb) <;> first | omega | exact hb trivial | cases hb) (fun hb => ?_)
      (try simp only [decide_eq_true_eq, decide_eq_false_iff_not, Bool.not_eq_true', Bool.not_eq_false', Int.not_lt, Int.not_le] at hb)
      refine Sh.dp 3 15 ?_
      refine Sh.dp 5 47 ?_
      refine Sh.dp 6 111 ?_
      refine Sh.dp 7 239 ?_
      refine Sh.dl 4 255 ?_
      refine Sh.dl 8 511 ?_
      first | refine D.pr 9 1023 rfl (D.wantedT rfl rfl) (by kernel_rfl) rfl ?_ | refine D.pl 9 1023 rfl (D.wantedT rfl rfl) (by kernel_rfl) (R.nea rfl rfl rfl rfl) ?_
      refine Sh.dp 10 2047 ?_
      refine Sh.dp 11 4095 ?_
      refine D.slot 23 rfl (fun hb => ?_) (fun hb => ?_)
      · (try simp only [decide_eq_true_eq, decide_eq_false_iff_not, Bool.not_eq_true', Bool.not_eq_false', Int.not_lt, Int.not_le] at hb)
        refine D.skF 12 8191 rfl (by kernel_rfl) rfl rfl ?_
        refine D.skF 13 16383 rfl (by kernel_rfl) rfl rfl ?_
        refine D.skF 14 32767 rfl (by kernel_rfl) rfl rfl ?_
        refine Sh.dp 15 65535 ?_
        refine Sh.dp 16 131071 ?_
        refine D.skF 17 262143 rfl (by kernel_rfl) rfl rfl ?_
        refine D.skF 18 524287 rfl (by kernel_rfl) rfl rfl ?_
        refine D.skF 19 1048575 rfl (by kernel_rfl) rfl rfl ?_
        refine Sh.dp 20 2097151 ?_
        refine D.done (by kernel_rfl) ?_
        refine Sh.cut [(32, _)] ?_
        refine ⟨?_, hS.sb⟩
        first
          | (simp_all; done)
          | (simp_all; omega)
      · (try simp only [decide_eq_true_eq, decide_eq_false_iff_not, Bool.not_eq_true', Bool.not_eq_false', Int.not_lt, Int.not_le] at hb)
        refine Sh.dp 12 8191 ?_
        refine Sh.dl 13 16383 ?_
        refine Sh.dp 14 32767 ?_
        refine Sh.dp 15 65535 ?_
        refine Sh.dp 16 131071 ?_
        refine D.slot 28 rfl (fun hb => ?_) (fun hb => ?_)
        · (try simp only [decide_eq_true_eq, decide_eq_false_iff_not, Bool.not_eq_true', Bool.not_eq_false', Int.not_lt, Int.not_le] at hb)
          refine D.skF 17 262143 rfl (by kernel_rfl) rfl rfl ?_
          refine D.skF 18 524287 rfl (by kernel_rfl) rfl rfl ?_
          refine D.skF 19 1048575 rfl (by kernel_rfl) rfl rfl ?_
          refine Sh.dp 20 2097151 ?_
          refine D.done (by kernel_rfl) ?_
          refine Sh.cut [(32, _)] ?_
          refine ⟨?_, hS.sb⟩
          first
            | (simp_all; done)
            | (simp_all; omega)
        · (try simp only [decide_eq_true_eq, decide_eq_false_iff_not, Bool.not_eq_true', Bool.not_eq_false', Int.not_lt, Int.not_le] at hb)
          refine Sh.dp 17 262143 ?_
          refine Sh.dl 18 524287 ?_
          refine Sh.dp 19 1048575 ?_
          refine Sh.dp 20 2097151 ?_
          refine D.done (by kernel_rfl) ?_
          refine Sh.cut [(32, _)] ?_
          refine ⟨?_, hS.sb⟩
          first
            | (simp_all; done)
            | (simp_all; omega)
    clear hS
    rintro g0 w _ ⟨rfl, hS⟩
    repeat' (first|refine VP ?_|refine Sh.la hS ?_|refine Sh.lb ?_|refine Sh.lc ?_|refine Sh.su ?_|(refine Sh.sa hS ?_;clear hS;intro w hS)|((first|refine Sh.aa hS ?_|refine Sh.ab hS ?_|refine Sh.ac hS ?_);clear hS;intro g w hS hge)|refine Sh.ix ?_|refine Sh.up ?_|refine Sh.sl1 ?_|refine Sh.sl2 ?_|refine Sh.sl5 ?_|refine Sh.sl3 ?_|refine Sh.sl4 ?_|refine Sh.eq ?_|refine Sh.ne ?_|refine Sh.ix2 ?_|refine Sh.ix3 ?_|refine Z.bu rfl rfl ?_|refine Z.buA rfl rfl ?_|refine VM ?_|refine Z.pl (R.cap rfl rfl) ?_|refine Z.pl R.mf ?_|refine Z.pl (R.min2 rfl rfl) ?_|refine G1 ?_|refine G2 ?_|refine G3 ?_|refine G4 ?_|with_reducible (first|refine V0 ?_|refine Z.block ?_)|((with_reducible refine Z.blX ?_ ?_);rotate_left;rfl)|refine VT ?_|refine VF ?_|((first|refine GS ?_ ?_|refine VB ?_ ?_)<;>intro hb<;>(try simp only [J1,J2,J3,J4,J5,J6] at hb)<;>(try (exfalso;first|omega|exact hb trivial))))
    · first | refine Z.done hS Tryz.results42 (Z.RV.tmp rfl Z.RV.nil) ?_ | refine Z.doneN hS Tryz.results42 (Z.RV.tmp rfl Z.RV.nil) ?_
      dsimp only
      rw [if_pos hb]
      exact ⟨rfl, Sep.RL_open.2 ⟨_, c0, hS.sb⟩⟩
    · rename ¬ (_ ∨ _) => hno
      have e : hearS x m = ⟨x.cell, max x.applied m.applied, max x.applied m.applied, x.req⟩ := by unfold hearS; rw [if_pos hb]
      refine D.startS (Lr := [.blk gm 43 m.cells, .sl 90 4 (.slice (some ⟨g, 0, none⟩) L.l.length c0) (L.l.map Sd.rc)]) (hS.sb) 10 11 (by kernel_rfl) rfl ?_
      replace hS := hS.drew
      refine Sh.dp 0 1 ?_
      refine Sh.dp 1 3 ?_
      refine Sh.dp 2 7 ?_
      refine Sh.dp 3 15 ?_
      refine Sh.dp 5 47 ?_
      refine D.ldE 4 63 rfl D.wantedN (by kernel_rfl) rfl (fun W h => (h.slrows (e := 90) (v := .slice _ L.l.length c0) (by repeat (first | exact At.here | apply At.next))).elem (by omega) hi) rfl ?_
      refine Sh.dl 6 127 ?_
      refine D.pl 7 255 rfl D.wantedN (by kernel_rfl) (R.max2 rfl rfl) ?_
      refine Sh.dp 8 511 ?_
      refine Sh.dp 9 1023 ?_
      refine D.eff 10 2047 rfl D.wantedN (by kernel_rfl) (by kernel_rfl) (fun _ _ h => h) ?_
      refine Z.stF (j := 1) (⟨x.cell, max x.applied m.applied, x.next, x.req⟩ : Sd) hS rfl (by repeat (first | exact At.here | apply At.next)) hi rfl rfl rfl (by omega) (by rw [h1]; rfl) ?_
      clear hS; intro w hS
      refine ⟨HM.last (by kernel_rfl), ?_⟩
      refine D.done (by kernel_rfl) ?_
      repeat' (first|refine VP ?_|refine Sh.la hS ?_|refine Sh.lb ?_|refine Sh.lc ?_|refine Sh.su ?_|(refine Sh.sa hS ?_;clear hS;intro w hS)|((first|refine Sh.aa hS ?_|refine Sh.ab hS ?_|refine Sh.ac hS ?_);clear hS;intro g w hS hge)|refine Sh.ix ?_|refine Sh.up ?_|refine Sh.sl1 ?_|refine Sh.sl2 ?_|refine Sh.sl5 ?_|refine Sh.sl3 ?_|refine Sh.sl4 ?_|refine Sh.eq ?_|refine Sh.ne ?_|refine Sh.ix2 ?_|refine Sh.ix3 ?_|refine Z.bu rfl rfl ?_|refine Z.buA rfl rfl ?_|refine VM ?_|refine Z.pl (R.cap rfl rfl) ?_|refine Z.pl R.mf ?_|refine Z.pl (R.min2 rfl rfl) ?_|refine G1 ?_|refine G2 ?_|refine G3 ?_|refine G4 ?_|with_reducible (first|refine V0 ?_|refine Z.block ?_)|((with_reducible refine Z.blX ?_ ?_);rotate_left;rfl)|refine VT ?_|refine VF ?_|((first|refine GS ?_ ?_|refine VB ?_ ?_)<;>intro hb<;>(try simp only [J1,J2,J3,J4,J5,J6] at hb)<;>(try (exfalso;first|omega|exact hb trivial))))
      have hi2 : sidx L.l c < (L.l.set (sidx L.l c) (⟨x.cell, max x.applied m.applied, x.next, x.req⟩ : Sd)).length := by rw [List.length_set]; exact hi
      have hel := (hS.slrows (e := 90) (v := .slice (some ⟨g, 0, none⟩) L.l.length c0) (by repeat (first | exact At.here | apply At.next))).elem (by omega) hi2
      rw [List.getElem_set_self] at hel
      refine Z.eff (Z.ldE rfl hel rfl ?_) rfl
      repeat' (first|refine VP ?_|refine Sh.la hS ?_|refine Sh.lb ?_|refine Sh.lc ?_|refine Sh.su ?_|(refine Sh.sa hS ?_;clear hS;intro w hS)|((first|refine Sh.aa hS ?_|refine Sh.ab hS ?_|refine Sh.ac hS ?_);clear hS;intro g w hS hge)|refine Sh.ix ?_|refine Sh.up ?_|refine Sh.sl1 ?_|refine Sh.sl2 ?_|refine Sh.sl5 ?_|refine Sh.sl3 ?_|refine Sh.sl4 ?_|refine Sh.eq ?_|refine Sh.ne ?_|refine Sh.ix2 ?_|refine Sh.ix3 ?_|refine Z.bu rfl rfl ?_|refine Z.buA rfl rfl ?_|refine VM ?_|refine Z.pl (R.cap rfl rfl) ?_|refine Z.pl R.mf ?_|refine Z.pl (R.min2 rfl rfl) ?_|refine G1 ?_|refine G2 ?_|refine G3 ?_|refine G4 ?_|with_reducible (first|refine V0 ?_|refine Z.block ?_)|((with_reducible refine Z.blX ?_ ?_);rotate_left;rfl)|refine VT ?_|refine VF ?_|((first|refine GS ?_ ?_|refine VB ?_ ?_)<;>intro hb<;>(try simp only [J1,J2,J3,J4,J5,J6] at hb)<;>(try (exfalso;first|omega|exact hb trivial))))
      refine Z.eff (Z.stF (j := 2) (⟨x.cell, max x.applied m.applied, max x.applied m.applied, x.req⟩ : Sd) hS rfl (by repeat (first | exact At.here | apply At.next)) hi2 rfl rfl rfl (by omega) (by rw [List.getElem_set_self]; rfl) ?_) rfl
      clear hS hel; intro w hS
      rw [List.set_set] at hS
      repeat' (first|refine VP ?_|refine Sh.la hS ?_|refine Sh.lb ?_|refine Sh.lc ?_|refine Sh.su ?_|(refine Sh.sa hS ?_;clear hS;intro w hS)|((first|refine Sh.aa hS ?_|refine Sh.ab hS ?_|refine Sh.ac hS ?_);clear hS;intro g w hS hge)|refine Sh.ix ?_|refine Sh.up ?_|refine Sh.sl1 ?_|refine Sh.sl2 ?_|refine Sh.sl5 ?_|refine Sh.sl3 ?_|refine Sh.sl4 ?_|refine Sh.eq ?_|refine Sh.ne ?_|refine Sh.ix2 ?_|refine Sh.ix3 ?_|refine Z.bu rfl rfl ?_|refine Z.buA rfl rfl ?_|refine VM ?_|refine Z.pl (R.cap rfl rfl) ?_|refine Z.pl R.mf ?_|refine Z.pl (R.min2 rfl rfl) ?_|refine G1 ?_|refine G2 ?_|refine G3 ?_|refine G4 ?_|with_reducible (first|refine V0 ?_|refine Z.block ?_)|((with_reducible refine Z.blX ?_ ?_);rotate_left;rfl)|refine VT ?_|refine VF ?_|((first|refine GS ?_ ?_|refine VB ?_ ?_)<;>intro hb<;>(try simp only [J1,J2,J3,J4,J5,J6] at hb)<;>(try (exfalso;first|omega|exact hb trivial))))
      first | refine Z.done hS Tryz.results42 (Z.RV.tmp rfl Z.RV.nil) ?_ | refine Z.doneN hS Tryz.results42 (Z.RV.tmp rfl Z.RV.nil) ?_
      dsimp only
      rw [if_neg hno, e]
      refine ⟨rfl, Sep.RL_open.2 ⟨some ⟨g, 0, none⟩, c0, ?_⟩⟩
      simp only [List.length_set]
      exact hS.sb
    · rename ¬ (_ ∨ _) => hno
      have e : hearS x m = ⟨x.cell, x.applied, max (min x.next m.applied) x.applied, x.req⟩ := by unfold hearS; rw [if_neg (by rw [hb]; simp)]
      refine D.startS (Lr := [.blk gm 43 m.cells, .sl 90 4 (.slice (some ⟨g, 0, none⟩) L.l.length c0) (L.l.map Sd.rc)]) (hS.sb) 15 16 (by kernel_rfl) rfl ?_
      replace hS := hS.drew
      refine Sh.dp 0 1 ?_
      refine Sh.dp 1 3 ?_
      refine Sh.dp 2 7 ?_
      refine Sh.dp 3 15 ?_
      refine Sh.dp 5 47 ?_
      refine Sh.dp 6 111 ?_
      refine Sh.dp 7 239 ?_
      refine Sh.dp 9 751 ?_
      refine D.ldE 4 767 rfl D.wantedN (by kernel_rfl) rfl (fun W h => (h.slrows (e := 90) (v := .slice _ L.l.length c0) (by repeat (first | exact At.here | apply At.next))).elem (by omega) hi) rfl ?_
      refine D.ldE 8 1023 rfl D.wantedN (by kernel_rfl) rfl (fun W h => (h.slrows (e := 90) (v := .slice _ L.l.length c0) (by repeat (first | exact At.here | apply At.next))).elem (by omega) hi) rfl ?_
      refine Sh.dl 10 2047 ?_
      refine D.pl 11 4095 rfl D.wantedN (by kernel_rfl) (R.min2 rfl rfl) ?_
      refine D.pl 12 8191 rfl D.wantedN (by kernel_rfl) (R.max2 rfl rfl) ?_
      refine Sh.dp 13 16383 ?_
      refine Sh.dp 14 32767 ?_
      refine D.eff 15 65535 rfl D.wantedN (by kernel_rfl) (by kernel_rfl) (fun _ _ h => h) ?_
      refine Z.stF (j := 2) (⟨x.cell, x.applied, max x.applied (min x.next m.applied), x.req⟩ : Sd) hS rfl (by repeat (first | exact At.here | apply At.next)) hi rfl rfl rfl (by omega) (by rw [h1]; rfl) ?_
      clear hS; intro w hS
      refine ⟨HM.last (by kernel_rfl), ?_⟩
      refine D.done (by kernel_rfl) ?_
      repeat' (first|refine VP ?_|refine Sh.la hS ?_|refine Sh.lb ?_|refine Sh.lc ?_|refine Sh.su ?_|(refine Sh.sa hS ?_;clear hS;intro w hS)|((first|refine Sh.aa hS ?_|refine Sh.ab hS ?_|refine Sh.ac hS ?_);clear hS;intro g w hS hge)|refine Sh.ix ?_|refine Sh.up ?_|refine Sh.sl1 ?_|refine Sh.sl2 ?_|refine Sh.sl5 ?_|refine Sh.sl3 ?_|refine Sh.sl4 ?_|refine Sh.eq ?_|refine Sh.ne ?_|refine Sh.ix2 ?_|refine Sh.ix3 ?_|refine Z.bu rfl rfl ?_|refine Z.buA rfl rfl ?_|refine VM ?_|refine Z.pl (R.cap rfl rfl) ?_|refine Z.pl R.mf ?_|refine Z.pl (R.min2 rfl rfl) ?_|refine G1 ?_|refine G2 ?_|refine G3 ?_|refine G4 ?_|with_reducible (first|refine V0 ?_|refine Z.block ?_)|((with_reducible refine Z.blX ?_ ?_);rotate_left;rfl)|refine VT ?_|refine VF ?_|((first|refine GS ?_ ?_|refine VB ?_ ?_)<;>intro hb<;>(try simp only [J1,J2,J3,J4,J5,J6] at hb)<;>(try (exfalso;first|omega|exact hb trivial))))
      first | refine Z.done hS Tryz.results42 (Z.RV.tmp rfl Z.RV.nil) ?_ | refine Z.doneN hS Tryz.results42 (Z.RV.tmp rfl Z.RV.nil) ?_
      dsimp only
      rw [if_neg hno, e, Int.max_comm]
      refine ⟨rfl, Sep.RL_open.2 ⟨some ⟨g, 0, none⟩, c0, ?_⟩⟩
      simp only [List.length_set]
      exact hS.sb

set_option maxHeartbeats 2000000 in
theorem rlack_z (gl : Nat) (L : Ld) (n : Int) (r : World) (F : List Res) (w : World) (hS : Sep r [] (RL gl L :: F) w) (hok : L.ok) :
    Calls Tryz.prog 43 #[.pointer (some ⟨gl, 0, none⟩), .int .i64 n] w fun e w' => e = .returned (.int .i64 (ackL L n).2) ∧ Sep r [] (RL gl (ackL L n).1 :: F) w' := by
  obtain ⟨A, c0, hS⟩ := Sep.RL_open.1 hS
  have hlag := hok.lag
  have hlen := hok.len
  unfold ackL
  refine Z.enter Tryz.func43 Tryz.ntmps43 rfl rfl ?_
  repeat' (first|refine VP ?_|refine Sh.la hS ?_|refine Sh.lb ?_|refine Sh.lc ?_|refine Sh.su ?_|(refine Sh.sa hS ?_;clear hS;intro w hS)|((first|refine Sh.aa hS ?_|refine Sh.ab hS ?_|refine Sh.ac hS ?_);clear hS;intro g w hS hge)|refine Sh.ix ?_|refine Sh.up ?_|refine Sh.sl1 ?_|refine Sh.sl2 ?_|refine Sh.sl5 ?_|refine Sh.sl3 ?_|refine Sh.sl4 ?_|refine Sh.eq ?_|refine Sh.ne ?_|refine Sh.ix2 ?_|refine Sh.ix3 ?_|refine Z.bu rfl rfl ?_|refine Z.buA rfl rfl ?_|refine VM ?_|refine Z.pl (R.cap rfl rfl) ?_|refine Z.pl R.mf ?_|refine Z.pl (R.min2 rfl rfl) ?_|refine G1 ?_|refine G2 ?_|refine G3 ?_|refine G4 ?_|with_reducible (first|refine V0 ?_|refine Z.block ?_)|((with_reducible refine Z.blX ?_ ?_);rotate_left;rfl)|refine VT ?_|refine VF ?_|((first|refine GS ?_ ?_|refine VB ?_ ?_)<;>intro hb<;>(try simp only [J1,J2,J3,J4,J5,J6] at hb)<;>(try (exfalso;first|omega|exact hb trivial))))
  · first | refine Z.done hS Tryz.results43 (Z.RV.tmp rfl Z.RV.nil) ?_ | refine Z.doneN hS Tryz.results43 (Z.RV.tmp rfl Z.RV.nil) ?_
    rw [if_pos (by omega)]
    exact ⟨rfl, Sep.RL_open.2 ⟨A, c0, hS⟩⟩
  · first | refine Z.done hS Tryz.results43 (Z.RV.tmp rfl Z.RV.nil) ?_ | refine Z.doneN hS Tryz.results43 (Z.RV.tmp rfl Z.RV.nil) ?_
    rw [if_pos (by omega)]
    exact ⟨rfl, Sep.RL_open.2 ⟨A, c0, hS⟩⟩
  rw [if_neg (by omega)]
  refine Z.lpS [1, 5, 7, 28, 29, 30, 31, 32, 33, 34, 35, 36, 37, 38, 39, 40, 41, 42, 43, 44, 45, 46, 47, 48, 49, 50] (fun m w t => ∃ (k : Nat) (n' : Int) (kn : Bool), t = [(1, .int .i64 n'), (5, .bool kn), (28, .int .i64 k)] ∧ k ≤ L.l.length ∧ m = L.l.length - k ∧ (L.lag = -1 → n' = n ∧ kn = true) ∧ (0 ≤ L.lag → (kn || anyR (L.l.drop k)) = anyR L.l ∧ ackN L.lag (L.l.drop k) n' = ackN L.lag L.l n) ∧
    Sep r [] (.blk gl 50 [.int .i64 L.ep, .int .i64 L.lag, .int .i64 L.acked, .slice A L.l.length c0] :: .sl 90 4 (.slice A L.l.length c0) (L.l.map Sd.rc) :: F) w) _ [(1, .int .i64 n), (5, .bool (decide (L.lag < 0))), (28, .int .i64 (0 : Nat))] (by repeat (first | exact trivial | refine ⟨rfl, ?_⟩)) ⟨0, n, decide (L.lag < 0), rfl, by omega, rfl, fun h => ⟨rfl, decide_eq_true (by omega)⟩, fun h => ⟨by rw [decide_eq_false (by omega), Bool.false_or]; rfl, rfl⟩, hS⟩ ?_
  clear hS
  rintro m f1 w _ ⟨k, n', kn, rfl, hk, rfl, hm1, hm0, hS⟩
  by_cases hlt : k < L.l.length
  · obtain ⟨gb, o, rfl, _, hrb⟩ := (hS.slrows (e := 90) (v := .slice A L.l.length c0) (by repeat (first | exact At.here | apply At.next))).mat (by omega) hlt
    have hxo := hok.each L.l[k] (by simp)
    unfold Sd.ok at hxo
    have hd : L.l.drop k = L.l[k] :: L.l.drop (k + 1) := List.drop_eq_getElem_cons hlt
    generalize L.l[k] = x at *
    repeat' (first|refine VP ?_|refine Sh.la hS ?_|refine Sh.lb ?_|refine Sh.lc ?_|refine Sh.su ?_|(refine Sh.sa hS ?_;clear hS;intro w hS)|((first|refine Sh.aa hS ?_|refine Sh.ab hS ?_|refine Sh.ac hS ?_);clear hS;intro g w hS hge)|refine Sh.ix ?_|refine Sh.up ?_|refine Sh.sl1 ?_|refine Sh.sl2 ?_|refine Sh.sl5 ?_|refine Sh.sl3 ?_|refine Sh.sl4 ?_|refine Sh.eq ?_|refine Sh.ne ?_|refine Sh.ix2 ?_|refine Sh.ix3 ?_|refine Z.bu rfl rfl ?_|refine Z.buA rfl rfl ?_|refine VM ?_|refine Z.pl (R.cap rfl rfl) ?_|refine Z.pl R.mf ?_|refine Z.pl (R.min2 rfl rfl) ?_|refine G1 ?_|refine G2 ?_|refine G3 ?_|refine G4 ?_|with_reducible (first|refine V0 ?_|refine Z.block ?_)|((with_reducible refine Z.blX ?_ ?_);rotate_left;rfl)|refine VT ?_|refine VF ?_|((first|refine GS ?_ ?_|refine VB ?_ ?_)<;>intro hb<;>(try simp only [J1,J2,J3,J4,J5,J6] at hb)<;>(try (exfalso;first|omega|exact hb trivial))))
    · rename x.req = true => hr
      refine D.startS hS 10 10 (by kernel_rfl) rfl ?_
      replace hS := hS.drew
      refine Sh.dp 0 1 ?_
      refine Sh.dp 1 3 ?_
      refine Sh.dp 3 11 ?_
      refine Sh.dp 4 27 ?_
      refine Sh.dp 5 59 ?_
      refine Sh.dl 2 63 ?_
      refine Sh.dl 6 127 ?_
      first | refine D.sum 7 255 rfl D.wantedN (by kernel_rfl) rfl (by constructor <;> omega) ?_ | refine D.sumW 7 255 rfl D.wantedN (by kernel_rfl) rfl ?_
      refine D.pl 8 511 rfl D.wantedN (by kernel_rfl) (R.min2 rfl rfl) ?_
      refine Sh.dp 9 1023 ?_
      refine D.done (by kernel_rfl) ?_
      repeat' (first|refine VP ?_|refine Sh.la hS ?_|refine Sh.lb ?_|refine Sh.lc ?_|refine Sh.su ?_|(refine Sh.sa hS ?_;clear hS;intro w hS)|((first|refine Sh.aa hS ?_|refine Sh.ab hS ?_|refine Sh.ac hS ?_);clear hS;intro g w hS hge)|refine Sh.ix ?_|refine Sh.up ?_|refine Sh.sl1 ?_|refine Sh.sl2 ?_|refine Sh.sl5 ?_|refine Sh.sl3 ?_|refine Sh.sl4 ?_|refine Sh.eq ?_|refine Sh.ne ?_|refine Sh.ix2 ?_|refine Sh.ix3 ?_|refine Z.bu rfl rfl ?_|refine Z.buA rfl rfl ?_|refine VM ?_|refine Z.pl (R.cap rfl rfl) ?_|refine Z.pl R.mf ?_|refine Z.pl (R.min2 rfl rfl) ?_|refine G1 ?_|refine G2 ?_|refine G3 ?_|refine G4 ?_|with_reducible (first|refine V0 ?_|refine Z.block ?_)|((with_reducible refine Z.blX ?_ ?_);rotate_left;rfl)|refine VT ?_|refine VF ?_|((first|refine GS ?_ ?_|refine VB ?_ ?_)<;>intro hb<;>(try simp only [J1,J2,J3,J4,J5,J6] at hb)<;>(try (exfalso;first|omega|exact hb trivial))))
      refine Sh.again (L.l.length - (k + 1)) [(1, .int .i64 (min n' (x.applied + L.lag))), (5, .bool true), (28, .int .i64 (k + 1 : Nat))] ?_
      refine ⟨k + 1, _, true, rfl, by omega, rfl, fun h => by exfalso; omega, fun h => ?_, hS.sb⟩
      obtain ⟨h1, h2⟩ := hm0 h
      rw [hd] at h1 h2
      refine ⟨?_, ?_⟩
      · rw [← h1]; simp [anyR, hr]
      · rw [← h2]; unfold ackN; rw [List.foldl_cons, if_pos hr]
    · rename x.req = true => hr
      refine Sh.again (L.l.length - (k + 1)) [(1, .int .i64 n'), (5, .bool kn), (28, .int .i64 (k + 1 : Nat))] ?_
      exact ⟨k + 1, n', kn, rfl, by omega, rfl, hm1, fun h => by exfalso; omega, hS.sb⟩
    · rename x.req = false => hr
      refine Sh.again (L.l.length - (k + 1)) [(1, .int .i64 n'), (5, .bool kn), (28, .int .i64 (k + 1 : Nat))] ?_
      refine ⟨k + 1, n', kn, rfl, by omega, rfl, hm1, fun h => ?_, hS.sb⟩
      obtain ⟨h1, h2⟩ := hm0 h
      rw [hd] at h1 h2
      refine ⟨?_, ?_⟩
      · rw [← h1]; simp [anyR, hr]
      · rw [← h2]; unfold ackN; rw [List.foldl_cons, if_neg (by rw [hr]; simp)]
  · have hke : k = L.l.length := by omega
    subst hke
    rw [List.drop_length] at hm0
    by_cases hl1 : L.lag = -1
    · obtain ⟨rfl, rfl⟩ := hm1 hl1
      repeat' (first|refine VP ?_|refine Sh.la hS ?_|refine Sh.lb ?_|refine Sh.lc ?_|refine Sh.su ?_|(refine Sh.sa hS ?_;clear hS;intro w hS)|((first|refine Sh.aa hS ?_|refine Sh.ab hS ?_|refine Sh.ac hS ?_);clear hS;intro g w hS hge)|refine Sh.ix ?_|refine Sh.up ?_|refine Sh.sl1 ?_|refine Sh.sl2 ?_|refine Sh.sl5 ?_|refine Sh.sl3 ?_|refine Sh.sl4 ?_|refine Sh.eq ?_|refine Sh.ne ?_|refine Sh.ix2 ?_|refine Sh.ix3 ?_|refine Z.bu rfl rfl ?_|refine Z.buA rfl rfl ?_|refine VM ?_|refine Z.pl (R.cap rfl rfl) ?_|refine Z.pl R.mf ?_|refine Z.pl (R.min2 rfl rfl) ?_|refine G1 ?_|refine G2 ?_|refine G3 ?_|refine G4 ?_|with_reducible (first|refine V0 ?_|refine Z.block ?_)|((with_reducible refine Z.blX ?_ ?_);rotate_left;rfl)|refine VT ?_|refine VF ?_|((first|refine GS ?_ ?_|refine VB ?_ ?_)<;>intro hb<;>(try simp only [J1,J2,J3,J4,J5,J6] at hb)<;>(try (exfalso;first|omega|exact hb trivial))))
      first | refine Z.done hS Tryz.results43 (Z.RV.tmp rfl Z.RV.nil) ?_ | refine Z.doneN hS Tryz.results43 (Z.RV.tmp rfl Z.RV.nil) ?_
      rw [if_pos hl1]
      exact ⟨rfl, Sep.RL_open.2 ⟨A, c0, hS⟩⟩
    · obtain ⟨h1, h2⟩ := hm0 (by omega)
      have h3 : kn = anyR L.l := by rw [← h1]; simp [anyR]
      have h4 : n' = ackN L.lag L.l n := h2
      rw [if_neg hl1]
      repeat' (first|refine VP ?_|refine Sh.la hS ?_|refine Sh.lb ?_|refine Sh.lc ?_|refine Sh.su ?_|(refine Sh.sa hS ?_;clear hS;intro w hS)|((first|refine Sh.aa hS ?_|refine Sh.ab hS ?_|refine Sh.ac hS ?_);clear hS;intro g w hS hge)|refine Sh.ix ?_|refine Sh.up ?_|refine Sh.sl1 ?_|refine Sh.sl2 ?_|refine Sh.sl5 ?_|refine Sh.sl3 ?_|refine Sh.sl4 ?_|refine Sh.eq ?_|refine Sh.ne ?_|refine Sh.ix2 ?_|refine Sh.ix3 ?_|refine Z.bu rfl rfl ?_|refine Z.buA rfl rfl ?_|refine VM ?_|refine Z.pl (R.cap rfl rfl) ?_|refine Z.pl R.mf ?_|refine Z.pl (R.min2 rfl rfl) ?_|refine G1 ?_|refine G2 ?_|refine G3 ?_|refine G4 ?_|with_reducible (first|refine V0 ?_|refine Z.block ?_)|((with_reducible refine Z.blX ?_ ?_);rotate_left;rfl)|refine VT ?_|refine VF ?_|((first|refine GS ?_ ?_|refine VB ?_ ?_)<;>intro hb<;>(try simp only [J1,J2,J3,J4,J5,J6] at hb)<;>(try (exfalso;first|omega|exact hb trivial))))
      · first | refine Z.done hS Tryz.results43 (Z.RV.tmp rfl Z.RV.nil) ?_ | refine Z.doneN hS Tryz.results43 (Z.RV.tmp rfl Z.RV.nil) ?_
        rw [if_pos (by rw [← h3]; assumption), ← h4]
        exact ⟨rfl, Sep.RL_open.2 ⟨A, c0, hS⟩⟩
      · rename kn = false => hk0
        first | refine Z.done hS Tryz.results43 (Z.RV.tmp rfl Z.RV.nil) ?_ | refine Z.doneN hS Tryz.results43 (Z.RV.tmp rfl Z.RV.nil) ?_
        rw [if_neg (by rw [← h3, hk0]; simp)]
        exact ⟨rfl, Sep.RL_open.2 ⟨A, c0, hS⟩⟩

set_option maxHeartbeats 4000000 in
theorem rlship_z (gl : Nat) (L : Ld) (c : Int) (h : List Ch) (v : Value) (r : World) (F : List Res) (w : World) (hS : Sep r [] (RL gl L :: F) w) (hok : L.ok) (hrd : Reads r F 8 v (h.map Ch.cells)) (hl : h.length ≤ 5000) :
    Calls Tryz.prog 40 #[.pointer (some ⟨gl, 0, none⟩), .int .i64 c, v] w fun e w' => ∃ A cap, e = .returned (.tuple #[(shipL L c h).1.val (.slice A (shipL L c h).1.ch.length cap), .bool (shipL L c h).2]) ∧
      Sep r [] (RL gl L :: .sl 93 8 (.slice A (shipL L c h).1.ch.length cap) ((shipL L c h).1.ch.map Ch.cells) :: F) w' := by
  obtain ⟨Ah, cc, rfl, hcc⟩ := (hrd [_] w hS).mform
  obtain ⟨A, c0, hS⟩ := Sep.RL_open.1 hS
  have hlen := hok.len
  unfold shipL
  refine Z.enter Tryz.func40 Tryz.ntmps40 rfl rfl ?_
  repeat' (first|refine VP ?_|refine Sh.la hS ?_|refine Sh.lb ?_|refine Sh.lc ?_|refine Sh.su ?_|(refine Sh.sa hS ?_;clear hS;intro w hS)|((first|refine Sh.aa hS ?_|refine Sh.ab hS ?_|refine Sh.ac hS ?_);clear hS;intro g w hS hge)|refine Sh.ix ?_|refine Sh.up ?_|refine Sh.sl1 ?_|refine Sh.sl2 ?_|refine Sh.sl5 ?_|refine Sh.sl3 ?_|refine Sh.sl4 ?_|refine Sh.eq ?_|refine Sh.ne ?_|refine Sh.ix2 ?_|refine Sh.ix3 ?_|refine Z.bu rfl rfl ?_|refine Z.buA rfl rfl ?_|refine VM ?_|refine Z.pl (R.cap rfl rfl) ?_|refine Z.pl R.mf ?_|refine Z.pl (R.min2 rfl rfl) ?_|refine G1 ?_|refine G2 ?_|refine G3 ?_|refine G4 ?_|with_reducible (first|refine V0 ?_|refine Z.block ?_)|((with_reducible refine Z.blX ?_ ?_);rotate_left;rfl)|refine VT ?_|refine VF ?_|((first|refine GS ?_ ?_|refine VB ?_ ?_)<;>intro hb<;>(try simp only [J1,J2,J3,J4,J5,J6] at hb)<;>(try (exfalso;first|omega|exact hb trivial))))
  replace hS := hS.fo (R := .blk gl _ _)
  refine Z.eff (Z.cl (rlat_z gl _ _ _ _ L.l c _ _ _ hS (Reads.of_at (e := 90) (v := .slice A L.l.length c0) (by repeat (first | exact At.here | apply At.next))) (by omega)) rfl ?_) rfl
  clear hS
  rintro e w ⟨rfl, hS⟩
  refine ⟨_, rfl, ?_⟩
  cases hx : sdAt L.l c with
  | none =>
    rw [atI_none hx]
    repeat' (first|refine VP ?_|refine Sh.la hS ?_|refine Sh.lb ?_|refine Sh.lc ?_|refine Sh.su ?_|(refine Sh.sa hS ?_;clear hS;intro w hS)|((first|refine Sh.aa hS ?_|refine Sh.ab hS ?_|refine Sh.ac hS ?_);clear hS;intro g w hS hge)|refine Sh.ix ?_|refine Sh.up ?_|refine Sh.sl1 ?_|refine Sh.sl2 ?_|refine Sh.sl5 ?_|refine Sh.sl3 ?_|refine Sh.sl4 ?_|refine Sh.eq ?_|refine Sh.ne ?_|refine Sh.ix2 ?_|refine Sh.ix3 ?_|refine Z.bu rfl rfl ?_|refine Z.buA rfl rfl ?_|refine VM ?_|refine Z.pl (R.cap rfl rfl) ?_|refine Z.pl R.mf ?_|refine Z.pl (R.min2 rfl rfl) ?_|refine G1 ?_|refine G2 ?_|refine G3 ?_|refine G4 ?_|with_reducible (first|refine V0 ?_|refine Z.block ?_)|((with_reducible refine Z.blX ?_ ?_);rotate_left;rfl)|refine VT ?_|refine VF ?_|((first|refine GS ?_ ?_|refine VB ?_ ?_)<;>intro hb<;>(try simp only [J1,J2,J3,J4,J5,J6] at hb)<;>(try (exfalso;first|omega|exact hb trivial))))
    first | refine Z.done hS Tryz.results40 (Z.RV.cell rfl (by repeat (first | exact At.here | apply At.next)) rfl (Z.RV.tmp rfl Z.RV.nil)) ?_ | refine Z.doneN hS Tryz.results40 (Z.RV.cell rfl (by repeat (first | exact At.here | apply At.next)) rfl (Z.RV.tmp rfl Z.RV.nil)) ?_
    replace hS := Z.nilsl hS 93 8 .none
    refine ⟨.none, 0, rfl, ?_⟩
    exact Sep.RL_open.2 ⟨A, c0, hS.sub (L' := .blk gl 50 [.int .i64 L.ep, .int .i64 L.lag, .int .i64 L.acked, .slice A L.l.length c0] :: .sl 90 4 (.slice A L.l.length c0) (L.l.map Sd.rc) :: .sl 93 8 (.slice .none 0 0) [] :: F) (by repeat (first | exact Sub.rest | exact Sub.nil | exact .skip .rest | exact .skip (.skip .rest) | exact .skip (.skip (.skip .rest)) | apply Sub.keep | refine Sub.cons (by repeat (first | exact At.here | apply At.next)) ?_ | apply Sub.skip))⟩
  | some x =>
    have hxo := hok.each x (sdAt_mem hx)
    unfold Sd.ok at hxo
    obtain ⟨hi, h1, _⟩ := sdAt_some hx
    rw [atI_some hx]
    obtain ⟨gs, os, rfl, _, _⟩ := (hS.slrows (e := 90) (v := .slice A L.l.length c0) (by repeat (first | exact At.here | apply At.next))).mat (by omega) hi
    have hcut : (h.take (min (h.length : Int) (min x.next h.length + 8)).toNat).drop (min x.next h.length).toNat = (h.drop (min x.next h.length).toNat).take 8 := by
      have h1 := take_min h (min x.next h.length).toNat 8
      rw [← h1]
      congr 2
      omega
    rename w.rangeAt gs _ _ => hel
    rw [h1] at hel
    have hcap := hcc
    by_cases h0 : 0 < min x.next (h.length : Int)
    · have hq : (min x.next h.length - 1).toNat < h.length := by omega
      obtain ⟨gb, o, rfl, _, _⟩ := (hrd.sub (by repeat (first | exact Sub.rest | exact Sub.nil | exact .skip .rest | exact .skip (.skip .rest) | exact .skip (.skip (.skip .rest)) | apply Sub.keep | refine Sub.cons (by repeat (first | exact At.here | apply At.next)) ?_ | apply Sub.skip)) [] _ hS).mat (by omega) hq
      have eB : (if min x.next (h.length : Int) = 0 then 0 else epAt h (min x.next h.length - 1).toNat) = h[(min x.next h.length - 1).toNat].epoch := by rw [if_neg (by omega), epAt_eq hq]
      repeat' (first|refine VP ?_|refine Sh.la hS ?_|refine Sh.lb ?_|refine Sh.lc ?_|refine Sh.su ?_|(refine Sh.sa hS ?_;clear hS;intro w hS)|((first|refine Sh.aa hS ?_|refine Sh.ab hS ?_|refine Sh.ac hS ?_);clear hS;intro g w hS hge)|refine Sh.ix ?_|refine Sh.up ?_|refine Sh.sl1 ?_|refine Sh.sl2 ?_|refine Sh.sl5 ?_|refine Sh.sl3 ?_|refine Sh.sl4 ?_|refine Sh.eq ?_|refine Sh.ne ?_|refine Sh.ix2 ?_|refine Sh.ix3 ?_|refine Z.bu rfl rfl ?_|refine Z.buA rfl rfl ?_|refine VM ?_|refine Z.pl (R.cap rfl rfl) ?_|refine Z.pl R.mf ?_|refine Z.pl (R.min2 rfl rfl) ?_|refine G1 ?_|refine G2 ?_|refine G3 ?_|refine G4 ?_|with_reducible (first|refine V0 ?_|refine Z.block ?_)|((with_reducible refine Z.blX ?_ ?_);rotate_left;rfl)|refine VT ?_|refine VF ?_|((first|refine GS ?_ ?_|refine VB ?_ ?_)<;>intro hb<;>(try simp only [J1,J2,J3,J4,J5,J6] at hb)<;>(try (exfalso;first|omega|exact hb trivial))))
      refine Z.eff (Z.ldE rfl ((hrd.sub (by repeat (first | exact Sub.rest | exact Sub.nil | exact .skip .rest | exact .skip (.skip .rest) | exact .skip (.skip (.skip .rest)) | apply Sub.keep | refine Sub.cons (by repeat (first | exact At.here | apply At.next)) ?_ | apply Sub.skip)) [] _ hS).elem (by omega) hq) rfl ?_) rfl
      repeat' (first|refine VP ?_|refine Sh.la hS ?_|refine Sh.lb ?_|refine Sh.lc ?_|refine Sh.su ?_|(refine Sh.sa hS ?_;clear hS;intro w hS)|((first|refine Sh.aa hS ?_|refine Sh.ab hS ?_|refine Sh.ac hS ?_);clear hS;intro g w hS hge)|refine Sh.ix ?_|refine Sh.up ?_|refine Sh.sl1 ?_|refine Sh.sl2 ?_|refine Sh.sl5 ?_|refine Sh.sl3 ?_|refine Sh.sl4 ?_|refine Sh.eq ?_|refine Sh.ne ?_|refine Sh.ix2 ?_|refine Sh.ix3 ?_|refine Z.bu rfl rfl ?_|refine Z.buA rfl rfl ?_|refine VM ?_|refine Z.pl (R.cap rfl rfl) ?_|refine Z.pl R.mf ?_|refine Z.pl (R.min2 rfl rfl) ?_|refine G1 ?_|refine G2 ?_|refine G3 ?_|refine G4 ?_|with_reducible (first|refine V0 ?_|refine Z.block ?_)|((with_reducible refine Z.blX ?_ ?_);rotate_left;rfl)|refine VT ?_|refine VF ?_|((first|refine GS ?_ ?_|refine VB ?_ ?_)<;>intro hb<;>(try simp only [J1,J2,J3,J4,J5,J6] at hb)<;>(try (exfalso;first|omega|exact hb trivial))))
      refine D.startS hS 12 13 (by kernel_rfl) rfl ?_
      replace hS := hS.drew
      refine Sh.dp 0 1 ?_
      refine Sh.dp 2 5 ?_
      refine Sh.dp 3 13 ?_
      refine Sh.dp 4 29 ?_
      refine Sh.dp 5 61 ?_
      refine Sh.dp 6 125 ?_
      first | refine D.sum 7 253 rfl D.wantedN (by kernel_rfl) rfl (by constructor <;> omega) ?_ | refine D.sumW 7 253 rfl D.wantedN (by kernel_rfl) rfl ?_
      refine D.pl 8 509 rfl D.wantedN (by kernel_rfl) (R.min2 rfl rfl) ?_
      refine D.pl 9 1021 rfl D.wantedN (by kernel_rfl) (R.span rfl rfl rfl rfl (by omega) (by omega)) ?_
      refine Sh.dl 1 1023 ?_
      refine D.eff 10 2047 rfl D.wantedN (by kernel_rfl) (by kernel_rfl) (fun _ _ h => h) ?_
      refine Z.ap0m (fc := Ch.cells) (l := (h.drop (min x.next h.length).toNat).take 8) hS rfl rfl rfl (by have h3 := ((hrd.sub (by repeat (first | exact Sub.rest | exact Sub.nil | exact .skip .rest | exact .skip (.skip .rest) | exact .skip (.skip (.skip .rest)) | apply Sub.keep | refine Sub.cons (by repeat (first | exact At.here | apply At.next)) ?_ | apply Sub.skip)) [] _ hS).mtake (show (min (h.length : Int) (min x.next h.length + 8)).toNat ≤ h.length by omega)).mdrop (show (min x.next h.length).toNat ≤ (h.take (min (h.length : Int) (min x.next h.length + 8)).toNat).length by rw [List.length_take]; omega); rw [hcut] at h3; exact h3) (by rw [List.length_take]; omega) (by rw [List.length_take]; unfold maxLen; omega) ?_
      clear hS; intro A1 c1 w hS
      refine ⟨HM.s (hS.sb), ?_⟩
      refine Sh.dp 11 4095 ?_
      refine D.eff 12 8191 rfl D.wantedN (by kernel_rfl) (by kernel_rfl) (fun _ _ h => h) ?_
      refine Z.st hS rfl (by repeat (first | exact At.here | apply At.next)) rfl rfl ?_
      clear hS; intro w hS
      refine ⟨HM.last (by kernel_rfl), ?_⟩
      refine D.done (by kernel_rfl) ?_
      repeat' (first|refine VP ?_|refine Sh.la hS ?_|refine Sh.lb ?_|refine Sh.lc ?_|refine Sh.su ?_|(refine Sh.sa hS ?_;clear hS;intro w hS)|((first|refine Sh.aa hS ?_|refine Sh.ab hS ?_|refine Sh.ac hS ?_);clear hS;intro g w hS hge)|refine Sh.ix ?_|refine Sh.up ?_|refine Sh.sl1 ?_|refine Sh.sl2 ?_|refine Sh.sl5 ?_|refine Sh.sl3 ?_|refine Sh.sl4 ?_|refine Sh.eq ?_|refine Sh.ne ?_|refine Sh.ix2 ?_|refine Sh.ix3 ?_|refine Z.bu rfl rfl ?_|refine Z.buA rfl rfl ?_|refine VM ?_|refine Z.pl (R.cap rfl rfl) ?_|refine Z.pl R.mf ?_|refine Z.pl (R.min2 rfl rfl) ?_|refine G1 ?_|refine G2 ?_|refine G3 ?_|refine G4 ?_|with_reducible (first|refine V0 ?_|refine Z.block ?_)|((with_reducible refine Z.blX ?_ ?_);rotate_left;rfl)|refine VT ?_|refine VF ?_|((first|refine GS ?_ ?_|refine VB ?_ ?_)<;>intro hb<;>(try simp only [J1,J2,J3,J4,J5,J6] at hb)<;>(try (exfalso;first|omega|exact hb trivial))))
      first | refine Z.done hS Tryz.results40 (Z.RV.cell rfl (by repeat (first | exact At.here | apply At.next)) rfl (Z.RV.tmp rfl Z.RV.nil)) ?_ | refine Z.doneN hS Tryz.results40 (Z.RV.cell rfl (by repeat (first | exact At.here | apply At.next)) rfl (Z.RV.tmp rfl Z.RV.nil)) ?_
      dsimp only [shipS]
      rw [eB]
      refine ⟨A1, c1, rfl, ?_⟩
      exact Sep.RL_open.2 ⟨_, c0, hS.sub (L' := .blk gl 50 [.int .i64 L.ep, .int .i64 L.lag, .int .i64 L.acked, .slice (some ⟨gs, os, none⟩) L.l.length c0] :: .sl 90 4 (.slice (some ⟨gs, os, none⟩) L.l.length c0) (L.l.map Sd.rc) :: .sl 93 8 _ _ :: F) (by repeat (first | exact Sub.rest | exact Sub.nil | exact .skip .rest | exact .skip (.skip .rest) | exact .skip (.skip (.skip .rest)) | apply Sub.keep | refine Sub.cons (by repeat (first | exact At.here | apply At.next)) ?_ | apply Sub.skip))⟩
    · have eB : (if min x.next (h.length : Int) = 0 then 0 else epAt h (min x.next h.length - 1).toNat) = 0 := by rw [if_pos (by omega)]
      repeat' (first|refine VP ?_|refine Sh.la hS ?_|refine Sh.lb ?_|refine Sh.lc ?_|refine Sh.su ?_|(refine Sh.sa hS ?_;clear hS;intro w hS)|((first|refine Sh.aa hS ?_|refine Sh.ab hS ?_|refine Sh.ac hS ?_);clear hS;intro g w hS hge)|refine Sh.ix ?_|refine Sh.up ?_|refine Sh.sl1 ?_|refine Sh.sl2 ?_|refine Sh.sl5 ?_|refine Sh.sl3 ?_|refine Sh.sl4 ?_|refine Sh.eq ?_|refine Sh.ne ?_|refine Sh.ix2 ?_|refine Sh.ix3 ?_|refine Z.bu rfl rfl ?_|refine Z.buA rfl rfl ?_|refine VM ?_|refine Z.pl (R.cap rfl rfl) ?_|refine Z.pl R.mf ?_|refine Z.pl (R.min2 rfl rfl) ?_|refine G1 ?_|refine G2 ?_|refine G3 ?_|refine G4 ?_|with_reducible (first|refine V0 ?_|refine Z.block ?_)|((with_reducible refine Z.blX ?_ ?_);rotate_left;rfl)|refine VT ?_|refine VF ?_|((first|refine GS ?_ ?_|refine VB ?_ ?_)<;>intro hb<;>(try simp only [J1,J2,J3,J4,J5,J6] at hb)<;>(try (exfalso;first|omega|exact hb trivial))))
      refine D.startS hS 12 13 (by kernel_rfl) rfl ?_
      replace hS := hS.drew
      refine Sh.dp 0 1 ?_
      refine Sh.dp 2 5 ?_
      refine Sh.dp 3 13 ?_
      refine Sh.dp 4 29 ?_
      refine Sh.dp 5 61 ?_
      refine Sh.dp 6 125 ?_
      first | refine D.sum 7 253 rfl D.wantedN (by kernel_rfl) rfl (by constructor <;> omega) ?_ | refine D.sumW 7 253 rfl D.wantedN (by kernel_rfl) rfl ?_
      refine D.pl 8 509 rfl D.wantedN (by kernel_rfl) (R.min2 rfl rfl) ?_
      refine D.pl 9 1021 rfl D.wantedN (by kernel_rfl) (R.span rfl rfl rfl rfl (by omega) (by omega)) ?_
      refine Sh.dl 1 1023 ?_
      refine D.eff 10 2047 rfl D.wantedN (by kernel_rfl) (by kernel_rfl) (fun _ _ h => h) ?_
      refine Z.ap0m (fc := Ch.cells) (l := (h.drop (min x.next h.length).toNat).take 8) hS rfl rfl rfl (by have h3 := ((hrd.sub (by repeat (first | exact Sub.rest | exact Sub.nil | exact .skip .rest | exact .skip (.skip .rest) | exact .skip (.skip (.skip .rest)) | apply Sub.keep | refine Sub.cons (by repeat (first | exact At.here | apply At.next)) ?_ | apply Sub.skip)) [] _ hS).mtake (show (min (h.length : Int) (min x.next h.length + 8)).toNat ≤ h.length by omega)).mdrop (show (min x.next h.length).toNat ≤ (h.take (min (h.length : Int) (min x.next h.length + 8)).toNat).length by rw [List.length_take]; omega); rw [hcut] at h3; exact h3) (by rw [List.length_take]; omega) (by rw [List.length_take]; unfold maxLen; omega) ?_
      clear hS; intro A1 c1 w hS
      refine ⟨HM.s (hS.sb), ?_⟩
      refine Sh.dp 11 4095 ?_
      refine D.eff 12 8191 rfl D.wantedN (by kernel_rfl) (by kernel_rfl) (fun _ _ h => h) ?_
      refine Z.st hS rfl (by repeat (first | exact At.here | apply At.next)) rfl rfl ?_
      clear hS; intro w hS
      refine ⟨HM.last (by kernel_rfl), ?_⟩
      refine D.done (by kernel_rfl) ?_
      repeat' (first|refine VP ?_|refine Sh.la hS ?_|refine Sh.lb ?_|refine Sh.lc ?_|refine Sh.su ?_|(refine Sh.sa hS ?_;clear hS;intro w hS)|((first|refine Sh.aa hS ?_|refine Sh.ab hS ?_|refine Sh.ac hS ?_);clear hS;intro g w hS hge)|refine Sh.ix ?_|refine Sh.up ?_|refine Sh.sl1 ?_|refine Sh.sl2 ?_|refine Sh.sl5 ?_|refine Sh.sl3 ?_|refine Sh.sl4 ?_|refine Sh.eq ?_|refine Sh.ne ?_|refine Sh.ix2 ?_|refine Sh.ix3 ?_|refine Z.bu rfl rfl ?_|refine Z.buA rfl rfl ?_|refine VM ?_|refine Z.pl (R.cap rfl rfl) ?_|refine Z.pl R.mf ?_|refine Z.pl (R.min2 rfl rfl) ?_|refine G1 ?_|refine G2 ?_|refine G3 ?_|refine G4 ?_|with_reducible (first|refine V0 ?_|refine Z.block ?_)|((with_reducible refine Z.blX ?_ ?_);rotate_left;rfl)|refine VT ?_|refine VF ?_|((first|refine GS ?_ ?_|refine VB ?_ ?_)<;>intro hb<;>(try simp only [J1,J2,J3,J4,J5,J6] at hb)<;>(try (exfalso;first|omega|exact hb trivial))))
      first | refine Z.done hS Tryz.results40 (Z.RV.cell rfl (by repeat (first | exact At.here | apply At.next)) rfl (Z.RV.tmp rfl Z.RV.nil)) ?_ | refine Z.doneN hS Tryz.results40 (Z.RV.cell rfl (by repeat (first | exact At.here | apply At.next)) rfl (Z.RV.tmp rfl Z.RV.nil)) ?_
      dsimp only [shipS]
      rw [eB]
      refine ⟨A1, c1, rfl, ?_⟩
      exact Sep.RL_open.2 ⟨_, c0, hS.sub (L' := .blk gl 50 [.int .i64 L.ep, .int .i64 L.lag, .int .i64 L.acked, .slice (some ⟨gs, os, none⟩) L.l.length c0] :: .sl 90 4 (.slice (some ⟨gs, os, none⟩) L.l.length c0) (L.l.map Sd.rc) :: .sl 93 8 _ _ :: F) (by repeat (first | exact Sub.rest | exact Sub.nil | exact .skip .rest | exact .skip (.skip .rest) | exact .skip (.skip (.skip .rest)) | apply Sub.keep | refine Sub.cons (by repeat (first | exact At.here | apply At.next)) ?_ | apply Sub.skip))⟩
end Go.Proofs.YtmjdkgpckcdndaaGreat
