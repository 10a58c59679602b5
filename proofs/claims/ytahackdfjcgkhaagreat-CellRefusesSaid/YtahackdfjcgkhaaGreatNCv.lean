/-
  Which requests are valid, by the program and by the reference.
-/
import Derived.Test.YtahackdfjcgkhaaGreatNExP
import Derived.Test.YtahackdfjcgkhaaGreatV1
import Derived.Test.YtahackdfjcgkhaaGreatZx
namespace Go.Proofs.YtahackdfjcgkhaaGreat
open Go.RowKit
set_option linter.unusedSimpArgs false
set_option linter.unusedVariables false
attribute [local irreducible] Res.blk Res.sl Res.all Res.ex Res.pure Res.star

def reqB (x : Rq) : Bool :=
  if x.tenant < 0 ∨ 32 ≤ x.tenant ∨ x.client < 1 ∨ 8 < x.client then false
  else if x.op = 1 then decide (x.number = 0) && decide (x.item = 0) && decide (keyOk x.key) && decide (x.value = ⟨#[]⟩)
  else if x.op = 2 then decide (numOk x) && decide (x.item = 0) && decide (keyOk x.key) && decide (x.value.size ≤ 64)
  else if x.op = 3 then decide (numOk x) && decide (x.item = 0) && decide (keyOk x.key) && decide (x.value = ⟨#[]⟩)
  else if x.op = 4 then decide (numOk x) && decide (x.item = 0) && decide (x.key = ⟨#[]⟩) && decide (x.value.size ≤ 64)
  else if x.op = 5 then decide (x.number = 0) && decide (x.item = 0) && decide (x.key = ⟨#[]⟩) && decide (x.value = ⟨#[]⟩)
  else if x.op = 6 then decide (numOk x) && decide (1 ≤ x.item) && decide (x.item ≤ 4096) && decide (x.key = ⟨#[]⟩) && decide (x.value = ⟨#[]⟩)
  else false
theorem reqB_ok (x : Rq) : reqB x = decide (reqOk x) := by
  rw [Bool.eq_iff_iff, decide_eq_true_eq]
  unfold reqB reqOk
  by_cases h0 : x.tenant < 0 ∨ 32 ≤ x.tenant ∨ x.client < 1 ∨ 8 < x.client
  · rw [if_pos h0]
    constructor
    · intro h; cases h
    · rintro ⟨h1, h2, h3, h4, _⟩
      exfalso
      omega
  · rw [if_neg h0]
    have h1 : 0 ≤ x.tenant ∧ x.tenant < 32 ∧ 1 ≤ x.client ∧ x.client ≤ 8 := by omega
    simp only [h1, true_and]
    by_cases o1 : x.op = 1
    · simp [o1, and_assoc]
    by_cases o2 : x.op = 2
    · simp [o2, and_assoc]
    by_cases o3 : x.op = 3
    · simp [o3, and_assoc]
    by_cases o4 : x.op = 4
    · simp [o4, and_assoc]
    by_cases o5 : x.op = 5
    · simp [o5, and_assoc]
    by_cases o6 : x.op = 6
    · simp [o6, and_assoc]
    simp [o1, o2, o3, o4, o5, o6]
theorem iskey_z (k : ByteArray) (r : World) (F : List Res) (w : World) (hS : Sep r [] F w) : Calls Tryz.prog 59 #[.string k] w fun e w' => e = .returned (.bool (decide (keyOk k))) ∧ Sep r [] F w' := by
  refine Z.enter Tryz.func59 Tryz.ntmps59 rfl rfl ?_
  repeat' (first|refine VP ?_|refine Sh.la hS ?_|refine Sh.lb ?_|refine Sh.lc ?_|refine Sh.su ?_|(refine Sh.sa hS ?_;clear hS;intro w hS)|((first|refine Sh.aa hS ?_|refine Sh.ab hS ?_|refine Sh.ac hS ?_);clear hS;intro g w hS hge)|refine Sh.ix ?_|refine Sh.up ?_|refine Sh.sl1 ?_|refine Sh.sl2 ?_|refine Sh.sl5 ?_|refine Sh.sl3 ?_|refine Sh.sl4 ?_|refine Sh.eq ?_|refine Sh.ne ?_|refine Sh.ix2 ?_|refine Sh.ix3 ?_|refine Z.bu rfl rfl ?_|refine Z.buA rfl rfl ?_|refine VM ?_|refine Z.pl (R.cap rfl rfl) ?_|refine Z.pl R.mf ?_|refine Z.pl (R.min2 rfl rfl) ?_|refine G1 ?_|refine G2 ?_|refine G3 ?_|refine G4 ?_|with_reducible (first|refine V0 ?_|refine Z.block ?_)|((with_reducible refine Z.blX ?_ ?_);rotate_left;rfl)|refine VT ?_|refine VF ?_|((first|refine GS ?_ ?_|refine VB ?_ ?_)<;>intro hb<;>(try simp only [J1,J2,J3,J4,J5,J6] at hb)<;>(try (exfalso;first|omega|exact hb trivial))))
  all_goals
    first | refine Z.done hS Tryz.results59 (Z.RV.tmp rfl Z.RV.nil) ?_ | refine Z.doneN hS Tryz.results59 (Z.RV.tmp rfl Z.RV.nil) ?_
    refine ⟨?_, hS⟩
    simp only [Z.packR]
    congr 2
    first
      | exact decide_eq_decide.2 (by unfold keyOk; omega)
      | exact (decide_eq_false (by unfold keyOk; omega)).symm
      | exact (decide_eq_true (by unfold keyOk; omega)).symm
theorem isval_z (k : ByteArray) (r : World) (F : List Res) (w : World) (hS : Sep r [] F w) : Calls Tryz.prog 60 #[.string k] w fun e w' => e = .returned (.bool (decide (k.size ≤ 64))) ∧ Sep r [] F w' := by
  refine Z.enter Tryz.func60 Tryz.ntmps60 rfl rfl ?_
  repeat' (first|refine VP ?_|refine Sh.la hS ?_|refine Sh.lb ?_|refine Sh.lc ?_|refine Sh.su ?_|(refine Sh.sa hS ?_;clear hS;intro w hS)|((first|refine Sh.aa hS ?_|refine Sh.ab hS ?_|refine Sh.ac hS ?_);clear hS;intro g w hS hge)|refine Sh.ix ?_|refine Sh.up ?_|refine Sh.sl1 ?_|refine Sh.sl2 ?_|refine Sh.sl5 ?_|refine Sh.sl3 ?_|refine Sh.sl4 ?_|refine Sh.eq ?_|refine Sh.ne ?_|refine Sh.ix2 ?_|refine Sh.ix3 ?_|refine Z.bu rfl rfl ?_|refine Z.buA rfl rfl ?_|refine VM ?_|refine Z.pl (R.cap rfl rfl) ?_|refine Z.pl R.mf ?_|refine Z.pl (R.min2 rfl rfl) ?_|refine G1 ?_|refine G2 ?_|refine G3 ?_|refine G4 ?_|with_reducible (first|refine V0 ?_|refine Z.block ?_)|((with_reducible refine Z.blX ?_ ?_);rotate_left;rfl)|refine VT ?_|refine VF ?_|((first|refine GS ?_ ?_|refine VB ?_ ?_)<;>intro hb<;>(try simp only [J1,J2,J3,J4,J5,J6] at hb)<;>(try (exfalso;first|omega|exact hb trivial))))
  all_goals
    first | refine Z.done hS Tryz.results60 (Z.RV.tmp rfl Z.RV.nil) ?_ | refine Z.doneN hS Tryz.results60 (Z.RV.tmp rfl Z.RV.nil) ?_
    refine ⟨?_, hS⟩
    simp only [Z.packR]
    congr 2
    rw [decide_eq_decide]
    omega
theorem rkey_z (k : ByteArray) (r : World) (F : List Res) (w : World) (hS : Sep r [] F w) : Calls Tryz.prog 27 #[.string k] w fun e w' => e = .returned (.bool (decide (keyOk k))) ∧ Sep r [] F w' := by
  refine (key_any k w).mono ?_
  rintro e w' ⟨he, rfl⟩
  refine ⟨?_, hS⟩
  rw [he]
  congr 2
  unfold keyB inB
  rw [Bool.eq_iff_iff, decide_eq_true_eq]
  simp
  unfold keyOk
  try omega
theorem rval_z (k : ByteArray) (r : World) (F : List Res) (w : World) (hS : Sep r [] F w) : Calls Tryz.prog 61 #[.string k] w fun e w' => e = .returned (.bool (decide (k.size ≤ 64))) ∧ Sep r [] F w' := by
  refine (value_any k w).mono ?_
  rintro e w' ⟨he, rfl⟩
  refine ⟨?_, hS⟩
  rw [he, show valB k = decide (k.size ≤ 64) from by unfold valB; first | rfl | (rw [Bool.eq_iff_iff]; simp [inB]; done) | (rw [Bool.eq_iff_iff]; simp [inB]; omega)]
set_option maxHeartbeats 4000000 in
theorem pvalidq_z (x : Rq) (r : World) (F : List Res) (w : World) (hS : Sep r [] F w) : Calls Tryz.prog 20 #[x.val] w fun e w' => e = .returned (.bool (reqB x)) ∧ Sep r [] F w' := by
  refine Z.enter Tryz.func20 Tryz.ntmps20 rfl rfl ?_
  repeat' (first|refine VP ?_|refine Sh.la hS ?_|refine Sh.lb ?_|refine Sh.lc ?_|refine Sh.su ?_|(refine Sh.sa hS ?_;clear hS;intro w hS)|((first|refine Sh.aa hS ?_|refine Sh.ab hS ?_|refine Sh.ac hS ?_);clear hS;intro g w hS hge)|refine Sh.ix ?_|refine Sh.up ?_|refine Sh.sl1 ?_|refine Sh.sl2 ?_|refine Sh.sl5 ?_|refine Sh.sl3 ?_|refine Sh.sl4 ?_|refine Sh.eq ?_|refine Sh.ne ?_|refine Sh.ix2 ?_|refine Sh.ix3 ?_|refine Z.bu rfl rfl ?_|refine Z.buA rfl rfl ?_|refine VM ?_|refine Z.pl (R.cap rfl rfl) ?_|refine Z.pl R.mf ?_|refine Z.pl (R.min2 rfl rfl) ?_|refine G1 ?_|refine G2 ?_|refine G3 ?_|refine G4 ?_|with_reducible (first|refine V0 ?_|refine Z.block ?_)|((with_reducible refine Z.blX ?_ ?_);rotate_left;rfl)|refine VT ?_|refine VF ?_|((first|refine GS ?_ ?_|refine VB ?_ ?_)<;>intro hb<;>(try simp only [J1,J2,J3,J4,J5,J6] at hb)<;>(try (exfalso;first|omega|exact hb trivial)))|(refine Z.eff (Z.cl (iskey_z _ _ _ _ hS) rfl ?_) rfl;clear hS;rintro e w ⟨rfl, hS⟩;refine ⟨_, rfl, ?_⟩)|(refine Z.eff (Z.cl (isval_z _ _ _ _ hS) rfl ?_) rfl;clear hS;rintro e w ⟨rfl, hS⟩;refine ⟨_, rfl, ?_⟩))
  all_goals
    first | refine Z.done hS Tryz.results20 (Z.RV.tmp rfl Z.RV.nil) ?_ | refine Z.doneN hS Tryz.results20 (Z.RV.tmp rfl Z.RV.nil) ?_
    refine ⟨?_, hS.sb⟩
    clear hS
    simp only [Z.packR]
    congr 2
    rw [eq_comm]
    unfold reqB
    first
      | (rw [if_pos (by omega)]; done)
      | (have hn : numOk x := ⟨by omega, by omega⟩; rw [if_neg (by omega)]; simp_all; done)
      | (have hn : ¬ numOk x := (by unfold numOk; omega); rw [if_neg (by omega)]; simp_all; done)
      | (rw [if_neg (by omega)]; simp_all; done)
      | (rw [if_neg (by omega)]; simp_all; omega)
set_option maxHeartbeats 4000000 in
theorem rvalidq_z (x : Rq) (r : World) (F : List Res) (w : World) (hS : Sep r [] F w) : Calls Tryz.prog 21 #[x.val] w fun e w' => e = .returned (.bool (reqB x)) ∧ Sep r [] F w' := by
  refine Z.enter Tryz.func21 Tryz.ntmps21 rfl rfl ?_
  repeat' (first|refine VP ?_|refine Sh.la hS ?_|refine Sh.lb ?_|refine Sh.lc ?_|refine Sh.su ?_|(refine Sh.sa hS ?_;clear hS;intro w hS)|((first|refine Sh.aa hS ?_|refine Sh.ab hS ?_|refine Sh.ac hS ?_);clear hS;intro g w hS hge)|refine Sh.ix ?_|refine Sh.up ?_|refine Sh.sl1 ?_|refine Sh.sl2 ?_|refine Sh.sl5 ?_|refine Sh.sl3 ?_|refine Sh.sl4 ?_|refine Sh.eq ?_|refine Sh.ne ?_|refine Sh.ix2 ?_|refine Sh.ix3 ?_|refine Z.bu rfl rfl ?_|refine Z.buA rfl rfl ?_|refine VM ?_|refine Z.pl (R.cap rfl rfl) ?_|refine Z.pl R.mf ?_|refine Z.pl (R.min2 rfl rfl) ?_|refine G1 ?_|refine G2 ?_|refine G3 ?_|refine G4 ?_|with_reducible (first|refine V0 ?_|refine Z.block ?_)|((with_reducible refine Z.blX ?_ ?_);rotate_left;rfl)|refine VT ?_|refine VF ?_|((first|refine GS ?_ ?_|refine VB ?_ ?_)<;>intro hb<;>(try simp only [J1,J2,J3,J4,J5,J6] at hb)<;>(try (exfalso;first|omega|exact hb trivial)))|(refine Z.eff (Z.cl (rkey_z _ _ _ _ hS) rfl ?_) rfl;clear hS;rintro e w ⟨rfl, hS⟩;refine ⟨_, rfl, ?_⟩)|(refine Z.eff (Z.cl (rval_z _ _ _ _ hS) rfl ?_) rfl;clear hS;rintro e w ⟨rfl, hS⟩;refine ⟨_, rfl, ?_⟩))
  all_goals
    first | refine Z.done hS Tryz.results21 (Z.RV.tmp rfl Z.RV.nil) ?_ | refine Z.doneN hS Tryz.results21 (Z.RV.tmp rfl Z.RV.nil) ?_
    refine ⟨?_, hS.sb⟩
    clear hS
    simp only [Z.packR]
    congr 2
    rw [eq_comm]
    unfold reqB
    first
      | (rw [if_pos (by omega)]; done)
      | (have hn : numOk x := ⟨by omega, by omega⟩; rw [if_neg (by omega)]; simp_all; done)
      | (have hn : ¬ numOk x := (by unfold numOk; omega); rw [if_neg (by omega)]; simp_all; done)
      | (rw [if_neg (by omega)]; simp_all; done)
      | (rw [if_neg (by omega)]; simp_all; omega)
end Go.Proofs.YtahackdfjcgkhaaGreat
