/-
  The walks of valid and Take of a follower, of the program's and of the reference's.
-/
import Derived.Test.YtmjdkgpckcdndaaGreatNPd
namespace Go.Proofs.YtmjdkgpckcdndaaGreat
open Go.RowKit
set_option linter.unusedSimpArgs false
set_option linter.unusedVariables false
attribute [local irreducible] Res.blk Res.sl Res.all Res.ex Res.pure Res.star

theorem Sub.pre {F F' : List Res} (hs : Sub F' F) : ∀ L : List Res, Sub (L ++ F') (L ++ F)
  | [] => hs
  | _ :: L => .keep (Sub.pre hs L)
theorem Reads.sub {r : World} {F F' : List Res} {sz : Nat} {v : Value} {rows : List (List Value)} (h : Reads r F sz v rows) (hs : Sub F' F) : Reads r F' sz v rows :=
  fun L w hS => h L w (hS.sub (Sub.pre hs L))
def Shp.val (m : Shp) (v : Value) : Value := .agg #[.int .i64 m.ep, .int .i64 m.seq, .int .i64 m.before, v]
def He.cells (a : He) : List Value := [.int .i64 a.ep, .int .i64 a.applied, .bool a.ok]
def He.val (a : He) : Value := .agg a.cells.toArray
theorem shipB_no {m : Shp} (h : ¬ headOk m) : shipB m = false := by unfold shipB; simp [h]
set_option maxHeartbeats 4000000 in
theorem pships_z (m : Shp) (v : Value) (r : World) (F : List Res) (w : World) (hS : Sep r [] F w) (hrd : Reads r F 8 v (m.ch.map Ch.cells)) :
    Calls Tryz.prog 47 #[m.val v] w fun e w' => e = .returned (.bool (shipB m)) ∧ Sep r [] F w' := by
  obtain ⟨A, c, rfl, hc⟩ := (hrd [] w hS).mform
  refine Z.enter Tryz.func47 Tryz.ntmps47 rfl rfl ?_
  repeat' (first|refine VP ?_|refine Sh.la hS ?_|refine Sh.lb ?_|refine Sh.lc ?_|refine Sh.su ?_|(refine Sh.sa hS ?_;clear hS;intro w hS)|((first|refine Sh.aa hS ?_|refine Sh.ab hS ?_|refine Sh.ac hS ?_);clear hS;intro g w hS hge)|refine Sh.ix ?_|refine Sh.up ?_|refine Sh.sl1 ?_|refine Sh.sl2 ?_|refine Sh.sl5 ?_|refine Sh.sl3 ?_|refine Sh.sl4 ?_|refine Sh.eq ?_|refine Sh.ne ?_|refine Sh.ix2 ?_|refine Sh.ix3 ?_|refine Z.bu rfl rfl ?_|refine Z.buA rfl rfl ?_|refine VM ?_|refine Z.pl (R.cap rfl rfl) ?_|refine Z.pl R.mf ?_|refine Z.pl (R.min2 rfl rfl) ?_|refine G1 ?_|refine G2 ?_|refine G3 ?_|refine G4 ?_|with_reducible (first|refine V0 ?_|refine Z.block ?_)|((with_reducible refine Z.blX ?_ ?_);rotate_left;rfl)|refine VT ?_|refine VF ?_|((first|refine GS ?_ ?_|refine VB ?_ ?_)<;>intro hb<;>(try simp only [J1,J2,J3,J4,J5,J6] at hb)<;>(try (exfalso;first|omega|exact hb trivial))))
  · first | refine Z.done hS Tryz.results47 (Z.RV.tmp rfl Z.RV.nil) ?_ | refine Z.doneN hS Tryz.results47 (Z.RV.tmp rfl Z.RV.nil) ?_
    exact ⟨by rw [shipB_no (by unfold headOk; omega)]; rfl, hS.tail⟩
  · first | refine Z.done hS Tryz.results47 (Z.RV.tmp rfl Z.RV.nil) ?_ | refine Z.doneN hS Tryz.results47 (Z.RV.tmp rfl Z.RV.nil) ?_
    exact ⟨by rw [shipB_no (by unfold headOk; omega)]; rfl, hS.tail⟩
  · first | refine Z.done hS Tryz.results47 (Z.RV.tmp rfl Z.RV.nil) ?_ | refine Z.doneN hS Tryz.results47 (Z.RV.tmp rfl Z.RV.nil) ?_
    exact ⟨by rw [shipB_no (by unfold headOk; omega)]; rfl, hS.tail⟩
  · first | refine Z.done hS Tryz.results47 (Z.RV.tmp rfl Z.RV.nil) ?_ | refine Z.doneN hS Tryz.results47 (Z.RV.tmp rfl Z.RV.nil) ?_
    exact ⟨by rw [shipB_no (by unfold headOk; omega)]; rfl, hS.tail⟩
  · first | refine Z.done hS Tryz.results47 (Z.RV.tmp rfl Z.RV.nil) ?_ | refine Z.doneN hS Tryz.results47 (Z.RV.tmp rfl Z.RV.nil) ?_
    exact ⟨by rw [shipB_no (by unfold headOk; omega)]; rfl, hS.tail⟩
  · first | refine Z.done hS Tryz.results47 (Z.RV.tmp rfl Z.RV.nil) ?_ | refine Z.doneN hS Tryz.results47 (Z.RV.tmp rfl Z.RV.nil) ?_
    exact ⟨by rw [shipB_no (by unfold headOk; omega)]; rfl, hS.tail⟩
  · first | refine Z.done hS Tryz.results47 (Z.RV.tmp rfl Z.RV.nil) ?_ | refine Z.doneN hS Tryz.results47 (Z.RV.tmp rfl Z.RV.nil) ?_
    have h7 : ¬ (m.seq = 0 ↔ m.before = 0) := by intro h; simp [h] at hb
    exact ⟨by rw [shipB_no (by unfold headOk; omega)]; rfl, hS.tail⟩
  · first | refine Z.done hS Tryz.results47 (Z.RV.tmp rfl Z.RV.nil) ?_ | refine Z.doneN hS Tryz.results47 (Z.RV.tmp rfl Z.RV.nil) ?_
    exact ⟨by rw [shipB_no (by unfold headOk; omega)]; rfl, hS.tail⟩
  have h7 : m.seq = 0 ↔ m.before = 0 := by simpa using ‹(decide (m.seq = 0) == decide (m.before = 0)) = true›
  have hh : headOk m := by unfold headOk; omega
  have hR : chsOk m.ch (m.seq + 1) m.before m.ep = shipB m := by unfold shipB; simp [hh]
  have hh1 := hh
  unfold headOk at hh1
  rename Nat => gm
  refine Z.lpS [2, 3, 4, 5, 56, 57, 58, 59, 60, 61, 62, 63, 64, 65, 66, 67, 68, 69, 70, 71, 72, 73, 74, 75, 76, 77, 78, 79, 80, 81, 82, 83, 84, 85, 86, 87, 88, 89] (fun m' w s => ∃ (k : Nat) (b : Int), s = [(3, .int .i64 b), (56, .int .i64 k)] ∧ k ≤ m.ch.length ∧ chsOk (m.ch.drop k) (m.seq + 1 + k) b m.ep = shipB m ∧ m' = m.ch.length - k ∧ Sep r [] (.blk gm 63 [.int .i64 m.ep, .int .i64 m.seq, .int .i64 m.before, .slice A m.ch.length c] :: F) w) _ [(3, .int .i64 m.before), (56, .int .i64 (0 : Nat))] (by repeat (first | exact trivial | refine ⟨rfl, ?_⟩)) ⟨0, m.before, rfl, by omega, by simpa using hR, rfl, hS⟩ ?_
  clear hS
  rintro m' f0 w _ ⟨k, b, rfl, hk, hR, rfl, hS⟩
  by_cases hlt : k < m.ch.length
  · obtain ⟨gb, o, rfl, _, hra⟩ := (hrd [_] w hS).mat (by omega) hlt
    rw [chsOk_drop hlt] at hR
    generalize m.ch[k] = x at *
    repeat' (first|refine VP ?_|refine Sh.la hS ?_|refine Sh.lb ?_|refine Sh.lc ?_|refine Sh.su ?_|(refine Sh.sa hS ?_;clear hS;intro w hS)|((first|refine Sh.aa hS ?_|refine Sh.ab hS ?_|refine Sh.ac hS ?_);clear hS;intro g w hS hge)|refine Sh.ix ?_|refine Sh.up ?_|refine Sh.sl1 ?_|refine Sh.sl2 ?_|refine Sh.sl5 ?_|refine Sh.sl3 ?_|refine Sh.sl4 ?_|refine Sh.eq ?_|refine Sh.ne ?_|refine Sh.ix2 ?_|refine Sh.ix3 ?_|refine Z.bu rfl rfl ?_|refine Z.buA rfl rfl ?_|refine VM ?_|refine Z.pl (R.cap rfl rfl) ?_|refine Z.pl R.mf ?_|refine Z.pl (R.min2 rfl rfl) ?_|refine G1 ?_|refine G2 ?_|refine G3 ?_|refine G4 ?_|with_reducible (first|refine V0 ?_|refine Z.block ?_)|((with_reducible refine Z.blX ?_ ?_);rotate_left;rfl)|refine VT ?_|refine VF ?_|((first|refine GS ?_ ?_|refine VB ?_ ?_)<;>intro hb<;>(try simp only [J1,J2,J3,J4,J5,J6] at hb)<;>(try (exfalso;first|omega|exact hb trivial))))
    refine Z.eff (Z.cl (svalid_any x _) rfl ?_) rfl
    rintro e w' ⟨rfl, hC⟩
    refine ⟨_, rfl, ?_⟩
    replace hS := hS.ext hC
    clear hC
    repeat' (first|refine VP ?_|refine Sh.la hS ?_|refine Sh.lb ?_|refine Sh.lc ?_|refine Sh.su ?_|(refine Sh.sa hS ?_;clear hS;intro w hS)|((first|refine Sh.aa hS ?_|refine Sh.ab hS ?_|refine Sh.ac hS ?_);clear hS;intro g w hS hge)|refine Sh.ix ?_|refine Sh.up ?_|refine Sh.sl1 ?_|refine Sh.sl2 ?_|refine Sh.sl5 ?_|refine Sh.sl3 ?_|refine Sh.sl4 ?_|refine Sh.eq ?_|refine Sh.ne ?_|refine Sh.ix2 ?_|refine Sh.ix3 ?_|refine Z.bu rfl rfl ?_|refine Z.buA rfl rfl ?_|refine VM ?_|refine Z.pl (R.cap rfl rfl) ?_|refine Z.pl R.mf ?_|refine Z.pl (R.min2 rfl rfl) ?_|refine G1 ?_|refine G2 ?_|refine G3 ?_|refine G4 ?_|with_reducible (first|refine V0 ?_|refine Z.block ?_)|((with_reducible refine Z.blX ?_ ?_);rotate_left;rfl)|refine VT ?_|refine VF ?_|((first|refine GS ?_ ?_|refine VB ?_ ?_)<;>intro hb<;>(try simp only [J1,J2,J3,J4,J5,J6] at hb)<;>(try (exfalso;first|omega|exact hb trivial))))
    · first | refine Z.done hS Tryz.results47 (Z.RV.tmp rfl Z.RV.nil) ?_ | refine Z.doneN hS Tryz.results47 (Z.RV.tmp rfl Z.RV.nil) ?_
      rw [if_neg (by rintro ⟨h1, h2, h3, h4⟩; rw [h1] at hb; cases hb)] at hR
      exact ⟨by rw [← hR]; rfl, hS.sb⟩
    · first | refine Z.done hS Tryz.results47 (Z.RV.tmp rfl Z.RV.nil) ?_ | refine Z.doneN hS Tryz.results47 (Z.RV.tmp rfl Z.RV.nil) ?_
      rw [if_neg (by rintro ⟨h1, h2, h3, h4⟩; omega)] at hR
      exact ⟨by rw [← hR]; rfl, hS.sb⟩
    · first | refine Z.done hS Tryz.results47 (Z.RV.tmp rfl Z.RV.nil) ?_ | refine Z.doneN hS Tryz.results47 (Z.RV.tmp rfl Z.RV.nil) ?_
      rw [if_neg (by rintro ⟨h1, h2, h3, h4⟩; omega)] at hR
      exact ⟨by rw [← hR]; rfl, hS.sb⟩
    · first | refine Z.done hS Tryz.results47 (Z.RV.tmp rfl Z.RV.nil) ?_ | refine Z.doneN hS Tryz.results47 (Z.RV.tmp rfl Z.RV.nil) ?_
      rw [if_neg (by rintro ⟨h1, h2, h3, h4⟩; omega)] at hR
      exact ⟨by rw [← hR]; rfl, hS.sb⟩
    · refine Sh.again (m.ch.length - (k + 1)) [(3, .int .i64 x.epoch), (56, .int .i64 (k + 1 : Nat))] ?_
      rw [if_pos ⟨by assumption, by omega, by omega, by omega⟩] at hR
      exact ⟨k + 1, x.epoch, rfl, by omega, by rw [← hR]; congr 1; omega, rfl, hS.sb⟩
  · repeat' (first|refine VP ?_|refine Sh.la hS ?_|refine Sh.lb ?_|refine Sh.lc ?_|refine Sh.su ?_|(refine Sh.sa hS ?_;clear hS;intro w hS)|((first|refine Sh.aa hS ?_|refine Sh.ab hS ?_|refine Sh.ac hS ?_);clear hS;intro g w hS hge)|refine Sh.ix ?_|refine Sh.up ?_|refine Sh.sl1 ?_|refine Sh.sl2 ?_|refine Sh.sl5 ?_|refine Sh.sl3 ?_|refine Sh.sl4 ?_|refine Sh.eq ?_|refine Sh.ne ?_|refine Sh.ix2 ?_|refine Sh.ix3 ?_|refine Z.bu rfl rfl ?_|refine Z.buA rfl rfl ?_|refine VM ?_|refine Z.pl (R.cap rfl rfl) ?_|refine Z.pl R.mf ?_|refine Z.pl (R.min2 rfl rfl) ?_|refine G1 ?_|refine G2 ?_|refine G3 ?_|refine G4 ?_|with_reducible (first|refine V0 ?_|refine Z.block ?_)|((with_reducible refine Z.blX ?_ ?_);rotate_left;rfl)|refine VT ?_|refine VF ?_|((first|refine GS ?_ ?_|refine VB ?_ ?_)<;>intro hb<;>(try simp only [J1,J2,J3,J4,J5,J6] at hb)<;>(try (exfalso;first|omega|exact hb trivial))))
    first | refine Z.done hS Tryz.results47 (Z.RV.tmp rfl Z.RV.nil) ?_ | refine Z.doneN hS Tryz.results47 (Z.RV.tmp rfl Z.RV.nil) ?_
    rw [List.drop_eq_nil_of_le (by omega)] at hR
    exact ⟨by rw [← hR]; rfl, hS.tail⟩


end Go.Proofs.YtmjdkgpckcdndaaGreat
