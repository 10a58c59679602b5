/-
  The program's Execute.
-/
import Derived.Test.YtahackdfjcgkhaaGreatNPd
import Derived.Test.YtahackdfjcgkhaaGreatNCv
import Derived.Test.YtahackdfjcgkhaaGreatNGateB
import Derived.Test.YtahackdfjcgkhaaGreatNGateP
import Derived.Test.YtahackdfjcgkhaaGreatZz
import Derived.Test.YtahackdfjcgkhaaGreatZy
namespace Go.Proofs.YtahackdfjcgkhaaGreat
open Go.RowKit
set_option linter.unusedSimpArgs false
set_option linter.unusedVariables false
attribute [local irreducible] Res.blk Res.sl Res.all Res.ex Res.pure Res.star

theorem coper1_z (gx : Nat) (t : It) (x : Rq) (r : World) (F : List Res) (w : World) (hS : Sep r [] F w) {k : List Res} (ha : At F k (.blk gx 23 x.cells)) : Calls Tryz.prog 152 #[t.val, .pointer (some ⟨gx, 0, none⟩)] w fun e w' => e = .returned (.bool (decide (t.number = x.item))) ∧ Sep r [] F w' := by
  refine Z.enter Tryz.func152 Tryz.ntmps152 rfl rfl ?_
  repeat' (first|refine VP ?_|refine Sh.la hS ?_|refine Sh.lb ?_|refine Sh.lc ?_|refine Sh.su ?_|(refine Sh.sa hS ?_;clear hS;intro w hS)|((first|refine Sh.aa hS ?_|refine Sh.ab hS ?_|refine Sh.ac hS ?_);clear hS;intro g w hS hge)|refine Sh.ix ?_|refine Sh.up ?_|refine Sh.sl1 ?_|refine Sh.sl2 ?_|refine Sh.sl5 ?_|refine Sh.sl3 ?_|refine Sh.sl4 ?_|refine Sh.eq ?_|refine Sh.ne ?_|refine Sh.ix2 ?_|refine Sh.ix3 ?_|refine Z.bu rfl rfl ?_|refine Z.buA rfl rfl ?_|refine VM ?_|refine Z.pl (R.cap rfl rfl) ?_|refine Z.pl R.mf ?_|refine Z.pl (R.min2 rfl rfl) ?_|refine G1 ?_|refine G2 ?_|refine G3 ?_|refine G4 ?_|with_reducible (first|refine V0 ?_|refine Z.block ?_)|((with_reducible refine Z.blX ?_ ?_);rotate_left;rfl)|refine VT ?_|refine VF ?_|((first|refine GS ?_ ?_|refine VB ?_ ?_)<;>intro hb<;>(try simp only [J1,J2,J3,J4,J5,J6] at hb)<;>(try (exfalso;first|omega|exact hb trivial))))
  refine Z.eff (Z.ld hS rfl (At.next ha) rfl ?_) rfl
  repeat' (first|refine VP ?_|refine Sh.la hS ?_|refine Sh.lb ?_|refine Sh.lc ?_|refine Sh.su ?_|(refine Sh.sa hS ?_;clear hS;intro w hS)|((first|refine Sh.aa hS ?_|refine Sh.ab hS ?_|refine Sh.ac hS ?_);clear hS;intro g w hS hge)|refine Sh.ix ?_|refine Sh.up ?_|refine Sh.sl1 ?_|refine Sh.sl2 ?_|refine Sh.sl5 ?_|refine Sh.sl3 ?_|refine Sh.sl4 ?_|refine Sh.eq ?_|refine Sh.ne ?_|refine Sh.ix2 ?_|refine Sh.ix3 ?_|refine Z.bu rfl rfl ?_|refine Z.buA rfl rfl ?_|refine VM ?_|refine Z.pl (R.cap rfl rfl) ?_|refine Z.pl R.mf ?_|refine Z.pl (R.min2 rfl rfl) ?_|refine G1 ?_|refine G2 ?_|refine G3 ?_|refine G4 ?_|with_reducible (first|refine V0 ?_|refine Z.block ?_)|((with_reducible refine Z.blX ?_ ?_);rotate_left;rfl)|refine VT ?_|refine VF ?_|((first|refine GS ?_ ?_|refine VB ?_ ?_)<;>intro hb<;>(try simp only [J1,J2,J3,J4,J5,J6] at hb)<;>(try (exfalso;first|omega|exact hb trivial))))
  first | refine Z.done hS Tryz.results152 (Z.RV.tmp rfl Z.RV.nil) ?_ | refine Z.doneN hS Tryz.results152 (Z.RV.tmp rfl Z.RV.nil) ?_
  exact ⟨rfl, hS.sb⟩
theorem it_contains (p : It → Bool) (FC : FuncId) [HasF Tryz.prog FC] (caps : List Value) (l : List It) (v : Value) (r : World) (F : List Res) (w : World) (hS : Sep r [] F w) (hrd : Reads r F 2 v (l.map It.cells)) (hl : l.length ≤ 100000)
    (hp : ∀ (L : List Res) (w : World) (x : It), Sep r [] (L ++ F) w → Calls Tryz.prog FC (x.val :: caps).toArray w fun e w' => e = .returned (.bool (p x)) ∧ Sep r [] (L ++ F) w') :
    Calls Tryz.prog 151 #[v, .func (.func FC) #[] caps.toArray] w fun e w' => e = .returned (.bool (l.any p)) ∧ Sep r [] F w' := by
  obtain ⟨A, c, rfl, hc⟩ := (hrd [] w hS).mform
  refine Z.enter Tryz.func151 Tryz.ntmps151 rfl rfl ?_
  repeat' (first|refine VP ?_|refine Sh.la hS ?_|refine Sh.lb ?_|refine Sh.lc ?_|refine Sh.su ?_|(refine Sh.sa hS ?_;clear hS;intro w hS)|((first|refine Sh.aa hS ?_|refine Sh.ab hS ?_|refine Sh.ac hS ?_);clear hS;intro g w hS hge)|refine Sh.ix ?_|refine Sh.up ?_|refine Sh.sl1 ?_|refine Sh.sl2 ?_|refine Sh.sl5 ?_|refine Sh.sl3 ?_|refine Sh.sl4 ?_|refine Sh.eq ?_|refine Sh.ne ?_|refine Sh.ix2 ?_|refine Sh.ix3 ?_|refine Z.bu rfl rfl ?_|refine Z.buA rfl rfl ?_|refine VM ?_|refine Z.pl (R.cap rfl rfl) ?_|refine Z.pl R.mf ?_|refine Z.pl (R.min2 rfl rfl) ?_|refine G1 ?_|refine G2 ?_|refine G3 ?_|refine G4 ?_|with_reducible (first|refine V0 ?_|refine Z.block ?_)|((with_reducible refine Z.blX ?_ ?_);rotate_left;rfl)|refine VT ?_|refine VF ?_|((first|refine GS ?_ ?_|refine VB ?_ ?_)<;>intro hb<;>(try simp only [J1,J2,J3,J4,J5,J6] at hb)<;>(try (exfalso;first|omega|exact hb trivial))))
  refine Z.eff (Z.cl (it_index p FC caps l _ _ _ _ hS hrd hl hp) rfl ?_) rfl
  clear hS
  rintro e w ⟨k, rfl, hS, hk⟩
  refine ⟨_, rfl, ?_⟩
  repeat' (first|refine VP ?_|refine Sh.la hS ?_|refine Sh.lb ?_|refine Sh.lc ?_|refine Sh.su ?_|(refine Sh.sa hS ?_;clear hS;intro w hS)|((first|refine Sh.aa hS ?_|refine Sh.ab hS ?_|refine Sh.ac hS ?_);clear hS;intro g w hS hge)|refine Sh.ix ?_|refine Sh.up ?_|refine Sh.sl1 ?_|refine Sh.sl2 ?_|refine Sh.sl5 ?_|refine Sh.sl3 ?_|refine Sh.sl4 ?_|refine Sh.eq ?_|refine Sh.ne ?_|refine Sh.ix2 ?_|refine Sh.ix3 ?_|refine Z.bu rfl rfl ?_|refine Z.buA rfl rfl ?_|refine VM ?_|refine Z.pl (R.cap rfl rfl) ?_|refine Z.pl R.mf ?_|refine Z.pl (R.min2 rfl rfl) ?_|refine G1 ?_|refine G2 ?_|refine G3 ?_|refine G4 ?_|with_reducible (first|refine V0 ?_|refine Z.block ?_)|((with_reducible refine Z.blX ?_ ?_);rotate_left;rfl)|refine VT ?_|refine VF ?_|((first|refine GS ?_ ?_|refine VB ?_ ?_)<;>intro hb<;>(try simp only [J1,J2,J3,J4,J5,J6] at hb)<;>(try (exfalso;first|omega|exact hb trivial))))
  first | refine Z.done hS Tryz.results151 (Z.RV.tmp rfl Z.RV.nil) ?_ | refine Z.doneN hS Tryz.results151 (Z.RV.tmp rfl Z.RV.nil) ?_
  refine ⟨?_, hS⟩
  rcases hk with ⟨rfl, hno⟩ | ⟨q, hq, rfl, hyes, _⟩
  · have : l.any p = false := by rw [List.any_eq_false]; intro x hx; rw [hno x hx]; simp
    rw [this]
    rfl
  · have : l.any p = true := List.any_eq_true.2 ⟨l[q], by simp, hyes⟩
    rw [this]
    simp [Z.packR]
def gvV (o : Option Ce) : ByteArray := match o with | some c => c.value | none => ⟨#[]⟩
def gvS (o : Option Ce) : Int := match o with | some c => c.seq | none => 0
theorem getV_eq (o : Option Ce) : getV o = .tuple #[.string (gvV o), .int .i64 (gvS o), .bool o.isSome] := by cases o <;> rfl
set_option maxHeartbeats 4000000 in
theorem poper_z (g : Nat) (cell ten : Int) (vg : Value) (c : Cp) (ep tk : Int) (x : Rq) (r : World) (F : List Res) (w : World) (hS : Sep r [] (PC g cell ten vg c :: F) w) (hc : CG c) (hss : SSort c.s) (hx : reqOk x) (h1 : x.op ≠ 1) (h5 : x.op ≠ 5) :
    Calls Tryz.prog 120 #[.pointer (some ⟨g, 0, .none⟩), .int .i64 ep, .int .i64 tk, x.val] w fun e w' => e = .returned (.tuple #[.int .i64 (if refuse c x (holdsP c.q.r x.client ep x.item tk) = 0 then kindOp x.op else 0), .int .i64 (refuse c x (holdsP c.q.r x.client ep x.item tk))]) ∧ Sep r [] (PC g cell ten vg c :: F) w' := by
  obtain ⟨A, cap, gs, gq, gt, hS⟩ := Sep.PC_open.1 hS
  have hok := hc.ok
  have hks : x.key.size ≤ maxLen := by
    obtain ⟨_, _, _, _, ho⟩ := hx
    unfold maxLen
    rcases ho with ⟨_, _, _, ⟨_, _⟩, _⟩ | ⟨_, _, _, ⟨_, _⟩, _⟩ | ⟨_, _, _, ⟨_, _⟩, _⟩ | ⟨_, _, _, e, _⟩ | ⟨_, _, _, e, _⟩ | ⟨_, _, _, e, _⟩
    all_goals first | omega | (rw [e]; decide)
  have hop : x.op = 2 ∨ x.op = 3 ∨ x.op = 4 ∨ x.op = 6 := by
    obtain ⟨_, _, _, _, ho⟩ := hx
    rcases ho with ho | ho | ho | ho | ho | ho
    all_goals have := ho.1; omega
  refine Z.enter Tryz.func120 Tryz.ntmps120 rfl rfl ?_
  repeat' (first|refine VP ?_|refine Sh.la hS ?_|refine Sh.lb ?_|refine Sh.lc ?_|refine Sh.su ?_|(refine Sh.sa hS ?_;clear hS;intro w hS)|((first|refine Sh.aa hS ?_|refine Sh.ab hS ?_|refine Sh.ac hS ?_);clear hS;intro g w hS hge)|refine Sh.ix ?_|refine Sh.up ?_|refine Sh.sl1 ?_|refine Sh.sl2 ?_|refine Sh.sl5 ?_|refine Sh.sl3 ?_|refine Sh.sl4 ?_|refine Sh.eq ?_|refine Sh.ne ?_|refine Sh.ix2 ?_|refine Sh.ix3 ?_|refine Z.bu rfl rfl ?_|refine Z.buA rfl rfl ?_|refine VM ?_|refine Z.pl (R.cap rfl rfl) ?_|refine Z.pl R.mf ?_|refine Z.pl (R.min2 rfl rfl) ?_|refine G1 ?_|refine G2 ?_|refine G3 ?_|refine G4 ?_|with_reducible (first|refine V0 ?_|refine Z.block ?_)|((with_reducible refine Z.blX ?_ ?_);rotate_left;rfl)|refine VT ?_|refine VF ?_|((first|refine GS ?_ ?_|refine VB ?_ ?_)<;>intro hb<;>(try simp only [J1,J2,J3,J4,J5,J6] at hb)<;>(try (exfalso;first|omega|exact hb trivial))))
  rename Nat => gx
  refine D.startS (Lr := [.blk g 120 _, .blk gx 23 x.cells]) (hS.sb) 15 15 (by kernel_rfl) rfl ?_
  replace hS := hS.drew
  refine Sh.dp 0 1 ?_
  refine Sh.dp 1 3 ?_
  refine Sh.dp 2 7 ?_
  refine Sh.dp 3 15 ?_
  refine Sh.dp 5 47 ?_
  refine Sh.dl 4 63 ?_
  refine Sh.dl 6 127 ?_
  refine D.eff 7 255 rfl D.wantedN (by kernel_rfl) (by kernel_rfl) (fun _ _ h => h) ?_
  replace hS := hS.fo (R := PS gs c.s)
  refine Z.cl (psget_z gs c.s x.key _ _ _ hS hss hks) rfl ?_
  clear hS
  rintro e w ⟨rfl, hS⟩
  refine ⟨_, rfl, ?_⟩
  rw [getV_eq]
  refine ⟨HM.s (hS.sb), ?_⟩
  refine Sh.dp 8 511 ?_
  refine Sh.dp 9 1023 ?_
  refine Sh.dp 10 2047 ?_
  refine Sh.dp 11 4095 ?_
  refine Sh.dp 12 8191 ?_
  refine Sh.dp 13 16383 ?_
  refine Sh.dp 14 32767 ?_
  refine D.done (by kernel_rfl) ?_
  generalize hhd : holdsP c.q.r x.client ep x.item tk = hold at *
  rcases hop with o | o | o | o
  · repeat' (first|refine VP ?_|refine Sh.la hS ?_|refine Sh.lb ?_|refine Sh.lc ?_|refine Sh.su ?_|(refine Sh.sa hS ?_;clear hS;intro w hS)|((first|refine Sh.aa hS ?_|refine Sh.ab hS ?_|refine Sh.ac hS ?_);clear hS;intro g w hS hge)|refine Sh.ix ?_|refine Sh.up ?_|refine Sh.sl1 ?_|refine Sh.sl2 ?_|refine Sh.sl5 ?_|refine Sh.sl3 ?_|refine Sh.sl4 ?_|refine Sh.eq ?_|refine Sh.ne ?_|refine Sh.ix2 ?_|refine Sh.ix3 ?_|refine Z.bu rfl rfl ?_|refine Z.buA rfl rfl ?_|refine VM ?_|refine Z.pl (R.cap rfl rfl) ?_|refine Z.pl R.mf ?_|refine Z.pl (R.min2 rfl rfl) ?_|refine G1 ?_|refine G2 ?_|refine G3 ?_|refine G4 ?_|with_reducible (first|refine V0 ?_|refine Z.block ?_)|((with_reducible refine Z.blX ?_ ?_);rotate_left;rfl)|refine VT ?_|refine VF ?_|((first|refine GS ?_ ?_|refine VB ?_ ?_)<;>intro hb<;>(try simp only [J1,J2,J3,J4,J5,J6] at hb)<;>(try (exfalso;first|omega|exact hb trivial))))
    · replace hS := hS.fo (R := PS gs c.s)
      refine Z.eff (Z.cl (pskeys_z gs c.s _ _ _ hS hss (by omega)) rfl ?_) rfl
      clear hS
      rintro e w ⟨Ak, ck, rfl, hS⟩
      refine ⟨_, rfl, ?_⟩
      repeat' (first|refine VP ?_|refine Sh.la hS ?_|refine Sh.lb ?_|refine Sh.lc ?_|refine Sh.su ?_|(refine Sh.sa hS ?_;clear hS;intro w hS)|((first|refine Sh.aa hS ?_|refine Sh.ab hS ?_|refine Sh.ac hS ?_);clear hS;intro g w hS hge)|refine Sh.ix ?_|refine Sh.up ?_|refine Sh.sl1 ?_|refine Sh.sl2 ?_|refine Sh.sl5 ?_|refine Sh.sl3 ?_|refine Sh.sl4 ?_|refine Sh.eq ?_|refine Sh.ne ?_|refine Sh.ix2 ?_|refine Sh.ix3 ?_|refine Z.bu rfl rfl ?_|refine Z.buA rfl rfl ?_|refine VM ?_|refine Z.pl (R.cap rfl rfl) ?_|refine Z.pl R.mf ?_|refine Z.pl (R.min2 rfl rfl) ?_|refine G1 ?_|refine G2 ?_|refine G3 ?_|refine G4 ?_|with_reducible (first|refine V0 ?_|refine Z.block ?_)|((with_reducible refine Z.blX ?_ ?_);rotate_left;rfl)|refine VT ?_|refine VF ?_|((first|refine GS ?_ ?_|refine VB ?_ ?_)<;>intro hb<;>(try simp only [J1,J2,J3,J4,J5,J6] at hb)<;>(try (exfalso;first|omega|exact hb trivial))))
      · first | refine Z.done hS Tryz.results120 (Z.RV.tmp rfl (Z.RV.tmp rfl Z.RV.nil)) ?_ | refine Z.doneN hS Tryz.results120 (Z.RV.tmp rfl (Z.RV.tmp rfl Z.RV.nil)) ?_
        have hr : refuse c x hold = 33 := by unfold refuse; rw [if_pos o, if_pos ⟨by assumption, by omega⟩]
        rw [hr]
        exact ⟨rfl, Sep.PC_open.2 ⟨_, _, _, _, _, hS.sb⟩⟩
      · first | refine Z.done hS Tryz.results120 (Z.RV.tmp rfl (Z.RV.tmp rfl Z.RV.nil)) ?_ | refine Z.doneN hS Tryz.results120 (Z.RV.tmp rfl (Z.RV.tmp rfl Z.RV.nil)) ?_
        have hr : refuse c x hold = 0 := by unfold refuse; rw [if_pos o, if_neg (by omega)]
        rw [hr, o]
        exact ⟨rfl, Sep.PC_open.2 ⟨_, _, _, _, _, hS.sb⟩⟩
    · first | refine Z.done hS Tryz.results120 (Z.RV.tmp rfl (Z.RV.tmp rfl Z.RV.nil)) ?_ | refine Z.doneN hS Tryz.results120 (Z.RV.tmp rfl (Z.RV.tmp rfl Z.RV.nil)) ?_
      have hr : refuse c x hold = 0 := by unfold refuse; rw [if_pos o, if_neg (by rintro ⟨h, _⟩; simp_all)]
      rw [hr, o]
      exact ⟨rfl, Sep.PC_open.2 ⟨_, _, _, _, _, hS.sb⟩⟩
  · repeat' (first|refine VP ?_|refine Sh.la hS ?_|refine Sh.lb ?_|refine Sh.lc ?_|refine Sh.su ?_|(refine Sh.sa hS ?_;clear hS;intro w hS)|((first|refine Sh.aa hS ?_|refine Sh.ab hS ?_|refine Sh.ac hS ?_);clear hS;intro g w hS hge)|refine Sh.ix ?_|refine Sh.up ?_|refine Sh.sl1 ?_|refine Sh.sl2 ?_|refine Sh.sl5 ?_|refine Sh.sl3 ?_|refine Sh.sl4 ?_|refine Sh.eq ?_|refine Sh.ne ?_|refine Sh.ix2 ?_|refine Sh.ix3 ?_|refine Z.bu rfl rfl ?_|refine Z.buA rfl rfl ?_|refine VM ?_|refine Z.pl (R.cap rfl rfl) ?_|refine Z.pl R.mf ?_|refine Z.pl (R.min2 rfl rfl) ?_|refine G1 ?_|refine G2 ?_|refine G3 ?_|refine G4 ?_|with_reducible (first|refine V0 ?_|refine Z.block ?_)|((with_reducible refine Z.blX ?_ ?_);rotate_left;rfl)|refine VT ?_|refine VF ?_|((first|refine GS ?_ ?_|refine VB ?_ ?_)<;>intro hb<;>(try simp only [J1,J2,J3,J4,J5,J6] at hb)<;>(try (exfalso;first|omega|exact hb trivial))))
    · first | refine Z.done hS Tryz.results120 (Z.RV.tmp rfl (Z.RV.tmp rfl Z.RV.nil)) ?_ | refine Z.doneN hS Tryz.results120 (Z.RV.tmp rfl (Z.RV.tmp rfl Z.RV.nil)) ?_
      have hr : refuse c x hold = 34 := by unfold refuse; rw [if_neg (by omega), if_pos o, if_pos (by assumption)]
      rw [hr]
      exact ⟨rfl, Sep.PC_open.2 ⟨_, _, _, _, _, hS.sb⟩⟩
    · first | refine Z.done hS Tryz.results120 (Z.RV.tmp rfl (Z.RV.tmp rfl Z.RV.nil)) ?_ | refine Z.doneN hS Tryz.results120 (Z.RV.tmp rfl (Z.RV.tmp rfl Z.RV.nil)) ?_
      have hr : refuse c x hold = 0 := by unfold refuse; rw [if_neg (by omega), if_pos o, if_neg (by simp_all)]
      rw [hr, o]
      exact ⟨rfl, Sep.PC_open.2 ⟨_, _, _, _, _, hS.sb⟩⟩
  · repeat' (first|refine VP ?_|refine Sh.la hS ?_|refine Sh.lb ?_|refine Sh.lc ?_|refine Sh.su ?_|(refine Sh.sa hS ?_;clear hS;intro w hS)|((first|refine Sh.aa hS ?_|refine Sh.ab hS ?_|refine Sh.ac hS ?_);clear hS;intro g w hS hge)|refine Sh.ix ?_|refine Sh.up ?_|refine Sh.sl1 ?_|refine Sh.sl2 ?_|refine Sh.sl5 ?_|refine Sh.sl3 ?_|refine Sh.sl4 ?_|refine Sh.eq ?_|refine Sh.ne ?_|refine Sh.ix2 ?_|refine Sh.ix3 ?_|refine Z.bu rfl rfl ?_|refine Z.buA rfl rfl ?_|refine VM ?_|refine Z.pl (R.cap rfl rfl) ?_|refine Z.pl R.mf ?_|refine Z.pl (R.min2 rfl rfl) ?_|refine G1 ?_|refine G2 ?_|refine G3 ?_|refine G4 ?_|with_reducible (first|refine V0 ?_|refine Z.block ?_)|((with_reducible refine Z.blX ?_ ?_);rotate_left;rfl)|refine VT ?_|refine VF ?_|((first|refine GS ?_ ?_|refine VB ?_ ?_)<;>intro hb<;>(try simp only [J1,J2,J3,J4,J5,J6] at hb)<;>(try (exfalso;first|omega|exact hb trivial))))
    replace hS := hS.fo (R := PQ gq c.q)
    refine Z.eff (Z.cl (pqitems_z gq c.q _ _ _ hS (by omega)) rfl ?_) rfl
    clear hS
    rintro e w ⟨Ak, ck, rfl, hS⟩
    refine ⟨_, rfl, ?_⟩
    repeat' (first|refine VP ?_|refine Sh.la hS ?_|refine Sh.lb ?_|refine Sh.lc ?_|refine Sh.su ?_|(refine Sh.sa hS ?_;clear hS;intro w hS)|((first|refine Sh.aa hS ?_|refine Sh.ab hS ?_|refine Sh.ac hS ?_);clear hS;intro g w hS hge)|refine Sh.ix ?_|refine Sh.up ?_|refine Sh.sl1 ?_|refine Sh.sl2 ?_|refine Sh.sl5 ?_|refine Sh.sl3 ?_|refine Sh.sl4 ?_|refine Sh.eq ?_|refine Sh.ne ?_|refine Sh.ix2 ?_|refine Sh.ix3 ?_|refine Z.bu rfl rfl ?_|refine Z.buA rfl rfl ?_|refine VM ?_|refine Z.pl (R.cap rfl rfl) ?_|refine Z.pl R.mf ?_|refine Z.pl (R.min2 rfl rfl) ?_|refine G1 ?_|refine G2 ?_|refine G3 ?_|refine G4 ?_|with_reducible (first|refine V0 ?_|refine Z.block ?_)|((with_reducible refine Z.blX ?_ ?_);rotate_left;rfl)|refine VT ?_|refine VF ?_|((first|refine GS ?_ ?_|refine VB ?_ ?_)<;>intro hb<;>(try simp only [J1,J2,J3,J4,J5,J6] at hb)<;>(try (exfalso;first|omega|exact hb trivial))))
    · first | refine Z.done hS Tryz.results120 (Z.RV.tmp rfl (Z.RV.tmp rfl Z.RV.nil)) ?_ | refine Z.doneN hS Tryz.results120 (Z.RV.tmp rfl (Z.RV.tmp rfl Z.RV.nil)) ?_
      have hr : refuse c x hold = 33 := by unfold refuse; rw [if_neg (by omega), if_neg (by omega), if_pos o, if_pos (by omega)]
      rw [hr]
      exact ⟨rfl, Sep.PC_open.2 ⟨_, _, _, _, _, hS.sb⟩⟩
    · first | refine Z.done hS Tryz.results120 (Z.RV.tmp rfl (Z.RV.tmp rfl Z.RV.nil)) ?_ | refine Z.doneN hS Tryz.results120 (Z.RV.tmp rfl (Z.RV.tmp rfl Z.RV.nil)) ?_
      have hr : refuse c x hold = 0 := by unfold refuse; rw [if_neg (by omega), if_neg (by omega), if_pos o, if_neg (by omega)]
      rw [hr, o]
      exact ⟨rfl, Sep.PC_open.2 ⟨_, _, _, _, _, hS.sb⟩⟩
  · repeat' (first|refine VP ?_|refine Sh.la hS ?_|refine Sh.lb ?_|refine Sh.lc ?_|refine Sh.su ?_|(refine Sh.sa hS ?_;clear hS;intro w hS)|((first|refine Sh.aa hS ?_|refine Sh.ab hS ?_|refine Sh.ac hS ?_);clear hS;intro g w hS hge)|refine Sh.ix ?_|refine Sh.up ?_|refine Sh.sl1 ?_|refine Sh.sl2 ?_|refine Sh.sl5 ?_|refine Sh.sl3 ?_|refine Sh.sl4 ?_|refine Sh.eq ?_|refine Sh.ne ?_|refine Sh.ix2 ?_|refine Sh.ix3 ?_|refine Z.bu rfl rfl ?_|refine Z.buA rfl rfl ?_|refine VM ?_|refine Z.pl (R.cap rfl rfl) ?_|refine Z.pl R.mf ?_|refine Z.pl (R.min2 rfl rfl) ?_|refine G1 ?_|refine G2 ?_|refine G3 ?_|refine G4 ?_|with_reducible (first|refine V0 ?_|refine Z.block ?_)|((with_reducible refine Z.blX ?_ ?_);rotate_left;rfl)|refine VT ?_|refine VF ?_|((first|refine GS ?_ ?_|refine VB ?_ ?_)<;>intro hb<;>(try simp only [J1,J2,J3,J4,J5,J6] at hb)<;>(try (exfalso;first|omega|exact hb trivial))))
    replace hS := hS.fo (R := PQ gq c.q)
    refine Z.eff (Z.cl (pqitems_z gq c.q _ _ _ hS (by omega)) rfl ?_) rfl
    clear hS
    rintro e w ⟨Ak, ck, rfl, hS⟩
    refine ⟨_, rfl, ?_⟩
    repeat' (first|refine VP ?_|refine Sh.la hS ?_|refine Sh.lb ?_|refine Sh.lc ?_|refine Sh.su ?_|(refine Sh.sa hS ?_;clear hS;intro w hS)|((first|refine Sh.aa hS ?_|refine Sh.ab hS ?_|refine Sh.ac hS ?_);clear hS;intro g w hS hge)|refine Sh.ix ?_|refine Sh.up ?_|refine Sh.sl1 ?_|refine Sh.sl2 ?_|refine Sh.sl5 ?_|refine Sh.sl3 ?_|refine Sh.sl4 ?_|refine Sh.eq ?_|refine Sh.ne ?_|refine Sh.ix2 ?_|refine Sh.ix3 ?_|refine Z.bu rfl rfl ?_|refine Z.buA rfl rfl ?_|refine VM ?_|refine Z.pl (R.cap rfl rfl) ?_|refine Z.pl R.mf ?_|refine Z.pl (R.min2 rfl rfl) ?_|refine G1 ?_|refine G2 ?_|refine G3 ?_|refine G4 ?_|with_reducible (first|refine V0 ?_|refine Z.block ?_)|((with_reducible refine Z.blX ?_ ?_);rotate_left;rfl)|refine VT ?_|refine VF ?_|((first|refine GS ?_ ?_|refine VB ?_ ?_)<;>intro hb<;>(try simp only [J1,J2,J3,J4,J5,J6] at hb)<;>(try (exfalso;first|omega|exact hb trivial))))
    refine Z.eff (Z.cl (it_contains (fun t => decide (t.number = x.item)) 152 [.pointer (some ⟨gx, 0, none⟩)] c.q.l _ _ _ _ hS (Reads.of_at (e := 79) (v := .slice Ak c.q.l.length ck) (by repeat (first | exact At.here | apply At.next))) (by omega) (fun L w t h => coper1_z gx t x r _ w h (at_app L (by repeat (first | exact At.here | apply At.next))))) rfl ?_) rfl
    clear hS
    rintro e w ⟨rfl, hS⟩
    refine ⟨_, rfl, ?_⟩
    rw [show (c.q.l.any fun t => decide (t.number = x.item)) = waitsB c.q.l x.item from rfl]
    have hr0 : refuse c x hold = if waitsB c.q.l x.item then (if hold then 0 else 35) else 34 := by unfold refuse; rw [if_neg (by omega), if_neg (by omega), if_neg (by omega)]
    rw [hr0, o]
    repeat' (first|refine VP ?_|refine Sh.la hS ?_|refine Sh.lb ?_|refine Sh.lc ?_|refine Sh.su ?_|(refine Sh.sa hS ?_;clear hS;intro w hS)|((first|refine Sh.aa hS ?_|refine Sh.ab hS ?_|refine Sh.ac hS ?_);clear hS;intro g w hS hge)|refine Sh.ix ?_|refine Sh.up ?_|refine Sh.sl1 ?_|refine Sh.sl2 ?_|refine Sh.sl5 ?_|refine Sh.sl3 ?_|refine Sh.sl4 ?_|refine Sh.eq ?_|refine Sh.ne ?_|refine Sh.ix2 ?_|refine Sh.ix3 ?_|refine Z.bu rfl rfl ?_|refine Z.buA rfl rfl ?_|refine VM ?_|refine Z.pl (R.cap rfl rfl) ?_|refine Z.pl R.mf ?_|refine Z.pl (R.min2 rfl rfl) ?_|refine G1 ?_|refine G2 ?_|refine G3 ?_|refine G4 ?_|with_reducible (first|refine V0 ?_|refine Z.block ?_)|((with_reducible refine Z.blX ?_ ?_);rotate_left;rfl)|refine VT ?_|refine VF ?_|((first|refine GS ?_ ?_|refine VB ?_ ?_)<;>intro hb<;>(try simp only [J1,J2,J3,J4,J5,J6] at hb)<;>(try (exfalso;first|omega|exact hb trivial))))
    · first | refine Z.done hS Tryz.results120 (Z.RV.tmp rfl (Z.RV.tmp rfl Z.RV.nil)) ?_ | refine Z.doneN hS Tryz.results120 (Z.RV.tmp rfl (Z.RV.tmp rfl Z.RV.nil)) ?_
      rename waitsB c.q.l x.item = false => hw
      rw [hw]
      exact ⟨rfl, Sep.PC_open.2 ⟨_, _, _, _, _, hS.sb⟩⟩
    · rename waitsB c.q.l x.item = true => hw
      rw [hw]
      refine D.startS (Lr := [.blk g 120 _, .blk gx 23 x.cells]) (hS.sb) 13 13 (by kernel_rfl) rfl ?_
      replace hS := hS.drew
      refine Sh.dp 0 1 ?_
      refine Sh.dp 1 3 ?_
      refine Sh.dp 2 7 ?_
      refine Sh.dp 3 15 ?_
      refine Sh.dp 5 47 ?_
      refine Sh.dp 7 175 ?_
      refine Sh.dp 8 431 ?_
      refine Sh.dp 10 1455 ?_
      refine Sh.dl 4 1471 ?_
      refine Sh.dl 6 1535 ?_
      refine Sh.dl 9 2047 ?_
      refine D.eff 11 4095 rfl D.wantedN (by kernel_rfl) (by kernel_rfl) (fun _ _ h => h) ?_
      replace hS := hS.fo (R := PQ gq c.q)
      refine Z.cl (pqholds_z gq c.q x.client ep x.item tk _ _ _ hS (by omega)) rfl ?_
      clear hS
      rintro e w ⟨rfl, hS⟩
      refine ⟨_, rfl, ?_⟩
      rw [hhd]
      refine ⟨HM.s (hS.sb), ?_⟩
      refine Sh.dp 12 8191 ?_
      refine D.done (by kernel_rfl) ?_
      repeat' (first|refine VP ?_|refine Sh.la hS ?_|refine Sh.lb ?_|refine Sh.lc ?_|refine Sh.su ?_|(refine Sh.sa hS ?_;clear hS;intro w hS)|((first|refine Sh.aa hS ?_|refine Sh.ab hS ?_|refine Sh.ac hS ?_);clear hS;intro g w hS hge)|refine Sh.ix ?_|refine Sh.up ?_|refine Sh.sl1 ?_|refine Sh.sl2 ?_|refine Sh.sl5 ?_|refine Sh.sl3 ?_|refine Sh.sl4 ?_|refine Sh.eq ?_|refine Sh.ne ?_|refine Sh.ix2 ?_|refine Sh.ix3 ?_|refine Z.bu rfl rfl ?_|refine Z.buA rfl rfl ?_|refine VM ?_|refine Z.pl (R.cap rfl rfl) ?_|refine Z.pl R.mf ?_|refine Z.pl (R.min2 rfl rfl) ?_|refine G1 ?_|refine G2 ?_|refine G3 ?_|refine G4 ?_|with_reducible (first|refine V0 ?_|refine Z.block ?_)|((with_reducible refine Z.blX ?_ ?_);rotate_left;rfl)|refine VT ?_|refine VF ?_|((first|refine GS ?_ ?_|refine VB ?_ ?_)<;>intro hb<;>(try simp only [J1,J2,J3,J4,J5,J6] at hb)<;>(try (exfalso;first|omega|exact hb trivial))))
      · first | refine Z.done hS Tryz.results120 (Z.RV.tmp rfl (Z.RV.tmp rfl Z.RV.nil)) ?_ | refine Z.doneN hS Tryz.results120 (Z.RV.tmp rfl (Z.RV.tmp rfl Z.RV.nil)) ?_
        rename hold = false => hh
        rw [hh]
        exact ⟨rfl, Sep.PC_open.2 ⟨_, _, _, _, _, hS.sb⟩⟩
      · first | refine Z.done hS Tryz.results120 (Z.RV.tmp rfl (Z.RV.tmp rfl Z.RV.nil)) ?_ | refine Z.doneN hS Tryz.results120 (Z.RV.tmp rfl (Z.RV.tmp rfl Z.RV.nil)) ?_
        rename hold = true => hh
        rw [hh]
        exact ⟨rfl, Sep.PC_open.2 ⟨_, _, _, _, _, hS.sb⟩⟩
end Go.Proofs.YtahackdfjcgkhaaGreat
