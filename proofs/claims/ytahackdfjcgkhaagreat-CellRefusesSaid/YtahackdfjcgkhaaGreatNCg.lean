/-
  The program's cell.Copy: Keys, Items, Lasts, Get, Crash, Copy.
-/
import Derived.Test.YtahackdfjcgkhaaGreatNCw
namespace Go.Proofs.YtahackdfjcgkhaaGreat
open Go.RowKit
set_option linter.unusedSimpArgs false
set_option linter.unusedVariables false
attribute [local irreducible] Res.blk Res.sl Res.all Res.ex Res.pure Res.star

theorem pcitems_z (g : Nat) (cell ten : Int) (vg : Value) (c : Cp) (r : World) (F : List Res) (w : World) (hS : Sep r [] (PC g cell ten vg c :: F) w) (hl : c.q.l.length ≤ 1000) :
    Calls Tryz.prog 44 #[.pointer (some ⟨g, 0, .none⟩)] w fun e w' => ∃ A' c', e = .returned (.slice A' c.q.l.length c') ∧ Sep r [] (PC g cell ten vg c :: .sl 79 2 (.slice A' c.q.l.length c') (c.q.l.map It.cells) :: F) w' := by
  obtain ⟨A, cap, gs, gq, gt, hS⟩ := Sep.PC_open.1 hS
  refine Z.enter Tryz.func44 Tryz.ntmps44 rfl rfl ?_
  repeat' (first|refine VP ?_|refine Sh.la hS ?_|refine Sh.lb ?_|refine Sh.lc ?_|refine Sh.su ?_|(refine Sh.sa hS ?_;clear hS;intro w hS)|((first|refine Sh.aa hS ?_|refine Sh.ab hS ?_|refine Sh.ac hS ?_);clear hS;intro g w hS hge)|refine Sh.ix ?_|refine Sh.up ?_|refine Sh.sl1 ?_|refine Sh.sl2 ?_|refine Sh.sl5 ?_|refine Sh.sl3 ?_|refine Sh.sl4 ?_|refine Sh.eq ?_|refine Sh.ne ?_|refine Sh.ix2 ?_|refine Sh.ix3 ?_|refine Z.bu rfl rfl ?_|refine Z.buA rfl rfl ?_|refine VM ?_|refine Z.pl (R.cap rfl rfl) ?_|refine Z.pl R.mf ?_|refine Z.pl (R.min2 rfl rfl) ?_|refine G1 ?_|refine G2 ?_|refine G3 ?_|refine G4 ?_|with_reducible (first|refine V0 ?_|refine Z.block ?_)|((with_reducible refine Z.blX ?_ ?_);rotate_left;rfl)|refine VT ?_|refine VF ?_|((first|refine GS ?_ ?_|refine VB ?_ ?_)<;>intro hb<;>(try simp only [J1,J2,J3,J4,J5,J6] at hb)<;>(try (exfalso;first|omega|exact hb trivial))))
  replace hS := hS.fo (R := PQ gq c.q)
  refine Z.eff (Z.cl (pqitems_z gq c.q _ _ _ hS (by omega)) rfl ?_) rfl
  clear hS
  rintro e w ⟨Ak, ck, rfl, hS⟩
  refine ⟨_, rfl, ?_⟩
  repeat' (first|refine VP ?_|refine Sh.la hS ?_|refine Sh.lb ?_|refine Sh.lc ?_|refine Sh.su ?_|(refine Sh.sa hS ?_;clear hS;intro w hS)|((first|refine Sh.aa hS ?_|refine Sh.ab hS ?_|refine Sh.ac hS ?_);clear hS;intro g w hS hge)|refine Sh.ix ?_|refine Sh.up ?_|refine Sh.sl1 ?_|refine Sh.sl2 ?_|refine Sh.sl5 ?_|refine Sh.sl3 ?_|refine Sh.sl4 ?_|refine Sh.eq ?_|refine Sh.ne ?_|refine Sh.ix2 ?_|refine Sh.ix3 ?_|refine Z.bu rfl rfl ?_|refine Z.buA rfl rfl ?_|refine VM ?_|refine Z.pl (R.cap rfl rfl) ?_|refine Z.pl R.mf ?_|refine Z.pl (R.min2 rfl rfl) ?_|refine G1 ?_|refine G2 ?_|refine G3 ?_|refine G4 ?_|with_reducible (first|refine V0 ?_|refine Z.block ?_)|((with_reducible refine Z.blX ?_ ?_);rotate_left;rfl)|refine VT ?_|refine VF ?_|((first|refine GS ?_ ?_|refine VB ?_ ?_)<;>intro hb<;>(try simp only [J1,J2,J3,J4,J5,J6] at hb)<;>(try (exfalso;first|omega|exact hb trivial))))
  first | refine Z.done hS Tryz.results44 (Z.RV.tmp rfl Z.RV.nil) ?_ | refine Z.doneN hS Tryz.results44 (Z.RV.tmp rfl Z.RV.nil) ?_
  exact ⟨Ak, ck, rfl, Sep.PC_open.2 ⟨_, _, _, _, _, hS.sb⟩⟩
theorem pckeys_z (g : Nat) (cell ten : Int) (vg : Value) (c : Cp) (r : World) (F : List Res) (w : World) (hS : Sep r [] (PC g cell ten vg c :: F) w) (hs : SSort c.s) (hl : c.s.length ≤ 1000) :
    Calls Tryz.prog 76 #[.pointer (some ⟨g, 0, .none⟩)] w fun e w' => ∃ A' c', e = .returned (.slice A' c.s.length c') ∧ Sep r [] (PC g cell ten vg c :: .sl 9 1 (.slice A' c.s.length c') (c.s.map Ce.kc) :: F) w' := by
  obtain ⟨A, cap, gs, gq, gt, hS⟩ := Sep.PC_open.1 hS
  refine Z.enter Tryz.func76 Tryz.ntmps76 rfl rfl ?_
  repeat' (first|refine VP ?_|refine Sh.la hS ?_|refine Sh.lb ?_|refine Sh.lc ?_|refine Sh.su ?_|(refine Sh.sa hS ?_;clear hS;intro w hS)|((first|refine Sh.aa hS ?_|refine Sh.ab hS ?_|refine Sh.ac hS ?_);clear hS;intro g w hS hge)|refine Sh.ix ?_|refine Sh.up ?_|refine Sh.sl1 ?_|refine Sh.sl2 ?_|refine Sh.sl5 ?_|refine Sh.sl3 ?_|refine Sh.sl4 ?_|refine Sh.eq ?_|refine Sh.ne ?_|refine Sh.ix2 ?_|refine Sh.ix3 ?_|refine Z.bu rfl rfl ?_|refine Z.buA rfl rfl ?_|refine VM ?_|refine Z.pl (R.cap rfl rfl) ?_|refine Z.pl R.mf ?_|refine Z.pl (R.min2 rfl rfl) ?_|refine G1 ?_|refine G2 ?_|refine G3 ?_|refine G4 ?_|with_reducible (first|refine V0 ?_|refine Z.block ?_)|((with_reducible refine Z.blX ?_ ?_);rotate_left;rfl)|refine VT ?_|refine VF ?_|((first|refine GS ?_ ?_|refine VB ?_ ?_)<;>intro hb<;>(try simp only [J1,J2,J3,J4,J5,J6] at hb)<;>(try (exfalso;first|omega|exact hb trivial))))
  replace hS := hS.fo (R := PS gs c.s)
  refine Z.eff (Z.cl (pskeys_z gs c.s _ _ _ hS hs (by omega)) rfl ?_) rfl
  clear hS
  rintro e w ⟨Ak, ck, rfl, hS⟩
  refine ⟨_, rfl, ?_⟩
  repeat' (first|refine VP ?_|refine Sh.la hS ?_|refine Sh.lb ?_|refine Sh.lc ?_|refine Sh.su ?_|(refine Sh.sa hS ?_;clear hS;intro w hS)|((first|refine Sh.aa hS ?_|refine Sh.ab hS ?_|refine Sh.ac hS ?_);clear hS;intro g w hS hge)|refine Sh.ix ?_|refine Sh.up ?_|refine Sh.sl1 ?_|refine Sh.sl2 ?_|refine Sh.sl5 ?_|refine Sh.sl3 ?_|refine Sh.sl4 ?_|refine Sh.eq ?_|refine Sh.ne ?_|refine Sh.ix2 ?_|refine Sh.ix3 ?_|refine Z.bu rfl rfl ?_|refine Z.buA rfl rfl ?_|refine VM ?_|refine Z.pl (R.cap rfl rfl) ?_|refine Z.pl R.mf ?_|refine Z.pl (R.min2 rfl rfl) ?_|refine G1 ?_|refine G2 ?_|refine G3 ?_|refine G4 ?_|with_reducible (first|refine V0 ?_|refine Z.block ?_)|((with_reducible refine Z.blX ?_ ?_);rotate_left;rfl)|refine VT ?_|refine VF ?_|((first|refine GS ?_ ?_|refine VB ?_ ?_)<;>intro hb<;>(try simp only [J1,J2,J3,J4,J5,J6] at hb)<;>(try (exfalso;first|omega|exact hb trivial))))
  first | refine Z.done hS Tryz.results76 (Z.RV.tmp rfl Z.RV.nil) ?_ | refine Z.doneN hS Tryz.results76 (Z.RV.tmp rfl Z.RV.nil) ?_
  exact ⟨Ak, ck, rfl, Sep.PC_open.2 ⟨_, _, _, _, _, hS.sb⟩⟩
theorem pcget_z (g : Nat) (cell ten : Int) (vg : Value) (c : Cp) (k : ByteArray) (r : World) (F : List Res) (w : World) (hS : Sep r [] (PC g cell ten vg c :: F) w) (hs : SSort c.s) (hk : k.size ≤ maxLen) :
    Calls Tryz.prog 81 #[.pointer (some ⟨g, 0, .none⟩), .string k] w fun e w' => e = .returned (getV (atK c.s k)) ∧ Sep r [] (PC g cell ten vg c :: F) w' := by
  obtain ⟨A, cap, gs, gq, gt, hS⟩ := Sep.PC_open.1 hS
  refine Z.enter Tryz.func81 Tryz.ntmps81 rfl rfl ?_
  repeat' (first|refine VP ?_|refine Sh.la hS ?_|refine Sh.lb ?_|refine Sh.lc ?_|refine Sh.su ?_|(refine Sh.sa hS ?_;clear hS;intro w hS)|((first|refine Sh.aa hS ?_|refine Sh.ab hS ?_|refine Sh.ac hS ?_);clear hS;intro g w hS hge)|refine Sh.ix ?_|refine Sh.up ?_|refine Sh.sl1 ?_|refine Sh.sl2 ?_|refine Sh.sl5 ?_|refine Sh.sl3 ?_|refine Sh.sl4 ?_|refine Sh.eq ?_|refine Sh.ne ?_|refine Sh.ix2 ?_|refine Sh.ix3 ?_|refine Z.bu rfl rfl ?_|refine Z.buA rfl rfl ?_|refine VM ?_|refine Z.pl (R.cap rfl rfl) ?_|refine Z.pl R.mf ?_|refine Z.pl (R.min2 rfl rfl) ?_|refine G1 ?_|refine G2 ?_|refine G3 ?_|refine G4 ?_|with_reducible (first|refine V0 ?_|refine Z.block ?_)|((with_reducible refine Z.blX ?_ ?_);rotate_left;rfl)|refine VT ?_|refine VF ?_|((first|refine GS ?_ ?_|refine VB ?_ ?_)<;>intro hb<;>(try simp only [J1,J2,J3,J4,J5,J6] at hb)<;>(try (exfalso;first|omega|exact hb trivial))))
  replace hS := hS.fo (R := PS gs c.s)
  refine Z.eff (Z.cl (psget_z gs c.s k _ _ _ hS hs hk) rfl ?_) rfl
  clear hS
  rintro e w ⟨rfl, hS⟩
  refine ⟨_, rfl, ?_⟩
  rw [getV_eq]
  repeat' (first|refine VP ?_|refine Sh.la hS ?_|refine Sh.lb ?_|refine Sh.lc ?_|refine Sh.su ?_|(refine Sh.sa hS ?_;clear hS;intro w hS)|((first|refine Sh.aa hS ?_|refine Sh.ab hS ?_|refine Sh.ac hS ?_);clear hS;intro g w hS hge)|refine Sh.ix ?_|refine Sh.up ?_|refine Sh.sl1 ?_|refine Sh.sl2 ?_|refine Sh.sl5 ?_|refine Sh.sl3 ?_|refine Sh.sl4 ?_|refine Sh.eq ?_|refine Sh.ne ?_|refine Sh.ix2 ?_|refine Sh.ix3 ?_|refine Z.bu rfl rfl ?_|refine Z.buA rfl rfl ?_|refine VM ?_|refine Z.pl (R.cap rfl rfl) ?_|refine Z.pl R.mf ?_|refine Z.pl (R.min2 rfl rfl) ?_|refine G1 ?_|refine G2 ?_|refine G3 ?_|refine G4 ?_|with_reducible (first|refine V0 ?_|refine Z.block ?_)|((with_reducible refine Z.blX ?_ ?_);rotate_left;rfl)|refine VT ?_|refine VF ?_|((first|refine GS ?_ ?_|refine VB ?_ ?_)<;>intro hb<;>(try simp only [J1,J2,J3,J4,J5,J6] at hb)<;>(try (exfalso;first|omega|exact hb trivial))))
  first | refine Z.done hS Tryz.results81 (Z.RV.tmp rfl (Z.RV.tmp rfl (Z.RV.tmp rfl Z.RV.nil))) ?_ | refine Z.doneN hS Tryz.results81 (Z.RV.tmp rfl (Z.RV.tmp rfl (Z.RV.tmp rfl Z.RV.nil))) ?_
  exact ⟨rfl, Sep.PC_open.2 ⟨_, _, _, _, _, hS.sb⟩⟩
theorem pccrash_z (g gg : Nat) (cell ten : Int) (c : Cp) (G : Ga) (r : World) (F : List Res) (w : World) (hS : Sep r [] (PC g cell ten (.pointer (some ⟨gg, 0, .none⟩)) c :: GP gg G :: F) w) :
    Calls Tryz.prog 45 #[.pointer (some ⟨g, 0, .none⟩)] w fun e w' => ∃ v, e = .returned v ∧ Sep r [] (PC g cell ten (.pointer (some ⟨gg, 0, .none⟩)) ⟨c.h, c.s, ⟨c.q.l, [], c.q.most⟩, c.t⟩ :: GP gg ⟨G.cell, G.closed, []⟩ :: F) w' := by
  obtain ⟨A, cap, gs, gq, gt, hS⟩ := Sep.PC_open.1 hS
  refine Z.enter Tryz.func45 Tryz.ntmps45 rfl rfl ?_
  repeat' (first|refine VP ?_|refine Sh.la hS ?_|refine Sh.lb ?_|refine Sh.lc ?_|refine Sh.su ?_|(refine Sh.sa hS ?_;clear hS;intro w hS)|((first|refine Sh.aa hS ?_|refine Sh.ab hS ?_|refine Sh.ac hS ?_);clear hS;intro g w hS hge)|refine Sh.ix ?_|refine Sh.up ?_|refine Sh.sl1 ?_|refine Sh.sl2 ?_|refine Sh.sl5 ?_|refine Sh.sl3 ?_|refine Sh.sl4 ?_|refine Sh.eq ?_|refine Sh.ne ?_|refine Sh.ix2 ?_|refine Sh.ix3 ?_|refine Z.bu rfl rfl ?_|refine Z.buA rfl rfl ?_|refine VM ?_|refine Z.pl (R.cap rfl rfl) ?_|refine Z.pl R.mf ?_|refine Z.pl (R.min2 rfl rfl) ?_|refine G1 ?_|refine G2 ?_|refine G3 ?_|refine G4 ?_|with_reducible (first|refine V0 ?_|refine Z.block ?_)|((with_reducible refine Z.blX ?_ ?_);rotate_left;rfl)|refine VT ?_|refine VF ?_|((first|refine GS ?_ ?_|refine VB ?_ ?_)<;>intro hb<;>(try simp only [J1,J2,J3,J4,J5,J6] at hb)<;>(try (exfalso;first|omega|exact hb trivial))))
  replace hS := hS.fo (R := GP gg G)
  refine Z.eff (Z.cl (gcrash_z gg G _ _ _ hS) rfl ?_) rfl
  clear hS
  rintro e w ⟨v1, rfl, hS⟩
  refine ⟨_, rfl, ?_⟩
  repeat' (first|refine VP ?_|refine Sh.la hS ?_|refine Sh.lb ?_|refine Sh.lc ?_|refine Sh.su ?_|(refine Sh.sa hS ?_;clear hS;intro w hS)|((first|refine Sh.aa hS ?_|refine Sh.ab hS ?_|refine Sh.ac hS ?_);clear hS;intro g w hS hge)|refine Sh.ix ?_|refine Sh.up ?_|refine Sh.sl1 ?_|refine Sh.sl2 ?_|refine Sh.sl5 ?_|refine Sh.sl3 ?_|refine Sh.sl4 ?_|refine Sh.eq ?_|refine Sh.ne ?_|refine Sh.ix2 ?_|refine Sh.ix3 ?_|refine Z.bu rfl rfl ?_|refine Z.buA rfl rfl ?_|refine VM ?_|refine Z.pl (R.cap rfl rfl) ?_|refine Z.pl R.mf ?_|refine Z.pl (R.min2 rfl rfl) ?_|refine G1 ?_|refine G2 ?_|refine G3 ?_|refine G4 ?_|with_reducible (first|refine V0 ?_|refine Z.block ?_)|((with_reducible refine Z.blX ?_ ?_);rotate_left;rfl)|refine VT ?_|refine VF ?_|((first|refine GS ?_ ?_|refine VB ?_ ?_)<;>intro hb<;>(try simp only [J1,J2,J3,J4,J5,J6] at hb)<;>(try (exfalso;first|omega|exact hb trivial))))
  replace hS := hS.fo (R := PQ gq c.q)
  refine Z.eff (Z.cl (pqforget_z gq c.q _ _ _ hS) rfl ?_) rfl
  clear hS
  rintro e w ⟨v2, rfl, hS⟩
  refine ⟨_, rfl, ?_⟩
  repeat' (first|refine VP ?_|refine Sh.la hS ?_|refine Sh.lb ?_|refine Sh.lc ?_|refine Sh.su ?_|(refine Sh.sa hS ?_;clear hS;intro w hS)|((first|refine Sh.aa hS ?_|refine Sh.ab hS ?_|refine Sh.ac hS ?_);clear hS;intro g w hS hge)|refine Sh.ix ?_|refine Sh.up ?_|refine Sh.sl1 ?_|refine Sh.sl2 ?_|refine Sh.sl5 ?_|refine Sh.sl3 ?_|refine Sh.sl4 ?_|refine Sh.eq ?_|refine Sh.ne ?_|refine Sh.ix2 ?_|refine Sh.ix3 ?_|refine Z.bu rfl rfl ?_|refine Z.buA rfl rfl ?_|refine VM ?_|refine Z.pl (R.cap rfl rfl) ?_|refine Z.pl R.mf ?_|refine Z.pl (R.min2 rfl rfl) ?_|refine G1 ?_|refine G2 ?_|refine G3 ?_|refine G4 ?_|with_reducible (first|refine V0 ?_|refine Z.block ?_)|((with_reducible refine Z.blX ?_ ?_);rotate_left;rfl)|refine VT ?_|refine VF ?_|((first|refine GS ?_ ?_|refine VB ?_ ?_)<;>intro hb<;>(try simp only [J1,J2,J3,J4,J5,J6] at hb)<;>(try (exfalso;first|omega|exact hb trivial))))
  first | refine Z.done hS Tryz.results45 Z.RV.nil ?_ | refine Z.doneN hS Tryz.results45 Z.RV.nil ?_
  exact ⟨_, rfl, Sep.PC_open.2 ⟨_, _, _, _, _, hS.sb⟩⟩
theorem pccopy_z (gp gg : Nat) (cell ten : Int) (c : Cp) (G : Ga) (r : World) (F : List Res) (w : World) (hS : Sep r [] (PC gp cell ten (.pointer (some ⟨gg, 0, .none⟩)) c :: GP gg G :: F) w) (hl : c.h.length ≤ 5000) (h2 : c.q.l.length ≤ 1000) (h3 : c.q.r.length ≤ 1000) (hgl : G.ws.length ≤ 100000) :
    Calls Tryz.prog 42 #[.pointer (some ⟨gp, 0, .none⟩)] w fun e w' => ∃ g' gg', e = .returned (.pointer (some ⟨g', 0, .none⟩)) ∧ Sep r [] (PC g' cell ten (.pointer (some ⟨gg', 0, .none⟩)) c :: GP gg' G :: PC gp cell ten (.pointer (some ⟨gg, 0, .none⟩)) c :: GP gg G :: F) w' := by
  obtain ⟨A, cap, gs, gq, gt, hS⟩ := Sep.PC_open.1 hS
  refine Z.enter Tryz.func42 Tryz.ntmps42 rfl rfl ?_
  repeat' (first|refine VP ?_|refine Sh.la hS ?_|refine Sh.lb ?_|refine Sh.lc ?_|refine Sh.su ?_|(refine Sh.sa hS ?_;clear hS;intro w hS)|((first|refine Sh.aa hS ?_|refine Sh.ab hS ?_|refine Sh.ac hS ?_);clear hS;intro g w hS hge)|refine Sh.ix ?_|refine Sh.up ?_|refine Sh.sl1 ?_|refine Sh.sl2 ?_|refine Sh.sl5 ?_|refine Sh.sl3 ?_|refine Sh.sl4 ?_|refine Sh.eq ?_|refine Sh.ne ?_|refine Sh.ix2 ?_|refine Sh.ix3 ?_|refine Z.bu rfl rfl ?_|refine Z.buA rfl rfl ?_|refine VM ?_|refine Z.pl (R.cap rfl rfl) ?_|refine Z.pl R.mf ?_|refine Z.pl (R.min2 rfl rfl) ?_|refine G1 ?_|refine G2 ?_|refine G3 ?_|refine G4 ?_|with_reducible (first|refine V0 ?_|refine Z.block ?_)|((with_reducible refine Z.blX ?_ ?_);rotate_left;rfl)|refine VT ?_|refine VF ?_|((first|refine GS ?_ ?_|refine VB ?_ ?_)<;>intro hb<;>(try simp only [J1,J2,J3,J4,J5,J6] at hb)<;>(try (exfalso;first|omega|exact hb trivial))))
  refine D.startS (Lr := [.blk gp 120 _]) (hS.sb) 26 26 (by kernel_rfl) rfl ?_
  replace hS := hS.drew
  refine Sh.dp 0 1 ?_
  refine Sh.dp 1 3 ?_
  refine Sh.dp 2 7 ?_
  refine Sh.dp 4 23 ?_
  refine Sh.dp 5 55 ?_
  refine Sh.dp 6 119 ?_
  refine Sh.dp 8 375 ?_
  refine Sh.dp 9 887 ?_
  refine Sh.dp 10 1911 ?_
  refine Sh.dp 13 10103 ?_
  refine Sh.dp 14 26487 ?_
  refine Sh.dp 15 59255 ?_
  refine Sh.dp 18 321399 ?_
  refine Sh.dp 19 845687 ?_
  refine Sh.dp 20 1894263 ?_
  refine Sh.dl 3 1894271 ?_
  refine Sh.dl 7 1894399 ?_
  refine Sh.dl 11 1896447 ?_
  refine Sh.dl 16 1961983 ?_
  refine Sh.dl 21 4059135 ?_
  refine D.eff 12 4063231 rfl D.wantedN (by kernel_rfl) (by kernel_rfl) (fun _ _ h => h) ?_
  refine Z.cl (ch_clone c.h _ _ _ _ hS (Reads.of_at (e := 49) (v := .slice A c.h.length cap) (by repeat (first | exact At.here | apply At.next))) (by omega)) rfl ?_
  clear hS
  rintro e w ⟨A1, c1, rfl, hS⟩
  refine ⟨_, rfl, ?_⟩
  refine ⟨HM.s (hS.sb), ?_⟩
  refine D.eff 17 4194303 rfl D.wantedN (by kernel_rfl) (by kernel_rfl) (fun _ _ h => h) ?_
  replace hS := ((hS.focus (R := PT gt c.t) (by repeat (first | exact At.here | apply At.next))).focus (R := PQ gq c.q) (by repeat (first | exact At.here | apply At.next))).focus (R := PS gs c.s) (by repeat (first | exact At.here | apply At.next))
  refine Z.cl (pfcopy_z gs gq gt c.s c.q c.t _ _ _ hS h2 h3) rfl ?_
  clear hS
  rintro e w ⟨gs', gq', gt', rfl, hS⟩
  refine ⟨_, rfl, ?_⟩
  refine ⟨HM.s (hS.sb), ?_⟩
  refine D.eff 22 8388607 rfl D.wantedN (by kernel_rfl) (by kernel_rfl) (fun _ _ h => h) ?_
  replace hS := hS.fo (R := GP gg G)
  refine Z.cl (gcopy_z gg G _ _ _ hS hgl) rfl ?_
  clear hS
  rintro e w ⟨gg', rfl, hS⟩
  refine ⟨_, rfl, ?_⟩
  refine ⟨HM.s (hS.sb), ?_⟩
  first | refine D.bu 23 16777215 rfl D.wantedN (by kernel_rfl) rfl rfl ?_ | refine D.buA 23 16777215 rfl D.wantedN (by kernel_rfl) rfl rfl ?_
  refine D.eff 24 33554431 rfl D.wantedN (by kernel_rfl) (by kernel_rfl) (fun _ _ h => h) ?_
  refine Z.bx hS rfl ?_
  clear hS; intro g w hS hge
  refine ⟨HM.s (hS.sb), ?_⟩
  refine Sh.dp 25 67108863 ?_
  refine D.done (by kernel_rfl) ?_
  repeat' (first|refine VP ?_|refine Sh.la hS ?_|refine Sh.lb ?_|refine Sh.lc ?_|refine Sh.su ?_|(refine Sh.sa hS ?_;clear hS;intro w hS)|((first|refine Sh.aa hS ?_|refine Sh.ab hS ?_|refine Sh.ac hS ?_);clear hS;intro g w hS hge)|refine Sh.ix ?_|refine Sh.up ?_|refine Sh.sl1 ?_|refine Sh.sl2 ?_|refine Sh.sl5 ?_|refine Sh.sl3 ?_|refine Sh.sl4 ?_|refine Sh.eq ?_|refine Sh.ne ?_|refine Sh.ix2 ?_|refine Sh.ix3 ?_|refine Z.bu rfl rfl ?_|refine Z.buA rfl rfl ?_|refine VM ?_|refine Z.pl (R.cap rfl rfl) ?_|refine Z.pl R.mf ?_|refine Z.pl (R.min2 rfl rfl) ?_|refine G1 ?_|refine G2 ?_|refine G3 ?_|refine G4 ?_|with_reducible (first|refine V0 ?_|refine Z.block ?_)|((with_reducible refine Z.blX ?_ ?_);rotate_left;rfl)|refine VT ?_|refine VF ?_|((first|refine GS ?_ ?_|refine VB ?_ ?_)<;>intro hb<;>(try simp only [J1,J2,J3,J4,J5,J6] at hb)<;>(try (exfalso;first|omega|exact hb trivial))))
  first | refine Z.done hS Tryz.results42 (Z.RV.tmp rfl Z.RV.nil) ?_ | refine Z.doneN hS Tryz.results42 (Z.RV.tmp rfl Z.RV.nil) ?_
  have hS := Sep.PC_open.2 ⟨_, _, _, _, _, hS.sub (L' := .blk gp 120 [.int .i64 cell, .int .i64 ten, .slice A c.h.length cap, .pointer (some ⟨gs, 0, .none⟩), .pointer (some ⟨gq, 0, .none⟩), .pointer (some ⟨gt, 0, .none⟩), .pointer (some ⟨gg, 0, .none⟩)] :: .sl 49 8 (.slice A c.h.length cap) (c.h.map Ch.cells) :: PS gs c.s :: PQ gq c.q :: PT gt c.t :: .blk g 120 [.int .i64 cell, .int .i64 ten, .slice A1 c.h.length c1, .pointer (some ⟨gs', 0, .none⟩), .pointer (some ⟨gq', 0, .none⟩), .pointer (some ⟨gt', 0, .none⟩), .pointer (some ⟨gg', 0, .none⟩)] :: .sl 49 8 (.slice A1 c.h.length c1) (c.h.map Ch.cells) :: PS gs' c.s :: PQ gq' c.q :: PT gt' c.t :: GP gg' G :: GP gg G :: F) (by repeat (first | exact Sub.rest | exact Sub.nil | exact .skip .rest | exact .skip (.skip .rest) | exact .skip (.skip (.skip .rest)) | apply Sub.keep | refine Sub.cons (by repeat (first | exact At.here | apply At.next)) ?_ | apply Sub.skip))⟩
  exact ⟨g, gg', rfl, Sep.PC_open.2 ⟨_, _, _, _, _, hS.sb⟩⟩
end Go.Proofs.YtahackdfjcgkhaaGreat
