/-
  Helpers of FollowTakes: Range with a low bound below 0, the comparison of a copy with the reference, frozen slices.
-/
import Derived.Test.YtmjdkgpckcdndaaNWa
import Derived.Test.YtmjdkgpckcdndaaNWg
import Derived.Test.YtmjdkgpckcdndaaNFv
import Derived.Test.YtmjdkgpckcdndaaML
namespace Go.Proofs.Ytmjdkgpckcdndaa
open Go.RowKit
set_option linter.unusedSimpArgs false
set_option linter.unusedVariables false
attribute [local irreducible] Res.blk Res.sl Res.all Res.ex Res.pure Res.star

theorem rangeN_z {r w : World} {F : List Res} {g : Nat} {l : List Int} {i : Nat} (lo hi : Int) (hS : Sep r [] (TpR r g l i :: F) w) (h0 : -1000 ≤ lo) (h1 : lo ≤ hi) (h2 : hi ≤ 100000) :
    Calls Try.prog 21 #[.pointer (some ⟨g, 0, .none⟩), .int .i64 lo, .int .i64 hi] w fun e w' => e = .returned (.int .i64 (lo + nxt l i (hi - lo + 1))) ∧ Sep r [] (TpR r g l (adv l i) :: F) w' := by
  have hb := nxt_bd l i (hi - lo + 1) (by omega)
  refine Z.enter Try.func21 Try.ntmps21 rfl rfl ?_
  repeat' (first|refine VP ?_|refine Sh.la hS ?_|refine Sh.lb ?_|refine Sh.lc ?_|refine Sh.su ?_|(refine Sh.sa hS ?_;clear hS;intro w hS)|((first|refine Sh.aa hS ?_|refine Sh.ab hS ?_|refine Sh.ac hS ?_);clear hS;intro g w hS hge)|refine Sh.ix ?_|refine Sh.up ?_|refine Sh.sl1 ?_|refine Sh.sl2 ?_|refine Sh.sl5 ?_|refine Sh.sl3 ?_|refine Sh.sl4 ?_|refine Sh.eq ?_|refine Sh.ne ?_|refine Sh.ix2 ?_|refine Sh.ix3 ?_|refine Z.bu rfl rfl ?_|refine VM ?_|refine Z.pl (R.cap rfl rfl) ?_|refine Z.pl R.mf ?_|refine Z.pl (R.min2 rfl rfl) ?_|refine G1 ?_|refine G2 ?_|refine G3 ?_|refine G4 ?_|with_reducible (first|refine V0 ?_|refine Z.block ?_)|((with_reducible refine Z.blX ?_ ?_);rotate_left;rfl)|refine VT ?_|refine VF ?_|((first|refine GS ?_ ?_|refine VB ?_ ?_)<;>intro hb<;>(try simp only [J1,J2,J3,J4,J5,J6] at hb)<;>(try (exfalso;first|omega|exact hb trivial))))
  refine Z.eff (Z.cl (next_z (hi - lo + 1) hS (by omega) (by omega)) rfl ?_) rfl
  clear hS
  rintro e w ⟨rfl, hS⟩
  refine ⟨_, rfl, ?_⟩
  repeat' (first|refine VP ?_|refine Sh.la hS ?_|refine Sh.lb ?_|refine Sh.lc ?_|refine Sh.su ?_|(refine Sh.sa hS ?_;clear hS;intro w hS)|((first|refine Sh.aa hS ?_|refine Sh.ab hS ?_|refine Sh.ac hS ?_);clear hS;intro g w hS hge)|refine Sh.ix ?_|refine Sh.up ?_|refine Sh.sl1 ?_|refine Sh.sl2 ?_|refine Sh.sl5 ?_|refine Sh.sl3 ?_|refine Sh.sl4 ?_|refine Sh.eq ?_|refine Sh.ne ?_|refine Sh.ix2 ?_|refine Sh.ix3 ?_|refine Z.bu rfl rfl ?_|refine VM ?_|refine Z.pl (R.cap rfl rfl) ?_|refine Z.pl R.mf ?_|refine Z.pl (R.min2 rfl rfl) ?_|refine G1 ?_|refine G2 ?_|refine G3 ?_|refine G4 ?_|with_reducible (first|refine V0 ?_|refine Z.block ?_)|((with_reducible refine Z.blX ?_ ?_);rotate_left;rfl)|refine VT ?_|refine VF ?_|((first|refine GS ?_ ?_|refine VB ?_ ?_)<;>intro hb<;>(try simp only [J1,J2,J3,J4,J5,J6] at hb)<;>(try (exfalso;first|omega|exact hb trivial))))
  first | refine Z.done hS Try.results21 (Z.RV.tmp rfl Z.RV.nil) ?_ | refine Z.doneN hS Try.results21 (Z.RV.tmp rfl Z.RV.nil) ?_
  exact ⟨rfl, hS⟩
theorem same29_z (g gw : Nat) (cell ten cell' ten' : Int) (vg vg' : Value) (c : Cp) (r : World) (F : List Res) (w : World) (hS : Sep r [] (PC g cell ten vg c :: CR gw cell' ten' vg' c :: F) w) (hl : c.h.length ≤ 5000) :
    Calls Try.prog 25 #[.pointer (some ⟨g, 0, .none⟩), .pointer (some ⟨gw, 0, .none⟩)] w fun e w' => e = .returned (.bool true) ∧ Sep r [] (PC g cell ten vg c :: CR gw cell' ten' vg' c :: F) w' := by
  obtain ⟨vh, gs, gq, gt, vs, vl, vr, hS⟩ := Sep.CR_open.1 hS.swap
  obtain ⟨Ah, ch, rfl, hch⟩ := (hS.slrows (.next .here)).mform
  refine Z.enter Try.func25 Try.ntmps25 rfl rfl ?_
  repeat' (first|refine VP ?_|refine Sh.la hS ?_|refine Sh.lb ?_|refine Sh.lc ?_|refine Sh.su ?_|(refine Sh.sa hS ?_;clear hS;intro w hS)|((first|refine Sh.aa hS ?_|refine Sh.ab hS ?_|refine Sh.ac hS ?_);clear hS;intro g w hS hge)|refine Sh.ix ?_|refine Sh.up ?_|refine Sh.sl1 ?_|refine Sh.sl2 ?_|refine Sh.sl5 ?_|refine Sh.sl3 ?_|refine Sh.sl4 ?_|refine Sh.eq ?_|refine Sh.ne ?_|refine Sh.ix2 ?_|refine Sh.ix3 ?_|refine Z.bu rfl rfl ?_|refine VM ?_|refine Z.pl (R.cap rfl rfl) ?_|refine Z.pl R.mf ?_|refine Z.pl (R.min2 rfl rfl) ?_|refine G1 ?_|refine G2 ?_|refine G3 ?_|refine G4 ?_|with_reducible (first|refine V0 ?_|refine Z.block ?_)|((with_reducible refine Z.blX ?_ ?_);rotate_left;rfl)|refine VT ?_|refine VF ?_|((first|refine GS ?_ ?_|refine VB ?_ ?_)<;>intro hb<;>(try simp only [J1,J2,J3,J4,J5,J6] at hb)<;>(try (exfalso;first|omega|exact hb trivial))))
  refine D.startS (Lr := [.blk gw 98 [.int .i64 cell', .int .i64 ten', .slice Ah c.h.length ch, .pointer (some ⟨gs, 0, .none⟩), .pointer (some ⟨gq, 0, .none⟩), .pointer (some ⟨gt, 0, .none⟩), vg']]) (hS.sb) 8 8 (by kernel_rfl) rfl ?_
  replace hS := hS.drew
  refine Sh.dp 0 1 ?_
  refine Sh.dp 2 5 ?_
  refine Sh.dp 3 13 ?_
  refine Sh.dp 4 29 ?_
  refine Sh.dl 5 61 ?_
  refine D.eff 1 63 rfl D.wantedN (by kernel_rfl) (by kernel_rfl) (fun _ _ h => h) ?_
  replace hS := hS.fo (R := PC g _ _ _ _)
  refine Z.cl (phist0_z g cell ten vg c _ _ _ hS hl) rfl ?_
  clear hS
  rintro e w ⟨A1, c1, rfl, hS⟩
  refine ⟨_, rfl, ?_⟩
  refine ⟨HM.s (hS.sb), ?_⟩
  refine D.eff 6 127 rfl D.wantedN (by kernel_rfl) (by kernel_rfl) (fun _ _ h => h) ?_
  refine Z.cl (chsame_z c.h c.h _ _ _ _ _ hS (Reads.of_at (e := 51) (v := .slice A1 c.h.length c1) (by repeat (first | exact At.here | apply At.next))) (Reads.of_at (e := 51) (v := .slice Ah c.h.length ch) (by repeat (first | exact At.here | apply At.next))) (by omega) (by omega)) rfl ?_
  clear hS
  rintro e w ⟨rfl, hS⟩
  refine ⟨_, rfl, ?_⟩
  rw [decide_eq_true (rfl : c.h = c.h)]
  refine ⟨HM.s (hS.sb), ?_⟩
  refine Sh.dp 7 255 ?_
  refine D.done (by kernel_rfl) ?_
  repeat' (first|refine VP ?_|refine Sh.la hS ?_|refine Sh.lb ?_|refine Sh.lc ?_|refine Sh.su ?_|(refine Sh.sa hS ?_;clear hS;intro w hS)|((first|refine Sh.aa hS ?_|refine Sh.ab hS ?_|refine Sh.ac hS ?_);clear hS;intro g w hS hge)|refine Sh.ix ?_|refine Sh.up ?_|refine Sh.sl1 ?_|refine Sh.sl2 ?_|refine Sh.sl5 ?_|refine Sh.sl3 ?_|refine Sh.sl4 ?_|refine Sh.eq ?_|refine Sh.ne ?_|refine Sh.ix2 ?_|refine Sh.ix3 ?_|refine Z.bu rfl rfl ?_|refine VM ?_|refine Z.pl (R.cap rfl rfl) ?_|refine Z.pl R.mf ?_|refine Z.pl (R.min2 rfl rfl) ?_|refine G1 ?_|refine G2 ?_|refine G3 ?_|refine G4 ?_|with_reducible (first|refine V0 ?_|refine Z.block ?_)|((with_reducible refine Z.blX ?_ ?_);rotate_left;rfl)|refine VT ?_|refine VF ?_|((first|refine GS ?_ ?_|refine VB ?_ ?_)<;>intro hb<;>(try simp only [J1,J2,J3,J4,J5,J6] at hb)<;>(try (exfalso;first|omega|exact hb trivial))))
  first | refine Z.done hS Try.results25 (Z.RV.tmp rfl Z.RV.nil) ?_ | refine Z.doneN hS Try.results25 (Z.RV.tmp rfl Z.RV.nil) ?_
  replace hS := Sep.CR_open.2 ⟨_, _, _, _, _, _, _, hS.sub (L' := .blk gw _ _ :: .sl 51 8 (.slice Ah c.h.length ch) _ :: .blk gs _ _ :: .sl 146 3 _ _ :: .blk gq _ _ :: .sl 148 2 _ _ :: .sl 175 4 _ _ :: .blk gt _ _ :: PC g cell ten vg c :: F) (by repeat (first | exact Sub.rest | exact Sub.nil | exact .skip .rest | exact .skip (.skip .rest) | exact .skip (.skip (.skip .rest)) | apply Sub.keep | refine Sub.cons (by repeat (first | exact At.here | apply At.next)) ?_ | apply Sub.skip))⟩
  exact ⟨rfl, hS.swap⟩
theorem rd_of_rows {w : World} {A : Option Addr} {n c : Nat} {l : List Int} (h : Rows' w 1 (.slice A n c) (l.map intC)) : n = l.length ∧ Rd w 1 A l.length (l.map (Value.int .i64)) := by
  obtain ⟨_, A', c', hv, _, _, hr⟩ := h
  injection hv with e1 e2 e3
  subst e1
  rw [List.length_map] at e2 hr
  rw [flat_intC] at hr
  exact ⟨e2, hr⟩
theorem Sub.toEnd {R : Res} : ∀ L : List Res, Sub (L ++ [R]) [R]
  | [] => .rest
  | _ :: L => .skip (Sub.toEnd L)
theorem Reads.starR {r : World} {X G : Res} {sz : Nat} {v : Value} {rows : List (List Value)} (h : Reads r [G] sz v rows) : Reads r [Res.star X G] sz v rows :=
  fun L w hS => h [] w (Sep.star_open.1 (hS.sub (Sub.toEnd L))).tail
theorem Reads.starL {r : World} {G : Res} {e sz : Nat} {v : Value} {rows : List (List Value)} : Reads r [Res.star (.sl e sz v rows) G] sz v rows :=
  fun L w hS => (Sep.star_open.1 (hS.sub (Sub.toEnd L))).slrows .here
theorem he_self (a : He) : eqV (HasQ.qt (P := Try.prog)) 20 53 (.agg a.cells.toArray) (.agg a.cells.toArray) = some true := by
  have e : eqV (HasQ.qt (P := Try.prog)) 20 53 (.agg a.cells.toArray) (.agg a.cells.toArray) = some (decide (a.ep = a.ep) && (decide (a.applied = a.applied) && ((a.ok == a.ok) && true))) := rfl
  rw [e]
  simp
end Go.Proofs.Ytmjdkgpckcdndaa
