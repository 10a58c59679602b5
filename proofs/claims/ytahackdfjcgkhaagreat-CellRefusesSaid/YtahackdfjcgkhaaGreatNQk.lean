/-
  The reference's queue: Take; Apply, Copy, Same, Fold of both.
-/
import Derived.Test.YtahackdfjcgkhaaGreatNQr
namespace Go.Proofs.YtahackdfjcgkhaaGreat
open Go.RowKit
set_option linter.unusedSimpArgs false
set_option linter.unusedVariables false
attribute [local irreducible] Res.blk Res.sl Res.all Res.ex Res.pure Res.star

/-- What the reference's Take makes of a queue, and what it returns. -/
def takeR (q : Qu) (cl ep tk ho : Int) : TkR :=
  if takeBad cl ep tk ho then ⟨q, .zero, .zero, 1⟩
  else match freeI q.l q.r ep tk with
    | some x => ⟨⟨q.l, without q.r x.number ++ [⟨x.number, cl, ep, tk + ho⟩], q.most⟩, x, ⟨x.number, cl, ep, tk + ho⟩, 0⟩
    | none => ⟨q, .zero, .zero, 34⟩

set_option maxHeartbeats 8000000 in
theorem rqtake_z (gq : Nat) (q : Qu) (cl ep tk ho : Int) (r : World) (F : List Res) (w : World) (hS : Sep r [] (QR gq q :: F) w) (hl : q.l.length ≤ 1000) (hl' : q.r.length ≤ 999) :
    Calls Tryz.prog 90 #[.pointer (some ⟨gq, 0, none⟩), .int .i64 cl, .int .i64 ep, .int .i64 tk, .int .i64 ho] w fun e w' => e = .returned (takeR q cl ep tk ho).val ∧ Sep r [] (QR gq (takeR q cl ep tk ho).q :: F) w' := by
  obtain ⟨A, c, B, d, hS⟩ := Sep.QR_form hS
  refine Z.enter Tryz.func90 Tryz.ntmps90 rfl rfl ?_
  repeat' (first|refine VP ?_|refine Sh.la hS ?_|refine Sh.lb ?_|refine Sh.lc ?_|refine Sh.su ?_|(refine Sh.sa hS ?_;clear hS;intro w hS)|((first|refine Sh.aa hS ?_|refine Sh.ab hS ?_|refine Sh.ac hS ?_);clear hS;intro g w hS hge)|refine Sh.ix ?_|refine Sh.up ?_|refine Sh.sl1 ?_|refine Sh.sl2 ?_|refine Sh.sl5 ?_|refine Sh.sl3 ?_|refine Sh.sl4 ?_|refine Sh.eq ?_|refine Sh.ne ?_|refine Sh.ix2 ?_|refine Sh.ix3 ?_|refine Z.bu rfl rfl ?_|refine Z.buA rfl rfl ?_|refine VM ?_|refine Z.pl (R.cap rfl rfl) ?_|refine Z.pl R.mf ?_|refine Z.pl (R.min2 rfl rfl) ?_|refine G1 ?_|refine G2 ?_|refine G3 ?_|refine G4 ?_|with_reducible (first|refine V0 ?_|refine Z.block ?_)|((with_reducible refine Z.blX ?_ ?_);rotate_left;rfl)|refine VT ?_|refine VF ?_|((first|refine GS ?_ ?_|refine VB ?_ ?_)<;>intro hb<;>(try simp only [J1,J2,J3,J4,J5,J6] at hb)<;>(try (exfalso;first|omega|exact hb trivial))))
  rotate_left 8
  · rename_i g10 w10 hg10 h1 h2 h3 h4 h5 h6 h7
    have hbad : ¬ takeBad cl ep tk ho := by unfold takeBad; omega
    replace hS : Sep r [] (.blk gq 105 [.slice A q.l.length c, .slice B q.r.length d, .int .i64 q.most] :: .sl 79 2 (.slice A q.l.length c) (q.l.map It.cells) :: .sl 133 4 (.slice B q.r.length d) (q.r.map Le.cells) :: .blk g10 79 It.zero.cells :: .blk g 133 Le.zero.cells :: F) _ := hS.sb
    generalize g = g11 at *
    refine Z.lpS [12, 14, 15, 16, 17, 55, 56, 57, 58, 59, 60, 61, 62, 63, 64, 65, 66, 67, 68, 69, 70, 71, 72, 73, 74, 75, 76, 77, 78, 79, 80, 81, 82, 83, 84, 85, 86, 87, 88, 89, 90, 91, 92, 93, 94] (fun m w s => ∃ (k : Nat), s = [(55, .int .i64 k)] ∧ k ≤ q.l.length ∧ (∀ j (hj : j < q.l.length), j < k → heldB q.r q.l[j].number ep tk = true) ∧ m = q.l.length - k ∧ Sep r [] (.blk gq 105 [.slice A q.l.length c, .slice B q.r.length d, .int .i64 q.most] :: .sl 79 2 (.slice A q.l.length c) (q.l.map It.cells) :: .sl 133 4 (.slice B q.r.length d) (q.r.map Le.cells) :: .blk g10 79 It.zero.cells :: .blk g11 133 Le.zero.cells :: F) w) _ [(55, .int .i64 (0 : Nat))] (by repeat (first | exact trivial | refine ⟨rfl, ?_⟩)) ⟨0, rfl, by omega, by intro j _ h; omega, rfl, hS⟩ ?_
    clear hS
    rintro m f0 w _ ⟨k, rfl, hk, hall, rfl, hS⟩
    by_cases hlt : k < q.l.length
    · obtain ⟨gb, o, rfl, _, hra⟩ := (hS.slrows (.next .here)).mat (by omega) hlt
      repeat' (first|refine VP ?_|refine Sh.la hS ?_|refine Sh.lb ?_|refine Sh.lc ?_|refine Sh.su ?_|(refine Sh.sa hS ?_;clear hS;intro w hS)|((first|refine Sh.aa hS ?_|refine Sh.ab hS ?_|refine Sh.ac hS ?_);clear hS;intro g w hS hge)|refine Sh.ix ?_|refine Sh.up ?_|refine Sh.sl1 ?_|refine Sh.sl2 ?_|refine Sh.sl5 ?_|refine Sh.sl3 ?_|refine Sh.sl4 ?_|refine Sh.eq ?_|refine Sh.ne ?_|refine Sh.ix2 ?_|refine Sh.ix3 ?_|refine Z.bu rfl rfl ?_|refine Z.buA rfl rfl ?_|refine VM ?_|refine Z.pl (R.cap rfl rfl) ?_|refine Z.pl R.mf ?_|refine Z.pl (R.min2 rfl rfl) ?_|refine G1 ?_|refine G2 ?_|refine G3 ?_|refine G4 ?_|with_reducible (first|refine V0 ?_|refine Z.block ?_)|((with_reducible refine Z.blX ?_ ?_);rotate_left;rfl)|refine VT ?_|refine VF ?_|((first|refine GS ?_ ?_|refine VB ?_ ?_)<;>intro hb<;>(try simp only [J1,J2,J3,J4,J5,J6] at hb)<;>(try (exfalso;first|omega|exact hb trivial))))
      rename Nat => gt
      replace hS := hS.fo (R := .blk gq _ _)
      refine Z.eff (Z.cl (rlive_z gq q.r _ _ _ ep q.l[k].number tk _ _ _ hS (Reads.of_at (e := 133) (.next (.next .here))) (by omega)) rfl ?_) rfl
      clear hS
      rintro e w ⟨rfl, hS⟩
      refine ⟨_, rfl, ?_⟩
      have hsome := liveF_isSome q.r ep q.l[k].number tk
      generalize liveF q.r ep q.l[k].number tk = ol at *
      cases ol with
      | some x =>
        repeat' (first|refine VP ?_|refine Sh.la hS ?_|refine Sh.lb ?_|refine Sh.lc ?_|refine Sh.su ?_|(refine Sh.sa hS ?_;clear hS;intro w hS)|((first|refine Sh.aa hS ?_|refine Sh.ab hS ?_|refine Sh.ac hS ?_);clear hS;intro g w hS hge)|refine Sh.ix ?_|refine Sh.up ?_|refine Sh.sl1 ?_|refine Sh.sl2 ?_|refine Sh.sl5 ?_|refine Sh.sl3 ?_|refine Sh.sl4 ?_|refine Sh.eq ?_|refine Sh.ne ?_|refine Sh.ix2 ?_|refine Sh.ix3 ?_|refine Z.bu rfl rfl ?_|refine Z.buA rfl rfl ?_|refine VM ?_|refine Z.pl (R.cap rfl rfl) ?_|refine Z.pl R.mf ?_|refine Z.pl (R.min2 rfl rfl) ?_|refine G1 ?_|refine G2 ?_|refine G3 ?_|refine G4 ?_|with_reducible (first|refine V0 ?_|refine Z.block ?_)|((with_reducible refine Z.blX ?_ ?_);rotate_left;rfl)|refine VT ?_|refine VF ?_|((first|refine GS ?_ ?_|refine VB ?_ ?_)<;>intro hb<;>(try simp only [J1,J2,J3,J4,J5,J6] at hb)<;>(try (exfalso;first|omega|exact hb trivial))))
        refine Sh.again (q.l.length - (k + 1)) [(55, .int .i64 (k + 1 : Nat))] ?_
        refine ⟨k + 1, rfl, by omega, fun j hj hjk => ?_, rfl, hS.sb⟩
        rcases Nat.lt_or_ge j k with h1 | h1
        · exact hall j hj h1
        · have : j = k := by omega
          subst this
          exact hsome.symm
      | none =>
        have hfree := freeI_at hlt hall hsome.symm
        have e : takeR q cl ep tk ho = ⟨⟨q.l, without q.r q.l[k].number ++ [⟨q.l[k].number, cl, ep, tk + ho⟩], q.most⟩, q.l[k], ⟨q.l[k].number, cl, ep, tk + ho⟩, 0⟩ := by unfold takeR; rw [if_neg hbad, hfree]
        rw [e]
        have hwl : (without q.r q.l[k].number).length ≤ 999 := Nat.le_trans (List.length_filter_le _ _) hl'
        repeat' (first|refine VP ?_|refine Sh.la hS ?_|refine Sh.lb ?_|refine Sh.lc ?_|refine Sh.su ?_|(refine Sh.sa hS ?_;clear hS;intro w hS)|((first|refine Sh.aa hS ?_|refine Sh.ab hS ?_|refine Sh.ac hS ?_);clear hS;intro g w hS hge)|refine Sh.ix ?_|refine Sh.up ?_|refine Sh.sl1 ?_|refine Sh.sl2 ?_|refine Sh.sl5 ?_|refine Sh.sl3 ?_|refine Sh.sl4 ?_|refine Sh.eq ?_|refine Sh.ne ?_|refine Sh.ix2 ?_|refine Sh.ix3 ?_|refine Z.bu rfl rfl ?_|refine Z.buA rfl rfl ?_|refine VM ?_|refine Z.pl (R.cap rfl rfl) ?_|refine Z.pl R.mf ?_|refine Z.pl (R.min2 rfl rfl) ?_|refine G1 ?_|refine G2 ?_|refine G3 ?_|refine G4 ?_|with_reducible (first|refine V0 ?_|refine Z.block ?_)|((with_reducible refine Z.blX ?_ ?_);rotate_left;rfl)|refine VT ?_|refine VF ?_|((first|refine GS ?_ ?_|refine VB ?_ ?_)<;>intro hb<;>(try simp only [J1,J2,J3,J4,J5,J6] at hb)<;>(try (exfalso;first|omega|exact hb trivial))))
        replace hS := hS.fo (R := .blk gq _ _)
        refine Z.eff (Z.cl (qdrop_z gq q.r _ _ _ q.l[k].number r _ _ hS (Reads.of_at (e := 133) (.next (.next (.next .here)))) (by omega)) rfl ?_) rfl
        clear hS
        rintro e w ⟨rfl, v', hS⟩
        refine ⟨_, rfl, ?_⟩
        obtain ⟨B', d', rfl, _⟩ := (hS.slrows (.next .here)).mform
        replace hS : Sep r [] (.blk gq 105 [.slice (some ⟨gb, o, none⟩) q.l.length c, .slice B' (without q.r q.l[k].number).length d', .int .i64 q.most] :: .sl 133 4 (.slice B' (without q.r q.l[k].number).length d') ((without q.r q.l[k].number).map Le.cells) :: .sl 79 2 (.slice (some ⟨gb, o, none⟩) q.l.length c) (q.l.map It.cells) :: .blk gt 79 q.l[k].cells :: .blk g10 79 It.zero.cells :: .blk g11 133 Le.zero.cells :: F) _ := hS.sb
        repeat' (first|refine VP ?_|refine Sh.la hS ?_|refine Sh.lb ?_|refine Sh.lc ?_|refine Sh.su ?_|(refine Sh.sa hS ?_;clear hS;intro w hS)|((first|refine Sh.aa hS ?_|refine Sh.ab hS ?_|refine Sh.ac hS ?_);clear hS;intro g w hS hge)|refine Sh.ix ?_|refine Sh.up ?_|refine Sh.sl1 ?_|refine Sh.sl2 ?_|refine Sh.sl5 ?_|refine Sh.sl3 ?_|refine Sh.sl4 ?_|refine Sh.eq ?_|refine Sh.ne ?_|refine Sh.ix2 ?_|refine Sh.ix3 ?_|refine Z.bu rfl rfl ?_|refine Z.buA rfl rfl ?_|refine VM ?_|refine Z.pl (R.cap rfl rfl) ?_|refine Z.pl R.mf ?_|refine Z.pl (R.min2 rfl rfl) ?_|refine G1 ?_|refine G2 ?_|refine G3 ?_|refine G4 ?_|with_reducible (first|refine V0 ?_|refine Z.block ?_)|((with_reducible refine Z.blX ?_ ?_);rotate_left;rfl)|refine VT ?_|refine VF ?_|((first|refine GS ?_ ?_|refine VB ?_ ?_)<;>intro hb<;>(try simp only [J1,J2,J3,J4,J5,J6] at hb)<;>(try (exfalso;first|omega|exact hb trivial))))
        rename Nat => gl
        refine D.startS (Lr := [.blk gl 133 (⟨q.l[k].number, cl, ep, tk + ho⟩ : Le).cells, .blk gq 105 [.slice (some ⟨gb, o, none⟩) q.l.length c, .slice B' (without q.r q.l[k].number).length d', .int .i64 q.most]]) (hS.sb) 10 11 (by kernel_rfl) rfl ?_
        replace hS := hS.drew
        refine Sh.dp 0 1 ?_
        refine Sh.dp 1 3 ?_
        refine Sh.dp 2 7 ?_
        refine Sh.dp 3 15 ?_
        refine Sh.dl 4 31 ?_
        refine Sh.dl 5 63 ?_
        refine D.eff 6 127 rfl D.wantedN (by kernel_rfl) (by kernel_rfl) (fun _ _ h => h) ?_
        refine Z.bs hS rfl rfl rfl ?_
        clear hS; intro g w hS hge
        refine ⟨HM.s (hS.sb), ?_⟩
        refine D.eff 7 255 rfl D.wantedN (by kernel_rfl) (by kernel_rfl) (fun _ _ h => h) ?_
        refine Z.apm (l' := [(⟨q.l[k].number, cl, ep, tk + ho⟩ : Le)]) hS rfl rfl rfl (by repeat (first | exact At.here | apply At.next)) (hS.lit1 (by repeat (first | exact At.here | apply At.next)) rfl rfl) (by (try simp only [maxLen, List.length_take, List.length_drop, List.length_append, List.length_cons, List.length_nil, List.length_map]); omega) (by (try simp only [maxLen, List.length_take, List.length_drop, List.length_append, List.length_cons, List.length_nil, List.length_map]); omega) ?_
        clear hS; intro A3 c3 w hS
        refine ⟨HM.s (hS.sb), ?_⟩
        refine Sh.dp 8 511 ?_
        refine Sh.dp 9 1023 ?_
        refine D.eff 10 2047 rfl D.wantedN (by kernel_rfl) (by kernel_rfl) (fun _ _ h => h) ?_
        refine Z.st hS rfl (by repeat (first | exact At.here | apply At.next)) rfl rfl ?_
        clear hS; intro w hS
        refine ⟨HM.last (by kernel_rfl), ?_⟩
        refine D.done (by kernel_rfl) ?_
        repeat' (first|refine VP ?_|refine Sh.la hS ?_|refine Sh.lb ?_|refine Sh.lc ?_|refine Sh.su ?_|(refine Sh.sa hS ?_;clear hS;intro w hS)|((first|refine Sh.aa hS ?_|refine Sh.ab hS ?_|refine Sh.ac hS ?_);clear hS;intro g w hS hge)|refine Sh.ix ?_|refine Sh.up ?_|refine Sh.sl1 ?_|refine Sh.sl2 ?_|refine Sh.sl5 ?_|refine Sh.sl3 ?_|refine Sh.sl4 ?_|refine Sh.eq ?_|refine Sh.ne ?_|refine Sh.ix2 ?_|refine Sh.ix3 ?_|refine Z.bu rfl rfl ?_|refine Z.buA rfl rfl ?_|refine VM ?_|refine Z.pl (R.cap rfl rfl) ?_|refine Z.pl R.mf ?_|refine Z.pl (R.min2 rfl rfl) ?_|refine G1 ?_|refine G2 ?_|refine G3 ?_|refine G4 ?_|with_reducible (first|refine V0 ?_|refine Z.block ?_)|((with_reducible refine Z.blX ?_ ?_);rotate_left;rfl)|refine VT ?_|refine VF ?_|((first|refine GS ?_ ?_|refine VB ?_ ?_)<;>intro hb<;>(try simp only [J1,J2,J3,J4,J5,J6] at hb)<;>(try (exfalso;first|omega|exact hb trivial))))
        refine D.startS (Lr := [.blk gl 133 (⟨q.l[k].number, cl, ep, tk + ho⟩ : Le).cells, .blk gt 79 q.l[k].cells]) (hS.sb) 3 5 (by kernel_rfl) rfl ?_
        replace hS := hS.drew
        refine Sh.dl 0 1 ?_
        refine Sh.dl 1 3 ?_
        refine D.eff 2 7 rfl D.wantedN (by kernel_rfl) (by kernel_rfl) (fun _ _ h => h) ?_
        refine Z.st hS rfl (by repeat (first | exact At.here | apply At.next)) rfl rfl ?_
        clear hS; intro w hS
        refine ⟨HM.s (hS.sb), ?_⟩
        refine D.eff 3 15 rfl D.wantedN (by kernel_rfl) (by kernel_rfl) (fun _ _ h => h) ?_
        refine Z.st hS rfl (by repeat (first | exact At.here | apply At.next)) rfl rfl ?_
        clear hS; intro w hS
        refine ⟨HM.last (by kernel_rfl), ?_⟩
        refine Sh.dp 4 31 ?_
        refine D.done (by kernel_rfl) ?_
        repeat' (first|refine VP ?_|refine Sh.la hS ?_|refine Sh.lb ?_|refine Sh.lc ?_|refine Sh.su ?_|(refine Sh.sa hS ?_;clear hS;intro w hS)|((first|refine Sh.aa hS ?_|refine Sh.ab hS ?_|refine Sh.ac hS ?_);clear hS;intro g w hS hge)|refine Sh.ix ?_|refine Sh.up ?_|refine Sh.sl1 ?_|refine Sh.sl2 ?_|refine Sh.sl5 ?_|refine Sh.sl3 ?_|refine Sh.sl4 ?_|refine Sh.eq ?_|refine Sh.ne ?_|refine Sh.ix2 ?_|refine Sh.ix3 ?_|refine Z.bu rfl rfl ?_|refine Z.buA rfl rfl ?_|refine VM ?_|refine Z.pl (R.cap rfl rfl) ?_|refine Z.pl R.mf ?_|refine Z.pl (R.min2 rfl rfl) ?_|refine G1 ?_|refine G2 ?_|refine G3 ?_|refine G4 ?_|with_reducible (first|refine V0 ?_|refine Z.block ?_)|((with_reducible refine Z.blX ?_ ?_);rotate_left;rfl)|refine VT ?_|refine VF ?_|((first|refine GS ?_ ?_|refine VB ?_ ?_)<;>intro hb<;>(try simp only [J1,J2,J3,J4,J5,J6] at hb)<;>(try (exfalso;first|omega|exact hb trivial))))
        first | refine Z.done hS Tryz.results90 (Z.RV.cell rfl (by repeat (first | exact At.here | apply At.next)) rfl (Z.RV.cell rfl (by repeat (first | exact At.here | apply At.next)) rfl (Z.RV.tmp rfl Z.RV.nil))) ?_ | refine Z.doneN hS Tryz.results90 (Z.RV.cell rfl (by repeat (first | exact At.here | apply At.next)) rfl (Z.RV.cell rfl (by repeat (first | exact At.here | apply At.next)) rfl (Z.RV.tmp rfl Z.RV.nil))) ?_
        exact ⟨rfl, Sep.QR_open.2 ⟨_, _, hS.sb⟩⟩
    · have hfree := freeI_none (l := q.l) (rs := q.r) (ep := ep) (tk := tk) fun j hj => hall j hj (by omega)
      have e : takeR q cl ep tk ho = ⟨q, .zero, .zero, 34⟩ := by unfold takeR; rw [if_neg hbad, hfree]
      rw [e]
      repeat' (first|refine VP ?_|refine Sh.la hS ?_|refine Sh.lb ?_|refine Sh.lc ?_|refine Sh.su ?_|(refine Sh.sa hS ?_;clear hS;intro w hS)|((first|refine Sh.aa hS ?_|refine Sh.ab hS ?_|refine Sh.ac hS ?_);clear hS;intro g w hS hge)|refine Sh.ix ?_|refine Sh.up ?_|refine Sh.sl1 ?_|refine Sh.sl2 ?_|refine Sh.sl5 ?_|refine Sh.sl3 ?_|refine Sh.sl4 ?_|refine Sh.eq ?_|refine Sh.ne ?_|refine Sh.ix2 ?_|refine Sh.ix3 ?_|refine Z.bu rfl rfl ?_|refine Z.buA rfl rfl ?_|refine VM ?_|refine Z.pl (R.cap rfl rfl) ?_|refine Z.pl R.mf ?_|refine Z.pl (R.min2 rfl rfl) ?_|refine G1 ?_|refine G2 ?_|refine G3 ?_|refine G4 ?_|with_reducible (first|refine V0 ?_|refine Z.block ?_)|((with_reducible refine Z.blX ?_ ?_);rotate_left;rfl)|refine VT ?_|refine VF ?_|((first|refine GS ?_ ?_|refine VB ?_ ?_)<;>intro hb<;>(try simp only [J1,J2,J3,J4,J5,J6] at hb)<;>(try (exfalso;first|omega|exact hb trivial))))
      first | refine Z.done hS Tryz.results90 (Z.RV.cell rfl (by repeat (first | exact At.here | apply At.next)) rfl (Z.RV.cell rfl (by repeat (first | exact At.here | apply At.next)) rfl (Z.RV.tmp rfl Z.RV.nil))) ?_ | refine Z.doneN hS Tryz.results90 (Z.RV.cell rfl (by repeat (first | exact At.here | apply At.next)) rfl (Z.RV.cell rfl (by repeat (first | exact At.here | apply At.next)) rfl (Z.RV.tmp rfl Z.RV.nil))) ?_
      exact ⟨rfl, Sep.QR_open.2 ⟨_, _, hS.sb⟩⟩
  all_goals
    first | refine Z.done hS Tryz.results90 (Z.RV.cell rfl (by repeat (first | exact At.here | apply At.next)) rfl (Z.RV.cell rfl (by repeat (first | exact At.here | apply At.next)) rfl (Z.RV.tmp rfl Z.RV.nil))) ?_ | refine Z.doneN hS Tryz.results90 (Z.RV.cell rfl (by repeat (first | exact At.here | apply At.next)) rfl (Z.RV.cell rfl (by repeat (first | exact At.here | apply At.next)) rfl (Z.RV.tmp rfl Z.RV.nil))) ?_
    have e : takeR q cl ep tk ho = ⟨q, .zero, .zero, 1⟩ := by unfold takeR; rw [if_pos (by unfold takeBad; omega)]
    rw [e]
    exact ⟨rfl, Sep.QR_open.2 ⟨_, _, hS.sb⟩⟩

theorem rqapply_z (gq : Nat) (q : Qu) (x : Ch) (r : World) (F : List Res) (w : World) (hS : Sep r [] (QR gq q :: F) w) (hl : q.l.length ≤ 1000) (hl' : q.r.length ≤ 1000) :
    Calls Tryz.prog 124 #[.pointer (some ⟨gq, 0, none⟩), x.val] w fun e w' => e = .returned (.int .i64 (qApp q x).2) ∧ Sep r [] (QR gq (qApp q x).1 :: F) w' := by
  obtain ⟨vl, vr, hS⟩ := Sep.QR_open.1 hS
  refine (qapply_z gq q vl vr x r _ w hS (Reads.of_at (e := 79) .here) (Reads.of_at (e := 133) (.next .here)) hl hl').mono ?_
  rintro e w' ⟨he, ⟨h1, hS⟩ | ⟨h1, v1, hS⟩ | ⟨v1, v2, hS⟩⟩
  · refine ⟨he, Sep.QR_open.2 ⟨vl, vr, ?_⟩⟩
    rw [h1]
    exact hS
  · refine ⟨he, Sep.QR_open.2 ⟨v1, vr, ?_⟩⟩
    rw [h1]
    exact hS.sb
  · exact ⟨he, Sep.QR_open.2 ⟨v1, v2, hS.sb⟩⟩
theorem rqcopy_z (gq : Nat) (q : Qu) (r : World) (F : List Res) (w : World) (hS : Sep r [] (QR gq q :: F) w) (hl : q.l.length ≤ 1000) (hl' : q.r.length ≤ 1000) :
    Calls Tryz.prog 111 #[.pointer (some ⟨gq, 0, none⟩)] w fun e w' => ∃ g, e = .returned (.pointer (some ⟨g, 0, none⟩)) ∧ Sep r [] (QR g q :: QR gq q :: F) w' := by
  obtain ⟨vl, vr, hS⟩ := Sep.QR_open.1 hS
  refine (qcopy_z gq q.l q.r vl vr q.most r _ w hS (Reads.of_at (e := 79) .here) (Reads.of_at (e := 133) (.next .here)) hl hl').mono ?_
  rintro e w' ⟨g, v1, v2, he, hS⟩
  refine ⟨g, he, Sep.QR_open.2 ⟨v1, v2, ?_⟩⟩
  have h2 : Sep r [] (QR gq q :: .blk g 105 [v1, v2, .int .i64 q.most] :: .sl 79 2 v1 (q.l.map It.cells) :: .sl 133 4 v2 (q.r.map Le.cells) :: F) w' := Sep.QR_open.2 ⟨vl, vr, hS.sb⟩
  exact h2.sub (by repeat (first | exact Sub.rest | exact Sub.nil | exact .skip .rest | exact .skip (.skip .rest) | exact .skip (.skip (.skip .rest)) | apply Sub.keep | refine Sub.cons (by repeat (first | exact At.here | apply At.next)) ?_ | apply Sub.skip))

/-- Two queues wait for the same. -/
def sameQ (a b : Qu) : Bool := decide (a.l = b.l) && decide (a.most = b.most)
end Go.Proofs.YtahackdfjcgkhaaGreat
