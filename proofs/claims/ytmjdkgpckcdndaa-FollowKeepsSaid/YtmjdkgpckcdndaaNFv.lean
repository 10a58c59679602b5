/-
  The walk of Take of the reference's follower.
-/
import Derived.Test.YtmjdkgpckcdndaaNFu
namespace Go.Proofs.Ytmjdkgpckcdndaa
open Go.RowKit
set_option linter.unusedSimpArgs false
set_option linter.unusedVariables false
attribute [local irreducible] Res.blk Res.sl Res.all Res.ex Res.pure Res.star

theorem rctrunc_in (g : Nat) (cell ten : Int) (vg : Value) (c : Cp) (n : Int) (r : World) (F : List Res) (w : World) (hS : Sep r [] (CR g cell ten vg c :: F) w) (hg : Good c) (hl : c.h.length ≤ 1000) (hn : 0 ≤ n ∧ n ≤ c.h.length) :
    Calls Try.prog 56 #[.pointer (some ⟨g, 0, .none⟩), .int .i64 n] w fun e w' => e = .returned (.int .i64 0) ∧ Sep r [] (CR g cell ten vg (cutC c n.toNat) :: F) w' :=
  (rctrunc_z g cell ten vg c n r F w hS hg hl).mono fun _ _ h => by
    rcases h with ⟨h, _⟩ | ⟨_, h⟩
    · exact absurd hn h
    · exact h
/-- In a history the changes with the epoch of one change stand together. -/
theorem eidx_at {h : List Ch} (hh : IsH h) : ∀ {n : Nat} {E : Int} (hn : n < h.length), h[n].epoch = E → (n = 0 ∨ ∃ hm : n - 1 < h.length, h[n - 1].epoch ≠ E) → eidx h E = n := by
  intro n E hn hE hb
  refine eidx_first hn hE fun y hy => ?_
  obtain ⟨j, hj, rfl⟩ := List.getElem_of_mem hy
  rw [List.length_take] at hj
  rcases hb with h0 | ⟨hm, hne⟩
  · omega
  · simp only [List.getElem_take]
    have h1 := hh.ascends (i := j) (j := n - 1) (by omega) hm
    have h2 := hh.ascends (i := n - 1) (j := n) (by omega) hn
    omega

set_option maxHeartbeats 4000000 in
theorem rtake_z (gf gc : Nat) (cell ten : Int) (vg : Value) (f : Fo) (m : Shp) (v : Value) (r : World) (F : List Res) (w : World)
    (hS : Sep r [] (.blk gf 42 [.pointer (some ⟨gc, 0, .none⟩), .int .i64 f.seen, .int .i64 f.agreed] :: CR gc cell ten vg f.c :: F) w) (hrd : Reads r F 8 v (m.ch.map Ch.cells)) (hg : Good f.c) (hlf : f.c.h.length ≤ 900) :
    Calls Try.prog 23 #[.pointer (some ⟨gf, 0, .none⟩), m.val v] w fun e w' => e = .returned (.tuple #[(takeF f m).2.1.val, .int .i64 (takeF f m).2.2]) ∧
      Sep r [] (.blk gf 42 [.pointer (some ⟨gc, 0, .none⟩), .int .i64 (takeF f m).1.seen, .int .i64 (takeF f m).1.agreed] :: CR gc cell ten vg (takeF f m).1.c :: F) w' := by
  obtain ⟨A, cc, rfl, hcc⟩ := (hrd [_, _] w hS).mform
  have hlen := hg.isH.len
  refine Z.enter Try.func23 Try.ntmps23 rfl rfl ?_
  repeat' (first|refine VP ?_|refine Sh.la hS ?_|refine Sh.lb ?_|refine Sh.lc ?_|refine Sh.su ?_|(refine Sh.sa hS ?_;clear hS;intro w hS)|((first|refine Sh.aa hS ?_|refine Sh.ab hS ?_|refine Sh.ac hS ?_);clear hS;intro g w hS hge)|refine Sh.ix ?_|refine Sh.up ?_|refine Sh.sl1 ?_|refine Sh.sl2 ?_|refine Sh.sl5 ?_|refine Sh.sl3 ?_|refine Sh.sl4 ?_|refine Sh.eq ?_|refine Sh.ne ?_|refine Sh.ix2 ?_|refine Sh.ix3 ?_|refine Z.bu rfl rfl ?_|refine VM ?_|refine Z.pl (R.cap rfl rfl) ?_|refine Z.pl R.mf ?_|refine Z.pl (R.min2 rfl rfl) ?_|refine G1 ?_|refine G2 ?_|refine G3 ?_|refine G4 ?_|with_reducible (first|refine V0 ?_|refine Z.block ?_)|((with_reducible refine Z.blX ?_ ?_);rotate_left;rfl)|refine VT ?_|refine VF ?_|((first|refine GS ?_ ?_|refine VB ?_ ?_)<;>intro hb<;>(try simp only [J1,J2,J3,J4,J5,J6] at hb)<;>(try (exfalso;first|omega|exact hb trivial))))
  rename Nat => gh
  refine Z.eff (Z.cl (rships_z m _ _ _ _ hS (hrd.sub (by repeat (first | exact Sub.rest | exact Sub.nil | exact .skip .rest | exact .skip (.skip .rest) | exact .skip (.skip (.skip .rest)) | apply Sub.keep | refine Sub.cons (by repeat (first | exact At.here | apply At.next)) ?_ | apply Sub.skip)))) rfl ?_) rfl
  clear hS
  rintro e w ⟨rfl, hS⟩
  refine ⟨_, rfl, ?_⟩
  repeat' (first|refine VP ?_|refine Sh.la hS ?_|refine Sh.lb ?_|refine Sh.lc ?_|refine Sh.su ?_|(refine Sh.sa hS ?_;clear hS;intro w hS)|((first|refine Sh.aa hS ?_|refine Sh.ab hS ?_|refine Sh.ac hS ?_);clear hS;intro g w hS hge)|refine Sh.ix ?_|refine Sh.up ?_|refine Sh.sl1 ?_|refine Sh.sl2 ?_|refine Sh.sl5 ?_|refine Sh.sl3 ?_|refine Sh.sl4 ?_|refine Sh.eq ?_|refine Sh.ne ?_|refine Sh.ix2 ?_|refine Sh.ix3 ?_|refine Z.bu rfl rfl ?_|refine VM ?_|refine Z.pl (R.cap rfl rfl) ?_|refine Z.pl R.mf ?_|refine Z.pl (R.min2 rfl rfl) ?_|refine G1 ?_|refine G2 ?_|refine G3 ?_|refine G4 ?_|with_reducible (first|refine V0 ?_|refine Z.block ?_)|((with_reducible refine Z.blX ?_ ?_);rotate_left;rfl)|refine VT ?_|refine VF ?_|((first|refine GS ?_ ?_|refine VB ?_ ?_)<;>intro hb<;>(try simp only [J1,J2,J3,J4,J5,J6] at hb)<;>(try (exfalso;first|omega|exact hb trivial))))
  · first | refine Z.done hS Try.results23 (Z.RV.cell rfl (by repeat (first | exact At.here | apply At.next)) rfl (Z.RV.tmp rfl Z.RV.nil)) ?_ | refine Z.doneN hS Try.results23 (Z.RV.cell rfl (by repeat (first | exact At.here | apply At.next)) rfl (Z.RV.tmp rfl Z.RV.nil)) ?_
    unfold takeF
    rw [if_neg (by rw [hb]; simp)]
    exact ⟨rfl, hS.sb⟩
  rename shipB m = true => hok
  have hh : headOk m := by have := hok; unfold shipB at this; simp only [Bool.and_eq_true, decide_eq_true_eq] at this; exact this.1
  have hch : chsOk m.ch (m.seq + 1) m.before m.ep = true := by have := hok; unfold shipB at this; simp only [Bool.and_eq_true, decide_eq_true_eq] at this; exact this.2
  have hh1 := hh
  unfold headOk at hh1
  refine D.startS hS 7 7 (by kernel_rfl) rfl ?_
  replace hS := hS.drew
  refine Sh.dp 0 1 ?_
  refine Sh.dp 2 5 ?_
  refine Sh.dp 3 13 ?_
  refine Sh.dp 4 29 ?_
  refine Sh.dl 1 31 ?_
  refine Sh.dl 5 63 ?_
  refine Sh.dp 6 127 ?_
  refine D.done (by kernel_rfl) ?_
  repeat' (first|refine VP ?_|refine Sh.la hS ?_|refine Sh.lb ?_|refine Sh.lc ?_|refine Sh.su ?_|(refine Sh.sa hS ?_;clear hS;intro w hS)|((first|refine Sh.aa hS ?_|refine Sh.ab hS ?_|refine Sh.ac hS ?_);clear hS;intro g w hS hge)|refine Sh.ix ?_|refine Sh.up ?_|refine Sh.sl1 ?_|refine Sh.sl2 ?_|refine Sh.sl5 ?_|refine Sh.sl3 ?_|refine Sh.sl4 ?_|refine Sh.eq ?_|refine Sh.ne ?_|refine Sh.ix2 ?_|refine Sh.ix3 ?_|refine Z.bu rfl rfl ?_|refine VM ?_|refine Z.pl (R.cap rfl rfl) ?_|refine Z.pl R.mf ?_|refine Z.pl (R.min2 rfl rfl) ?_|refine G1 ?_|refine G2 ?_|refine G3 ?_|refine G4 ?_|with_reducible (first|refine V0 ?_|refine Z.block ?_)|((with_reducible refine Z.blX ?_ ?_);rotate_left;rfl)|refine VT ?_|refine VF ?_|((first|refine GS ?_ ?_|refine VB ?_ ?_)<;>intro hb<;>(try simp only [J1,J2,J3,J4,J5,J6] at hb)<;>(try (exfalso;first|omega|exact hb trivial))))
  · first | refine Z.done hS Try.results23 (Z.RV.cell rfl (by repeat (first | exact At.here | apply At.next)) rfl (Z.RV.tmp rfl Z.RV.nil)) ?_ | refine Z.doneN hS Try.results23 (Z.RV.cell rfl (by repeat (first | exact At.here | apply At.next)) rfl (Z.RV.tmp rfl Z.RV.nil)) ?_
    unfold takeF
    rw [if_pos hok, if_pos hb]
    exact ⟨rfl, hS.sb⟩
  rename f.seen ≤ m.ep => hse
  obtain ⟨vh, gs, gq, gt, vs, vl, vr, hS⟩ := Sep.CR_open.1 (hS.focus (R := CR gc _ _ _ _) (by repeat (first | exact At.here | apply At.next)))
  obtain ⟨Ah, ch, rfl, hch2⟩ := (hS.slrows (.next .here)).mform
  repeat' (first|refine VP ?_|refine Sh.la hS ?_|refine Sh.lb ?_|refine Sh.lc ?_|refine Sh.su ?_|(refine Sh.sa hS ?_;clear hS;intro w hS)|((first|refine Sh.aa hS ?_|refine Sh.ab hS ?_|refine Sh.ac hS ?_);clear hS;intro g w hS hge)|refine Sh.ix ?_|refine Sh.up ?_|refine Sh.sl1 ?_|refine Sh.sl2 ?_|refine Sh.sl5 ?_|refine Sh.sl3 ?_|refine Sh.sl4 ?_|refine Sh.eq ?_|refine Sh.ne ?_|refine Sh.ix2 ?_|refine Sh.ix3 ?_|refine Z.bu rfl rfl ?_|refine VM ?_|refine Z.pl (R.cap rfl rfl) ?_|refine Z.pl R.mf ?_|refine Z.pl (R.min2 rfl rfl) ?_|refine G1 ?_|refine G2 ?_|refine G3 ?_|refine G4 ?_|with_reducible (first|refine V0 ?_|refine Z.block ?_)|((with_reducible refine Z.blX ?_ ?_);rotate_left;rfl)|refine VT ?_|refine VF ?_|((first|refine GS ?_ ?_|refine VB ?_ ?_)<;>intro hb<;>(try simp only [J1,J2,J3,J4,J5,J6] at hb)<;>(try (exfalso;first|omega|exact hb trivial))))
  · first | refine Z.done hS Try.results23 (Z.RV.cell rfl (by repeat (first | exact At.here | apply At.next)) rfl (Z.RV.tmp rfl Z.RV.nil)) ?_ | refine Z.doneN hS Try.results23 (Z.RV.cell rfl (by repeat (first | exact At.here | apply At.next)) rfl (Z.RV.tmp rfl Z.RV.nil)) ?_
    unfold takeF
    rw [if_pos hok, if_neg (by omega), if_pos hb]
    replace hS := Sep.CR_open.2 ⟨_, _, _, _, _, _, _, hS.sub (L' := .blk gc _ _ :: .sl 51 8 _ _ :: .blk gs _ _ :: .sl 146 3 _ _ :: .blk gq _ _ :: .sl 148 2 _ _ :: .sl 175 4 _ _ :: .blk gt _ _ :: .blk gf _ _ :: F) (by repeat (first | exact Sub.rest | exact Sub.nil | exact .skip .rest | exact .skip (.skip .rest) | exact .skip (.skip (.skip .rest)) | apply Sub.keep | refine Sub.cons (by repeat (first | exact At.here | apply At.next)) ?_ | apply Sub.skip))⟩
    exact ⟨rfl, hS.swap⟩
  rename m.seq ≤ _ => hsq
  refine Z.eff (Z.cl (rmatches_z f.c.h _ m.seq m.before _ _ _ hS (Reads.of_at (e := 51) (by repeat (first | exact At.here | apply At.next))) (by omega)) rfl ?_) rfl
  clear hS
  rintro e w ⟨rfl, hS⟩
  refine ⟨_, rfl, ?_⟩
  repeat' (first|refine VP ?_|refine Sh.la hS ?_|refine Sh.lb ?_|refine Sh.lc ?_|refine Sh.su ?_|(refine Sh.sa hS ?_;clear hS;intro w hS)|((first|refine Sh.aa hS ?_|refine Sh.ab hS ?_|refine Sh.ac hS ?_);clear hS;intro g w hS hge)|refine Sh.ix ?_|refine Sh.up ?_|refine Sh.sl1 ?_|refine Sh.sl2 ?_|refine Sh.sl5 ?_|refine Sh.sl3 ?_|refine Sh.sl4 ?_|refine Sh.eq ?_|refine Sh.ne ?_|refine Sh.ix2 ?_|refine Sh.ix3 ?_|refine Z.bu rfl rfl ?_|refine VM ?_|refine Z.pl (R.cap rfl rfl) ?_|refine Z.pl R.mf ?_|refine Z.pl (R.min2 rfl rfl) ?_|refine G1 ?_|refine G2 ?_|refine G3 ?_|refine G4 ?_|with_reducible (first|refine V0 ?_|refine Z.block ?_)|((with_reducible refine Z.blX ?_ ?_);rotate_left;rfl)|refine VT ?_|refine VF ?_|((first|refine GS ?_ ?_|refine VB ?_ ?_)<;>intro hb<;>(try simp only [J1,J2,J3,J4,J5,J6] at hb)<;>(try (exfalso;first|omega|exact hb trivial))))
  · have hs1 : 1 ≤ m.seq := by
      by_cases h0 : m.seq = 0
      · rw [h0, hh1.2.2.2.2.2.2.1.1 h0, matchB_zero] at hb; cases hb
      · omega
    have hq : (m.seq - 1).toNat < f.c.h.length := by omega
    have eE : epAt f.c.h (m.seq - 1).toNat = f.c.h[(m.seq - 1).toNat].epoch := epAt_eq hq
    obtain ⟨gb, o, rfl, _, _⟩ := (hS.slrows (e := 51) (v := .slice Ah f.c.h.length ch) (by repeat (first | exact At.here | apply At.next))).mat (by omega) hq
    refine Z.lpS [7, 54, 55, 56, 57, 58, 59, 60, 61, 62, 63, 64, 65, 66, 67, 68, 69, 70, 71, 72, 73] (fun m' w s => ∃ (n : Int), s = [(7, .int .i64 n)] ∧ 1 ≤ n ∧ n ≤ m.seq ∧ epAt f.c.h (n - 1).toNat = epAt f.c.h (m.seq - 1).toNat ∧ m' = n.toNat ∧
      Sep r [] (.blk gc 98 [.int .i64 cell, .int .i64 ten, .slice (some ⟨gb, o, .none⟩) f.c.h.length ch, .pointer (some ⟨gs, 0, .none⟩), .pointer (some ⟨gq, 0, .none⟩), .pointer (some ⟨gt, 0, .none⟩), vg] :: .sl 51 8 (.slice (some ⟨gb, o, .none⟩) f.c.h.length ch) (f.c.h.map Ch.cells) :: .blk gs 124 [vs] :: .sl 146 3 vs (f.c.s.map Ce.cells) :: .blk gq 128 [vl, vr, .int .i64 f.c.q.most] :: .sl 148 2 vl (f.c.q.l.map It.cells) :: .sl 175 4 vr (f.c.q.r.map Le.cells) :: .blk gt 134 f.c.t.cells.toList :: .blk gh 53 [.int .i64 0, .int .i64 0, .bool false] :: .blk g 28 [.int .i64 m.ep, .int .i64 m.seq, .int .i64 m.before, .slice A m.ch.length cc] :: .blk gf 42 [.pointer (some ⟨gc, 0, .none⟩), .int .i64 m.ep, .int .i64 f.agreed] :: F) w) _ [(7, .int .i64 m.seq)] (by repeat (first | exact trivial | refine ⟨rfl, ?_⟩)) ⟨m.seq, rfl, hs1, by omega, rfl, rfl, hS.sb⟩ ?_
    clear hS
    rintro m' f0 w _ ⟨n, rfl, hn1, hn2, hne, rfl, hS⟩
    have hn : (n - 1).toNat < f.c.h.length := by omega
    by_cases h1 : 1 < n
    · have hp : (n - 2).toNat < f.c.h.length := by omega
      repeat' (first|refine VP ?_|refine Sh.la hS ?_|refine Sh.lb ?_|refine Sh.lc ?_|refine Sh.su ?_|(refine Sh.sa hS ?_;clear hS;intro w hS)|((first|refine Sh.aa hS ?_|refine Sh.ab hS ?_|refine Sh.ac hS ?_);clear hS;intro g w hS hge)|refine Sh.ix ?_|refine Sh.up ?_|refine Sh.sl1 ?_|refine Sh.sl2 ?_|refine Sh.sl5 ?_|refine Sh.sl3 ?_|refine Sh.sl4 ?_|refine Sh.eq ?_|refine Sh.ne ?_|refine Sh.ix2 ?_|refine Sh.ix3 ?_|refine Z.bu rfl rfl ?_|refine VM ?_|refine Z.pl (R.cap rfl rfl) ?_|refine Z.pl R.mf ?_|refine Z.pl (R.min2 rfl rfl) ?_|refine G1 ?_|refine G2 ?_|refine G3 ?_|refine G4 ?_|with_reducible (first|refine V0 ?_|refine Z.block ?_)|((with_reducible refine Z.blX ?_ ?_);rotate_left;rfl)|refine VT ?_|refine VF ?_|((first|refine GS ?_ ?_|refine VB ?_ ?_)<;>intro hb<;>(try simp only [J1,J2,J3,J4,J5,J6] at hb)<;>(try (exfalso;first|omega|exact hb trivial))))
      refine D.startS (Lr := [.sl 51 8 (.slice (some ⟨gb, o, .none⟩) f.c.h.length ch) (f.c.h.map Ch.cells), .blk g 28 [.int .i64 m.ep, .int .i64 m.seq, .int .i64 m.before, .slice A m.ch.length cc]]) (hS.sb) 18 18 (by kernel_rfl) rfl ?_
      replace hS := hS.drew
      refine Sh.dp 0 1 ?_
      refine Sh.dp 1 3 ?_
      refine Sh.dp 2 7 ?_
      refine D.slot 56 rfl (fun hb => ?_) (fun hb => by exfalso; (try simp only [decide_eq_true_eq, decide_eq_false_iff_not, Bool.not_eq_true', Bool.not_eq_false', Int.not_lt, Int.not_le] at hb) <;> first | omega | exact hb trivial | cases hb)
      (try simp only [decide_eq_true_eq, decide_eq_false_iff_not, Bool.not_eq_true', Bool.not_eq_false', Int.not_lt, Int.not_le] at hb)
      refine Sh.dp 3 15 ?_
      refine Sh.dp 4 31 ?_
      first | refine D.sum 5 63 rfl (D.wantedT rfl rfl) (by kernel_rfl) rfl (by constructor <;> omega) ?_ | refine D.sumW 5 63 rfl (D.wantedT rfl rfl) (by kernel_rfl) rfl ?_
      first | refine D.ixn 6 127 rfl (D.wantedT rfl rfl) (by kernel_rfl) rfl rfl rfl (by omega) ?_ | refine D.ix 6 127 rfl (D.wantedT rfl rfl) (by kernel_rfl) rfl rfl rfl (by omega) ?_ | refine D.ia 6 127 rfl (D.wantedT rfl rfl) (by kernel_rfl) rfl rfl rfl (by omega) ?_
      refine Sh.dp 7 255 ?_
      refine Sh.dp 9 767 ?_
      refine Sh.dp 10 1791 ?_
      refine D.ldE 8 2047 rfl (D.wantedT rfl rfl) (by kernel_rfl) rfl (fun W h => (h.slrows (e := 51) (v := .slice _ f.c.h.length ch) (by repeat (first | exact At.here | apply At.next))).elem (by omega) hp) rfl ?_
      refine Sh.dl 11 4095 ?_
      first | refine D.sum 12 8191 rfl (D.wantedT rfl rfl) (by kernel_rfl) rfl (by constructor <;> omega) ?_ | refine D.sumW 12 8191 rfl (D.wantedT rfl rfl) (by kernel_rfl) rfl ?_
      first | refine D.ixn 13 16383 rfl (D.wantedT rfl rfl) (by kernel_rfl) rfl rfl rfl (by omega) ?_ | refine D.ix 13 16383 rfl (D.wantedT rfl rfl) (by kernel_rfl) rfl rfl rfl (by omega) ?_ | refine D.ia 13 16383 rfl (D.wantedT rfl rfl) (by kernel_rfl) rfl rfl rfl (by omega) ?_
      refine Sh.dp 14 32767 ?_
      refine D.ldE 15 65535 rfl (D.wantedT rfl rfl) (by kernel_rfl) rfl (fun W h => (h.slrows (e := 51) (v := .slice _ f.c.h.length ch) (by repeat (first | exact At.here | apply At.next))).elem (by omega) hq) rfl ?_
      first | refine D.pr 16 131071 rfl (D.wantedT rfl rfl) (by kernel_rfl) rfl ?_ | refine D.pl 16 131071 rfl (D.wantedT rfl rfl) (by kernel_rfl) (R.eqa rfl rfl rfl rfl) ?_
      refine Sh.dp 17 262143 ?_
      refine D.done (by kernel_rfl) ?_
      repeat' (first|refine VP ?_|refine Sh.la hS ?_|refine Sh.lb ?_|refine Sh.lc ?_|refine Sh.su ?_|(refine Sh.sa hS ?_;clear hS;intro w hS)|((first|refine Sh.aa hS ?_|refine Sh.ab hS ?_|refine Sh.ac hS ?_);clear hS;intro g w hS hge)|refine Sh.ix ?_|refine Sh.up ?_|refine Sh.sl1 ?_|refine Sh.sl2 ?_|refine Sh.sl5 ?_|refine Sh.sl3 ?_|refine Sh.sl4 ?_|refine Sh.eq ?_|refine Sh.ne ?_|refine Sh.ix2 ?_|refine Sh.ix3 ?_|refine Z.bu rfl rfl ?_|refine VM ?_|refine Z.pl (R.cap rfl rfl) ?_|refine Z.pl R.mf ?_|refine Z.pl (R.min2 rfl rfl) ?_|refine G1 ?_|refine G2 ?_|refine G3 ?_|refine G4 ?_|with_reducible (first|refine V0 ?_|refine Z.block ?_)|((with_reducible refine Z.blX ?_ ?_);rotate_left;rfl)|refine VT ?_|refine VF ?_|((first|refine GS ?_ ?_|refine VB ?_ ?_)<;>intro hb<;>(try simp only [J1,J2,J3,J4,J5,J6] at hb)<;>(try (exfalso;first|omega|exact hb trivial))))
      · refine Sh.again ((n - 1).toNat) [(7, .int .i64 (n - 1))] ?_
        refine ⟨n - 1, rfl, by omega, by omega, ?_, rfl, hS⟩
        rw [show n - 1 - 1 = n - 2 by omega, epAt_eq hp, epAt_eq hq]
        exact hb
      · first | refine Z.done hS Try.results23 (Z.RV.cell rfl (by repeat (first | exact At.here | apply At.next)) rfl (Z.RV.tmp rfl Z.RV.nil)) ?_ | refine Z.doneN hS Try.results23 (Z.RV.cell rfl (by repeat (first | exact At.here | apply At.next)) rfl (Z.RV.tmp rfl Z.RV.nil)) ?_
        unfold takeF
        rw [if_pos hok, if_neg (by omega), if_neg (by omega), if_neg (by rename matchB _ _ _ = false => hm0; rw [hm0]; simp)]
        have he : eidx f.c.h (epAt f.c.h (m.seq - 1).toNat) = (n - 1).toNat := by
          rw [epAt_eq hn] at hne
          refine eidx_at hg.isH hn hne (.inr ⟨by omega, ?_⟩)
          rw [epAt_eq hq]
          have e2 : (n - 1).toNat - 1 = (n - 2).toNat := by omega
          simp only [e2]
          exact hb
        rw [he]
        replace hS := Sep.CR_open.2 ⟨_, _, _, _, _, _, _, hS.sub (L' := .blk gc _ _ :: .sl 51 8 _ _ :: .blk gs _ _ :: .sl 146 3 _ _ :: .blk gq _ _ :: .sl 148 2 _ _ :: .sl 175 4 _ _ :: .blk gt _ _ :: .blk gf _ _ :: F) (by repeat (first | exact Sub.rest | exact Sub.nil | exact .skip .rest | exact .skip (.skip .rest) | exact .skip (.skip (.skip .rest)) | apply Sub.keep | refine Sub.cons (by repeat (first | exact At.here | apply At.next)) ?_ | apply Sub.skip))⟩
        have e3 : (((n - 1).toNat : Nat) : Int) = n - 1 := by omega
        exact ⟨by rw [e3]; rfl, hS.swap⟩
    · repeat' (first|refine VP ?_|refine Sh.la hS ?_|refine Sh.lb ?_|refine Sh.lc ?_|refine Sh.su ?_|(refine Sh.sa hS ?_;clear hS;intro w hS)|((first|refine Sh.aa hS ?_|refine Sh.ab hS ?_|refine Sh.ac hS ?_);clear hS;intro g w hS hge)|refine Sh.ix ?_|refine Sh.up ?_|refine Sh.sl1 ?_|refine Sh.sl2 ?_|refine Sh.sl5 ?_|refine Sh.sl3 ?_|refine Sh.sl4 ?_|refine Sh.eq ?_|refine Sh.ne ?_|refine Sh.ix2 ?_|refine Sh.ix3 ?_|refine Z.bu rfl rfl ?_|refine VM ?_|refine Z.pl (R.cap rfl rfl) ?_|refine Z.pl R.mf ?_|refine Z.pl (R.min2 rfl rfl) ?_|refine G1 ?_|refine G2 ?_|refine G3 ?_|refine G4 ?_|with_reducible (first|refine V0 ?_|refine Z.block ?_)|((with_reducible refine Z.blX ?_ ?_);rotate_left;rfl)|refine VT ?_|refine VF ?_|((first|refine GS ?_ ?_|refine VB ?_ ?_)<;>intro hb<;>(try simp only [J1,J2,J3,J4,J5,J6] at hb)<;>(try (exfalso;first|omega|exact hb trivial))))
      refine D.startS (Lr := [.blk g 28 [.int .i64 m.ep, .int .i64 m.seq, .int .i64 m.before, .slice A m.ch.length cc]]) (hS.sb) 18 18 (by kernel_rfl) rfl ?_
      replace hS := hS.drew
      refine Sh.dp 0 1 ?_
      refine Sh.dp 1 3 ?_
      refine Sh.dp 2 7 ?_
      refine D.slot 56 rfl (fun hb => by exfalso; (try simp only [decide_eq_true_eq, decide_eq_false_iff_not, Bool.not_eq_true', Bool.not_eq_false', Int.not_lt, Int.not_le] at hb) <;> first | omega | exact hb trivial | cases hb) (fun hb => ?_)
      (try simp only [decide_eq_true_eq, decide_eq_false_iff_not, Bool.not_eq_true', Bool.not_eq_false', Int.not_lt, Int.not_le] at hb)
      refine D.skF 3 15 rfl (by kernel_rfl) rfl rfl ?_
      refine D.skF 4 31 rfl (by kernel_rfl) rfl rfl ?_
      refine D.skF 5 63 rfl (by kernel_rfl) rfl rfl ?_
      refine D.skF 6 127 rfl (by kernel_rfl) rfl rfl ?_
      refine D.skF 7 255 rfl (by kernel_rfl) rfl rfl ?_
      refine D.skF 8 511 rfl (by kernel_rfl) rfl rfl ?_
      refine D.skF 9 1023 rfl (by kernel_rfl) rfl rfl ?_
      refine D.skF 10 2047 rfl (by kernel_rfl) rfl rfl ?_
      refine D.skF 11 4095 rfl (by kernel_rfl) rfl rfl ?_
      refine D.skF 12 8191 rfl (by kernel_rfl) rfl rfl ?_
      refine D.skF 13 16383 rfl (by kernel_rfl) rfl rfl ?_
      refine D.skF 14 32767 rfl (by kernel_rfl) rfl rfl ?_
      refine D.skF 15 65535 rfl (by kernel_rfl) rfl rfl ?_
      refine D.skF 16 131071 rfl (by kernel_rfl) rfl rfl ?_
      refine Sh.dp 17 262143 ?_
      refine D.done (by kernel_rfl) ?_
      repeat' (first|refine VP ?_|refine Sh.la hS ?_|refine Sh.lb ?_|refine Sh.lc ?_|refine Sh.su ?_|(refine Sh.sa hS ?_;clear hS;intro w hS)|((first|refine Sh.aa hS ?_|refine Sh.ab hS ?_|refine Sh.ac hS ?_);clear hS;intro g w hS hge)|refine Sh.ix ?_|refine Sh.up ?_|refine Sh.sl1 ?_|refine Sh.sl2 ?_|refine Sh.sl5 ?_|refine Sh.sl3 ?_|refine Sh.sl4 ?_|refine Sh.eq ?_|refine Sh.ne ?_|refine Sh.ix2 ?_|refine Sh.ix3 ?_|refine Z.bu rfl rfl ?_|refine VM ?_|refine Z.pl (R.cap rfl rfl) ?_|refine Z.pl R.mf ?_|refine Z.pl (R.min2 rfl rfl) ?_|refine G1 ?_|refine G2 ?_|refine G3 ?_|refine G4 ?_|with_reducible (first|refine V0 ?_|refine Z.block ?_)|((with_reducible refine Z.blX ?_ ?_);rotate_left;rfl)|refine VT ?_|refine VF ?_|((first|refine GS ?_ ?_|refine VB ?_ ?_)<;>intro hb<;>(try simp only [J1,J2,J3,J4,J5,J6] at hb)<;>(try (exfalso;first|omega|exact hb trivial))))
      first | refine Z.done hS Try.results23 (Z.RV.cell rfl (by repeat (first | exact At.here | apply At.next)) rfl (Z.RV.tmp rfl Z.RV.nil)) ?_ | refine Z.doneN hS Try.results23 (Z.RV.cell rfl (by repeat (first | exact At.here | apply At.next)) rfl (Z.RV.tmp rfl Z.RV.nil)) ?_
      unfold takeF
      rw [if_pos hok, if_neg (by omega), if_neg (by omega), if_neg (by rename matchB _ _ _ = false => hm0; rw [hm0]; simp)]
      have hn0 : n = 1 := by omega
      have he : eidx f.c.h (epAt f.c.h (m.seq - 1).toNat) = (n - 1).toNat := by
        rw [epAt_eq hn] at hne
        exact eidx_at hg.isH hn hne (.inl (by omega))
      rw [he]
      replace hS := Sep.CR_open.2 ⟨_, _, _, _, _, _, _, hS.sub (L' := .blk gc _ _ :: .sl 51 8 _ _ :: .blk gs _ _ :: .sl 146 3 _ _ :: .blk gq _ _ :: .sl 148 2 _ _ :: .sl 175 4 _ _ :: .blk gt _ _ :: .blk gf _ _ :: F) (by repeat (first | exact Sub.rest | exact Sub.nil | exact .skip .rest | exact .skip (.skip .rest) | exact .skip (.skip (.skip .rest)) | apply Sub.keep | refine Sub.cons (by repeat (first | exact At.here | apply At.next)) ?_ | apply Sub.skip))⟩
      have e3 : (((n - 1).toNat : Nat) : Int) = n - 1 := by omega
      exact ⟨by rw [e3]; rfl, hS.swap⟩
  rename matchB f.c.h m.seq m.before = true => hm
  have hin := matchB_in hm
  have hga := agreeC_good hg m
  have hal : m.seq ≤ (agreeC f m).h.length := by
    unfold agreeC
    split
    · rw [(cutC_good hg m.seq.toNat).2, List.length_take]; omega
    · omega
  have eT : takeF f m = (⟨(takeC (agreeC f m) m.ch m.seq).1, m.ep, max f.agreed m.ep⟩, ⟨m.ep, (takeC (agreeC f m) m.ch m.seq).2, true⟩, 0) := by
    unfold takeF
    rw [if_pos hok, if_neg (by omega), if_neg (by omega), if_pos hm]
  rw [eT]
  generalize hR : takeC (agreeC f m) m.ch m.seq = R
  replace hS := Sep.CR_open.2 ⟨_, _, _, _, _, _, _, hS.sub (L' := .blk gc _ _ :: .sl 51 8 _ _ :: .blk gs _ _ :: .sl 146 3 _ _ :: .blk gq _ _ :: .sl 148 2 _ _ :: .sl 175 4 _ _ :: .blk gt _ _ :: .blk g 28 [.int .i64 m.ep, .int .i64 m.seq, .int .i64 m.before, .slice A m.ch.length cc] :: .blk gh 53 [.int .i64 0, .int .i64 0, .bool false] :: .blk gf 42 [.pointer (some ⟨gc, 0, .none⟩), .int .i64 m.ep, .int .i64 f.agreed] :: F) (by repeat (first | exact Sub.rest | exact Sub.nil | exact .skip .rest | exact .skip (.skip .rest) | exact .skip (.skip (.skip .rest)) | apply Sub.keep | refine Sub.cons (by repeat (first | exact At.here | apply At.next)) ?_ | apply Sub.skip))⟩
  refine D.startS hS 7 7 (by kernel_rfl) rfl ?_
  replace hS := hS.drew
  refine Sh.dp 0 1 ?_
  refine Sh.dp 2 5 ?_
  refine Sh.dp 3 13 ?_
  refine Sh.dp 4 29 ?_
  refine Sh.dl 1 31 ?_
  refine Sh.dl 5 63 ?_
  refine Sh.dp 6 127 ?_
  refine D.done (by kernel_rfl) ?_
  refine Z.thN ?_
  refine Z.cut [86, 87, 88, 89, 90, 91, 92, 93, 94, 95, 96, 97] (fun w s => s = [] ∧ Sep r [] (.blk g 28 [.int .i64 m.ep, .int .i64 m.seq, .int .i64 m.before, .slice A m.ch.length cc] :: .blk gh 53 [.int .i64 0, .int .i64 0, .bool false] :: .blk gf 42 [.pointer (some ⟨gc, 0, .none⟩), .int .i64 m.ep, .int .i64 (max f.agreed m.ep)] :: CR gc cell ten vg (agreeC f m) :: F) w) ?_ ?_
  · repeat' (first|refine VP ?_|refine Sh.la hS ?_|refine Sh.lb ?_|refine Sh.lc ?_|refine Sh.su ?_|(refine Sh.sa hS ?_;clear hS;intro w hS)|((first|refine Sh.aa hS ?_|refine Sh.ab hS ?_|refine Sh.ac hS ?_);clear hS;intro g w hS hge)|refine Sh.ix ?_|refine Sh.up ?_|refine Sh.sl1 ?_|refine Sh.sl2 ?_|refine Sh.sl5 ?_|refine Sh.sl3 ?_|refine Sh.sl4 ?_|refine Sh.eq ?_|refine Sh.ne ?_|refine Sh.ix2 ?_|refine Sh.ix3 ?_|refine Z.bu rfl rfl ?_|refine VM ?_|refine Z.pl (R.cap rfl rfl) ?_|refine Z.pl R.mf ?_|refine Z.pl (R.min2 rfl rfl) ?_|refine G1 ?_|refine G2 ?_|refine G3 ?_|refine G4 ?_|with_reducible (first|refine V0 ?_|refine Z.block ?_)|((with_reducible refine Z.blX ?_ ?_);rotate_left;rfl)|refine VT ?_|refine VF ?_|((first|refine GS ?_ ?_|refine VB ?_ ?_)<;>intro hb<;>(try simp only [J1,J2,J3,J4,J5,J6] at hb)<;>(try (exfalso;first|omega|exact hb trivial))))
    · refine D.startS (Lr := [.blk g 28 [.int .i64 m.ep, .int .i64 m.seq, .int .i64 m.before, .slice A m.ch.length cc], .blk gf 42 [.pointer (some ⟨gc, 0, .none⟩), .int .i64 m.ep, .int .i64 f.agreed]]) (hS.sb) 7 7 (by kernel_rfl) rfl ?_
      replace hS := hS.drew
      refine Sh.dp 0 1 ?_
      refine Sh.dp 1 3 ?_
      refine Sh.dp 2 7 ?_
      refine Sh.dp 4 23 ?_
      refine Sh.dl 3 31 ?_
      refine Sh.dl 5 63 ?_
      refine D.eff 6 127 rfl D.wantedN (by kernel_rfl) (by kernel_rfl) (fun _ _ h => h) ?_
      replace hS := hS.fo (R := CR gc _ _ _ _)
      refine Z.cl (rctrunc_in gc cell ten vg f.c m.seq _ _ _ hS hg (by omega) hin) rfl ?_
      clear hS
      rintro e w ⟨rfl, hS⟩
      refine ⟨_, rfl, ?_⟩
      refine ⟨HM.s (hS.sb), ?_⟩
      refine D.done (by kernel_rfl) ?_
      repeat' (first|refine VP ?_|refine Sh.la hS ?_|refine Sh.lb ?_|refine Sh.lc ?_|refine Sh.su ?_|(refine Sh.sa hS ?_;clear hS;intro w hS)|((first|refine Sh.aa hS ?_|refine Sh.ab hS ?_|refine Sh.ac hS ?_);clear hS;intro g w hS hge)|refine Sh.ix ?_|refine Sh.up ?_|refine Sh.sl1 ?_|refine Sh.sl2 ?_|refine Sh.sl5 ?_|refine Sh.sl3 ?_|refine Sh.sl4 ?_|refine Sh.eq ?_|refine Sh.ne ?_|refine Sh.ix2 ?_|refine Sh.ix3 ?_|refine Z.bu rfl rfl ?_|refine VM ?_|refine Z.pl (R.cap rfl rfl) ?_|refine Z.pl R.mf ?_|refine Z.pl (R.min2 rfl rfl) ?_|refine G1 ?_|refine G2 ?_|refine G3 ?_|refine G4 ?_|with_reducible (first|refine V0 ?_|refine Z.block ?_)|((with_reducible refine Z.blX ?_ ?_);rotate_left;rfl)|refine VT ?_|refine VF ?_|((first|refine GS ?_ ?_|refine VB ?_ ?_)<;>intro hb<;>(try simp only [J1,J2,J3,J4,J5,J6] at hb)<;>(try (exfalso;first|omega|exact hb trivial))))
      refine Sh.cut [] ?_
      have e1 : max f.agreed m.ep = m.ep := by omega
      have e2 : agreeC f m = cutC f.c m.seq.toNat := by unfold agreeC; rw [if_pos hb]
      rw [e1, e2]
      exact ⟨rfl, hS.sb⟩
    · refine Sh.cut [] ?_
      have e1 : max f.agreed m.ep = f.agreed := by omega
      have e2 : agreeC f m = f.c := by unfold agreeC; rw [if_neg (by omega)]
      rw [e1, e2]
      exact ⟨rfl, hS.sb⟩
  clear hS
  rintro g0 w _ ⟨rfl, hS⟩
  repeat' (first|refine VP ?_|refine Sh.la hS ?_|refine Sh.lb ?_|refine Sh.lc ?_|refine Sh.su ?_|(refine Sh.sa hS ?_;clear hS;intro w hS)|((first|refine Sh.aa hS ?_|refine Sh.ab hS ?_|refine Sh.ac hS ?_);clear hS;intro g w hS hge)|refine Sh.ix ?_|refine Sh.up ?_|refine Sh.sl1 ?_|refine Sh.sl2 ?_|refine Sh.sl5 ?_|refine Sh.sl3 ?_|refine Sh.sl4 ?_|refine Sh.eq ?_|refine Sh.ne ?_|refine Sh.ix2 ?_|refine Sh.ix3 ?_|refine Z.bu rfl rfl ?_|refine VM ?_|refine Z.pl (R.cap rfl rfl) ?_|refine Z.pl R.mf ?_|refine Z.pl (R.min2 rfl rfl) ?_|refine G1 ?_|refine G2 ?_|refine G3 ?_|refine G4 ?_|with_reducible (first|refine V0 ?_|refine Z.block ?_)|((with_reducible refine Z.blX ?_ ?_);rotate_left;rfl)|refine VT ?_|refine VF ?_|((first|refine GS ?_ ?_|refine VB ?_ ?_)<;>intro hb<;>(try simp only [J1,J2,J3,J4,J5,J6] at hb)<;>(try (exfalso;first|omega|exact hb trivial))))
  refine Z.lpS [8, 10, 103, 104, 105, 106, 107, 108, 109, 110, 111, 112, 113, 114, 115, 116, 117, 118, 119, 120, 121, 122, 123, 124, 125, 126, 127, 128, 129, 130, 131, 132, 133, 134, 135, 136, 137, 138, 139, 140, 141, 142, 143, 144, 145, 146, 147, 148, 149, 150, 151, 152, 153] (fun m' w s => ∃ (k : Nat) (a : Int) (c : Cp), s = [(8, .int .i64 a), (103, .int .i64 k)] ∧ k ≤ m.ch.length ∧ Good c ∧ takeC c (m.ch.drop k) a = R ∧ m.seq + k ≤ c.h.length ∧ c.h.length ≤ f.c.h.length + k ∧ m' = m.ch.length - k ∧
    Sep r [] (.blk g 28 [.int .i64 m.ep, .int .i64 m.seq, .int .i64 m.before, .slice A m.ch.length cc] :: .blk gh 53 [.int .i64 0, .int .i64 0, .bool false] :: .blk gf 42 [.pointer (some ⟨gc, 0, .none⟩), .int .i64 m.ep, .int .i64 (max f.agreed m.ep)] :: CR gc cell ten vg c :: F) w) _ [(8, .int .i64 m.seq), (103, .int .i64 (0 : Nat))] (by repeat (first | exact trivial | refine ⟨rfl, ?_⟩)) ⟨0, m.seq, agreeC f m, rfl, by omega, hga.1, by simpa using hR, by omega, by omega, rfl, hS⟩ ?_
  clear hS hR
  rintro m' f0 w _ ⟨k, a, c, rfl, hk, hgc, hR, hle, hcl, rfl, hS⟩
  by_cases hlt : k < m.ch.length
  · obtain ⟨gb, o, rfl, _, hra⟩ := (hrd [_, _, _, _] w hS).mat (by omega) hlt
    have hxs := (chsOk_at hch k hlt).1
    rw [takeC_drop hlt] at hR
    generalize m.ch[k] = x at *
    have hct := cutC_good hgc (x.seq - 1).toNat
    have hctl : (cutC c (x.seq - 1).toNat).h.length ≤ c.h.length := by rw [hct.2, List.length_take]; omega
    have hgo := hct.1.ok
    repeat' (first|refine VP ?_|refine Sh.la hS ?_|refine Sh.lb ?_|refine Sh.lc ?_|refine Sh.su ?_|(refine Sh.sa hS ?_;clear hS;intro w hS)|((first|refine Sh.aa hS ?_|refine Sh.ab hS ?_|refine Sh.ac hS ?_);clear hS;intro g w hS hge)|refine Sh.ix ?_|refine Sh.up ?_|refine Sh.sl1 ?_|refine Sh.sl2 ?_|refine Sh.sl5 ?_|refine Sh.sl3 ?_|refine Sh.sl4 ?_|refine Sh.eq ?_|refine Sh.ne ?_|refine Sh.ix2 ?_|refine Sh.ix3 ?_|refine Z.bu rfl rfl ?_|refine VM ?_|refine Z.pl (R.cap rfl rfl) ?_|refine Z.pl R.mf ?_|refine Z.pl (R.min2 rfl rfl) ?_|refine G1 ?_|refine G2 ?_|refine G3 ?_|refine G4 ?_|with_reducible (first|refine V0 ?_|refine Z.block ?_)|((with_reducible refine Z.blX ?_ ?_);rotate_left;rfl)|refine VT ?_|refine VF ?_|((first|refine GS ?_ ?_|refine VB ?_ ?_)<;>intro hb<;>(try simp only [J1,J2,J3,J4,J5,J6] at hb)<;>(try (exfalso;first|omega|exact hb trivial))))
    rename Nat => gx
    refine Z.cut [107, 108, 109, 110, 111, 112, 113, 114, 115, 116, 117, 118, 119, 120, 121, 122, 123, 124, 125, 126, 127, 128, 129, 130, 131, 132, 133, 134, 135] (fun w s => s = [(135, .bool (decide ((c.h.length : Int) < x.seq ∨ epAt c.h (x.seq - 1).toNat ≠ x.epoch)))] ∧ Sep r [] (.blk gx 51 x.cells :: .blk g 28 [.int .i64 m.ep, .int .i64 m.seq, .int .i64 m.before, .slice (some ⟨gb, o, .none⟩) m.ch.length cc] :: .blk gh 53 [.int .i64 0, .int .i64 0, .bool false] :: .blk gf 42 [.pointer (some ⟨gc, 0, .none⟩), .int .i64 m.ep, .int .i64 (max f.agreed m.ep)] :: CR gc cell ten vg c :: F) w) ?_ ?_
    · obtain ⟨vh, gs, gq, gt, vs, vl, vr, hS⟩ := Sep.CR_open.1 (hS.focus (R := CR gc _ _ _ _) (by repeat (first | exact At.here | apply At.next)))
      obtain ⟨Ah, ch, rfl, hch2⟩ := (hS.slrows (.next .here)).mform
      by_cases hl2 : (c.h.length : Int) < x.seq
      · refine D.startS (Lr := [.blk gx 51 x.cells, .blk gc _ _, .blk gf 42 [.pointer (some ⟨gc, 0, .none⟩), .int .i64 m.ep, .int .i64 (max f.agreed m.ep)]]) (hS.sb) 29 29 (by kernel_rfl) rfl ?_
        replace hS := hS.drew
        refine Sh.dp 0 1 ?_
        refine Sh.dp 2 5 ?_
        refine Sh.dp 3 13 ?_
        refine Sh.dp 4 29 ?_
        refine Sh.dl 1 31 ?_
        refine Sh.dl 5 63 ?_
        refine Sh.dp 6 127 ?_
        refine Sh.dp 7 255 ?_
        refine Sh.dl 8 511 ?_
        refine Sh.dp 9 1023 ?_
        refine Sh.dp 10 2047 ?_
        refine Sh.dp 11 4095 ?_
        refine D.slot 118 rfl (fun hb => ?_) (fun hb => by exfalso; (try simp only [decide_eq_true_eq, decide_eq_false_iff_not, Bool.not_eq_true', Bool.not_eq_false', Int.not_lt, Int.not_le] at hb) <;> first | omega | exact hb trivial | cases hb)
        (try simp only [decide_eq_true_eq, decide_eq_false_iff_not, Bool.not_eq_true', Bool.not_eq_false', Int.not_lt, Int.not_le] at hb)
        refine D.skF 12 8191 rfl (by kernel_rfl) rfl rfl ?_
        refine D.skF 13 16383 rfl (by kernel_rfl) rfl rfl ?_
        refine D.skF 14 32767 rfl (by kernel_rfl) rfl rfl ?_
        refine D.skF 15 65535 rfl (by kernel_rfl) rfl rfl ?_
        refine D.skF 16 131071 rfl (by kernel_rfl) rfl rfl ?_
        refine D.skF 17 262143 rfl (by kernel_rfl) rfl rfl ?_
        refine D.skF 18 524287 rfl (by kernel_rfl) rfl rfl ?_
        refine D.skF 19 1048575 rfl (by kernel_rfl) rfl rfl ?_
        refine D.skF 20 2097151 rfl (by kernel_rfl) rfl rfl ?_
        refine D.skF 21 4194303 rfl (by kernel_rfl) rfl rfl ?_
        refine D.skF 22 8388607 rfl (by kernel_rfl) rfl rfl ?_
        refine D.skF 23 16777215 rfl (by kernel_rfl) rfl rfl ?_
        refine D.skF 24 33554431 rfl (by kernel_rfl) rfl rfl ?_
        refine D.skF 25 67108863 rfl (by kernel_rfl) rfl rfl ?_
        refine D.skF 26 134217727 rfl (by kernel_rfl) rfl rfl ?_
        refine D.skF 27 268435455 rfl (by kernel_rfl) rfl rfl ?_
        refine Sh.dp 28 536870911 ?_
        refine D.done (by kernel_rfl) ?_
        refine Sh.cut [(135, _)] ?_
        replace hS := Sep.CR_open.2 ⟨_, _, _, _, _, _, _, hS.sub (L' := .blk gc _ _ :: .sl 51 8 (.slice Ah c.h.length ch) _ :: .blk gs _ _ :: .sl 146 3 _ _ :: .blk gq _ _ :: .sl 148 2 _ _ :: .sl 175 4 _ _ :: .blk gt _ _ :: .blk gx 51 x.cells :: .blk g 28 [.int .i64 m.ep, .int .i64 m.seq, .int .i64 m.before, .slice (some ⟨gb, o, .none⟩) m.ch.length cc] :: .blk gh 53 [.int .i64 0, .int .i64 0, .bool false] :: .blk gf 42 [.pointer (some ⟨gc, 0, .none⟩), .int .i64 m.ep, .int .i64 (max f.agreed m.ep)] :: F) (by repeat (first | exact Sub.rest | exact Sub.nil | exact .skip .rest | exact .skip (.skip .rest) | exact .skip (.skip (.skip .rest)) | apply Sub.keep | refine Sub.cons (by repeat (first | exact At.here | apply At.next)) ?_ | apply Sub.skip))⟩
        exact ⟨by simp [hl2], hS.sb⟩
      · have hq : (x.seq - 1).toNat < c.h.length := by omega
        obtain ⟨gb2, o2, rfl, _, _⟩ := (hS.slrows (e := 51) (v := .slice Ah c.h.length ch) (by repeat (first | exact At.here | apply At.next))).mat (by omega) hq
        refine D.startS hS 29 29 (by kernel_rfl) rfl ?_
        replace hS := hS.drew
        refine Sh.dp 0 1 ?_
        refine Sh.dp 2 5 ?_
        refine Sh.dp 3 13 ?_
        refine Sh.dp 4 29 ?_
        refine Sh.dl 1 31 ?_
        refine Sh.dl 5 63 ?_
        refine Sh.dp 6 127 ?_
        refine Sh.dp 7 255 ?_
        refine Sh.dl 8 511 ?_
        refine Sh.dp 9 1023 ?_
        refine Sh.dp 10 2047 ?_
        refine Sh.dp 11 4095 ?_
        refine D.slot 118 rfl (fun hb => by exfalso; (try simp only [decide_eq_true_eq, decide_eq_false_iff_not, Bool.not_eq_true', Bool.not_eq_false', Int.not_lt, Int.not_le] at hb) <;> first | omega | exact hb trivial | cases hb) (fun hb => ?_)
        (try simp only [decide_eq_true_eq, decide_eq_false_iff_not, Bool.not_eq_true', Bool.not_eq_false', Int.not_lt, Int.not_le] at hb)
        refine Sh.dp 12 8191 ?_
        refine Sh.dp 13 16383 ?_
        refine Sh.dp 14 32767 ?_
        refine Sh.dp 19 557055 ?_
        refine Sh.dp 25 34111487 ?_
        refine Sh.dl 15 34144255 ?_
        refine Sh.dp 16 34209791 ?_
        refine Sh.dp 17 34340863 ?_
        refine Sh.dl 18 34603007 ?_
        refine Sh.dl 20 35651583 ?_
        first | refine D.sum 21 37748735 rfl (D.wantedT rfl rfl) (by kernel_rfl) rfl (by constructor <;> omega) ?_ | refine D.sumW 21 37748735 rfl (D.wantedT rfl rfl) (by kernel_rfl) rfl ?_
        first | refine D.ixn 22 41943039 rfl (D.wantedT rfl rfl) (by kernel_rfl) rfl rfl rfl (by omega) ?_ | refine D.ix 22 41943039 rfl (D.wantedT rfl rfl) (by kernel_rfl) rfl rfl rfl (by omega) ?_ | refine D.ia 22 41943039 rfl (D.wantedT rfl rfl) (by kernel_rfl) rfl rfl rfl (by omega) ?_
        refine Sh.dp 23 50331647 ?_
        refine D.ldE 24 67108863 rfl (D.wantedT rfl rfl) (by kernel_rfl) rfl (fun W h => (h.slrows (e := 51) (v := .slice _ c.h.length ch) (by repeat (first | exact At.here | apply At.next))).elem (by omega) hq) rfl ?_
        refine Sh.dl 26 134217727 ?_
        first | refine D.pr 27 268435455 rfl (D.wantedT rfl rfl) (by kernel_rfl) rfl ?_ | refine D.pl 27 268435455 rfl (D.wantedT rfl rfl) (by kernel_rfl) (R.nea rfl rfl rfl rfl) ?_
        refine Sh.dp 28 536870911 ?_
        refine D.done (by kernel_rfl) ?_
        refine Sh.cut [(135, _)] ?_
        replace hS := Sep.CR_open.2 ⟨_, _, _, _, _, _, _, hS.sub (L' := .blk gc _ _ :: .sl 51 8 (.slice (some ⟨gb2, o2, .none⟩) c.h.length ch) _ :: .blk gs _ _ :: .sl 146 3 _ _ :: .blk gq _ _ :: .sl 148 2 _ _ :: .sl 175 4 _ _ :: .blk gt _ _ :: .blk gx 51 x.cells :: .blk g 28 [.int .i64 m.ep, .int .i64 m.seq, .int .i64 m.before, .slice (some ⟨gb, o, .none⟩) m.ch.length cc] :: .blk gh 53 [.int .i64 0, .int .i64 0, .bool false] :: .blk gf 42 [.pointer (some ⟨gc, 0, .none⟩), .int .i64 m.ep, .int .i64 (max f.agreed m.ep)] :: F) (by repeat (first | exact Sub.rest | exact Sub.nil | exact .skip .rest | exact .skip (.skip .rest) | exact .skip (.skip (.skip .rest)) | apply Sub.keep | refine Sub.cons (by repeat (first | exact At.here | apply At.next)) ?_ | apply Sub.skip))⟩
        refine ⟨?_, hS.sb⟩
        rw [epAt_eq hq]
        simp [hl2]
    clear hS
    rintro g0 w _ ⟨rfl, hS⟩
    repeat' (first|refine VP ?_|refine Sh.la hS ?_|refine Sh.lb ?_|refine Sh.lc ?_|refine Sh.su ?_|(refine Sh.sa hS ?_;clear hS;intro w hS)|((first|refine Sh.aa hS ?_|refine Sh.ab hS ?_|refine Sh.ac hS ?_);clear hS;intro g w hS hge)|refine Sh.ix ?_|refine Sh.up ?_|refine Sh.sl1 ?_|refine Sh.sl2 ?_|refine Sh.sl5 ?_|refine Sh.sl3 ?_|refine Sh.sl4 ?_|refine Sh.eq ?_|refine Sh.ne ?_|refine Sh.ix2 ?_|refine Sh.ix3 ?_|refine Z.bu rfl rfl ?_|refine VM ?_|refine Z.pl (R.cap rfl rfl) ?_|refine Z.pl R.mf ?_|refine Z.pl (R.min2 rfl rfl) ?_|refine G1 ?_|refine G2 ?_|refine G3 ?_|refine G4 ?_|with_reducible (first|refine V0 ?_|refine Z.block ?_)|((with_reducible refine Z.blX ?_ ?_);rotate_left;rfl)|refine VT ?_|refine VF ?_|((first|refine GS ?_ ?_|refine VB ?_ ?_)<;>intro hb<;>(try simp only [J1,J2,J3,J4,J5,J6] at hb)<;>(try (exfalso;first|omega|exact hb trivial))))
    · refine D.startS (Lr := [.blk gx 51 x.cells, .blk gf 42 [.pointer (some ⟨gc, 0, .none⟩), .int .i64 m.ep, .int .i64 (max f.agreed m.ep)]]) (hS.sb) 8 8 (by kernel_rfl) rfl ?_
      replace hS := hS.drew
      refine Sh.dp 0 1 ?_
      refine Sh.dp 1 3 ?_
      refine Sh.dp 2 7 ?_
      refine Sh.dp 4 23 ?_
      refine Sh.dl 3 31 ?_
      refine Sh.dl 5 63 ?_
      first | refine D.sum 6 127 rfl D.wantedN (by kernel_rfl) rfl (by constructor <;> omega) ?_ | refine D.sumW 6 127 rfl D.wantedN (by kernel_rfl) rfl ?_
      refine D.eff 7 255 rfl D.wantedN (by kernel_rfl) (by kernel_rfl) (fun _ _ h => h) ?_
      replace hS := hS.fo (R := CR gc _ _ _ _)
      refine Z.cl (rctrunc_in gc cell ten vg c (x.seq - 1) _ _ _ hS hgc (by omega) ⟨by omega, by omega⟩) rfl ?_
      clear hS
      rintro e w ⟨rfl, hS⟩
      refine ⟨_, rfl, ?_⟩
      refine ⟨HM.s (hS.sb), ?_⟩
      refine D.done (by kernel_rfl) ?_
      repeat' (first|refine VP ?_|refine Sh.la hS ?_|refine Sh.lb ?_|refine Sh.lc ?_|refine Sh.su ?_|(refine Sh.sa hS ?_;clear hS;intro w hS)|((first|refine Sh.aa hS ?_|refine Sh.ab hS ?_|refine Sh.ac hS ?_);clear hS;intro g w hS hge)|refine Sh.ix ?_|refine Sh.up ?_|refine Sh.sl1 ?_|refine Sh.sl2 ?_|refine Sh.sl5 ?_|refine Sh.sl3 ?_|refine Sh.sl4 ?_|refine Sh.eq ?_|refine Sh.ne ?_|refine Sh.ix2 ?_|refine Sh.ix3 ?_|refine Z.bu rfl rfl ?_|refine VM ?_|refine Z.pl (R.cap rfl rfl) ?_|refine Z.pl R.mf ?_|refine Z.pl (R.min2 rfl rfl) ?_|refine G1 ?_|refine G2 ?_|refine G3 ?_|refine G4 ?_|with_reducible (first|refine V0 ?_|refine Z.block ?_)|((with_reducible refine Z.blX ?_ ?_);rotate_left;rfl)|refine VT ?_|refine VF ?_|((first|refine GS ?_ ?_|refine VB ?_ ?_)<;>intro hb<;>(try simp only [J1,J2,J3,J4,J5,J6] at hb)<;>(try (exfalso;first|omega|exact hb trivial))))
      refine D.startS (Lr := [.blk gx 51 x.cells, .blk gf 42 [.pointer (some ⟨gc, 0, .none⟩), .int .i64 m.ep, .int .i64 (max f.agreed m.ep)]]) (hS.sb) 7 7 (by kernel_rfl) rfl ?_
      replace hS := hS.drew
      refine Sh.dp 0 1 ?_
      refine Sh.dp 1 3 ?_
      refine Sh.dp 2 7 ?_
      refine Sh.dl 3 15 ?_
      refine Sh.dl 4 31 ?_
      refine D.eff 5 63 rfl D.wantedN (by kernel_rfl) (by kernel_rfl) (fun _ _ h => h) ?_
      replace hS := hS.fo (R := CR gc _ _ _ _)
      refine Z.cl (capply_z gc cell ten vg (cutC c (x.seq - 1).toNat) x _ _ _ hS hgo.1 (by omega) (by omega) (by omega) (by rw [hgo.2.2.2]; simp)) rfl ?_
      clear hS
      rintro e w ⟨rfl, hS⟩
      refine ⟨_, rfl, ?_⟩
      refine ⟨HM.s (hS.sb), ?_⟩
      first | refine D.pr 6 127 rfl D.wantedN (by kernel_rfl) rfl ?_ | refine D.pl 6 127 rfl D.wantedN (by kernel_rfl) (R.nea rfl rfl rfl rfl) ?_
      refine D.done (by kernel_rfl) ?_
      rename _ ∨ _ => hcond
      rw [if_pos hcond] at hR
      repeat' (first|refine VP ?_|refine Sh.la hS ?_|refine Sh.lb ?_|refine Sh.lc ?_|refine Sh.su ?_|(refine Sh.sa hS ?_;clear hS;intro w hS)|((first|refine Sh.aa hS ?_|refine Sh.ab hS ?_|refine Sh.ac hS ?_);clear hS;intro g w hS hge)|refine Sh.ix ?_|refine Sh.up ?_|refine Sh.sl1 ?_|refine Sh.sl2 ?_|refine Sh.sl5 ?_|refine Sh.sl3 ?_|refine Sh.sl4 ?_|refine Sh.eq ?_|refine Sh.ne ?_|refine Sh.ix2 ?_|refine Sh.ix3 ?_|refine Z.bu rfl rfl ?_|refine VM ?_|refine Z.pl (R.cap rfl rfl) ?_|refine Z.pl R.mf ?_|refine Z.pl (R.min2 rfl rfl) ?_|refine G1 ?_|refine G2 ?_|refine G3 ?_|refine G4 ?_|with_reducible (first|refine V0 ?_|refine Z.block ?_)|((with_reducible refine Z.blX ?_ ?_);rotate_left;rfl)|refine VT ?_|refine VF ?_|((first|refine GS ?_ ?_|refine VB ?_ ?_)<;>intro hb<;>(try simp only [J1,J2,J3,J4,J5,J6] at hb)<;>(try (exfalso;first|omega|exact hb trivial))))
      · first | refine Z.done hS Try.results23 (Z.RV.cell rfl (by repeat (first | exact At.here | apply At.next)) rfl (Z.RV.tmp rfl Z.RV.nil)) ?_ | refine Z.doneN hS Try.results23 (Z.RV.cell rfl (by repeat (first | exact At.here | apply At.next)) rfl (Z.RV.tmp rfl Z.RV.nil)) ?_
        rw [if_neg hb] at hR
        rw [cApp_bad hb] at hS
        rw [← hR]
        exact ⟨rfl, hS.sb⟩
      · refine Sh.again (m.ch.length - (k + 1)) [(8, .int .i64 x.seq), (103, .int .i64 (k + 1 : Nat))] ?_
        rw [if_pos hb] at hR
        have hst := hct.1.step x
        have hlen2 : (cApp (cutC c (x.seq - 1).toNat) x).1.h.length = (x.seq).toNat := by
          rw [(cApp_ok hb).2.2.2.2.2.2]
          simp only [List.length_append, List.length_singleton]
          rw [hct.2, List.length_take]
          omega
        exact ⟨k + 1, x.seq, _, rfl, by omega, hst.1, hR, by rw [hlen2]; omega, by omega, rfl, hS.sb⟩
    · refine Sh.again (m.ch.length - (k + 1)) [(8, .int .i64 x.seq), (103, .int .i64 (k + 1 : Nat))] ?_
      rw [if_neg hb] at hR
      exact ⟨k + 1, x.seq, c, rfl, by omega, hgc, hR, by omega, by omega, rfl, hS.sb⟩
  · repeat' (first|refine VP ?_|refine Sh.la hS ?_|refine Sh.lb ?_|refine Sh.lc ?_|refine Sh.su ?_|(refine Sh.sa hS ?_;clear hS;intro w hS)|((first|refine Sh.aa hS ?_|refine Sh.ab hS ?_|refine Sh.ac hS ?_);clear hS;intro g w hS hge)|refine Sh.ix ?_|refine Sh.up ?_|refine Sh.sl1 ?_|refine Sh.sl2 ?_|refine Sh.sl5 ?_|refine Sh.sl3 ?_|refine Sh.sl4 ?_|refine Sh.eq ?_|refine Sh.ne ?_|refine Sh.ix2 ?_|refine Sh.ix3 ?_|refine Z.bu rfl rfl ?_|refine VM ?_|refine Z.pl (R.cap rfl rfl) ?_|refine Z.pl R.mf ?_|refine Z.pl (R.min2 rfl rfl) ?_|refine G1 ?_|refine G2 ?_|refine G3 ?_|refine G4 ?_|with_reducible (first|refine V0 ?_|refine Z.block ?_)|((with_reducible refine Z.blX ?_ ?_);rotate_left;rfl)|refine VT ?_|refine VF ?_|((first|refine GS ?_ ?_|refine VB ?_ ?_)<;>intro hb<;>(try simp only [J1,J2,J3,J4,J5,J6] at hb)<;>(try (exfalso;first|omega|exact hb trivial))))
    first | refine Z.done hS Try.results23 (Z.RV.cell rfl (by repeat (first | exact At.here | apply At.next)) rfl (Z.RV.tmp rfl Z.RV.nil)) ?_ | refine Z.doneN hS Try.results23 (Z.RV.cell rfl (by repeat (first | exact At.here | apply At.next)) rfl (Z.RV.tmp rfl Z.RV.nil)) ?_
    rw [List.drop_eq_nil_of_le (by omega)] at hR
    rw [← hR]
    exact ⟨rfl, hS.sb⟩
end Go.Proofs.Ytmjdkgpckcdndaa
