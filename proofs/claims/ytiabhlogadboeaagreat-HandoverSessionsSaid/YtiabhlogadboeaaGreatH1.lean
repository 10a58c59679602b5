/-
  The walk of Change of the mill, which makes a change that a copy accepts, as a rule.
  Copies that accepted changes have made; the walks of Grow and History of the mill.
-/
import Derived.Test.YtiabhlogadboeaaGreatC1
import Derived.Test.YtiabhlogadboeaaGreatT1
namespace Go.Proofs.YtiabhlogadboeaaGreat
open Go.RowKit
set_option linter.unusedSimpArgs false
set_option linter.unusedVariables false
attribute [local irreducible] Res.blk Res.sl Res.all Res.ex Res.pure Res.star

/-- What Change makes, and where the tape stands behind. -/
def mkKind (l : List Int) (i : Nat) (c : Cp) : Int :=
  if 1 + nxt l i 4 = 4 ∧ c.q.l.length = 0 then 3 else if 1 + nxt l i 4 = 2 ∧ c.s.length = 0 then 1 else 1 + nxt l i 4
def mkChange (l : List Int) (i : Nat) (c : Cp) (ep : Int) : Ch × Nat :=
  let cl := 1 + nxt l (adv l i) 4
  let j := adv l (adv l i)
  let k := mkKind l i c
  let x : Ch := ⟨ep, (c.h.length : Int) + 1, k, cl, lastB c.t cl + 1, 0, ⟨#[]⟩, ⟨#[]⟩⟩
  if k = 1 then ({ x with key := textOf l j 1 16, value := textOf l (textAdv l j 1 16) 0 64 }, textAdv l (textAdv l j 1 16) 0 64)
  else if k = 2 then ({ x with key := ((c.s[(nxt l j c.s.length).toNat]?).map (·.key)).getD ⟨#[]⟩ }, adv l j)
  else if k = 3 then ({ x with value := textOf l j 0 64 }, textAdv l j 0 64)
  else ({ x with item := ((c.q.l[(nxt l j c.q.l.length).toNat]?).map (·.number)).getD 0 }, adv l j)
theorem lastB_bd {t : Tab} (h : t.ok) (cl : Int) : 0 ≤ lastB t cl ∧ lastB t cl ≤ 1048576 := by
  unfold lastB
  split
  · omega
  · exact h _

set_option maxRecDepth 10000 in
set_option maxHeartbeats 4000000 in
theorem change_z (ga gc : Nat) (cell ten : Int) (vg : Value) (l : List Int) (i : Nat) (c : Cp) (ep : Int) (r : World) (F : List Res) (w : World) (hS : Sep r [] (TpR r ga l i :: CR gc cell ten vg c :: F) w) (hok : c.t.ok) (l1 : c.h.length ≤ 4000) (l2 : c.s.length ≤ 1000) (l3 : c.q.l.length ≤ 1000) :
    Calls Tryz.prog 91 #[.pointer (some ⟨ga, 0, none⟩), .pointer (some ⟨gc, 0, none⟩), .int .i64 ep] w fun e w' => e = .returned (mkChange l i c ep).1.val ∧ Sep r [] (TpR r ga l (mkChange l i c ep).2 :: CR gc cell ten vg c :: F) w' := by
  obtain ⟨vh, gs, gq, gt, vs, vl, vr, hS⟩ := Sep.CR_open.1 (hS.focus (.next .here))
  obtain ⟨Ah, ch, rfl, hch⟩ := (hS.slrows (.next .here)).mform
  obtain ⟨As, cs, rfl, hcs⟩ := (hS.slrows (.next (.next (.next .here)))).mform
  obtain ⟨Al, cl, rfl, hcl⟩ := (hS.slrows (.next (.next (.next (.next (.next .here)))))).mform
  replace hS : Sep r [] (TpR r ga l i :: .blk gc 54 [.int .i64 cell, .int .i64 ten, .slice Ah c.h.length ch, .pointer (some ⟨gs, 0, none⟩), .pointer (some ⟨gq, 0, none⟩), .pointer (some ⟨gt, 0, none⟩), vg] :: .sl 90 8 (.slice Ah c.h.length ch) (c.h.map Ch.cells) :: .blk gs 139 [.slice As c.s.length cs] :: .sl 188 3 (.slice As c.s.length cs) (c.s.map Ce.cells) :: .blk gq 144 [.slice Al c.q.l.length cl, vr, .int .i64 c.q.most] :: .sl 114 2 (.slice Al c.q.l.length cl) (c.q.l.map It.cells) :: .sl 126 4 vr (c.q.r.map Le.cells) :: .blk gt 136 c.t.cells.toList :: F) w := hS.sb
  have hb4 := nxt_bd l i 4 (by omega)
  have hb4' := nxt_bd l (adv l i) 4 (by omega)
  have hlb := lastB_bd hok (1 + nxt l (adv l i) 4)
  refine Z.enter Tryz.func91 Tryz.ntmps91 rfl rfl ?_
  repeat' (first|refine K ?_|(refine Sh.sa hS ?_;clear hS;intro w hS)|(refine K3 ?_;clear hS;intro g w hS hge)|((first|refine GS ?_ ?_|refine VB ?_ ?_)<;>intro hb<;>(try simp only [J1,J2,J3,J4,J5,J6] at hb)<;>(try (exfalso;first|omega|exact hb trivial))))
  rename Nat => g6
  refine Z.cut [7, 8, 9, 10, 11, 12, 13, 14, 15, 16, 17, 18, 19] (fun w s => ∃ g7, s = [(7, .pointer (some ⟨g7, 0, none⟩))] ∧ Sep r [] (.blk g7 90 [.int .i64 ep, .int .i64 ((c.h.length : Int) + 1), .int .i64 (1 + nxt l i 4), .int .i64 (1 + nxt l (adv l i) 4), .int .i64 0, .int .i64 0, .string ⟨#[]⟩, .string ⟨#[]⟩] ::
    .blk g6 90 [.int .i64 0, .int .i64 0, .int .i64 0, .int .i64 0, .int .i64 0, .int .i64 0, .string ⟨#[]⟩, .string ⟨#[]⟩] :: TpR r ga l (adv l (adv l i)) :: .blk gc 54 [.int .i64 cell, .int .i64 ten, .slice Ah c.h.length ch, .pointer (some ⟨gs, 0, none⟩), .pointer (some ⟨gq, 0, none⟩), .pointer (some ⟨gt, 0, none⟩), vg] :: .sl 90 8 (.slice Ah c.h.length ch) (c.h.map Ch.cells) :: .blk gs 139 [.slice As c.s.length cs] :: .sl 188 3 (.slice As c.s.length cs) (c.s.map Ce.cells) :: .blk gq 144 [.slice Al c.q.l.length cl, vr, .int .i64 c.q.most] :: .sl 114 2 (.slice Al c.q.l.length cl) (c.q.l.map It.cells) :: .sl 126 4 vr (c.q.r.map Le.cells) :: .blk gt 136 c.t.cells.toList :: F) w) ?_ ?_
  · refine D.startS (Lr := (.blk gc 54 [.int .i64 cell, .int .i64 ten, .slice Ah c.h.length ch, .pointer (some ⟨gs, 0, none⟩), .pointer (some ⟨gq, 0, none⟩), .pointer (some ⟨gt, 0, none⟩), vg] :: .sl 90 8 (.slice Ah c.h.length ch) (c.h.map Ch.cells) :: .blk gs 139 [.slice As c.s.length cs] :: .sl 188 3 (.slice As c.s.length cs) (c.s.map Ce.cells) :: .blk gq 144 [.slice Al c.q.l.length cl, vr, .int .i64 c.q.most] :: .sl 114 2 (.slice Al c.q.l.length cl) (c.q.l.map It.cells) :: .sl 126 4 vr (c.q.r.map Le.cells) :: .blk gt 136 c.t.cells.toList :: F)) (hS.sb) 13 14 (by kernel_rfl) rfl ?_
    replace hS := hS.drew
    refine Sh.dp 0 1 ?_
    refine Sh.dp 1 3 ?_
    refine Sh.dp 2 7 ?_
    refine Sh.dp 3 15 ?_
    refine Sh.dp 7 143 ?_
    refine Sh.dp 9 655 ?_
    refine Sh.dl 4 671 ?_
    refine Sh.dp 5 703 ?_
    first | refine D.sum 6 767 rfl D.wantedN (by kernel_rfl) rfl (by constructor <;> omega) ?_ | refine D.sumW 6 767 rfl D.wantedN (by kernel_rfl) rfl ?_
    refine D.each [8, 12] (by kernel_rfl) rfl ?_
    refine D.econs 8 1023 rfl D.wantedN (by kernel_rfl) (fun _ _ h => h) ?_ ?_
    · replace hS := hS.fo (R := TpR r ga l _)
      refine Z.cl (range_z 1 4 hS (by omega) (by omega) (by omega)) rfl ?_
      clear hS
      rintro e w ⟨rfl, hS⟩
      refine ⟨_, rfl, ?_⟩
      refine ⟨HM.s (hS.sb), ?_⟩
      refine D.each [10, 12] (by kernel_rfl) rfl ?_
      refine D.econs 10 2047 rfl D.wantedN (by kernel_rfl) (fun _ _ h => h) ?_ ?_
      · replace hS := hS.fo (R := TpR r ga l _)
        refine Z.cl (range_z 1 4 hS (by omega) (by omega) (by omega)) rfl ?_
        clear hS
        rintro e w ⟨rfl, hS⟩
        refine ⟨_, rfl, ?_⟩
        refine ⟨HM.s (hS.sb), ?_⟩
        first | refine D.bu 11 4095 rfl D.wantedN (by kernel_rfl) rfl rfl ?_ | refine D.buA 11 4095 rfl D.wantedN (by kernel_rfl) rfl rfl ?_
        refine D.eff 12 8191 rfl D.wantedN (by kernel_rfl) (by kernel_rfl) (fun _ _ h => h) ?_
        refine Z.al hS ?_
        clear hS; intro g w hS hge
        refine ⟨HM.s (hS.sb), ?_⟩
        refine D.eff 13 16383 rfl D.wantedN (by kernel_rfl) (by kernel_rfl) (fun _ _ h => h) ?_
        refine Z.st hS rfl (by repeat (first | exact At.here | apply At.next)) rfl rfl ?_
        clear hS; intro w hS
        refine ⟨HM.last (by kernel_rfl), ?_⟩
        refine D.done (by kernel_rfl) ?_
        refine Sh.cut [(7, _)] ?_
        exact ⟨_, rfl, hS.sb⟩
      refine D.econs 12 5119 rfl D.wantedN (by kernel_rfl) (fun _ _ h => h) ?_ ?_
      · refine Z.al hS ?_
        clear hS; intro g w hS hge
        refine ⟨HM.s (hS.sb), ?_⟩
        refine D.eff 10 6143 rfl D.wantedN (by kernel_rfl) (by kernel_rfl) (fun _ _ h => h) ?_
        replace hS := hS.fo (R := TpR r ga l _)
        refine Z.cl (range_z 1 4 hS (by omega) (by omega) (by omega)) rfl ?_
        clear hS
        rintro e w ⟨rfl, hS⟩
        refine ⟨_, rfl, ?_⟩
        refine ⟨HM.s (hS.sb), ?_⟩
        first | refine D.bu 11 8191 rfl D.wantedN (by kernel_rfl) rfl rfl ?_ | refine D.buA 11 8191 rfl D.wantedN (by kernel_rfl) rfl rfl ?_
        refine D.eff 13 16383 rfl D.wantedN (by kernel_rfl) (by kernel_rfl) (fun _ _ h => h) ?_
        refine Z.st hS rfl (by repeat (first | exact At.here | apply At.next)) rfl rfl ?_
        clear hS; intro w hS
        refine ⟨HM.last (by kernel_rfl), ?_⟩
        refine D.done (by kernel_rfl) ?_
        refine Sh.cut [(7, _)] ?_
        exact ⟨_, rfl, hS.sb⟩
      exact D.enil
    refine D.econs 12 4863 rfl D.wantedN (by kernel_rfl) (fun _ _ h => h) ?_ ?_
    · refine Z.al hS ?_
      clear hS; intro g w hS hge
      refine ⟨HM.s (hS.sb), ?_⟩
      refine D.eff 8 5119 rfl D.wantedN (by kernel_rfl) (by kernel_rfl) (fun _ _ h => h) ?_
      replace hS := hS.fo (R := TpR r ga l _)
      refine Z.cl (range_z 1 4 hS (by omega) (by omega) (by omega)) rfl ?_
      clear hS
      rintro e w ⟨rfl, hS⟩
      refine ⟨_, rfl, ?_⟩
      refine ⟨HM.s (hS.sb), ?_⟩
      refine D.eff 10 6143 rfl D.wantedN (by kernel_rfl) (by kernel_rfl) (fun _ _ h => h) ?_
      replace hS := hS.fo (R := TpR r ga l _)
      refine Z.cl (range_z 1 4 hS (by omega) (by omega) (by omega)) rfl ?_
      clear hS
      rintro e w ⟨rfl, hS⟩
      refine ⟨_, rfl, ?_⟩
      refine ⟨HM.s (hS.sb), ?_⟩
      first | refine D.bu 11 8191 rfl D.wantedN (by kernel_rfl) rfl rfl ?_ | refine D.buA 11 8191 rfl D.wantedN (by kernel_rfl) rfl rfl ?_
      refine D.eff 13 16383 rfl D.wantedN (by kernel_rfl) (by kernel_rfl) (fun _ _ h => h) ?_
      refine Z.st hS rfl (by repeat (first | exact At.here | apply At.next)) rfl rfl ?_
      clear hS; intro w hS
      refine ⟨HM.last (by kernel_rfl), ?_⟩
      refine D.done (by kernel_rfl) ?_
      refine Sh.cut [(7, _)] ?_
      exact ⟨_, rfl, hS.sb⟩
    exact D.enil
  clear hS
  rintro f1 w _ ⟨g7, rfl, hS⟩
  repeat' (first|refine K ?_|(refine Sh.sa hS ?_;clear hS;intro w hS)|(refine K3 ?_;clear hS;intro g w hS hge)|((first|refine GS ?_ ?_|refine VB ?_ ?_)<;>intro hb<;>(try simp only [J1,J2,J3,J4,J5,J6] at hb)<;>(try (exfalso;first|omega|exact hb trivial))))
  refine D.startS hS 9 10 (by kernel_rfl) rfl ?_
  replace hS := hS.drew
  refine Sh.dp 0 1 ?_
  refine Sh.dp 1 3 ?_
  refine Sh.dp 2 7 ?_
  refine Sh.dp 4 23 ?_
  refine Sh.dl 3 31 ?_
  refine Sh.dl 5 63 ?_
  refine D.eff 6 127 rfl D.wantedN (by kernel_rfl) (by kernel_rfl) (fun _ _ h => h) ?_
  refine Z.cl (last_any gt c.t _ _ (hS.bk)) rfl ?_
  rintro e w' ⟨rfl, rfl⟩
  refine ⟨_, rfl, ?_⟩
  refine ⟨HM.s (hS.sb), ?_⟩
  first | refine D.sum 7 255 rfl D.wantedN (by kernel_rfl) rfl (by constructor <;> omega) ?_ | refine D.sumW 7 255 rfl D.wantedN (by kernel_rfl) rfl ?_
  refine Sh.dp 8 511 ?_
  refine D.eff 9 1023 rfl D.wantedN (by kernel_rfl) (by kernel_rfl) (fun _ _ h => h) ?_
  refine Z.st hS rfl (by repeat (first | exact At.here | apply At.next)) rfl rfl ?_
  clear hS; intro w hS
  refine ⟨HM.last (by kernel_rfl), ?_⟩
  refine D.done (by kernel_rfl) ?_
  repeat' (first|refine K ?_|(refine Sh.sa hS ?_;clear hS;intro w hS)|(refine K3 ?_;clear hS;intro g w hS hge)|((first|refine GS ?_ ?_|refine VB ?_ ?_)<;>intro hb<;>(try simp only [J1,J2,J3,J4,J5,J6] at hb)<;>(try (exfalso;first|omega|exact hb trivial))))
  · replace hS := hS.fo (R := TpR r ga l _)
    refine Z.eff (Z.cl (text_z 0 64 hS (by omega) (by omega) (by omega)) rfl ?_) rfl
    clear hS
    rintro e w ⟨rfl, hS⟩
    refine ⟨_, rfl, ?_⟩
    repeat' (first|refine K ?_|(refine Sh.sa hS ?_;clear hS;intro w hS)|(refine K3 ?_;clear hS;intro g w hS hge)|((first|refine GS ?_ ?_|refine VB ?_ ?_)<;>intro hb<;>(try simp only [J1,J2,J3,J4,J5,J6] at hb)<;>(try (exfalso;first|omega|exact hb trivial))))
    refine Dnc Tryz.results91 ?_
    have hk : mkKind l i c = 3 := by unfold mkKind; rw [if_pos ⟨by assumption, by omega⟩]
    have e : mkChange l i c ep = (⟨ep, (c.h.length : Int) + 1, 3, 1 + nxt l (adv l i) 4, lastB c.t (1 + nxt l (adv l i) 4) + 1, 0, ⟨#[]⟩, textOf l (adv l (adv l i)) 0 64⟩, textAdv l (adv l (adv l i)) 0 64) := by
      simp [mkChange, hk]
    rw [e]
    exact ⟨rfl, (Sep.CR_open.2 ⟨_, _, _, _, _, _, _, hS.sub (L' := .blk gc 54 [.int .i64 cell, .int .i64 ten, .slice Ah c.h.length ch, .pointer (some ⟨gs, 0, none⟩), .pointer (some ⟨gq, 0, none⟩), .pointer (some ⟨gt, 0, none⟩), vg] :: .sl 90 8 (.slice Ah c.h.length ch) (c.h.map Ch.cells) :: .blk gs 139 [.slice As c.s.length cs] :: .sl 188 3 (.slice As c.s.length cs) (c.s.map Ce.cells) :: .blk gq 144 [.slice Al c.q.l.length cl, vr, .int .i64 c.q.most] :: .sl 114 2 (.slice Al c.q.l.length cl) (c.q.l.map It.cells) :: .sl 126 4 vr (c.q.r.map Le.cells) :: .blk gt 136 c.t.cells.toList :: TpR r ga l _ :: F) (by repeat (first | exact Sub.rest | exact Sub.nil | exact .skip .rest | exact .skip (.skip .rest) | exact .skip (.skip (.skip .rest)) | apply Sub.keep | refine Sub.cons (by repeat (first | exact At.here | apply At.next)) ?_ | apply Sub.skip))⟩).swap⟩
  · have hq0 : 0 < c.q.l.length := by omega
    have hbn := nxt_bd l (adv l (adv l i)) c.q.l.length (by omega)
    obtain ⟨gb, o, rfl, _, _⟩ := (hS.slrows (e := 114) (v := .slice Al c.q.l.length cl) (by repeat (first | exact At.here | apply At.next))).mat (by omega) (q := (nxt l (adv l (adv l i)) c.q.l.length).toNat) (by omega)
    refine D.startS (Lr := (.blk g7 _ _ :: .blk g6 _ _ :: .blk gc 54 [.int .i64 cell, .int .i64 ten, .slice Ah c.h.length ch, .pointer (some ⟨gs, 0, none⟩), .pointer (some ⟨gq, 0, none⟩), .pointer (some ⟨gt, 0, none⟩), vg] :: .sl 90 8 (.slice Ah c.h.length ch) (c.h.map Ch.cells) :: .blk gs 139 [.slice As c.s.length cs] :: .sl 188 3 (.slice As c.s.length cs) (c.s.map Ce.cells) :: .blk gq 144 [.slice (some ⟨gb, o, none⟩) c.q.l.length cl, vr, .int .i64 c.q.most] :: .sl 114 2 (.slice (some ⟨gb, o, none⟩) c.q.l.length cl) (c.q.l.map It.cells) :: .sl 126 4 vr (c.q.r.map Le.cells) :: .blk gt 136 c.t.cells.toList :: F)) (hS.sb) 21 22 (by kernel_rfl) rfl ?_
    replace hS := hS.drew
    refine Sh.dp 0 1 ?_
    refine Sh.dp 1 3 ?_
    refine Sh.dp 2 7 ?_
    refine Sh.dp 7 135 ?_
    refine Sh.dp 8 391 ?_
    refine Sh.dp 9 903 ?_
    refine Sh.dp 10 1927 ?_
    refine Sh.dl 3 1935 ?_
    refine Sh.dp 4 1951 ?_
    refine Sh.dp 5 1983 ?_
    refine Sh.dl 6 2047 ?_
    refine Sh.dl 11 4095 ?_
    refine Sh.dp 12 8191 ?_
    refine Sh.dp 13 16383 ?_
    refine Sh.dl 14 32767 ?_
    refine Sh.dp 15 65535 ?_
    refine D.eff 16 131071 rfl D.wantedN (by kernel_rfl) (by kernel_rfl) (fun _ _ h => h) ?_
    replace hS := hS.fo (R := TpR r ga l _)
    refine Z.cl (next_z _ hS (by omega) (by omega)) rfl ?_
    clear hS
    rintro e w ⟨rfl, hS⟩
    refine ⟨_, rfl, ?_⟩
    refine ⟨HM.s (hS.sb), ?_⟩
    first | refine D.ixn 17 262143 rfl D.wantedN (by kernel_rfl) rfl rfl rfl (by omega) ?_ | refine D.ix 17 262143 rfl D.wantedN (by kernel_rfl) rfl rfl rfl (by omega) ?_ | refine D.ia 17 262143 rfl D.wantedN (by kernel_rfl) rfl rfl rfl (by omega) ?_
    refine Sh.dp 18 524287 ?_
    refine D.ldE 19 1048575 rfl D.wantedN (by kernel_rfl) rfl (fun W h => (h.slrows (e := 114) (v := .slice _ c.q.l.length cl) (by repeat (first | exact At.here | apply At.next))).elem (by omega) (q := (nxt l (adv l (adv l i)) c.q.l.length).toNat) (by omega)) rfl ?_
    refine Sh.dp 20 2097151 ?_
    refine D.eff 21 4194303 rfl D.wantedN (by kernel_rfl) (by kernel_rfl) (fun _ _ h => h) ?_
    refine Z.st hS rfl (by repeat (first | exact At.here | apply At.next)) rfl rfl ?_
    clear hS; intro w hS
    refine ⟨HM.last (by kernel_rfl), ?_⟩
    refine D.done (by kernel_rfl) ?_
    repeat' (first|refine K ?_|(refine Sh.sa hS ?_;clear hS;intro w hS)|(refine K3 ?_;clear hS;intro g w hS hge)|((first|refine GS ?_ ?_|refine VB ?_ ?_)<;>intro hb<;>(try simp only [J1,J2,J3,J4,J5,J6] at hb)<;>(try (exfalso;first|omega|exact hb trivial))))
    refine Dnc Tryz.results91 ?_
    have hk : mkKind l i c = 1 + nxt l i 4 := by unfold mkKind; rw [if_neg (by omega), if_neg (by omega)]
    have e : mkChange l i c ep = (⟨ep, (c.h.length : Int) + 1, 1 + nxt l i 4, 1 + nxt l (adv l i) 4, lastB c.t (1 + nxt l (adv l i) 4) + 1, (c.q.l[(nxt l (adv l (adv l i)) c.q.l.length).toNat]'(by omega)).number, ⟨#[]⟩, ⟨#[]⟩⟩, adv l (adv l (adv l i))) := by
      simp only [mkChange, hk]
      rw [if_neg (by omega), if_neg (by omega), if_neg (by omega), List.getElem?_eq_getElem (by omega)]
      rfl
    rw [e]
    exact ⟨rfl, (Sep.CR_open.2 ⟨_, _, _, _, _, _, _, hS.sub (L' := .blk gc 54 [.int .i64 cell, .int .i64 ten, .slice Ah c.h.length ch, .pointer (some ⟨gs, 0, none⟩), .pointer (some ⟨gq, 0, none⟩), .pointer (some ⟨gt, 0, none⟩), vg] :: .sl 90 8 (.slice Ah c.h.length ch) (c.h.map Ch.cells) :: .blk gs 139 [.slice As c.s.length cs] :: .sl 188 3 (.slice As c.s.length cs) (c.s.map Ce.cells) :: .blk gq 144 [.slice (some ⟨gb, o, none⟩) c.q.l.length cl, vr, .int .i64 c.q.most] :: .sl 114 2 (.slice (some ⟨gb, o, none⟩) c.q.l.length cl) (c.q.l.map It.cells) :: .sl 126 4 vr (c.q.r.map Le.cells) :: .blk gt 136 c.t.cells.toList :: TpR r ga l _ :: F) (by repeat (first | exact Sub.rest | exact Sub.nil | exact .skip .rest | exact .skip (.skip .rest) | exact .skip (.skip (.skip .rest)) | apply Sub.keep | refine Sub.cons (by repeat (first | exact At.here | apply At.next)) ?_ | apply Sub.skip))⟩).swap⟩
  · replace hS := hS.fo (R := TpR r ga l _)
    refine Z.eff (Z.cl (text_z 1 16 hS (by omega) (by omega) (by omega)) rfl ?_) rfl
    clear hS
    rintro e w ⟨rfl, hS⟩
    refine ⟨_, rfl, ?_⟩
    repeat' (first|refine K ?_|(refine Sh.sa hS ?_;clear hS;intro w hS)|(refine K3 ?_;clear hS;intro g w hS hge)|((first|refine GS ?_ ?_|refine VB ?_ ?_)<;>intro hb<;>(try simp only [J1,J2,J3,J4,J5,J6] at hb)<;>(try (exfalso;first|omega|exact hb trivial))))
    replace hS := hS.fo (R := TpR r ga l _)
    refine Z.eff (Z.cl (text_z 0 64 hS (by omega) (by omega) (by omega)) rfl ?_) rfl
    clear hS
    rintro e w ⟨rfl, hS⟩
    refine ⟨_, rfl, ?_⟩
    repeat' (first|refine K ?_|(refine Sh.sa hS ?_;clear hS;intro w hS)|(refine K3 ?_;clear hS;intro g w hS hge)|((first|refine GS ?_ ?_|refine VB ?_ ?_)<;>intro hb<;>(try simp only [J1,J2,J3,J4,J5,J6] at hb)<;>(try (exfalso;first|omega|exact hb trivial))))
    refine Dnc Tryz.results91 ?_
    have hk : mkKind l i c = 1 := by unfold mkKind; rw [if_neg (by omega), if_pos ⟨by assumption, by omega⟩]
    have e : mkChange l i c ep = (⟨ep, (c.h.length : Int) + 1, 1, 1 + nxt l (adv l i) 4, lastB c.t (1 + nxt l (adv l i) 4) + 1, 0, textOf l (adv l (adv l i)) 1 16, textOf l (textAdv l (adv l (adv l i)) 1 16) 0 64⟩, textAdv l (textAdv l (adv l (adv l i)) 1 16) 0 64) := by
      simp [mkChange, hk]
    rw [e]
    exact ⟨rfl, (Sep.CR_open.2 ⟨_, _, _, _, _, _, _, hS.sub (L' := .blk gc 54 [.int .i64 cell, .int .i64 ten, .slice Ah c.h.length ch, .pointer (some ⟨gs, 0, none⟩), .pointer (some ⟨gq, 0, none⟩), .pointer (some ⟨gt, 0, none⟩), vg] :: .sl 90 8 (.slice Ah c.h.length ch) (c.h.map Ch.cells) :: .blk gs 139 [.slice As c.s.length cs] :: .sl 188 3 (.slice As c.s.length cs) (c.s.map Ce.cells) :: .blk gq 144 [.slice Al c.q.l.length cl, vr, .int .i64 c.q.most] :: .sl 114 2 (.slice Al c.q.l.length cl) (c.q.l.map It.cells) :: .sl 126 4 vr (c.q.r.map Le.cells) :: .blk gt 136 c.t.cells.toList :: TpR r ga l _ :: F) (by repeat (first | exact Sub.rest | exact Sub.nil | exact .skip .rest | exact .skip (.skip .rest) | exact .skip (.skip (.skip .rest)) | apply Sub.keep | refine Sub.cons (by repeat (first | exact At.here | apply At.next)) ?_ | apply Sub.skip))⟩).swap⟩
  · have hq0 : 0 < c.s.length := by omega
    have hbn := nxt_bd l (adv l (adv l i)) c.s.length (by omega)
    obtain ⟨gb, o, rfl, _, _⟩ := (hS.slrows (e := 188) (v := .slice As c.s.length cs) (by repeat (first | exact At.here | apply At.next))).mat (by omega) (q := (nxt l (adv l (adv l i)) c.s.length).toNat) (by omega)
    refine D.startS (Lr := (.blk g7 _ _ :: .blk g6 _ _ :: .blk gc 54 [.int .i64 cell, .int .i64 ten, .slice Ah c.h.length ch, .pointer (some ⟨gs, 0, none⟩), .pointer (some ⟨gq, 0, none⟩), .pointer (some ⟨gt, 0, none⟩), vg] :: .sl 90 8 (.slice Ah c.h.length ch) (c.h.map Ch.cells) :: .blk gs 139 [.slice (some ⟨gb, o, none⟩) c.s.length cs] :: .sl 188 3 (.slice (some ⟨gb, o, none⟩) c.s.length cs) (c.s.map Ce.cells) :: .blk gq 144 [.slice Al c.q.l.length cl, vr, .int .i64 c.q.most] :: .sl 114 2 (.slice Al c.q.l.length cl) (c.q.l.map It.cells) :: .sl 126 4 vr (c.q.r.map Le.cells) :: .blk gt 136 c.t.cells.toList :: F)) (hS.sb) 21 22 (by kernel_rfl) rfl ?_
    replace hS := hS.drew
    refine Sh.dp 0 1 ?_
    refine Sh.dp 1 3 ?_
    refine Sh.dp 2 7 ?_
    refine Sh.dp 7 135 ?_
    refine Sh.dp 8 391 ?_
    refine Sh.dp 9 903 ?_
    refine Sh.dp 10 1927 ?_
    refine Sh.dl 3 1935 ?_
    refine Sh.dp 4 1951 ?_
    refine Sh.dp 5 1983 ?_
    refine Sh.dl 6 2047 ?_
    refine Sh.dl 11 4095 ?_
    refine Sh.dp 12 8191 ?_
    refine Sh.dp 13 16383 ?_
    refine Sh.dl 14 32767 ?_
    refine Sh.dp 15 65535 ?_
    refine D.eff 16 131071 rfl D.wantedN (by kernel_rfl) (by kernel_rfl) (fun _ _ h => h) ?_
    replace hS := hS.fo (R := TpR r ga l _)
    refine Z.cl (next_z _ hS (by omega) (by omega)) rfl ?_
    clear hS
    rintro e w ⟨rfl, hS⟩
    refine ⟨_, rfl, ?_⟩
    refine ⟨HM.s (hS.sb), ?_⟩
    first | refine D.ixn 17 262143 rfl D.wantedN (by kernel_rfl) rfl rfl rfl (by omega) ?_ | refine D.ix 17 262143 rfl D.wantedN (by kernel_rfl) rfl rfl rfl (by omega) ?_ | refine D.ia 17 262143 rfl D.wantedN (by kernel_rfl) rfl rfl rfl (by omega) ?_
    refine Sh.dp 18 524287 ?_
    refine D.ldE 19 1048575 rfl D.wantedN (by kernel_rfl) rfl (fun W h => (h.slrows (e := 188) (v := .slice _ c.s.length cs) (by repeat (first | exact At.here | apply At.next))).elem (by omega) (q := (nxt l (adv l (adv l i)) c.s.length).toNat) (by omega)) rfl ?_
    refine Sh.dp 20 2097151 ?_
    refine D.eff 21 4194303 rfl D.wantedN (by kernel_rfl) (by kernel_rfl) (fun _ _ h => h) ?_
    refine Z.st hS rfl (by repeat (first | exact At.here | apply At.next)) rfl rfl ?_
    clear hS; intro w hS
    refine ⟨HM.last (by kernel_rfl), ?_⟩
    refine D.done (by kernel_rfl) ?_
    repeat' (first|refine K ?_|(refine Sh.sa hS ?_;clear hS;intro w hS)|(refine K3 ?_;clear hS;intro g w hS hge)|((first|refine GS ?_ ?_|refine VB ?_ ?_)<;>intro hb<;>(try simp only [J1,J2,J3,J4,J5,J6] at hb)<;>(try (exfalso;first|omega|exact hb trivial))))
    refine Dnc Tryz.results91 ?_
    have hk : mkKind l i c = 1 + nxt l i 4 := by unfold mkKind; rw [if_neg (by omega), if_neg (by omega)]
    have e : mkChange l i c ep = (⟨ep, (c.h.length : Int) + 1, 1 + nxt l i 4, 1 + nxt l (adv l i) 4, lastB c.t (1 + nxt l (adv l i) 4) + 1, 0, (c.s[(nxt l (adv l (adv l i)) c.s.length).toNat]'(by omega)).key, ⟨#[]⟩⟩, adv l (adv l (adv l i))) := by
      simp only [mkChange, hk]
      rw [if_neg (by omega), if_pos (by omega), List.getElem?_eq_getElem (by omega)]
      rfl
    rw [e]
    exact ⟨rfl, (Sep.CR_open.2 ⟨_, _, _, _, _, _, _, hS.sub (L' := .blk gc 54 [.int .i64 cell, .int .i64 ten, .slice Ah c.h.length ch, .pointer (some ⟨gs, 0, none⟩), .pointer (some ⟨gq, 0, none⟩), .pointer (some ⟨gt, 0, none⟩), vg] :: .sl 90 8 (.slice Ah c.h.length ch) (c.h.map Ch.cells) :: .blk gs 139 [.slice (some ⟨gb, o, none⟩) c.s.length cs] :: .sl 188 3 (.slice (some ⟨gb, o, none⟩) c.s.length cs) (c.s.map Ce.cells) :: .blk gq 144 [.slice Al c.q.l.length cl, vr, .int .i64 c.q.most] :: .sl 114 2 (.slice Al c.q.l.length cl) (c.q.l.map It.cells) :: .sl 126 4 vr (c.q.r.map Le.cells) :: .blk gt 136 c.t.cells.toList :: TpR r ga l _ :: F) (by repeat (first | exact Sub.rest | exact Sub.nil | exact .skip .rest | exact .skip (.skip .rest) | exact .skip (.skip (.skip .rest)) | apply Sub.keep | refine Sub.cons (by repeat (first | exact At.here | apply At.next)) ?_ | apply Sub.skip))⟩).swap⟩
  · replace hS := hS.fo (R := TpR r ga l _)
    refine Z.eff (Z.cl (text_z 1 16 hS (by omega) (by omega) (by omega)) rfl ?_) rfl
    clear hS
    rintro e w ⟨rfl, hS⟩
    refine ⟨_, rfl, ?_⟩
    repeat' (first|refine K ?_|(refine Sh.sa hS ?_;clear hS;intro w hS)|(refine K3 ?_;clear hS;intro g w hS hge)|((first|refine GS ?_ ?_|refine VB ?_ ?_)<;>intro hb<;>(try simp only [J1,J2,J3,J4,J5,J6] at hb)<;>(try (exfalso;first|omega|exact hb trivial))))
    replace hS := hS.fo (R := TpR r ga l _)
    refine Z.eff (Z.cl (text_z 0 64 hS (by omega) (by omega) (by omega)) rfl ?_) rfl
    clear hS
    rintro e w ⟨rfl, hS⟩
    refine ⟨_, rfl, ?_⟩
    repeat' (first|refine K ?_|(refine Sh.sa hS ?_;clear hS;intro w hS)|(refine K3 ?_;clear hS;intro g w hS hge)|((first|refine GS ?_ ?_|refine VB ?_ ?_)<;>intro hb<;>(try simp only [J1,J2,J3,J4,J5,J6] at hb)<;>(try (exfalso;first|omega|exact hb trivial))))
    refine Dnc Tryz.results91 ?_
    have hk : mkKind l i c = 1 + nxt l i 4 := by unfold mkKind; rw [if_neg (by omega), if_neg (by omega)]
    have e : mkChange l i c ep = (⟨ep, (c.h.length : Int) + 1, 1 + nxt l i 4, 1 + nxt l (adv l i) 4, lastB c.t (1 + nxt l (adv l i) 4) + 1, 0, textOf l (adv l (adv l i)) 1 16, textOf l (textAdv l (adv l (adv l i)) 1 16) 0 64⟩, textAdv l (textAdv l (adv l (adv l i)) 1 16) 0 64) := by
      simp only [mkChange, hk]
      rw [if_pos (by omega)]
    rw [e]
    exact ⟨rfl, (Sep.CR_open.2 ⟨_, _, _, _, _, _, _, hS.sub (L' := .blk gc 54 [.int .i64 cell, .int .i64 ten, .slice Ah c.h.length ch, .pointer (some ⟨gs, 0, none⟩), .pointer (some ⟨gq, 0, none⟩), .pointer (some ⟨gt, 0, none⟩), vg] :: .sl 90 8 (.slice Ah c.h.length ch) (c.h.map Ch.cells) :: .blk gs 139 [.slice As c.s.length cs] :: .sl 188 3 (.slice As c.s.length cs) (c.s.map Ce.cells) :: .blk gq 144 [.slice Al c.q.l.length cl, vr, .int .i64 c.q.most] :: .sl 114 2 (.slice Al c.q.l.length cl) (c.q.l.map It.cells) :: .sl 126 4 vr (c.q.r.map Le.cells) :: .blk gt 136 c.t.cells.toList :: TpR r ga l _ :: F) (by repeat (first | exact Sub.rest | exact Sub.nil | exact .skip .rest | exact .skip (.skip .rest) | exact .skip (.skip (.skip .rest)) | apply Sub.keep | refine Sub.cons (by repeat (first | exact At.here | apply At.next)) ?_ | apply Sub.skip))⟩).swap⟩
  · replace hS := hS.fo (R := TpR r ga l _)
    refine Z.eff (Z.cl (text_z 0 64 hS (by omega) (by omega) (by omega)) rfl ?_) rfl
    clear hS
    rintro e w ⟨rfl, hS⟩
    refine ⟨_, rfl, ?_⟩
    repeat' (first|refine K ?_|(refine Sh.sa hS ?_;clear hS;intro w hS)|(refine K3 ?_;clear hS;intro g w hS hge)|((first|refine GS ?_ ?_|refine VB ?_ ?_)<;>intro hb<;>(try simp only [J1,J2,J3,J4,J5,J6] at hb)<;>(try (exfalso;first|omega|exact hb trivial))))
    refine Dnc Tryz.results91 ?_
    have hk : mkKind l i c = 1 + nxt l i 4 := by unfold mkKind; rw [if_neg (by omega), if_neg (by omega)]
    have e : mkChange l i c ep = (⟨ep, (c.h.length : Int) + 1, 1 + nxt l i 4, 1 + nxt l (adv l i) 4, lastB c.t (1 + nxt l (adv l i) 4) + 1, 0, ⟨#[]⟩, textOf l (adv l (adv l i)) 0 64⟩, textAdv l (adv l (adv l i)) 0 64) := by
      simp only [mkChange, hk]
      rw [if_neg (by omega), if_neg (by omega), if_pos (by omega)]
    rw [e]
    exact ⟨rfl, (Sep.CR_open.2 ⟨_, _, _, _, _, _, _, hS.sub (L' := .blk gc 54 [.int .i64 cell, .int .i64 ten, .slice Ah c.h.length ch, .pointer (some ⟨gs, 0, none⟩), .pointer (some ⟨gq, 0, none⟩), .pointer (some ⟨gt, 0, none⟩), vg] :: .sl 90 8 (.slice Ah c.h.length ch) (c.h.map Ch.cells) :: .blk gs 139 [.slice As c.s.length cs] :: .sl 188 3 (.slice As c.s.length cs) (c.s.map Ce.cells) :: .blk gq 144 [.slice Al c.q.l.length cl, vr, .int .i64 c.q.most] :: .sl 114 2 (.slice Al c.q.l.length cl) (c.q.l.map It.cells) :: .sl 126 4 vr (c.q.r.map Le.cells) :: .blk gt 136 c.t.cells.toList :: TpR r ga l _ :: F) (by repeat (first | exact Sub.rest | exact Sub.nil | exact .skip .rest | exact .skip (.skip .rest) | exact .skip (.skip (.skip .rest)) | apply Sub.keep | refine Sub.cons (by repeat (first | exact At.here | apply At.next)) ?_ | apply Sub.skip))⟩).swap⟩
end Go.Proofs.YtiabhlogadboeaaGreat

namespace Go.Proofs.YtiabhlogadboeaaGreat
open Go.RowKit
set_option linter.unusedSimpArgs false
set_option linter.unusedVariables false
attribute [local irreducible] Res.blk Res.sl Res.all Res.ex Res.pure Res.star

/-- What an accepted change makes of a copy. -/
theorem cApp_ok {c : Cp} {x : Ch} (h : (cApp c x).2 = 0) : validB x = true ∧ x.seq = (c.h.length : Int) + 1 ∧ epochOf c.h ≤ x.epoch ∧ (tApp c.t x).2 = 0 ∧ (sApp c.s x).2 = 0 ∧ (qApp c.q x).2 = 0 ∧
    (cApp c x).1 = ⟨c.h ++ [x], (sApp c.s x).1, (qApp c.q x).1, (tApp c.t x).1⟩ := by
  unfold cApp at h ⊢
  split at h
  case isFalse => simp at h
  case isTrue h1 =>
    split at h
    case isFalse => simp at h
    case isTrue h2 =>
      split at h
      case isTrue h3 => exact absurd h h3
      case isFalse h3 =>
        split at h
        case isTrue h4 => exact absurd h h4
        case isFalse h4 =>
          split at h
          case isTrue h5 => exact absurd h h5
          case isFalse h5 =>
            rw [if_pos h1, if_pos h2, if_neg h3, if_neg h4, if_neg h5]
            exact ⟨h1, h2.1, h2.2, Decidable.not_not.1 h3, Decidable.not_not.1 h4, Decidable.not_not.1 h5, rfl⟩
theorem cApp_bad {c : Cp} {x : Ch} (h : (cApp c x).2 ≠ 0) : (cApp c x).1 = c := by
  unfold cApp at h ⊢
  split
  case isFalse => rfl
  case isTrue h1 =>
    split
    case isFalse => rfl
    case isTrue h2 =>
      split
      case isTrue h3 => rfl
      case isFalse h3 =>
        split
        case isTrue h4 => rfl
        case isFalse h4 =>
          split
          case isTrue h5 => rfl
          case isFalse h5 =>
            rw [if_pos h1, if_pos h2, if_neg h3, if_neg h4, if_neg h5] at h
            exact absurd rfl h

/-- A copy that accepted changes have made. -/
inductive Good : Cp → Prop
  | zero : Good .zero
  | app {c : Cp} {x : Ch} : Good c → (cApp c x).2 = 0 → Good (cApp c x).1
theorem Good.step {c : Cp} (h : Good c) (x : Ch) : Good (cApp c x).1 ∧ (cApp c x).1.h.length ≤ c.h.length + 1 := by
  by_cases hx : (cApp c x).2 = 0
  · refine ⟨.app h hx, ?_⟩
    rw [(cApp_ok hx).2.2.2.2.2.2]
    simp
  · rw [cApp_bad hx]
    exact ⟨h, by omega⟩

theorem Tab.zero_ok : Tab.zero.ok := fun i => by simp [Tab.zero]
theorem tApp_ok {t : Tab} {x : Ch} (h : t.ok) : (tApp t x).1.ok := by
  unfold tApp
  split
  case isFalse => exact h
  case isTrue hv =>
    split
    case isFalse => exact h
    case isTrue hn =>
      intro i
      have hb := valid_bounds hv
      have hi := h i
      simp only [upd]
      split <;> omega
theorem sApp_len {l : List Ce} {x : Ch} (h : l.length ≤ 32) : (sApp l x).1.length ≤ 32 := by
  unfold sApp
  split
  case isFalse => exact h
  case isTrue =>
    split
    case isTrue =>
      split
      case isTrue => simpa using h
      case isFalse =>
        split
        case isTrue => exact h
        case isFalse => simp only [List.length_append, List.length_take, List.length_drop, List.length_cons, List.length_nil]; omega
    case isFalse =>
      split
      case isFalse => exact h
      case isTrue =>
        split
        case isFalse => exact h
        case isTrue => simp only [List.length_append, List.length_take, List.length_drop]; omega
theorem qApp_len {q : Qu} {x : Ch} (h : q.l.length ≤ 16) (hr : q.r = []) : (qApp q x).1.l.length ≤ 16 ∧ (qApp q x).1.r = [] := by
  unfold qApp
  split
  case isFalse => exact ⟨h, hr⟩
  case isTrue =>
    split
    case isTrue =>
      split
      case isTrue => exact ⟨h, hr⟩
      case isFalse =>
        split
        case isTrue => exact ⟨h, hr⟩
        case isFalse => exact ⟨by simp only [List.length_append, List.length_cons, List.length_nil]; omega, hr⟩
    case isFalse =>
      split
      case isFalse => exact ⟨h, hr⟩
      case isTrue =>
        split
        case isTrue => exact ⟨h, hr⟩
        case isFalse => exact ⟨by simp only [List.length_append, List.length_take, List.length_drop]; omega, by rw [hr]; rfl⟩
theorem Good.ok {c : Cp} (h : Good c) : c.t.ok ∧ c.s.length ≤ 32 ∧ c.q.l.length ≤ 16 ∧ c.q.r = [] := by
  induction h with
  | zero => exact ⟨Tab.zero_ok, by simp [Cp.zero], by simp [Cp.zero], rfl⟩
  | app hc hx ih =>
    rw [(cApp_ok hx).2.2.2.2.2.2]
    exact ⟨tApp_ok ih.1, sApp_len ih.2.1, qApp_len ih.2.2.1 ih.2.2.2⟩

/-- One round of Grow: the copy, the epoch, where the tape stands. -/
def growStep (l : List Int) (s : Cp × Int × Nat) : Cp × Int × Nat :=
  let ep := if nxt l s.2.2 7 = 6 then s.2.1 + 1 else s.2.1
  let r := mkChange l (adv l s.2.2) s.1 ep
  ((cApp s.1 r.1).1, ep, r.2)
def growN (l : List Int) : Nat → Cp × Int × Nat → Cp × Int × Nat
  | 0, s => s
  | k + 1, s => if s.2.2 < l.length then growN l k (growStep l s) else s
/-- The copy that History makes. -/
def hist (l : List Int) : Cp := (growN l 60 (.zero, 1, 0)).1
theorem growN_good (l : List Int) : ∀ (k : Nat) (s : Cp × Int × Nat), Good s.1 → Good (growN l k s).1 ∧ (growN l k s).1.h.length ≤ s.1.h.length + k
  | 0, s, h => ⟨h, Nat.le_refl _⟩
  | k + 1, s, h => by
    unfold growN
    split
    · have h1 := h.step (mkChange l (adv l s.2.2) s.1 (if nxt l s.2.2 7 = 6 then s.2.1 + 1 else s.2.1)).1
      have h2 := growN_good l k (growStep l s) h1.1
      refine ⟨h2.1, Nat.le_trans h2.2 ?_⟩
      have : (growStep l s).1.h.length ≤ s.1.h.length + 1 := h1.2
      omega
    · exact ⟨h, by omega⟩
theorem hist_good (l : List Int) : Good (hist l) := (growN_good l 60 _ .zero).1
theorem hist_len (l : List Int) : (hist l).h.length ≤ 60 := (growN_good l 60 (.zero, 1, 0) .zero).2

theorem growN_succ {l : List Int} {k : Nat} {s : Cp × Int × Nat} (h : s.2.2 < l.length) : growN l (k + 1) s = growN l k (growStep l s) := by rw [growN, if_pos h]
theorem growN_stop {l : List Int} {k : Nat} {s : Cp × Int × Nat} (h : ¬ s.2.2 < l.length) : growN l k s = s := by
  cases k with
  | zero => rfl
  | succ k => rw [growN, if_neg h]
set_option maxHeartbeats 1000000 in
theorem grow_z (ga gc : Nat) (cell ten : Int) (vg : Value) (l : List Int) (i : Nat) (c : Cp) (ep : Int) (k : Nat) (r : World) (F : List Res) (w : World) (hS : Sep r [] (TpR r ga l i :: CR gc cell ten vg c :: F) w) (hg : Good c) (hl : c.h.length ≤ 1000) (he : 1 ≤ ep) (he' : ep ≤ 1000) (hk : k ≤ 1000) :
    Calls Tryz.prog 53 #[.pointer (some ⟨ga, 0, none⟩), .pointer (some ⟨gc, 0, none⟩), .int .i64 ep, .int .i64 k] w fun e w' =>
      e = .returned (.tuple #[]) ∧ Sep r [] (CR gc cell ten vg (growN l k (c, ep, i)).1 :: F) w' := by
  refine Z.enter Tryz.func53 Tryz.ntmps53 rfl rfl ?_
  repeat' (first|refine K ?_|(refine Sh.sa hS ?_;clear hS;intro w hS)|(refine K3 ?_;clear hS;intro g w hS hge)|((first|refine GS ?_ ?_|refine VB ?_ ?_)<;>intro hb<;>(try simp only [J1,J2,J3,J4,J5,J6] at hb)<;>(try (exfalso;first|omega|exact hb trivial))))
  refine Z.lpS [2, 8, 9, 10, 11, 12, 13, 14, 15, 16, 17, 18, 19, 20, 21, 22, 23, 24, 25, 26, 27, 28] (fun m w s => ∃ (q : Nat) (c' : Cp) (ep' : Int) (j : Nat), s = [(8, .int .i64 q), (2, .int .i64 ep')] ∧ q + m = k ∧ growN l m (c', ep', j) = growN l k (c, ep, i) ∧ Good c' ∧ c'.h.length ≤ 1000 + q ∧ 1 ≤ ep' ∧ ep' ≤ 1000 + q ∧
    Sep r [] (TpR r ga l j :: CR gc cell ten vg c' :: F) w) _ [(8, .int .i64 (0 : Nat)), (2, .int .i64 ep)] (by repeat (first | exact trivial | refine ⟨rfl, ?_⟩)) ⟨0, c, ep, i, rfl, by omega, rfl, hg, by omega, by omega, by omega, hS⟩ ?_
  clear hS hg hl he he' w
  rintro m f0 w _ ⟨q, c, ep, i, rfl, hq, hF, hg, hl, he, he', hS⟩
  rw [← hF]
  clear hF
  have hgo := hg.ok
  cases m with
  | zero =>
    repeat' (first|refine K ?_|(refine Sh.sa hS ?_;clear hS;intro w hS)|(refine K3 ?_;clear hS;intro g w hS hge)|((first|refine GS ?_ ?_|refine VB ?_ ?_)<;>intro hb<;>(try simp only [J1,J2,J3,J4,J5,J6] at hb)<;>(try (exfalso;first|omega|exact hb trivial))))
    refine Dn Tryz.results53 ?_
    exact ⟨rfl, hS.tail⟩
  | succ m =>
    repeat' (first|refine K ?_|(refine Sh.sa hS ?_;clear hS;intro w hS)|(refine K3 ?_;clear hS;intro g w hS hge)|((first|refine GS ?_ ?_|refine VB ?_ ?_)<;>intro hb<;>(try simp only [J1,J2,J3,J4,J5,J6] at hb)<;>(try (exfalso;first|omega|exact hb trivial))))
    refine Z.eff (Z.cl (more_z hS) rfl ?_) rfl
    clear hS
    rintro e w ⟨rfl, hS⟩
    refine ⟨_, rfl, ?_⟩
    repeat' (first|refine K ?_|(refine Sh.sa hS ?_;clear hS;intro w hS)|(refine K3 ?_;clear hS;intro g w hS hge)|((first|refine GS ?_ ?_|refine VB ?_ ?_)<;>intro hb<;>(try simp only [J1,J2,J3,J4,J5,J6] at hb)<;>(try (exfalso;first|omega|exact hb trivial))))
    · refine Z.eff (Z.cl (next_z _ hS (by omega) (by omega)) rfl ?_) rfl
      clear hS
      rintro e w ⟨rfl, hS⟩
      refine ⟨_, rfl, ?_⟩
      have hb7 := nxt_bd l i 7 (by omega)
      repeat' (first|refine K ?_|(refine Sh.sa hS ?_;clear hS;intro w hS)|(refine K3 ?_;clear hS;intro g w hS hge)|((first|refine GS ?_ ?_|refine VB ?_ ?_)<;>intro hb<;>(try simp only [J1,J2,J3,J4,J5,J6] at hb)<;>(try (exfalso;first|omega|exact hb trivial))))
      · refine Z.eff (Z.cl (change_z ga gc cell ten vg l _ c _ r F _ hS hgo.1 (by omega) (by omega) (by omega)) rfl ?_) rfl
        clear hS
        rintro e w ⟨rfl, hS⟩
        refine ⟨_, rfl, ?_⟩
        repeat' (first|refine K ?_|(refine Sh.sa hS ?_;clear hS;intro w hS)|(refine K3 ?_;clear hS;intro g w hS hge)|((first|refine GS ?_ ?_|refine VB ?_ ?_)<;>intro hb<;>(try simp only [J1,J2,J3,J4,J5,J6] at hb)<;>(try (exfalso;first|omega|exact hb trivial))))
        refine Z.eff (Z.cl (capply_z gc cell ten vg c _ r _ _ hS.swap hgo.1 (by omega) (by omega) (by omega) (by rw [hgo.2.2.2]; simp)) rfl ?_) rfl
        clear hS
        rintro e w ⟨rfl, hS⟩
        refine ⟨_, rfl, ?_⟩
        repeat' (first|refine K ?_|(refine Sh.sa hS ?_;clear hS;intro w hS)|(refine K3 ?_;clear hS;intro g w hS hge)|((first|refine GS ?_ ?_|refine VB ?_ ?_)<;>intro hb<;>(try simp only [J1,J2,J3,J4,J5,J6] at hb)<;>(try (exfalso;first|omega|exact hb trivial))))
        refine Sh.again (m) [(8, .int .i64 (q + 1 : Nat)), (2, .int .i64 (ep + 1))] ?_
        have hst := hg.step (mkChange l (adv l i) c (ep + 1)).1
        rw [growN_succ (by assumption)]
        have e : growStep l (c, ep, i) = ((cApp c (mkChange l (adv l i) c (ep + 1)).1).1, ep + 1, (mkChange l (adv l i) c (ep + 1)).2) := by simp [growStep, hb]
        rw [e]
        exact ⟨q + 1, _, ep + 1, _, rfl, by omega, rfl, hst.1, by omega, by omega, by omega, hS.swap⟩
      · refine Z.eff (Z.cl (change_z ga gc cell ten vg l _ c _ r F _ hS hgo.1 (by omega) (by omega) (by omega)) rfl ?_) rfl
        clear hS
        rintro e w ⟨rfl, hS⟩
        refine ⟨_, rfl, ?_⟩
        repeat' (first|refine K ?_|(refine Sh.sa hS ?_;clear hS;intro w hS)|(refine K3 ?_;clear hS;intro g w hS hge)|((first|refine GS ?_ ?_|refine VB ?_ ?_)<;>intro hb<;>(try simp only [J1,J2,J3,J4,J5,J6] at hb)<;>(try (exfalso;first|omega|exact hb trivial))))
        refine Z.eff (Z.cl (capply_z gc cell ten vg c _ r _ _ hS.swap hgo.1 (by omega) (by omega) (by omega) (by rw [hgo.2.2.2]; simp)) rfl ?_) rfl
        clear hS
        rintro e w ⟨rfl, hS⟩
        refine ⟨_, rfl, ?_⟩
        repeat' (first|refine K ?_|(refine Sh.sa hS ?_;clear hS;intro w hS)|(refine K3 ?_;clear hS;intro g w hS hge)|((first|refine GS ?_ ?_|refine VB ?_ ?_)<;>intro hb<;>(try simp only [J1,J2,J3,J4,J5,J6] at hb)<;>(try (exfalso;first|omega|exact hb trivial))))
        refine Sh.again (m) [(8, .int .i64 (q + 1 : Nat)), (2, .int .i64 ep)] ?_
        have hst := hg.step (mkChange l (adv l i) c ep).1
        rw [growN_succ (by assumption)]
        have e : growStep l (c, ep, i) = ((cApp c (mkChange l (adv l i) c ep).1).1, ep, (mkChange l (adv l i) c ep).2) := by simp [growStep, hb]
        rw [e]
        exact ⟨q + 1, _, ep, _, rfl, by omega, rfl, hst.1, by omega, by omega, by omega, hS.swap⟩
    · refine Dn Tryz.results53 ?_
      rw [growN_stop (by assumption)]
      exact ⟨rfl, hS.tail⟩

set_option maxHeartbeats 1000000 in
theorem history_z (l : List Int) (A : Option Addr) (cap : Nat) (r : World) (F : List Res) (w : World) (hS : Sep r [] F w) (hr : Rd r 1 A l.length (l.map (Value.int .i64))) (hl : l.length ≤ 150) :
    Calls Tryz.prog 19 #[.slice A l.length cap] w fun e w' => ∃ v, e = .returned v ∧ Sep r [] (.sl 90 8 v ((hist l).h.map Ch.cells) :: F) w' := by
  refine Z.enter Tryz.func19 Tryz.ntmps19 rfl rfl ?_
  repeat' (first|refine K ?_|(refine Sh.sa hS ?_;clear hS;intro w hS)|(refine K3 ?_;clear hS;intro g w hS hge)|((first|refine GS ?_ ?_|refine VB ?_ ?_)<;>intro hb<;>(try simp only [J1,J2,J3,J4,J5,J6] at hb)<;>(try (exfalso;first|omega|exact hb trivial))))
  refine Z.eff (Z.cl (cnew_z 0 0 r F _ hS) rfl ?_) rfl
  clear hS
  rintro e w ⟨gc, gg, rfl, hS⟩
  refine ⟨_, rfl, ?_⟩
  repeat' (first|refine K ?_|(refine Sh.sa hS ?_;clear hS;intro w hS)|(refine K3 ?_;clear hS;intro g w hS hge)|((first|refine GS ?_ ?_|refine VB ?_ ?_)<;>intro hb<;>(try simp only [J1,J2,J3,J4,J5,J6] at hb)<;>(try (exfalso;first|omega|exact hb trivial))))
  refine Z.eff (Z.cl (tnew_z l A cap hS hr hl) rfl ?_) rfl
  clear hS
  rintro e w ⟨ga, rfl, hS⟩
  refine ⟨_, rfl, ?_⟩
  repeat' (first|refine K ?_|(refine Sh.sa hS ?_;clear hS;intro w hS)|(refine K3 ?_;clear hS;intro g w hS hge)|((first|refine GS ?_ ?_|refine VB ?_ ?_)<;>intro hb<;>(try simp only [J1,J2,J3,J4,J5,J6] at hb)<;>(try (exfalso;first|omega|exact hb trivial))))
  refine Z.eff (Z.cl (grow_z ga gc 0 0 _ l 0 .zero 1 60 r _ _ hS .zero (by simp [Cp.zero]) (by omega) (by omega) (by omega)) rfl ?_) rfl
  clear hS
  rintro e w ⟨rfl, hS⟩
  refine ⟨_, rfl, ?_⟩
  obtain ⟨vh, gs, gq, gt, vs, vl, vr, hS⟩ := Sep.CR_open.1 hS
  obtain ⟨Ah, ch, rfl, hch⟩ := (hS.slrows (.next .here)).mform
  repeat' (first|refine K ?_|(refine Sh.sa hS ?_;clear hS;intro w hS)|(refine K3 ?_;clear hS;intro g w hS hge)|((first|refine GS ?_ ?_|refine VB ?_ ?_)<;>intro hb<;>(try simp only [J1,J2,J3,J4,J5,J6] at hb)<;>(try (exfalso;first|omega|exact hb trivial))))
  refine Dnt Tryz.results19 ?_
  exact ⟨_, rfl, hS.sb⟩
end Go.Proofs.YtiabhlogadboeaaGreat
