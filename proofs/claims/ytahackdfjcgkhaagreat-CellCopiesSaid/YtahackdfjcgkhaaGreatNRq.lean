/-
  The walk of Request of the mill: some request, and the tape moves on.
-/
import Derived.Test.YtahackdfjcgkhaaGreatYd
import Derived.Test.YtahackdfjcgkhaaGreatNExP
import Derived.Test.YtahackdfjcgkhaaGreatH1
namespace Go.Proofs.YtahackdfjcgkhaaGreat
open Go.RowKit
set_option linter.unusedSimpArgs false
set_option linter.unusedVariables false
attribute [local irreducible] Res.blk Res.sl Res.all Res.ex Res.pure Res.star

theorem adv_ge (l : List Int) (i : Nat) : i ≤ adv l i := by unfold adv; split <;> omega
theorem adv_gt {l : List Int} {i : Nat} (h : i < l.length) : i < adv l i := by unfold adv; rw [if_pos h]; omega
theorem advN_ge (l : List Int) : ∀ (k i : Nat), i ≤ advN l i k
  | 0, i => by unfold advN; omega
  | k + 1, i => by
    unfold advN
    exact Nat.le_trans (advN_ge l k i) (adv_ge l _)
theorem textAdv_ge (l : List Int) (i : Nat) (lo n : Int) : i ≤ textAdv l i lo n := by
  unfold textAdv
  exact Nat.le_trans (adv_ge l i) (Nat.le_trans (adv_ge l _) (advN_ge l _ _))
theorem Tp.le {w : World} {B g : Nat} {l : List Int} {i : Nat} (h : Tp w B g l i) : i ≤ l.length := by
  obtain ⟨_, _, _, _, _, _, hi, _⟩ := h
  exact hi
/-- The tape has moved on. -/
def On (l : List Int) (i j : Nat) : Prop := i ≤ j ∧ (i < l.length → i < j)
theorem On.refl_of {l : List Int} {i j k : Nat} (h : On l i j) (h2 : j ≤ k) : On l i k := ⟨by have := h.1; omega, fun h0 => by have := h.2 h0; omega⟩
theorem On.adv {l : List Int} {i : Nat} : On l i (adv l i) := ⟨adv_ge l i, adv_gt⟩

def Rq.zero : Rq := ⟨0, 0, 0, 0, 0, ⟨#[]⟩, ⟨#[]⟩⟩
def drawL : List Value := [.int .i64 1, .int .i64 1, .int .i64 1, .int .i64 1, .int .i64 0, .int .i64 0, .int .i64 2, .int .i64 (-1)]
theorem drawL_at (q : Nat) (hq : q < 8) : ∃ u : Int, drawL[q]? = some (.int .i64 u) ∧ -1 ≤ u ∧ u ≤ 2 := by
  match q, hq with
  | 0, _ => exact ⟨1, rfl, by omega⟩
  | 1, _ => exact ⟨1, rfl, by omega⟩
  | 2, _ => exact ⟨1, rfl, by omega⟩
  | 3, _ => exact ⟨1, rfl, by omega⟩
  | 4, _ => exact ⟨0, rfl, by omega⟩
  | 5, _ => exact ⟨0, rfl, by omega⟩
  | 6, _ => exact ⟨2, rfl, by omega⟩
  | 7, _ => exact ⟨-1, rfl, by omega⟩
theorem drawL_in {q : Nat} {v : Value} (h : drawL[q]? = some v) : drawL[0 + q * 1 + 0]? = some v := by simpa using h
set_option maxRecDepth 10000 in
set_option maxHeartbeats 8000000 in
theorem request_z (ga gc : Nat) (cell ten : Int) (vg : Value) (l : List Int) (i : Nat) (c : Cp) (r : World) (F : List Res) (w : World) (hS : Sep r [] (TpR r ga l i :: CR gc cell ten vg c :: F) w) (hok : c.t.ok) (l2 : c.s.length ≤ 1000) (l3 : c.q.l.length ≤ 1000) :
    Calls Tryz.prog 17 #[.pointer (some ⟨ga, 0, none⟩), .pointer (some ⟨gc, 0, none⟩)] w fun e w' => ∃ (x : Rq) (j : Nat), e = .returned x.val ∧ On l i j ∧ Sep r [] (TpR r ga l j :: CR gc cell ten vg c :: F) w' := by
  obtain ⟨vh, gs, gq, gt, vs, vl, vr, hS⟩ := Sep.CR_open.1 (hS.focus (.next .here))
  obtain ⟨Ah, ch, rfl, hch⟩ := (hS.slrows (.next .here)).mform
  obtain ⟨As, cs, rfl, hcs⟩ := (hS.slrows (.next (.next (.next .here)))).mform
  obtain ⟨Al, cl, rfl, hcl⟩ := (hS.slrows (.next (.next (.next (.next (.next .here)))))).mform
  replace hS : Sep r [] (TpR r ga l i :: .blk gc 69 [.int .i64 cell, .int .i64 ten, .slice Ah c.h.length ch, .pointer (some ⟨gs, 0, none⟩), .pointer (some ⟨gq, 0, none⟩), .pointer (some ⟨gt, 0, none⟩), vg] :: .sl 49 8 (.slice Ah c.h.length ch) (c.h.map Ch.cells) :: .blk gs 100 [.slice As c.s.length cs] :: .sl 102 3 (.slice As c.s.length cs) (c.s.map Ce.cells) :: .blk gq 105 [.slice Al c.q.l.length cl, vr, .int .i64 c.q.most] :: .sl 79 2 (.slice Al c.q.l.length cl) (c.q.l.map It.cells) :: .sl 133 4 vr (c.q.r.map Le.cells) :: .blk gt 109 c.t.cells.toList :: F) w := hS.sb
  refine Z.enter Tryz.func17 Tryz.ntmps17 rfl rfl ?_
  repeat' (first|refine Kd ?_|(refine Sh.sa hS ?_;clear hS;intro w hS)|(refine K3 ?_;clear hS;intro g w hS hge)|((first|refine GS ?_ ?_|refine VB ?_ ?_)<;>intro hb<;>(try simp only [J1,J2,J3,J4,J5,J6] at hb)<;>(try (exfalso;first|omega|exact hb trivial))))
  rename Nat => g4
  have hb4 := nxt_bd l i (4 - 1 + 1) (by omega)
  refine Z.cut [5, 6, 7, 8, 9, 10, 11, 12, 13, 14] (fun w s => ∃ (g5 : Nat) (x : Rq) (j : Nat), s = [(5, .pointer (some ⟨g5, 0, none⟩))] ∧ 1 ≤ x.client ∧ x.client ≤ 8 ∧ On l i j ∧ Sep r [] (.blk g5 23 x.cells :: .blk g4 23 Rq.zero.cells :: TpR r ga l j :: .blk gc 69 [.int .i64 cell, .int .i64 ten, .slice Ah c.h.length ch, .pointer (some ⟨gs, 0, none⟩), .pointer (some ⟨gq, 0, none⟩), .pointer (some ⟨gt, 0, none⟩), vg] :: .sl 49 8 (.slice Ah c.h.length ch) (c.h.map Ch.cells) :: .blk gs 100 [.slice As c.s.length cs] :: .sl 102 3 (.slice As c.s.length cs) (c.s.map Ce.cells) :: .blk gq 105 [.slice Al c.q.l.length cl, vr, .int .i64 c.q.most] :: .sl 79 2 (.slice Al c.q.l.length cl) (c.q.l.map It.cells) :: .sl 133 4 vr (c.q.r.map Le.cells) :: .blk gt 109 c.t.cells.toList :: F) w) ?_ ?_
  · refine D.startS (Lr := (.blk gc 69 [.int .i64 cell, .int .i64 ten, .slice Ah c.h.length ch, .pointer (some ⟨gs, 0, none⟩), .pointer (some ⟨gq, 0, none⟩), .pointer (some ⟨gt, 0, none⟩), vg] :: .sl 49 8 (.slice Ah c.h.length ch) (c.h.map Ch.cells) :: .blk gs 100 [.slice As c.s.length cs] :: .sl 102 3 (.slice As c.s.length cs) (c.s.map Ce.cells) :: .blk gq 105 [.slice Al c.q.l.length cl, vr, .int .i64 c.q.most] :: .sl 79 2 (.slice Al c.q.l.length cl) (c.q.l.map It.cells) :: .sl 133 4 vr (c.q.r.map Le.cells) :: .blk gt 109 c.t.cells.toList :: F)) (hS.sb) 10 11 (by kernel_rfl) rfl ?_
    replace hS := hS.drew
    refine Sh.dp 0 1 ?_
    refine Sh.dp 1 3 ?_
    refine Sh.dp 2 7 ?_
    refine Sh.dp 4 23 ?_
    refine Sh.dp 6 87 ?_
    refine Sh.dl 3 95 ?_
    refine D.each [5, 9] (by kernel_rfl) rfl ?_
    refine D.econs 5 127 rfl D.wantedN (by kernel_rfl) (fun _ _ h => h) ?_ ?_
    · replace hS := hS.fo (R := TpR r ga l _)
      refine Z.cl (range_z 1 4 hS (by omega) (by omega) (by omega)) rfl ?_
      clear hS
      rintro e w ⟨rfl, hS⟩
      refine ⟨_, rfl, ?_⟩
      refine ⟨HM.s (hS.sb), ?_⟩
      refine D.each [7, 9] (by kernel_rfl) rfl ?_
      refine D.econs 7 255 rfl D.wantedN (by kernel_rfl) (fun _ _ h => h) ?_ ?_
      · replace hS := hS.fo (R := TpR r ga l _)
        refine Z.cl (range_z 1 6 hS (by omega) (by omega) (by omega)) rfl ?_
        clear hS
        rintro e w ⟨rfl, hS⟩
        refine ⟨_, rfl, ?_⟩
        refine ⟨HM.s (hS.sb), ?_⟩
        first | refine D.bu 8 511 rfl D.wantedN (by kernel_rfl) rfl rfl ?_ | refine D.buA 8 511 rfl D.wantedN (by kernel_rfl) rfl rfl ?_
        refine D.eff 9 1023 rfl D.wantedN (by kernel_rfl) (by kernel_rfl) (fun _ _ h => h) ?_
        refine Z.al hS ?_
        clear hS; intro g w hS hge
        refine ⟨HM.s (hS.sb), ?_⟩
        refine D.eff 10 2047 rfl D.wantedN (by kernel_rfl) (by kernel_rfl) (fun _ _ h => h) ?_
        refine Z.st hS rfl (by repeat (first | exact At.here | apply At.next)) rfl rfl ?_
        clear hS; intro w hS
        refine ⟨HM.last (by kernel_rfl), ?_⟩
        refine D.done (by kernel_rfl) ?_
        refine Sh.cut [(5, _)] ?_
        exact ⟨_, ⟨ten, 1 + nxt l i (4 - 1 + 1), 0, 1 + nxt l (adv l i) (6 - 1 + 1), 0, ⟨#[]⟩, ⟨#[]⟩⟩, _, rfl, by simp only; omega, by simp only; omega, On.adv.refl_of (adv_ge _ _), hS.sb⟩
      refine D.econs 9 639 rfl D.wantedN (by kernel_rfl) (fun _ _ h => h) ?_ ?_
      · refine Z.al hS ?_
        clear hS; intro g w hS hge
        refine ⟨HM.s (hS.sb), ?_⟩
        refine D.eff 7 767 rfl D.wantedN (by kernel_rfl) (by kernel_rfl) (fun _ _ h => h) ?_
        replace hS := hS.fo (R := TpR r ga l _)
        refine Z.cl (range_z 1 6 hS (by omega) (by omega) (by omega)) rfl ?_
        clear hS
        rintro e w ⟨rfl, hS⟩
        refine ⟨_, rfl, ?_⟩
        refine ⟨HM.s (hS.sb), ?_⟩
        first | refine D.bu 8 1023 rfl D.wantedN (by kernel_rfl) rfl rfl ?_ | refine D.buA 8 1023 rfl D.wantedN (by kernel_rfl) rfl rfl ?_
        refine D.eff 10 2047 rfl D.wantedN (by kernel_rfl) (by kernel_rfl) (fun _ _ h => h) ?_
        refine Z.st hS rfl (by repeat (first | exact At.here | apply At.next)) rfl rfl ?_
        clear hS; intro w hS
        refine ⟨HM.last (by kernel_rfl), ?_⟩
        refine D.done (by kernel_rfl) ?_
        refine Sh.cut [(5, _)] ?_
        exact ⟨_, ⟨ten, 1 + nxt l i (4 - 1 + 1), 0, 1 + nxt l (adv l i) (6 - 1 + 1), 0, ⟨#[]⟩, ⟨#[]⟩⟩, _, rfl, by simp only; omega, by simp only; omega, On.adv.refl_of (adv_ge _ _), hS.sb⟩
      exact D.enil
    refine D.econs 9 607 rfl D.wantedN (by kernel_rfl) (fun _ _ h => h) ?_ ?_
    · refine Z.al hS ?_
      clear hS; intro g w hS hge
      refine ⟨HM.s (hS.sb), ?_⟩
      refine D.eff 5 639 rfl D.wantedN (by kernel_rfl) (by kernel_rfl) (fun _ _ h => h) ?_
      replace hS := hS.fo (R := TpR r ga l _)
      refine Z.cl (range_z 1 4 hS (by omega) (by omega) (by omega)) rfl ?_
      clear hS
      rintro e w ⟨rfl, hS⟩
      refine ⟨_, rfl, ?_⟩
      refine ⟨HM.s (hS.sb), ?_⟩
      refine D.eff 7 767 rfl D.wantedN (by kernel_rfl) (by kernel_rfl) (fun _ _ h => h) ?_
      replace hS := hS.fo (R := TpR r ga l _)
      refine Z.cl (range_z 1 6 hS (by omega) (by omega) (by omega)) rfl ?_
      clear hS
      rintro e w ⟨rfl, hS⟩
      refine ⟨_, rfl, ?_⟩
      refine ⟨HM.s (hS.sb), ?_⟩
      first | refine D.bu 8 1023 rfl D.wantedN (by kernel_rfl) rfl rfl ?_ | refine D.buA 8 1023 rfl D.wantedN (by kernel_rfl) rfl rfl ?_
      refine D.eff 10 2047 rfl D.wantedN (by kernel_rfl) (by kernel_rfl) (fun _ _ h => h) ?_
      refine Z.st hS rfl (by repeat (first | exact At.here | apply At.next)) rfl rfl ?_
      clear hS; intro w hS
      refine ⟨HM.last (by kernel_rfl), ?_⟩
      refine D.done (by kernel_rfl) ?_
      refine Sh.cut [(5, _)] ?_
      exact ⟨_, ⟨ten, 1 + nxt l i (4 - 1 + 1), 0, 1 + nxt l (adv l i) (6 - 1 + 1), 0, ⟨#[]⟩, ⟨#[]⟩⟩, _, rfl, by simp only; omega, by simp only; omega, On.adv.refl_of (adv_ge _ _), hS.sb⟩
    exact D.enil
  clear hS hb4
  rintro f1 w _ ⟨g5, x, j, rfl, hx1, hx2, hj, hS⟩
  have hlb := lastB_bd hok x.client
  refine Z.seq ?_
  refine Z.cut [15, 16, 17, 18, 19, 20, 21, 22, 23, 24, 25, 26, 27, 28, 29, 30, 31, 32, 33, 34, 35, 36, 37] (fun w s => ∃ (x : Rq) (j : Nat), s = [] ∧ On l i j ∧ Sep r [] (.blk g5 23 x.cells :: .blk g4 23 Rq.zero.cells :: TpR r ga l j :: .blk gc 69 [.int .i64 cell, .int .i64 ten, .slice Ah c.h.length ch, .pointer (some ⟨gs, 0, none⟩), .pointer (some ⟨gq, 0, none⟩), .pointer (some ⟨gt, 0, none⟩), vg] :: .sl 49 8 (.slice Ah c.h.length ch) (c.h.map Ch.cells) :: .blk gs 100 [.slice As c.s.length cs] :: .sl 102 3 (.slice As c.s.length cs) (c.s.map Ce.cells) :: .blk gq 105 [.slice Al c.q.l.length cl, vr, .int .i64 c.q.most] :: .sl 79 2 (.slice Al c.q.l.length cl) (c.q.l.map It.cells) :: .sl 133 4 vr (c.q.r.map Le.cells) :: .blk gt 109 c.t.cells.toList :: F) w) ?_ ?_
  · have h8 := nxt_bd l j 8 (by omega)
    obtain ⟨u, hu, hu2, hu3⟩ := drawL_at (nxt l j 8).toNat (by omega)
    repeat' (first|refine Kd ?_|(refine Sh.sa hS ?_;clear hS;intro w hS)|(refine K3 ?_;clear hS;intro g w hS hge)|((first|refine GS ?_ ?_|refine VB ?_ ?_)<;>intro hb<;>(try simp only [J1,J2,J3,J4,J5,J6] at hb)<;>(try (exfalso;first|omega|exact hb trivial))))
    · refine D.startS (Lr := (.blk g5 23 x.cells :: .blk g4 23 Rq.zero.cells :: .blk gc 69 [.int .i64 cell, .int .i64 ten, .slice Ah c.h.length ch, .pointer (some ⟨gs, 0, none⟩), .pointer (some ⟨gq, 0, none⟩), .pointer (some ⟨gt, 0, none⟩), vg] :: .sl 49 8 (.slice Ah c.h.length ch) (c.h.map Ch.cells) :: .blk gs 100 [.slice As c.s.length cs] :: .sl 102 3 (.slice As c.s.length cs) (c.s.map Ce.cells) :: .blk gq 105 [.slice Al c.q.l.length cl, vr, .int .i64 c.q.most] :: .sl 79 2 (.slice Al c.q.l.length cl) (c.q.l.map It.cells) :: .sl 133 4 vr (c.q.r.map Le.cells) :: .blk gt 109 c.t.cells.toList :: F)) (hS.sb) 15 16 (by kernel_rfl) rfl ?_
      replace hS := hS.drew
      refine Sh.dp 0 1 ?_
      refine Sh.dp 1 3 ?_
      refine Sh.dp 2 7 ?_
      refine Sh.dp 4 23 ?_
      refine Sh.dp 8 279 ?_
      refine Sh.dl 3 287 ?_
      refine Sh.dl 5 319 ?_
      refine D.each [6, 7] (by kernel_rfl) rfl ?_
      refine D.econs 6 383 rfl D.wantedN (by kernel_rfl) (fun _ _ h => h) ?_ ?_
      · refine Z.cl (last_any gt c.t _ _ (hS.bk)) rfl ?_
        rintro e w' ⟨rfl, rfl⟩
        refine ⟨_, rfl, ?_⟩
        refine ⟨HM.s (hS.sb), ?_⟩
        refine D.each [7, 9] (by kernel_rfl) rfl ?_
        refine D.econs 7 511 rfl D.wantedN (by kernel_rfl) (fun _ _ h => h) ?_ ?_
        · refine Z.bs hS rfl rfl rfl ?_
          clear hS; intro g w hS hge
          refine ⟨HM.s (hS.sb), ?_⟩
          refine D.eff 9 1023 rfl D.wantedN (by kernel_rfl) (by kernel_rfl) (fun _ _ h => h) ?_
          replace hS := hS.fo (R := TpR r ga l _)
          refine Z.cl (next_z _ hS (by omega) (by omega)) rfl ?_
          clear hS
          rintro e w ⟨rfl, hS⟩
          refine ⟨_, rfl, ?_⟩
          refine ⟨HM.s (hS.sb), ?_⟩
          first | refine D.ixn 10 2047 rfl D.wantedN (by kernel_rfl) rfl rfl rfl (by omega) ?_ | refine D.ix 10 2047 rfl D.wantedN (by kernel_rfl) rfl rfl rfl (by omega) ?_ | refine D.ia 10 2047 rfl D.wantedN (by kernel_rfl) rfl rfl rfl (by omega) ?_
          refine D.eff 11 4095 rfl D.wantedN (by kernel_rfl) (by kernel_rfl) (fun _ _ h => h) ?_
          refine Z.ldR rfl (range_blk (o := 0 + (nxt l j 8).toNat * 1) (row := [.int .i64 u]) (hS.bk) (fun q v hv => by
          match q, hv with
          | 0, hv => simp at hv; subst hv; exact drawL_in hu)) rfl ?_
          refine ⟨HM.s (hS.sb), ?_⟩
          first | refine D.sum 12 8191 rfl D.wantedN (by kernel_rfl) rfl (by constructor <;> omega) ?_ | refine D.sumW 12 8191 rfl D.wantedN (by kernel_rfl) rfl ?_
          refine D.pl 13 16383 rfl D.wantedN (by kernel_rfl) (R.max2 rfl rfl) ?_
          refine Sh.dp 14 32767 ?_
          refine D.eff 15 65535 rfl D.wantedN (by kernel_rfl) (by kernel_rfl) (fun _ _ h => h) ?_
          refine Z.st hS rfl (by repeat (first | exact At.here | apply At.next)) rfl rfl ?_
          clear hS; intro w hS
          refine ⟨HM.last (by kernel_rfl), ?_⟩
          refine D.done (by kernel_rfl) ?_
          refine Sh.cut [] ?_
          exact ⟨⟨x.tenant, x.client, max 1 (lastB c.t x.client + u), x.op, x.item, x.key, x.value⟩, _, rfl, hj.refl_of (adv_ge _ _), hS.sb⟩
        refine D.econs 9 895 rfl D.wantedN (by kernel_rfl) (fun _ _ h => h) ?_ ?_
        · replace hS := hS.fo (R := TpR r ga l _)
          refine Z.cl (next_z _ hS (by omega) (by omega)) rfl ?_
          clear hS
          rintro e w ⟨rfl, hS⟩
          refine ⟨_, rfl, ?_⟩
          refine ⟨HM.s (hS.sb), ?_⟩
          refine D.eff 7 1023 rfl D.wantedN (by kernel_rfl) (by kernel_rfl) (fun _ _ h => h) ?_
          refine Z.bs hS rfl rfl rfl ?_
          clear hS; intro g w hS hge
          refine ⟨HM.s (hS.sb), ?_⟩
          first | refine D.ixn 10 2047 rfl D.wantedN (by kernel_rfl) rfl rfl rfl (by omega) ?_ | refine D.ix 10 2047 rfl D.wantedN (by kernel_rfl) rfl rfl rfl (by omega) ?_ | refine D.ia 10 2047 rfl D.wantedN (by kernel_rfl) rfl rfl rfl (by omega) ?_
          refine D.eff 11 4095 rfl D.wantedN (by kernel_rfl) (by kernel_rfl) (fun _ _ h => h) ?_
          refine Z.ldR rfl (range_blk (o := 0 + (nxt l j 8).toNat * 1) (row := [.int .i64 u]) (hS.bk) (fun q v hv => by
          match q, hv with
          | 0, hv => simp at hv; subst hv; exact drawL_in hu)) rfl ?_
          refine ⟨HM.s (hS.sb), ?_⟩
          first | refine D.sum 12 8191 rfl D.wantedN (by kernel_rfl) rfl (by constructor <;> omega) ?_ | refine D.sumW 12 8191 rfl D.wantedN (by kernel_rfl) rfl ?_
          refine D.pl 13 16383 rfl D.wantedN (by kernel_rfl) (R.max2 rfl rfl) ?_
          refine Sh.dp 14 32767 ?_
          refine D.eff 15 65535 rfl D.wantedN (by kernel_rfl) (by kernel_rfl) (fun _ _ h => h) ?_
          refine Z.st hS rfl (by repeat (first | exact At.here | apply At.next)) rfl rfl ?_
          clear hS; intro w hS
          refine ⟨HM.last (by kernel_rfl), ?_⟩
          refine D.done (by kernel_rfl) ?_
          refine Sh.cut [] ?_
          exact ⟨⟨x.tenant, x.client, max 1 (lastB c.t x.client + u), x.op, x.item, x.key, x.value⟩, _, rfl, hj.refl_of (adv_ge _ _), hS.sb⟩
        exact D.enil
      refine D.econs 7 447 rfl D.wantedN (by kernel_rfl) (fun _ _ h => h) ?_ ?_
      · refine Z.bs hS rfl rfl rfl ?_
        clear hS; intro g w hS hge
        refine ⟨HM.s (hS.sb), ?_⟩
        refine D.eff 6 511 rfl D.wantedN (by kernel_rfl) (by kernel_rfl) (fun _ _ h => h) ?_
        refine Z.cl (last_any gt c.t _ _ (hS.bk)) rfl ?_
        rintro e w' ⟨rfl, rfl⟩
        refine ⟨_, rfl, ?_⟩
        refine ⟨HM.s (hS.sb), ?_⟩
        refine D.eff 9 1023 rfl D.wantedN (by kernel_rfl) (by kernel_rfl) (fun _ _ h => h) ?_
        replace hS := hS.fo (R := TpR r ga l _)
        refine Z.cl (next_z _ hS (by omega) (by omega)) rfl ?_
        clear hS
        rintro e w ⟨rfl, hS⟩
        refine ⟨_, rfl, ?_⟩
        refine ⟨HM.s (hS.sb), ?_⟩
        first | refine D.ixn 10 2047 rfl D.wantedN (by kernel_rfl) rfl rfl rfl (by omega) ?_ | refine D.ix 10 2047 rfl D.wantedN (by kernel_rfl) rfl rfl rfl (by omega) ?_ | refine D.ia 10 2047 rfl D.wantedN (by kernel_rfl) rfl rfl rfl (by omega) ?_
        refine D.eff 11 4095 rfl D.wantedN (by kernel_rfl) (by kernel_rfl) (fun _ _ h => h) ?_
        refine Z.ldR rfl (range_blk (o := 0 + (nxt l j 8).toNat * 1) (row := [.int .i64 u]) (hS.bk) (fun q v hv => by
        match q, hv with
        | 0, hv => simp at hv; subst hv; exact drawL_in hu)) rfl ?_
        refine ⟨HM.s (hS.sb), ?_⟩
        first | refine D.sum 12 8191 rfl D.wantedN (by kernel_rfl) rfl (by constructor <;> omega) ?_ | refine D.sumW 12 8191 rfl D.wantedN (by kernel_rfl) rfl ?_
        refine D.pl 13 16383 rfl D.wantedN (by kernel_rfl) (R.max2 rfl rfl) ?_
        refine Sh.dp 14 32767 ?_
        refine D.eff 15 65535 rfl D.wantedN (by kernel_rfl) (by kernel_rfl) (fun _ _ h => h) ?_
        refine Z.st hS rfl (by repeat (first | exact At.here | apply At.next)) rfl rfl ?_
        clear hS; intro w hS
        refine ⟨HM.last (by kernel_rfl), ?_⟩
        refine D.done (by kernel_rfl) ?_
        refine Sh.cut [] ?_
        exact ⟨⟨x.tenant, x.client, max 1 (lastB c.t x.client + u), x.op, x.item, x.key, x.value⟩, _, rfl, hj.refl_of (adv_ge _ _), hS.sb⟩
      exact D.enil
    all_goals
      refine Sh.cut [] ?_
      exact ⟨x, j, rfl, hj, hS.sb⟩
  clear hS hj hx1 hx2 hlb
  rintro f1 w _ ⟨x, j, rfl, hj, hS⟩
  repeat' (first|refine Kd ?_|(refine Sh.sa hS ?_;clear hS;intro w hS)|(refine K3 ?_;clear hS;intro g w hS hge)|((first|refine GS ?_ ?_|refine VB ?_ ?_)<;>intro hb<;>(try simp only [J1,J2,J3,J4,J5,J6] at hb)<;>(try (exfalso;first|omega|exact hb trivial))))
  iterate 2
    · replace hS := hS.fo (R := TpR r ga l _)
      refine Z.eff (Z.cl (text_z 1 16 hS (by omega) (by omega) (by omega)) rfl ?_) rfl
      clear hS
      rintro e w ⟨rfl, hS⟩
      refine ⟨_, rfl, ?_⟩
      replace hj := hj.refl_of (textAdv_ge l j 1 16)
      generalize textAdv l j 1 16 = j2 at *
      generalize textOf l j 1 16 = kt at *
      repeat' (first|refine Kd ?_|(refine Sh.sa hS ?_;clear hS;intro w hS)|(refine K3 ?_;clear hS;intro g w hS hge)|((first|refine GS ?_ ?_|refine VB ?_ ?_)<;>intro hb<;>(try simp only [J1,J2,J3,J4,J5,J6] at hb)<;>(try (exfalso;first|omega|exact hb trivial))))
      · replace hS := hS.fo (R := TpR r ga l _)
        refine Z.eff (Z.cl (next_z 3 hS (by omega) (by omega)) rfl ?_) rfl
        clear hS
        rintro e w ⟨rfl, hS⟩
        refine ⟨_, rfl, ?_⟩
        replace hj := hj.refl_of (adv_ge l j2)
        repeat' (first|refine Kd ?_|(refine Sh.sa hS ?_;clear hS;intro w hS)|(refine K3 ?_;clear hS;intro g w hS hge)|((first|refine GS ?_ ?_|refine VB ?_ ?_)<;>intro hb<;>(try simp only [J1,J2,J3,J4,J5,J6] at hb)<;>(try (exfalso;first|omega|exact hb trivial))))
        · have hq0 : 0 < c.s.length := by omega
          have hbn := nxt_bd l (adv l j2) c.s.length (by omega)
          obtain ⟨gb, o, rfl, _, _⟩ := (hS.slrows (e := 102) (v := .slice As c.s.length cs) (by repeat (first | exact At.here | apply At.next))).mat (by omega) (q := (nxt l (adv l j2) c.s.length).toNat) (by omega)
          refine D.startS (Lr := (.blk g5 _ _ :: .blk g4 _ _ :: .blk gc 69 [.int .i64 cell, .int .i64 ten, .slice Ah c.h.length ch, .pointer (some ⟨gs, 0, none⟩), .pointer (some ⟨gq, 0, none⟩), .pointer (some ⟨gt, 0, none⟩), vg] :: .sl 49 8 (.slice Ah c.h.length ch) (c.h.map Ch.cells) :: .blk gs 100 [.slice (some ⟨gb, o, none⟩) c.s.length cs] :: .sl 102 3 (.slice (some ⟨gb, o, none⟩) c.s.length cs) (c.s.map Ce.cells) :: .blk gq 105 [.slice Al c.q.l.length cl, vr, .int .i64 c.q.most] :: .sl 79 2 (.slice Al c.q.l.length cl) (c.q.l.map It.cells) :: .sl 133 4 vr (c.q.r.map Le.cells) :: .blk gt 109 c.t.cells.toList :: F)) (hS.sb) 21 22 (by kernel_rfl) rfl ?_
          replace hS := hS.drew
          refine Sh.dp 0 1 ?_
          refine Sh.dp 1 3 ?_
          refine Sh.dp 2 7 ?_
          refine Sh.dp 7 135 ?_
          refine Sh.dp 8 391 ?_
          refine Sh.dp 9 903 ?_
          refine Sh.dp 10 1927 ?_
          refine Sh.dl 3 1935 ?_
          refine Sh.dp 4 1951 ?_
          refine Sh.dp 5 1983 ?_
          refine Sh.dl 6 2047 ?_
          refine Sh.dl 11 4095 ?_
          refine Sh.dp 12 8191 ?_
          refine Sh.dp 13 16383 ?_
          refine Sh.dl 14 32767 ?_
          refine Sh.dp 15 65535 ?_
          refine D.eff 16 131071 rfl D.wantedN (by kernel_rfl) (by kernel_rfl) (fun _ _ h => h) ?_
          replace hS := hS.fo (R := TpR r ga l _)
          refine Z.cl (next_z _ hS (by omega) (by omega)) rfl ?_
          clear hS
          rintro e w ⟨rfl, hS⟩
          refine ⟨_, rfl, ?_⟩
          refine ⟨HM.s (hS.sb), ?_⟩
          first | refine D.ixn 17 262143 rfl D.wantedN (by kernel_rfl) rfl rfl rfl (by omega) ?_ | refine D.ix 17 262143 rfl D.wantedN (by kernel_rfl) rfl rfl rfl (by omega) ?_ | refine D.ia 17 262143 rfl D.wantedN (by kernel_rfl) rfl rfl rfl (by omega) ?_
          refine Sh.dp 18 524287 ?_
          refine D.ldE 19 1048575 rfl D.wantedN (by kernel_rfl) rfl (fun W h => (h.slrows (e := 102) (v := .slice _ c.s.length cs) (by repeat (first | exact At.here | apply At.next))).elem (by omega) (q := (nxt l (adv l j2) c.s.length).toNat) (by omega)) rfl ?_
          refine Sh.dp 20 2097151 ?_
          refine D.eff 21 4194303 rfl D.wantedN (by kernel_rfl) (by kernel_rfl) (fun _ _ h => h) ?_
          refine Z.st hS rfl (by repeat (first | exact At.here | apply At.next)) rfl rfl ?_
          clear hS; intro w hS
          refine ⟨HM.last (by kernel_rfl), ?_⟩
          refine D.done (by kernel_rfl) ?_
          repeat' (first|refine Kd ?_|(refine Sh.sa hS ?_;clear hS;intro w hS)|(refine K3 ?_;clear hS;intro g w hS hge)|((first|refine GS ?_ ?_|refine VB ?_ ?_)<;>intro hb<;>(try simp only [J1,J2,J3,J4,J5,J6] at hb)<;>(try (exfalso;first|omega|exact hb trivial))))
          refine Dnc Tryz.results17 ?_
          exact ⟨⟨x.tenant, x.client, x.number, x.op, x.item, (c.s[(nxt l (adv l j2) c.s.length).toNat]'(by omega)).key, x.value⟩, _, rfl, hj.refl_of (adv_ge _ _), (Sep.CR_open.2 ⟨_, _, _, _, _, _, _, hS.sub (L' := .blk gc 69 [.int .i64 cell, .int .i64 ten, .slice Ah c.h.length ch, .pointer (some ⟨gs, 0, none⟩), .pointer (some ⟨gq, 0, none⟩), .pointer (some ⟨gt, 0, none⟩), vg] :: .sl 49 8 (.slice Ah c.h.length ch) (c.h.map Ch.cells) :: .blk gs 100 [.slice (some ⟨gb, o, none⟩) c.s.length cs] :: .sl 102 3 (.slice (some ⟨gb, o, none⟩) c.s.length cs) (c.s.map Ce.cells) :: .blk gq 105 [.slice Al c.q.l.length cl, vr, .int .i64 c.q.most] :: .sl 79 2 (.slice Al c.q.l.length cl) (c.q.l.map It.cells) :: .sl 133 4 vr (c.q.r.map Le.cells) :: .blk gt 109 c.t.cells.toList :: TpR r ga l _ :: F) (by repeat (first | exact Sub.rest | exact Sub.nil | exact .skip .rest | exact .skip (.skip .rest) | exact .skip (.skip (.skip .rest)) | apply Sub.keep | refine Sub.cons (by repeat (first | exact At.here | apply At.next)) ?_ | apply Sub.skip))⟩).swap⟩
        · refine Dnc Tryz.results17 ?_
          exact ⟨⟨x.tenant, x.client, x.number, x.op, x.item, kt, x.value⟩, _, rfl, hj, (Sep.CR_open.2 ⟨_, _, _, _, _, _, _, hS.sub (L' := .blk gc 69 [.int .i64 cell, .int .i64 ten, .slice Ah c.h.length ch, .pointer (some ⟨gs, 0, none⟩), .pointer (some ⟨gq, 0, none⟩), .pointer (some ⟨gt, 0, none⟩), vg] :: .sl 49 8 (.slice Ah c.h.length ch) (c.h.map Ch.cells) :: .blk gs 100 [.slice As c.s.length cs] :: .sl 102 3 (.slice As c.s.length cs) (c.s.map Ce.cells) :: .blk gq 105 [.slice Al c.q.l.length cl, vr, .int .i64 c.q.most] :: .sl 79 2 (.slice Al c.q.l.length cl) (c.q.l.map It.cells) :: .sl 133 4 vr (c.q.r.map Le.cells) :: .blk gt 109 c.t.cells.toList :: TpR r ga l _ :: F) (by repeat (first | exact Sub.rest | exact Sub.nil | exact .skip .rest | exact .skip (.skip .rest) | exact .skip (.skip (.skip .rest)) | apply Sub.keep | refine Sub.cons (by repeat (first | exact At.here | apply At.next)) ?_ | apply Sub.skip))⟩).swap⟩
      · refine Dnc Tryz.results17 ?_
        exact ⟨⟨x.tenant, x.client, x.number, x.op, x.item, kt, x.value⟩, _, rfl, hj, (Sep.CR_open.2 ⟨_, _, _, _, _, _, _, hS.sub (L' := .blk gc 69 [.int .i64 cell, .int .i64 ten, .slice Ah c.h.length ch, .pointer (some ⟨gs, 0, none⟩), .pointer (some ⟨gq, 0, none⟩), .pointer (some ⟨gt, 0, none⟩), vg] :: .sl 49 8 (.slice Ah c.h.length ch) (c.h.map Ch.cells) :: .blk gs 100 [.slice As c.s.length cs] :: .sl 102 3 (.slice As c.s.length cs) (c.s.map Ce.cells) :: .blk gq 105 [.slice Al c.q.l.length cl, vr, .int .i64 c.q.most] :: .sl 79 2 (.slice Al c.q.l.length cl) (c.q.l.map It.cells) :: .sl 133 4 vr (c.q.r.map Le.cells) :: .blk gt 109 c.t.cells.toList :: TpR r ga l _ :: F) (by repeat (first | exact Sub.rest | exact Sub.nil | exact .skip .rest | exact .skip (.skip .rest) | exact .skip (.skip (.skip .rest)) | apply Sub.keep | refine Sub.cons (by repeat (first | exact At.here | apply At.next)) ?_ | apply Sub.skip))⟩).swap⟩
  · replace hS := hS.fo (R := TpR r ga l _)
    refine Z.eff (Z.cl (text_z 1 16 hS (by omega) (by omega) (by omega)) rfl ?_) rfl
    clear hS
    rintro e w ⟨rfl, hS⟩
    refine ⟨_, rfl, ?_⟩
    replace hj := hj.refl_of (textAdv_ge l j 1 16)
    repeat' (first|refine Kd ?_|(refine Sh.sa hS ?_;clear hS;intro w hS)|(refine K3 ?_;clear hS;intro g w hS hge)|((first|refine GS ?_ ?_|refine VB ?_ ?_)<;>intro hb<;>(try simp only [J1,J2,J3,J4,J5,J6] at hb)<;>(try (exfalso;first|omega|exact hb trivial))))
    replace hS := hS.fo (R := TpR r ga l _)
    refine Z.eff (Z.cl (text_z 0 64 hS (by omega) (by omega) (by omega)) rfl ?_) rfl
    clear hS
    rintro e w ⟨rfl, hS⟩
    refine ⟨_, rfl, ?_⟩
    replace hj := hj.refl_of (textAdv_ge l _ 0 64)
    repeat' (first|refine Kd ?_|(refine Sh.sa hS ?_;clear hS;intro w hS)|(refine K3 ?_;clear hS;intro g w hS hge)|((first|refine GS ?_ ?_|refine VB ?_ ?_)<;>intro hb<;>(try simp only [J1,J2,J3,J4,J5,J6] at hb)<;>(try (exfalso;first|omega|exact hb trivial))))
    refine Dnc Tryz.results17 ?_
    exact ⟨⟨x.tenant, x.client, x.number, x.op, x.item, textOf l j 1 16, textOf l (textAdv l j 1 16) 0 64⟩, _, rfl, hj, (Sep.CR_open.2 ⟨_, _, _, _, _, _, _, hS.sub (L' := .blk gc 69 [.int .i64 cell, .int .i64 ten, .slice Ah c.h.length ch, .pointer (some ⟨gs, 0, none⟩), .pointer (some ⟨gq, 0, none⟩), .pointer (some ⟨gt, 0, none⟩), vg] :: .sl 49 8 (.slice Ah c.h.length ch) (c.h.map Ch.cells) :: .blk gs 100 [.slice As c.s.length cs] :: .sl 102 3 (.slice As c.s.length cs) (c.s.map Ce.cells) :: .blk gq 105 [.slice Al c.q.l.length cl, vr, .int .i64 c.q.most] :: .sl 79 2 (.slice Al c.q.l.length cl) (c.q.l.map It.cells) :: .sl 133 4 vr (c.q.r.map Le.cells) :: .blk gt 109 c.t.cells.toList :: TpR r ga l _ :: F) (by repeat (first | exact Sub.rest | exact Sub.nil | exact .skip .rest | exact .skip (.skip .rest) | exact .skip (.skip (.skip .rest)) | apply Sub.keep | refine Sub.cons (by repeat (first | exact At.here | apply At.next)) ?_ | apply Sub.skip))⟩).swap⟩
  · replace hS := hS.fo (R := TpR r ga l _)
    refine Z.eff (Z.cl (text_z 0 64 hS (by omega) (by omega) (by omega)) rfl ?_) rfl
    clear hS
    rintro e w ⟨rfl, hS⟩
    refine ⟨_, rfl, ?_⟩
    replace hj := hj.refl_of (textAdv_ge l j 0 64)
    repeat' (first|refine Kd ?_|(refine Sh.sa hS ?_;clear hS;intro w hS)|(refine K3 ?_;clear hS;intro g w hS hge)|((first|refine GS ?_ ?_|refine VB ?_ ?_)<;>intro hb<;>(try simp only [J1,J2,J3,J4,J5,J6] at hb)<;>(try (exfalso;first|omega|exact hb trivial))))
    refine Dnc Tryz.results17 ?_
    exact ⟨⟨x.tenant, x.client, x.number, x.op, x.item, x.key, textOf l j 0 64⟩, _, rfl, hj, (Sep.CR_open.2 ⟨_, _, _, _, _, _, _, hS.sub (L' := .blk gc 69 [.int .i64 cell, .int .i64 ten, .slice Ah c.h.length ch, .pointer (some ⟨gs, 0, none⟩), .pointer (some ⟨gq, 0, none⟩), .pointer (some ⟨gt, 0, none⟩), vg] :: .sl 49 8 (.slice Ah c.h.length ch) (c.h.map Ch.cells) :: .blk gs 100 [.slice As c.s.length cs] :: .sl 102 3 (.slice As c.s.length cs) (c.s.map Ce.cells) :: .blk gq 105 [.slice Al c.q.l.length cl, vr, .int .i64 c.q.most] :: .sl 79 2 (.slice Al c.q.l.length cl) (c.q.l.map It.cells) :: .sl 133 4 vr (c.q.r.map Le.cells) :: .blk gt 109 c.t.cells.toList :: TpR r ga l _ :: F) (by repeat (first | exact Sub.rest | exact Sub.nil | exact .skip .rest | exact .skip (.skip .rest) | exact .skip (.skip (.skip .rest)) | apply Sub.keep | refine Sub.cons (by repeat (first | exact At.here | apply At.next)) ?_ | apply Sub.skip))⟩).swap⟩
  · replace hS := hS.fo (R := TpR r ga l _)
    refine Z.eff (Z.cl (range_z 1 9 hS (by omega) (by omega) (by omega)) rfl ?_) rfl
    clear hS
    rintro e w ⟨rfl, hS⟩
    refine ⟨_, rfl, ?_⟩
    replace hj := hj.refl_of (adv_ge l j)
    generalize adv l j = j2 at *
    generalize 1 + nxt l j (9 - 1 + 1) = it at *
    repeat' (first|refine Kd ?_|(refine Sh.sa hS ?_;clear hS;intro w hS)|(refine K3 ?_;clear hS;intro g w hS hge)|((first|refine GS ?_ ?_|refine VB ?_ ?_)<;>intro hb<;>(try simp only [J1,J2,J3,J4,J5,J6] at hb)<;>(try (exfalso;first|omega|exact hb trivial))))
    · replace hS := hS.fo (R := TpR r ga l _)
      refine Z.eff (Z.cl (next_z 4 hS (by omega) (by omega)) rfl ?_) rfl
      clear hS
      rintro e w ⟨rfl, hS⟩
      refine ⟨_, rfl, ?_⟩
      replace hj := hj.refl_of (adv_ge l j2)
      repeat' (first|refine Kd ?_|(refine Sh.sa hS ?_;clear hS;intro w hS)|(refine K3 ?_;clear hS;intro g w hS hge)|((first|refine GS ?_ ?_|refine VB ?_ ?_)<;>intro hb<;>(try simp only [J1,J2,J3,J4,J5,J6] at hb)<;>(try (exfalso;first|omega|exact hb trivial))))
      · have hq0 : 0 < c.q.l.length := by omega
        have hbn := nxt_bd l (adv l j2) c.q.l.length (by omega)
        obtain ⟨gb, o, rfl, _, _⟩ := (hS.slrows (e := 79) (v := .slice Al c.q.l.length cl) (by repeat (first | exact At.here | apply At.next))).mat (by omega) (q := (nxt l (adv l j2) c.q.l.length).toNat) (by omega)
        refine D.startS (Lr := (.blk g5 _ _ :: .blk g4 _ _ :: .blk gc 69 [.int .i64 cell, .int .i64 ten, .slice Ah c.h.length ch, .pointer (some ⟨gs, 0, none⟩), .pointer (some ⟨gq, 0, none⟩), .pointer (some ⟨gt, 0, none⟩), vg] :: .sl 49 8 (.slice Ah c.h.length ch) (c.h.map Ch.cells) :: .blk gs 100 [.slice As c.s.length cs] :: .sl 102 3 (.slice As c.s.length cs) (c.s.map Ce.cells) :: .blk gq 105 [.slice (some ⟨gb, o, none⟩) c.q.l.length cl, vr, .int .i64 c.q.most] :: .sl 79 2 (.slice (some ⟨gb, o, none⟩) c.q.l.length cl) (c.q.l.map It.cells) :: .sl 133 4 vr (c.q.r.map Le.cells) :: .blk gt 109 c.t.cells.toList :: F)) (hS.sb) 21 22 (by kernel_rfl) rfl ?_
        replace hS := hS.drew
        refine Sh.dp 0 1 ?_
        refine Sh.dp 1 3 ?_
        refine Sh.dp 2 7 ?_
        refine Sh.dp 7 135 ?_
        refine Sh.dp 8 391 ?_
        refine Sh.dp 9 903 ?_
        refine Sh.dp 10 1927 ?_
        refine Sh.dl 3 1935 ?_
        refine Sh.dp 4 1951 ?_
        refine Sh.dp 5 1983 ?_
        refine Sh.dl 6 2047 ?_
        refine Sh.dl 11 4095 ?_
        refine Sh.dp 12 8191 ?_
        refine Sh.dp 13 16383 ?_
        refine Sh.dl 14 32767 ?_
        refine Sh.dp 15 65535 ?_
        refine D.eff 16 131071 rfl D.wantedN (by kernel_rfl) (by kernel_rfl) (fun _ _ h => h) ?_
        replace hS := hS.fo (R := TpR r ga l _)
        refine Z.cl (next_z _ hS (by omega) (by omega)) rfl ?_
        clear hS
        rintro e w ⟨rfl, hS⟩
        refine ⟨_, rfl, ?_⟩
        refine ⟨HM.s (hS.sb), ?_⟩
        first | refine D.ixn 17 262143 rfl D.wantedN (by kernel_rfl) rfl rfl rfl (by omega) ?_ | refine D.ix 17 262143 rfl D.wantedN (by kernel_rfl) rfl rfl rfl (by omega) ?_ | refine D.ia 17 262143 rfl D.wantedN (by kernel_rfl) rfl rfl rfl (by omega) ?_
        refine Sh.dp 18 524287 ?_
        refine D.ldE 19 1048575 rfl D.wantedN (by kernel_rfl) rfl (fun W h => (h.slrows (e := 79) (v := .slice _ c.q.l.length cl) (by repeat (first | exact At.here | apply At.next))).elem (by omega) (q := (nxt l (adv l j2) c.q.l.length).toNat) (by omega)) rfl ?_
        refine Sh.dp 20 2097151 ?_
        refine D.eff 21 4194303 rfl D.wantedN (by kernel_rfl) (by kernel_rfl) (fun _ _ h => h) ?_
        refine Z.st hS rfl (by repeat (first | exact At.here | apply At.next)) rfl rfl ?_
        clear hS; intro w hS
        refine ⟨HM.last (by kernel_rfl), ?_⟩
        refine D.done (by kernel_rfl) ?_
        repeat' (first|refine Kd ?_|(refine Sh.sa hS ?_;clear hS;intro w hS)|(refine K3 ?_;clear hS;intro g w hS hge)|((first|refine GS ?_ ?_|refine VB ?_ ?_)<;>intro hb<;>(try simp only [J1,J2,J3,J4,J5,J6] at hb)<;>(try (exfalso;first|omega|exact hb trivial))))
        refine Dnc Tryz.results17 ?_
        exact ⟨⟨x.tenant, x.client, x.number, x.op, (c.q.l[(nxt l (adv l j2) c.q.l.length).toNat]'(by omega)).number, x.key, x.value⟩, _, rfl, hj.refl_of (adv_ge _ _), (Sep.CR_open.2 ⟨_, _, _, _, _, _, _, hS.sub (L' := .blk gc 69 [.int .i64 cell, .int .i64 ten, .slice Ah c.h.length ch, .pointer (some ⟨gs, 0, none⟩), .pointer (some ⟨gq, 0, none⟩), .pointer (some ⟨gt, 0, none⟩), vg] :: .sl 49 8 (.slice Ah c.h.length ch) (c.h.map Ch.cells) :: .blk gs 100 [.slice As c.s.length cs] :: .sl 102 3 (.slice As c.s.length cs) (c.s.map Ce.cells) :: .blk gq 105 [.slice (some ⟨gb, o, none⟩) c.q.l.length cl, vr, .int .i64 c.q.most] :: .sl 79 2 (.slice (some ⟨gb, o, none⟩) c.q.l.length cl) (c.q.l.map It.cells) :: .sl 133 4 vr (c.q.r.map Le.cells) :: .blk gt 109 c.t.cells.toList :: TpR r ga l _ :: F) (by repeat (first | exact Sub.rest | exact Sub.nil | exact .skip .rest | exact .skip (.skip .rest) | exact .skip (.skip (.skip .rest)) | apply Sub.keep | refine Sub.cons (by repeat (first | exact At.here | apply At.next)) ?_ | apply Sub.skip))⟩).swap⟩
      · refine Dnc Tryz.results17 ?_
        exact ⟨⟨x.tenant, x.client, x.number, x.op, it, x.key, x.value⟩, _, rfl, hj, (Sep.CR_open.2 ⟨_, _, _, _, _, _, _, hS.sub (L' := .blk gc 69 [.int .i64 cell, .int .i64 ten, .slice Ah c.h.length ch, .pointer (some ⟨gs, 0, none⟩), .pointer (some ⟨gq, 0, none⟩), .pointer (some ⟨gt, 0, none⟩), vg] :: .sl 49 8 (.slice Ah c.h.length ch) (c.h.map Ch.cells) :: .blk gs 100 [.slice As c.s.length cs] :: .sl 102 3 (.slice As c.s.length cs) (c.s.map Ce.cells) :: .blk gq 105 [.slice Al c.q.l.length cl, vr, .int .i64 c.q.most] :: .sl 79 2 (.slice Al c.q.l.length cl) (c.q.l.map It.cells) :: .sl 133 4 vr (c.q.r.map Le.cells) :: .blk gt 109 c.t.cells.toList :: TpR r ga l _ :: F) (by repeat (first | exact Sub.rest | exact Sub.nil | exact .skip .rest | exact .skip (.skip .rest) | exact .skip (.skip (.skip .rest)) | apply Sub.keep | refine Sub.cons (by repeat (first | exact At.here | apply At.next)) ?_ | apply Sub.skip))⟩).swap⟩
    · refine Dnc Tryz.results17 ?_
      exact ⟨⟨x.tenant, x.client, x.number, x.op, it, x.key, x.value⟩, _, rfl, hj, (Sep.CR_open.2 ⟨_, _, _, _, _, _, _, hS.sub (L' := .blk gc 69 [.int .i64 cell, .int .i64 ten, .slice Ah c.h.length ch, .pointer (some ⟨gs, 0, none⟩), .pointer (some ⟨gq, 0, none⟩), .pointer (some ⟨gt, 0, none⟩), vg] :: .sl 49 8 (.slice Ah c.h.length ch) (c.h.map Ch.cells) :: .blk gs 100 [.slice As c.s.length cs] :: .sl 102 3 (.slice As c.s.length cs) (c.s.map Ce.cells) :: .blk gq 105 [.slice Al c.q.l.length cl, vr, .int .i64 c.q.most] :: .sl 79 2 (.slice Al c.q.l.length cl) (c.q.l.map It.cells) :: .sl 133 4 vr (c.q.r.map Le.cells) :: .blk gt 109 c.t.cells.toList :: TpR r ga l _ :: F) (by repeat (first | exact Sub.rest | exact Sub.nil | exact .skip .rest | exact .skip (.skip .rest) | exact .skip (.skip (.skip .rest)) | apply Sub.keep | refine Sub.cons (by repeat (first | exact At.here | apply At.next)) ?_ | apply Sub.skip))⟩).swap⟩
  · refine Dnc Tryz.results17 ?_
    exact ⟨x, _, rfl, hj, (Sep.CR_open.2 ⟨_, _, _, _, _, _, _, hS.sub (L' := .blk gc 69 [.int .i64 cell, .int .i64 ten, .slice Ah c.h.length ch, .pointer (some ⟨gs, 0, none⟩), .pointer (some ⟨gq, 0, none⟩), .pointer (some ⟨gt, 0, none⟩), vg] :: .sl 49 8 (.slice Ah c.h.length ch) (c.h.map Ch.cells) :: .blk gs 100 [.slice As c.s.length cs] :: .sl 102 3 (.slice As c.s.length cs) (c.s.map Ce.cells) :: .blk gq 105 [.slice Al c.q.l.length cl, vr, .int .i64 c.q.most] :: .sl 79 2 (.slice Al c.q.l.length cl) (c.q.l.map It.cells) :: .sl 133 4 vr (c.q.r.map Le.cells) :: .blk gt 109 c.t.cells.toList :: TpR r ga l _ :: F) (by repeat (first | exact Sub.rest | exact Sub.nil | exact .skip .rest | exact .skip (.skip .rest) | exact .skip (.skip (.skip .rest)) | apply Sub.keep | refine Sub.cons (by repeat (first | exact At.here | apply At.next)) ?_ | apply Sub.skip))⟩).swap⟩
end Go.Proofs.YtahackdfjcgkhaaGreat
