/-
  The program's queue: Take.
-/
import Derived.Test.YtahackdfjcgkhaaGreatNQv
namespace Go.Proofs.YtahackdfjcgkhaaGreat
open Go.RowKit
set_option linter.unusedSimpArgs false
set_option linter.unusedVariables false
attribute [local irreducible] Res.blk Res.sl Res.all Res.ex Res.pure Res.star

def It.zero : It := ⟨0, ⟨#[]⟩⟩
def Le.zero : Le := ⟨0, 0, 0, 0⟩
/-- The arguments that Take refuses. -/
def takeBad (cl ep tk ho : Int) : Prop := cl < 1 ∨ 8 < cl ∨ ep < 1 ∨ 1048576 < ep ∨ tk < 0 ∨ 1073741824 < tk ∨ ho < 1 ∨ 1000 < ho
instance (cl ep tk ho : Int) : Decidable (takeBad cl ep tk ho) := by unfold takeBad; infer_instance
/-- An item is held. -/
def heldB (rs : List Le) (n ep tk : Int) : Bool := rs.any fun l => decide (l.item = n) && decide (liveL l ep tk)
theorem heldB_take {rs : List Le} {n ep tk : Int} {k : Nat} (hk : k < rs.length) : heldB (rs.take (k + 1)) n ep tk = (heldB (rs.take k) n ep tk || (decide (rs[k].item = n) && decide (liveL rs[k] ep tk))) := by
  unfold heldB
  rw [List.take_succ_eq_append_getElem hk, List.any_append]
  simp
theorem heldB_at {rs : List Le} {n ep tk : Int} {k : Nat} (hk : k < rs.length) (h1 : rs[k].item = n) (h2 : liveL rs[k] ep tk) : heldB rs n ep tk = true := by
  unfold heldB
  rw [List.any_eq_true]
  exact ⟨rs[k], by simp, by simp [h1, h2]⟩
/-- The first item that is free. -/
def freeI (l : List It) (rs : List Le) (ep tk : Int) : Option It := l.find? fun x => !heldB rs x.number ep tk
theorem freeI_at {l : List It} {rs : List Le} {ep tk : Int} {k : Nat} (hk : k < l.length) (h1 : ∀ j (hj : j < l.length), j < k → heldB rs l[j].number ep tk = true) (h2 : heldB rs l[k].number ep tk = false) : freeI l rs ep tk = some l[k] := by
  unfold freeI
  have e : l = l.take k ++ l.drop k := (List.take_append_drop _ _).symm
  conv => lhs; rw [e]
  rw [List.find?_append]
  have : (l.take k).find? (fun x => !heldB rs x.number ep tk) = none := by
    rw [List.find?_eq_none]
    intro x hx
    obtain ⟨j, hj, rfl⟩ := List.mem_iff_getElem.1 hx
    simp only [List.length_take] at hj
    have := h1 j (by omega) (by omega)
    simp [this]
  rw [this, List.drop_eq_getElem_cons hk, List.find?_cons_of_pos (by simp [h2])]
  rfl
theorem freeI_none {l : List It} {rs : List Le} {ep tk : Int} (h1 : ∀ j (hj : j < l.length), heldB rs l[j].number ep tk = true) : freeI l rs ep tk = none := by
  unfold freeI
  rw [List.find?_eq_none]
  intro x hx
  obtain ⟨j, hj, rfl⟩ := List.mem_iff_getElem.1 hx
  simp [h1 j hj]
structure TkR where
  q : Qu
  x : It
  l : Le
  e : Int
/-- What Take makes of a queue, and what it returns. -/
def takeP (q : Qu) (cl ep tk ho : Int) : TkR :=
  if takeBad cl ep tk ho then ⟨q, .zero, .zero, 1⟩
  else match freeI q.l q.r ep tk with
    | some x => ⟨⟨q.l, insL ⟨x.number, cl, ep, tk + ho⟩ q.r, q.most⟩, x, ⟨x.number, cl, ep, tk + ho⟩, 0⟩
    | none => ⟨q, .zero, .zero, 34⟩
def TkR.val (R : TkR) : Value := .tuple #[R.x.val, R.l.val, .int .i64 R.e]

set_option maxHeartbeats 8000000 in
theorem pqtake_z (gq : Nat) (q : Qu) (cl ep tk ho : Int) (r : World) (F : List Res) (w : World) (hS : Sep r [] (PQ gq q :: F) w) (hl : q.l.length ≤ 1000) (hl' : q.r.length ≤ 1000) (hs : q.r.Pairwise ltL) :
    Calls Tryz.prog 70 #[.pointer (some ⟨gq, 0, none⟩), .int .i64 cl, .int .i64 ep, .int .i64 tk, .int .i64 ho] w fun e w' => e = .returned (takeP q cl ep tk ho).val ∧ Sep r [] (PQ gq (takeP q cl ep tk ho).q :: F) w' := by
  obtain ⟨A, c, B, d, hS⟩ := Sep.PQ_open.1 hS
  refine Z.enter Tryz.func70 Tryz.ntmps70 rfl rfl ?_
  repeat' (first|refine VP ?_|refine Sh.la hS ?_|refine Sh.lb ?_|refine Sh.lc ?_|refine Sh.su ?_|(refine Sh.sa hS ?_;clear hS;intro w hS)|((first|refine Sh.aa hS ?_|refine Sh.ab hS ?_|refine Sh.ac hS ?_);clear hS;intro g w hS hge)|refine Sh.ix ?_|refine Sh.up ?_|refine Sh.sl1 ?_|refine Sh.sl2 ?_|refine Sh.sl5 ?_|refine Sh.sl3 ?_|refine Sh.sl4 ?_|refine Sh.eq ?_|refine Sh.ne ?_|refine Sh.ix2 ?_|refine Sh.ix3 ?_|refine Z.bu rfl rfl ?_|refine Z.buA rfl rfl ?_|refine VM ?_|refine Z.pl (R.cap rfl rfl) ?_|refine Z.pl R.mf ?_|refine Z.pl (R.min2 rfl rfl) ?_|refine G1 ?_|refine G2 ?_|refine G3 ?_|refine G4 ?_|with_reducible (first|refine V0 ?_|refine Z.block ?_)|((with_reducible refine Z.blX ?_ ?_);rotate_left;rfl)|refine VT ?_|refine VF ?_|((first|refine GS ?_ ?_|refine VB ?_ ?_)<;>intro hb<;>(try simp only [J1,J2,J3,J4,J5,J6] at hb)<;>(try (exfalso;first|omega|exact hb trivial))))
  rotate_left 8
  · rename_i g10 w10 hg10 h1 h2 h3 h4 h5 h6 h7
    have hbad : ¬ takeBad cl ep tk ho := by unfold takeBad; omega
    replace hS : Sep r [] (.sl 79 2 (.slice A q.l.length c) (q.l.map It.cells) :: .sl 133 4 (.slice B q.r.length d) (q.r.map Le.cells) :: .blk gq 167 [.slice A q.l.length c, .slice B q.r.length d, .int .i64 q.most] :: .blk g10 79 It.zero.cells :: .blk g 133 Le.zero.cells :: F) _ := hS.sb
    generalize g = g11 at *
    refine Z.lpS [12, 14, 16, 17, 55, 56, 57, 58, 59, 60, 61, 62, 63, 64, 65, 66, 67, 68, 69, 70, 71, 72, 73, 74, 75, 76, 77, 78, 79, 80, 81, 82, 83, 84, 85, 86, 87, 88, 89, 90, 91, 92, 93] (fun m w s => ∃ (k : Nat), s = [(55, .int .i64 k)] ∧ k ≤ q.l.length ∧ (∀ j (hj : j < q.l.length), j < k → heldB q.r q.l[j].number ep tk = true) ∧ m = q.l.length - k ∧ Sep r [] (.sl 79 2 (.slice A q.l.length c) (q.l.map It.cells) :: .sl 133 4 (.slice B q.r.length d) (q.r.map Le.cells) :: .blk gq 167 [.slice A q.l.length c, .slice B q.r.length d, .int .i64 q.most] :: .blk g10 79 It.zero.cells :: .blk g11 133 Le.zero.cells :: F) w) _ [(55, .int .i64 (0 : Nat))] (by repeat (first | exact trivial | refine ⟨rfl, ?_⟩)) ⟨0, rfl, by omega, by intro j _ h; omega, rfl, hS⟩ ?_
    clear hS
    rintro m f0 w _ ⟨k, rfl, hk, hall, rfl, hS⟩
    by_cases hlt : k < q.l.length
    · obtain ⟨gb, o, rfl, _, hra⟩ := (hS.slrows .here).mat (by omega) hlt
      repeat' (first|refine VP ?_|refine Sh.la hS ?_|refine Sh.lb ?_|refine Sh.lc ?_|refine Sh.su ?_|(refine Sh.sa hS ?_;clear hS;intro w hS)|((first|refine Sh.aa hS ?_|refine Sh.ab hS ?_|refine Sh.ac hS ?_);clear hS;intro g w hS hge)|refine Sh.ix ?_|refine Sh.up ?_|refine Sh.sl1 ?_|refine Sh.sl2 ?_|refine Sh.sl5 ?_|refine Sh.sl3 ?_|refine Sh.sl4 ?_|refine Sh.eq ?_|refine Sh.ne ?_|refine Sh.ix2 ?_|refine Sh.ix3 ?_|refine Z.bu rfl rfl ?_|refine Z.buA rfl rfl ?_|refine VM ?_|refine Z.pl (R.cap rfl rfl) ?_|refine Z.pl R.mf ?_|refine Z.pl (R.min2 rfl rfl) ?_|refine G1 ?_|refine G2 ?_|refine G3 ?_|refine G4 ?_|with_reducible (first|refine V0 ?_|refine Z.block ?_)|((with_reducible refine Z.blX ?_ ?_);rotate_left;rfl)|refine VT ?_|refine VF ?_|((first|refine GS ?_ ?_|refine VB ?_ ?_)<;>intro hb<;>(try simp only [J1,J2,J3,J4,J5,J6] at hb)<;>(try (exfalso;first|omega|exact hb trivial))))
      rename Nat => gt
      refine Z.lpS [16, 64, 65, 66, 67, 68, 69, 70, 71, 72, 73, 74, 75, 76, 77, 78, 79] (fun m w s => ∃ (i : Nat), s = [(64, .int .i64 i)] ∧ i ≤ q.r.length ∧ heldB (q.r.take i) q.l[k].number ep tk = false ∧ m = q.r.length - i ∧ Sep r [] (.blk gt 79 q.l[k].cells :: .sl 79 2 (.slice (some ⟨gb, o, none⟩) q.l.length c) (q.l.map It.cells) :: .sl 133 4 (.slice B q.r.length d) (q.r.map Le.cells) :: .blk gq 167 [.slice (some ⟨gb, o, none⟩) q.l.length c, .slice B q.r.length d, .int .i64 q.most] :: .blk g10 79 It.zero.cells :: .blk g11 133 Le.zero.cells :: F) w) _ [(64, .int .i64 (0 : Nat))] (by repeat (first | exact trivial | refine ⟨rfl, ?_⟩)) ⟨0, rfl, by omega, by simp [heldB], rfl, hS.sb⟩ ?_
      clear hS hra
      rintro m2 f1 w _ ⟨i, rfl, hi, hno, rfl, hS⟩
      by_cases hlt2 : i < q.r.length
      · obtain ⟨gb2, o2, rfl, _, hra2⟩ := (hS.slrows (.next (.next .here))).mat (by omega) hlt2
        have hht := heldB_take (n := q.l[k].number) (ep := ep) (tk := tk) hlt2
        rw [hno, Bool.false_or] at hht
        repeat' (first|refine VP ?_|refine Sh.la hS ?_|refine Sh.lb ?_|refine Sh.lc ?_|refine Sh.su ?_|(refine Sh.sa hS ?_;clear hS;intro w hS)|((first|refine Sh.aa hS ?_|refine Sh.ab hS ?_|refine Sh.ac hS ?_);clear hS;intro g w hS hge)|refine Sh.ix ?_|refine Sh.up ?_|refine Sh.sl1 ?_|refine Sh.sl2 ?_|refine Sh.sl5 ?_|refine Sh.sl3 ?_|refine Sh.sl4 ?_|refine Sh.eq ?_|refine Sh.ne ?_|refine Sh.ix2 ?_|refine Sh.ix3 ?_|refine Z.bu rfl rfl ?_|refine Z.buA rfl rfl ?_|refine VM ?_|refine Z.pl (R.cap rfl rfl) ?_|refine Z.pl R.mf ?_|refine Z.pl (R.min2 rfl rfl) ?_|refine G1 ?_|refine G2 ?_|refine G3 ?_|refine G4 ?_|with_reducible (first|refine V0 ?_|refine Z.block ?_)|((with_reducible refine Z.blX ?_ ?_);rotate_left;rfl)|refine VT ?_|refine VF ?_|((first|refine GS ?_ ?_|refine VB ?_ ?_)<;>intro hb<;>(try simp only [J1,J2,J3,J4,J5,J6] at hb)<;>(try (exfalso;first|omega|exact hb trivial))))
        · rename q.r[i].item = q.l[k].number => heq
          refine Z.eff (Z.cl (live_z q.r[i] ep tk _ _ _ hS) rfl ?_) rfl
          clear hS
          rintro e w ⟨rfl, hS⟩
          refine ⟨_, rfl, ?_⟩
          repeat' (first|refine VP ?_|refine Sh.la hS ?_|refine Sh.lb ?_|refine Sh.lc ?_|refine Sh.su ?_|(refine Sh.sa hS ?_;clear hS;intro w hS)|((first|refine Sh.aa hS ?_|refine Sh.ab hS ?_|refine Sh.ac hS ?_);clear hS;intro g w hS hge)|refine Sh.ix ?_|refine Sh.up ?_|refine Sh.sl1 ?_|refine Sh.sl2 ?_|refine Sh.sl5 ?_|refine Sh.sl3 ?_|refine Sh.sl4 ?_|refine Sh.eq ?_|refine Sh.ne ?_|refine Sh.ix2 ?_|refine Sh.ix3 ?_|refine Z.bu rfl rfl ?_|refine Z.buA rfl rfl ?_|refine VM ?_|refine Z.pl (R.cap rfl rfl) ?_|refine Z.pl R.mf ?_|refine Z.pl (R.min2 rfl rfl) ?_|refine G1 ?_|refine G2 ?_|refine G3 ?_|refine G4 ?_|with_reducible (first|refine V0 ?_|refine Z.block ?_)|((with_reducible refine Z.blX ?_ ?_);rotate_left;rfl)|refine VT ?_|refine VF ?_|((first|refine GS ?_ ?_|refine VB ?_ ?_)<;>intro hb<;>(try simp only [J1,J2,J3,J4,J5,J6] at hb)<;>(try (exfalso;first|omega|exact hb trivial))))
          · refine Sh.again (q.l.length - (k + 1)) [(55, .int .i64 (k + 1 : Nat))] ?_
            refine ⟨k + 1, rfl, by omega, fun j hj hjk => ?_, rfl, hS.sb⟩
            rcases Nat.lt_or_ge j k with h1 | h1
            · exact hall j hj h1
            · have : j = k := by omega
              subst this
              exact heldB_at hlt2 heq (by assumption)
          · refine Sh.again (q.r.length - (i + 1)) [(64, .int .i64 (i + 1 : Nat))] ?_
            exact ⟨i + 1, rfl, by omega, by rw [hht]; simp [hb], rfl, hS.sb⟩
        · refine Sh.again (q.r.length - (i + 1)) [(64, .int .i64 (i + 1 : Nat))] ?_
          exact ⟨i + 1, rfl, by omega, by rw [hht]; simp [hb], rfl, hS.sb⟩
      · rw [List.take_of_length_le (by omega)] at hno
        have hfree := freeI_at hlt hall hno
        have e : takeP q cl ep tk ho = ⟨⟨q.l, insL ⟨q.l[k].number, cl, ep, tk + ho⟩ q.r, q.most⟩, q.l[k], ⟨q.l[k].number, cl, ep, tk + ho⟩, 0⟩ := by unfold takeP; rw [if_neg hbad, hfree]
        rw [e]
        repeat' (first|refine VP ?_|refine Sh.la hS ?_|refine Sh.lb ?_|refine Sh.lc ?_|refine Sh.su ?_|(refine Sh.sa hS ?_;clear hS;intro w hS)|((first|refine Sh.aa hS ?_|refine Sh.ab hS ?_|refine Sh.ac hS ?_);clear hS;intro g w hS hge)|refine Sh.ix ?_|refine Sh.up ?_|refine Sh.sl1 ?_|refine Sh.sl2 ?_|refine Sh.sl5 ?_|refine Sh.sl3 ?_|refine Sh.sl4 ?_|refine Sh.eq ?_|refine Sh.ne ?_|refine Sh.ix2 ?_|refine Sh.ix3 ?_|refine Z.bu rfl rfl ?_|refine Z.buA rfl rfl ?_|refine VM ?_|refine Z.pl (R.cap rfl rfl) ?_|refine Z.pl R.mf ?_|refine Z.pl (R.min2 rfl rfl) ?_|refine G1 ?_|refine G2 ?_|refine G3 ?_|refine G4 ?_|with_reducible (first|refine V0 ?_|refine Z.block ?_)|((with_reducible refine Z.blX ?_ ?_);rotate_left;rfl)|refine VT ?_|refine VF ?_|((first|refine GS ?_ ?_|refine VB ?_ ?_)<;>intro hb<;>(try simp only [J1,J2,J3,J4,J5,J6] at hb)<;>(try (exfalso;first|omega|exact hb trivial))))
        rename Nat => gl
        replace hS : Sep r [] (PQ gq q :: .blk gl 133 (⟨q.l[k].number, cl, ep, tk + ho⟩ : Le).cells :: .blk gt 79 q.l[k].cells :: .blk g10 79 It.zero.cells :: .blk g11 133 Le.zero.cells :: F) _ := Sep.PQ_open.2 ⟨_, c, B, d, hS.sb⟩
        refine Z.eff (Z.cl (lease_z gq q ⟨q.l[k].number, cl, ep, tk + ho⟩ _ _ _ hS hl' hs) rfl ?_) rfl
        clear hS
        rintro e w ⟨v, rfl, hS⟩
        refine ⟨_, rfl, ?_⟩
        repeat' (first|refine VP ?_|refine Sh.la hS ?_|refine Sh.lb ?_|refine Sh.lc ?_|refine Sh.su ?_|(refine Sh.sa hS ?_;clear hS;intro w hS)|((first|refine Sh.aa hS ?_|refine Sh.ab hS ?_|refine Sh.ac hS ?_);clear hS;intro g w hS hge)|refine Sh.ix ?_|refine Sh.up ?_|refine Sh.sl1 ?_|refine Sh.sl2 ?_|refine Sh.sl5 ?_|refine Sh.sl3 ?_|refine Sh.sl4 ?_|refine Sh.eq ?_|refine Sh.ne ?_|refine Sh.ix2 ?_|refine Sh.ix3 ?_|refine Z.bu rfl rfl ?_|refine Z.buA rfl rfl ?_|refine VM ?_|refine Z.pl (R.cap rfl rfl) ?_|refine Z.pl R.mf ?_|refine Z.pl (R.min2 rfl rfl) ?_|refine G1 ?_|refine G2 ?_|refine G3 ?_|refine G4 ?_|with_reducible (first|refine V0 ?_|refine Z.block ?_)|((with_reducible refine Z.blX ?_ ?_);rotate_left;rfl)|refine VT ?_|refine VF ?_|((first|refine GS ?_ ?_|refine VB ?_ ?_)<;>intro hb<;>(try simp only [J1,J2,J3,J4,J5,J6] at hb)<;>(try (exfalso;first|omega|exact hb trivial))))
        refine D.startS (Lr := [.blk gl 133 (⟨q.l[k].number, cl, ep, tk + ho⟩ : Le).cells, .blk gt 79 q.l[k].cells]) (hS.sb) 3 5 (by kernel_rfl) rfl ?_
        replace hS := hS.drew
        refine Sh.dl 0 1 ?_
        refine Sh.dl 1 3 ?_
        refine D.eff 2 7 rfl D.wantedN (by kernel_rfl) (by kernel_rfl) (fun _ _ h => h) ?_
        refine Z.st hS rfl (by repeat (first | exact At.here | apply At.next)) rfl rfl ?_
        clear hS; intro w hS
        refine ⟨HM.s (hS.sb), ?_⟩
        refine D.eff 3 15 rfl D.wantedN (by kernel_rfl) (by kernel_rfl) (fun _ _ h => h) ?_
        refine Z.st hS rfl (by repeat (first | exact At.here | apply At.next)) rfl rfl ?_
        clear hS; intro w hS
        refine ⟨HM.last (by kernel_rfl), ?_⟩
        refine Sh.dp 4 31 ?_
        refine D.done (by kernel_rfl) ?_
        repeat' (first|refine VP ?_|refine Sh.la hS ?_|refine Sh.lb ?_|refine Sh.lc ?_|refine Sh.su ?_|(refine Sh.sa hS ?_;clear hS;intro w hS)|((first|refine Sh.aa hS ?_|refine Sh.ab hS ?_|refine Sh.ac hS ?_);clear hS;intro g w hS hge)|refine Sh.ix ?_|refine Sh.up ?_|refine Sh.sl1 ?_|refine Sh.sl2 ?_|refine Sh.sl5 ?_|refine Sh.sl3 ?_|refine Sh.sl4 ?_|refine Sh.eq ?_|refine Sh.ne ?_|refine Sh.ix2 ?_|refine Sh.ix3 ?_|refine Z.bu rfl rfl ?_|refine Z.buA rfl rfl ?_|refine VM ?_|refine Z.pl (R.cap rfl rfl) ?_|refine Z.pl R.mf ?_|refine Z.pl (R.min2 rfl rfl) ?_|refine G1 ?_|refine G2 ?_|refine G3 ?_|refine G4 ?_|with_reducible (first|refine V0 ?_|refine Z.block ?_)|((with_reducible refine Z.blX ?_ ?_);rotate_left;rfl)|refine VT ?_|refine VF ?_|((first|refine GS ?_ ?_|refine VB ?_ ?_)<;>intro hb<;>(try simp only [J1,J2,J3,J4,J5,J6] at hb)<;>(try (exfalso;first|omega|exact hb trivial))))
        first | refine Z.done hS Tryz.results70 (Z.RV.cell rfl (by repeat (first | exact At.here | apply At.next)) rfl (Z.RV.cell rfl (by repeat (first | exact At.here | apply At.next)) rfl (Z.RV.tmp rfl Z.RV.nil))) ?_ | refine Z.doneN hS Tryz.results70 (Z.RV.cell rfl (by repeat (first | exact At.here | apply At.next)) rfl (Z.RV.cell rfl (by repeat (first | exact At.here | apply At.next)) rfl (Z.RV.tmp rfl Z.RV.nil))) ?_
        exact ⟨rfl, hS.sb⟩
    · have hfree := freeI_none (l := q.l) (rs := q.r) (ep := ep) (tk := tk) fun j hj => hall j hj (by omega)
      have e : takeP q cl ep tk ho = ⟨q, .zero, .zero, 34⟩ := by unfold takeP; rw [if_neg hbad, hfree]
      rw [e]
      repeat' (first|refine VP ?_|refine Sh.la hS ?_|refine Sh.lb ?_|refine Sh.lc ?_|refine Sh.su ?_|(refine Sh.sa hS ?_;clear hS;intro w hS)|((first|refine Sh.aa hS ?_|refine Sh.ab hS ?_|refine Sh.ac hS ?_);clear hS;intro g w hS hge)|refine Sh.ix ?_|refine Sh.up ?_|refine Sh.sl1 ?_|refine Sh.sl2 ?_|refine Sh.sl5 ?_|refine Sh.sl3 ?_|refine Sh.sl4 ?_|refine Sh.eq ?_|refine Sh.ne ?_|refine Sh.ix2 ?_|refine Sh.ix3 ?_|refine Z.bu rfl rfl ?_|refine Z.buA rfl rfl ?_|refine VM ?_|refine Z.pl (R.cap rfl rfl) ?_|refine Z.pl R.mf ?_|refine Z.pl (R.min2 rfl rfl) ?_|refine G1 ?_|refine G2 ?_|refine G3 ?_|refine G4 ?_|with_reducible (first|refine V0 ?_|refine Z.block ?_)|((with_reducible refine Z.blX ?_ ?_);rotate_left;rfl)|refine VT ?_|refine VF ?_|((first|refine GS ?_ ?_|refine VB ?_ ?_)<;>intro hb<;>(try simp only [J1,J2,J3,J4,J5,J6] at hb)<;>(try (exfalso;first|omega|exact hb trivial))))
      first | refine Z.done hS Tryz.results70 (Z.RV.cell rfl (by repeat (first | exact At.here | apply At.next)) rfl (Z.RV.cell rfl (by repeat (first | exact At.here | apply At.next)) rfl (Z.RV.tmp rfl Z.RV.nil))) ?_ | refine Z.doneN hS Tryz.results70 (Z.RV.cell rfl (by repeat (first | exact At.here | apply At.next)) rfl (Z.RV.cell rfl (by repeat (first | exact At.here | apply At.next)) rfl (Z.RV.tmp rfl Z.RV.nil))) ?_
      exact ⟨rfl, Sep.PQ_open.2 ⟨A, c, B, d, hS.sb⟩⟩
  all_goals
    first | refine Z.done hS Tryz.results70 (Z.RV.cell rfl (by repeat (first | exact At.here | apply At.next)) rfl (Z.RV.cell rfl (by repeat (first | exact At.here | apply At.next)) rfl (Z.RV.tmp rfl Z.RV.nil))) ?_ | refine Z.doneN hS Tryz.results70 (Z.RV.cell rfl (by repeat (first | exact At.here | apply At.next)) rfl (Z.RV.cell rfl (by repeat (first | exact At.here | apply At.next)) rfl (Z.RV.tmp rfl Z.RV.nil))) ?_
    have e : takeP q cl ep tk ho = ⟨q, .zero, .zero, 1⟩ := by unfold takeP; rw [if_pos (by unfold takeBad; omega)]
    rw [e]
    exact ⟨rfl, Sep.PQ_open.2 ⟨A, c, B, d, hS.sb⟩⟩
end Go.Proofs.YtahackdfjcgkhaaGreat
