/-
  The program's queue: lease.
-/
import Derived.Test.YtahackdfjcgkhaaGreatNQt
namespace Go.Proofs.YtahackdfjcgkhaaGreat
open Go.RowKit
set_option linter.unusedSimpArgs false
set_option linter.unusedVariables false
attribute [local irreducible] Res.blk Res.sl Res.all Res.ex Res.pure Res.star

/-- A lease laid into its place, instead of an earlier one of its item. -/
def insL (x : Le) : List Le → List Le
  | [] => [x]
  | y :: l => if y.item < x.item then y :: insL x l else if y.item = x.item then x :: l else x :: y :: l
theorem insL_at {x : Le} : ∀ {l : List Le} {i : Nat}, LSpot l x.item i → insL x l = if ∃ hi : i < l.length, l[i].item = x.item then l.set i x else l.take i ++ x :: l.drop i
  | [], i, h => by have := h.le; simp at this; subst this; simp [insL]
  | y :: l, 0, h => by
    have h1 := h.hi 0 (by simp) (Nat.le_refl _)
    simp only [List.getElem_cons_zero] at h1
    simp only [insL, if_neg h1]
    by_cases he : y.item = x.item
    · rw [if_pos he, if_pos ⟨by simp, by simpa using he⟩]
      simp
    · rw [if_neg he, if_neg (by rintro ⟨_, h2⟩; exact he (by simpa using h2))]
      simp
  | y :: l, i + 1, h => by
    have h0 := h.lo 0 (by simp) (by omega)
    simp only [List.getElem_cons_zero] at h0
    have ih := insL_at (x := x) (l := l) (i := i) ⟨by have := h.le; simpa using this, fun j hj hji => by have := h.lo (j + 1) (by simpa using hj) (by omega); simpa using this, fun j hj hji => by have := h.hi (j + 1) (by simpa using hj) (by omega); simpa using this⟩
    simp only [insL, if_pos h0, ih]
    by_cases he : ∃ hi : i < l.length, l[i].item = x.item
    · have he' : ∃ hi : i + 1 < (y :: l).length, (y :: l)[i + 1].item = x.item := by
        obtain ⟨a, b⟩ := he
        exact ⟨by simpa using a, by simpa using b⟩
      rw [if_pos he, if_pos he']
      simp
    · have he' : ¬ ∃ hi : i + 1 < (y :: l).length, (y :: l)[i + 1].item = x.item := by
        rintro ⟨a, b⟩
        exact he ⟨by simpa using a, by simpa using b⟩
      rw [if_neg he, if_neg he']
      simp
set_option maxHeartbeats 4000000 in
theorem lease_z (gq : Nat) (q : Qu) (x : Le) (r : World) (F : List Res) (w : World) (hS : Sep r [] (PQ gq q :: F) w) (hl' : q.r.length ≤ 1000) (hs : q.r.Pairwise ltL) :
    Calls Tryz.prog 118 #[.pointer (some ⟨gq, 0, none⟩), x.val] w fun e w' => ∃ v, e = .returned v ∧ Sep r [] (PQ gq ⟨q.l, insL x q.r, q.most⟩ :: F) w' := by
  obtain ⟨A, c, B, d, hS⟩ := Sep.PQ_open.1 hS
  refine Z.enter Tryz.func118 Tryz.ntmps118 rfl rfl ?_
  repeat' (first|refine VP ?_|refine Sh.la hS ?_|refine Sh.lb ?_|refine Sh.lc ?_|refine Sh.su ?_|(refine Sh.sa hS ?_;clear hS;intro w hS)|((first|refine Sh.aa hS ?_|refine Sh.ab hS ?_|refine Sh.ac hS ?_);clear hS;intro g w hS hge)|refine Sh.ix ?_|refine Sh.up ?_|refine Sh.sl1 ?_|refine Sh.sl2 ?_|refine Sh.sl5 ?_|refine Sh.sl3 ?_|refine Sh.sl4 ?_|refine Sh.eq ?_|refine Sh.ne ?_|refine Sh.ix2 ?_|refine Sh.ix3 ?_|refine Z.bu rfl rfl ?_|refine Z.buA rfl rfl ?_|refine VM ?_|refine Z.pl (R.cap rfl rfl) ?_|refine Z.pl R.mf ?_|refine Z.pl (R.min2 rfl rfl) ?_|refine G1 ?_|refine G2 ?_|refine G3 ?_|refine G4 ?_|with_reducible (first|refine V0 ?_|refine Z.block ?_)|((with_reducible refine Z.blX ?_ ?_);rotate_left;rfl)|refine VT ?_|refine VF ?_|((first|refine GS ?_ ?_|refine VB ?_ ?_)<;>intro hb<;>(try simp only [J1,J2,J3,J4,J5,J6] at hb)<;>(try (exfalso;first|omega|exact hb trivial))))
  rename Nat => gx
  refine Z.cut [4, 5, 6, 7, 8, 9, 10, 11, 12, 13, 14, 15] (fun w s => ∃ (i : Nat) (b : Bool), s = [(4, .int .i64 i), (5, .bool b)] ∧ LSpot q.r x.item i ∧ (b = true ↔ ∃ hi : i < q.r.length, q.r[i].item = x.item) ∧ Sep r [] (.blk gx 133 x.cells :: .blk gq 167 [.slice A q.l.length c, .slice B q.r.length d, .int .i64 q.most] :: .sl 79 2 (.slice A q.l.length c) (q.l.map It.cells) :: .sl 133 4 (.slice B q.r.length d) (q.r.map Le.cells) :: F) w) ?_ ?_
  · refine D.startS hS 12 12 (by kernel_rfl) rfl ?_
    replace hS := hS.drew
    refine Sh.dp 0 1 ?_
    refine Sh.dp 1 3 ?_
    refine Sh.dp 2 7 ?_
    refine Sh.dp 4 23 ?_
    refine Sh.dl 3 31 ?_
    refine Sh.dl 5 63 ?_
    refine D.eff 6 127 rfl D.wantedN (by kernel_rfl) (by kernel_rfl) (fun _ _ h => h) ?_
    refine Z.cl (lsearch_z q.r x.item _ _ _ _ hS (Reads.of_at (by repeat (first | exact At.here | apply At.next))) (by omega) hs) rfl ?_
    clear hS
    rintro e w ⟨i, b, rfl, hsp, hbi, hS⟩
    refine ⟨_, rfl, ?_⟩
    refine ⟨HM.s (hS.sb), ?_⟩
    refine Sh.dp 7 255 ?_
    refine Sh.dp 8 511 ?_
    refine Sh.dp 9 1023 ?_
    refine Sh.dp 10 2047 ?_
    refine Sh.dp 11 4095 ?_
    refine D.done (by kernel_rfl) ?_
    refine Sh.cut [(4, _), (5, _)] ?_
    exact ⟨i, b, rfl, hsp, hbi, hS.sb⟩
  clear hS
  rintro f1 w _ ⟨i, b, rfl, hsp, hbi, hS⟩
  have hins := insL_at hsp
  cases b
  · have hno : ¬ ∃ hi : i < q.r.length, q.r[i].item = x.item := fun h => by have := hbi.2 h; cases this
    rw [if_neg hno] at hins
    have hle := hsp.le
    repeat' (first|refine VP ?_|refine Sh.la hS ?_|refine Sh.lb ?_|refine Sh.lc ?_|refine Sh.su ?_|(refine Sh.sa hS ?_;clear hS;intro w hS)|((first|refine Sh.aa hS ?_|refine Sh.ab hS ?_|refine Sh.ac hS ?_);clear hS;intro g w hS hge)|refine Sh.ix ?_|refine Sh.up ?_|refine Sh.sl1 ?_|refine Sh.sl2 ?_|refine Sh.sl5 ?_|refine Sh.sl3 ?_|refine Sh.sl4 ?_|refine Sh.eq ?_|refine Sh.ne ?_|refine Sh.ix2 ?_|refine Sh.ix3 ?_|refine Z.bu rfl rfl ?_|refine Z.buA rfl rfl ?_|refine VM ?_|refine Z.pl (R.cap rfl rfl) ?_|refine Z.pl R.mf ?_|refine Z.pl (R.min2 rfl rfl) ?_|refine G1 ?_|refine G2 ?_|refine G3 ?_|refine G4 ?_|with_reducible (first|refine V0 ?_|refine Z.block ?_)|((with_reducible refine Z.blX ?_ ?_);rotate_left;rfl)|refine VT ?_|refine VF ?_|((first|refine GS ?_ ?_|refine VB ?_ ?_)<;>intro hb<;>(try simp only [J1,J2,J3,J4,J5,J6] at hb)<;>(try (exfalso;first|omega|exact hb trivial))))
    refine D.startS (Lr := [.blk gx 133 x.cells, .blk gq 167 [.slice A q.l.length c, .slice B q.r.length d, .int .i64 q.most]]) (hS.sb) 11 12 (by kernel_rfl) rfl ?_
    replace hS := hS.drew
    refine Sh.dp 0 1 ?_
    refine Sh.dp 1 3 ?_
    refine Sh.dp 2 7 ?_
    refine Sh.dp 3 15 ?_
    refine Sh.dp 5 47 ?_
    refine Sh.dl 4 63 ?_
    refine Sh.dl 6 127 ?_
    refine D.eff 7 255 rfl D.wantedN (by kernel_rfl) (by kernel_rfl) (fun _ _ h => h) ?_
    refine Z.bs hS rfl rfl rfl ?_
    clear hS; intro g w hS hge
    refine ⟨HM.s (hS.sb), ?_⟩
    refine D.eff 8 511 rfl D.wantedN (by kernel_rfl) (by kernel_rfl) (fun _ _ h => h) ?_
    replace hS : Sep r [] (.sl 133 4 (.slice B q.r.length d) (q.r.map Le.cells) :: .blk g 133 x.cells :: .blk gx 133 x.cells :: .blk gq 167 [.slice A q.l.length c, .slice B q.r.length d, .int .i64 q.most] :: .sl 79 2 (.slice A q.l.length c) (q.l.map It.cells) :: F) _ := hS.sb
    refine Z.cl (le_insert q.r i x B d g _ _ _ hS hle (by omega)) rfl ?_
    clear hS
    rintro e w ⟨B1, d1, rfl, hS⟩
    refine ⟨_, rfl, ?_⟩
    refine ⟨HM.s (hS.sb), ?_⟩
    refine Sh.dp 9 1023 ?_
    refine Sh.dp 10 2047 ?_
    refine D.eff 11 4095 rfl D.wantedN (by kernel_rfl) (by kernel_rfl) (fun _ _ h => h) ?_
    refine Z.st hS rfl (by repeat (first | exact At.here | apply At.next)) rfl rfl ?_
    clear hS; intro w hS
    refine ⟨HM.last (by kernel_rfl), ?_⟩
    refine D.done (by kernel_rfl) ?_
    repeat' (first|refine VP ?_|refine Sh.la hS ?_|refine Sh.lb ?_|refine Sh.lc ?_|refine Sh.su ?_|(refine Sh.sa hS ?_;clear hS;intro w hS)|((first|refine Sh.aa hS ?_|refine Sh.ab hS ?_|refine Sh.ac hS ?_);clear hS;intro g w hS hge)|refine Sh.ix ?_|refine Sh.up ?_|refine Sh.sl1 ?_|refine Sh.sl2 ?_|refine Sh.sl5 ?_|refine Sh.sl3 ?_|refine Sh.sl4 ?_|refine Sh.eq ?_|refine Sh.ne ?_|refine Sh.ix2 ?_|refine Sh.ix3 ?_|refine Z.bu rfl rfl ?_|refine Z.buA rfl rfl ?_|refine VM ?_|refine Z.pl (R.cap rfl rfl) ?_|refine Z.pl R.mf ?_|refine Z.pl (R.min2 rfl rfl) ?_|refine G1 ?_|refine G2 ?_|refine G3 ?_|refine G4 ?_|with_reducible (first|refine V0 ?_|refine Z.block ?_)|((with_reducible refine Z.blX ?_ ?_);rotate_left;rfl)|refine VT ?_|refine VF ?_|((first|refine GS ?_ ?_|refine VB ?_ ?_)<;>intro hb<;>(try simp only [J1,J2,J3,J4,J5,J6] at hb)<;>(try (exfalso;first|omega|exact hb trivial))))
    first | refine Z.done hS Tryz.results118 Z.RV.nil ?_ | refine Z.doneN hS Tryz.results118 Z.RV.nil ?_
    refine ⟨_, rfl, Sep.PQ_open.2 ⟨A, c, B1, d1, ?_⟩⟩
    have hlen : (insL x q.r).length = q.r.length + 1 := by rw [hins]; simp; omega
    simp only [hlen]
    rw [hins]
    exact hS.sb
  · obtain ⟨hi, hyes⟩ := hbi.1 rfl
    rw [if_pos ⟨hi, hyes⟩] at hins
    obtain ⟨g0, rfl⟩ := Z.Sep_slform hS (.next (.next (.next .here))) (by simpa using (by omega : 0 < q.r.length))
    repeat' (first|refine VP ?_|refine Sh.la hS ?_|refine Sh.lb ?_|refine Sh.lc ?_|refine Sh.su ?_|(refine Sh.sa hS ?_;clear hS;intro w hS)|((first|refine Sh.aa hS ?_|refine Sh.ab hS ?_|refine Sh.ac hS ?_);clear hS;intro g w hS hge)|refine Sh.ix ?_|refine Sh.up ?_|refine Sh.sl1 ?_|refine Sh.sl2 ?_|refine Sh.sl5 ?_|refine Sh.sl3 ?_|refine Sh.sl4 ?_|refine Sh.eq ?_|refine Sh.ne ?_|refine Sh.ix2 ?_|refine Sh.ix3 ?_|refine Z.bu rfl rfl ?_|refine Z.buA rfl rfl ?_|refine VM ?_|refine Z.pl (R.cap rfl rfl) ?_|refine Z.pl R.mf ?_|refine Z.pl (R.min2 rfl rfl) ?_|refine G1 ?_|refine G2 ?_|refine G3 ?_|refine G4 ?_|with_reducible (first|refine V0 ?_|refine Z.block ?_)|((with_reducible refine Z.blX ?_ ?_);rotate_left;rfl)|refine VT ?_|refine VF ?_|((first|refine GS ?_ ?_|refine VB ?_ ?_)<;>intro hb<;>(try simp only [J1,J2,J3,J4,J5,J6] at hb)<;>(try (exfalso;first|omega|exact hb trivial))))
    refine D.startS hS 7 8 (by kernel_rfl) rfl ?_
    replace hS := hS.drew
    refine Sh.dp 0 1 ?_
    refine Sh.dp 1 3 ?_
    refine Sh.dp 2 7 ?_
    refine Sh.dp 4 23 ?_
    refine Sh.dl 3 31 ?_
    refine Sh.dl 5 63 ?_
    first | refine D.ixn 6 127 rfl D.wantedN (by kernel_rfl) rfl rfl rfl (by omega) ?_ | refine D.ix 6 127 rfl D.wantedN (by kernel_rfl) rfl rfl rfl (by omega) ?_ | refine D.ia 6 127 rfl D.wantedN (by kernel_rfl) rfl rfl rfl (by omega) ?_
    refine D.eff 7 255 rfl D.wantedN (by kernel_rfl) (by kernel_rfl) (fun _ _ h => h) ?_
    refine Z.stEm x hS rfl (by repeat (first | exact At.here | apply At.next)) hi rfl rfl rfl rfl ?_
    clear hS; intro w hS
    refine ⟨HM.last (by kernel_rfl), ?_⟩
    refine D.done (by kernel_rfl) ?_
    repeat' (first|refine VP ?_|refine Sh.la hS ?_|refine Sh.lb ?_|refine Sh.lc ?_|refine Sh.su ?_|(refine Sh.sa hS ?_;clear hS;intro w hS)|((first|refine Sh.aa hS ?_|refine Sh.ab hS ?_|refine Sh.ac hS ?_);clear hS;intro g w hS hge)|refine Sh.ix ?_|refine Sh.up ?_|refine Sh.sl1 ?_|refine Sh.sl2 ?_|refine Sh.sl5 ?_|refine Sh.sl3 ?_|refine Sh.sl4 ?_|refine Sh.eq ?_|refine Sh.ne ?_|refine Sh.ix2 ?_|refine Sh.ix3 ?_|refine Z.bu rfl rfl ?_|refine Z.buA rfl rfl ?_|refine VM ?_|refine Z.pl (R.cap rfl rfl) ?_|refine Z.pl R.mf ?_|refine Z.pl (R.min2 rfl rfl) ?_|refine G1 ?_|refine G2 ?_|refine G3 ?_|refine G4 ?_|with_reducible (first|refine V0 ?_|refine Z.block ?_)|((with_reducible refine Z.blX ?_ ?_);rotate_left;rfl)|refine VT ?_|refine VF ?_|((first|refine GS ?_ ?_|refine VB ?_ ?_)<;>intro hb<;>(try simp only [J1,J2,J3,J4,J5,J6] at hb)<;>(try (exfalso;first|omega|exact hb trivial))))
    first | refine Z.done hS Tryz.results118 Z.RV.nil ?_ | refine Z.doneN hS Tryz.results118 Z.RV.nil ?_
    refine ⟨_, rfl, Sep.PQ_open.2 ⟨A, c, some ⟨g0, 0, none⟩, d, ?_⟩⟩
    have hlen : (insL x q.r).length = q.r.length := by rw [hins]; simp
    simp only [hlen]
    rw [hins]
    exact hS.sb
end Go.Proofs.YtahackdfjcgkhaaGreat
