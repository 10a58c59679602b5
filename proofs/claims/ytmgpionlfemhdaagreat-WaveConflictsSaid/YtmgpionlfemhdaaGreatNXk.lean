/-
  Which cells are in conflict: the program's Conflict answers as the reference's, for all cells, and both ways round.
-/
import Derived.Test.YtmgpionlfemhdaaGreatNXi
import Derived.Test.YtmgpionlfemhdaaGreatNXj
namespace Go.Proofs.YtmgpionlfemhdaaGreat
open Go.RowKit Go.ChangeShapes Go.WideShapes Go.ChangeAt
set_option linter.unusedSimpArgs false
set_option linter.unusedVariables false

set_option maxHeartbeats 4000000 in
theorem conflicts37_z (l : List Int) (A : Option Addr) (cap : Nat) (l2 : List Int) (A2 : Option Addr) (cap2 : Nat) (pk : Bool) (z3 z4 : Int) (r : World) (hr0 : Rows' r 1 (.slice A l.length cap) (l.map ztC)) (hr1 : Rows' r 1 (.slice A2 l2.length cap2) (l2.map ztC)) (_ : -9223372036854775808 ≤ z3 ∧ z3 ≤ 9223372036854775807) (_ : -9223372036854775808 ≤ z4 ∧ z4 ≤ 9223372036854775807) :
    Calls Tryz.prog 3 #[.slice A l.length cap, .slice A2 l2.length cap2, .bool pk, .int .i64 z3, .int .i64 z4] r fun e w' => e = .returned (.bool true) ∧ Chg [] r w' := by
  have hS := Sep.root r
  refine Z.enter Tryz.func3 Tryz.ntmps3 rfl rfl ?_
  repeat' (first|refine K ?_|(refine Sh.sa hS ?_;clear hS;intro w hS)|(refine K3 ?_;clear hS;intro g w hS hge)|((first|refine GS ?_ ?_|refine VB ?_ ?_)<;>intro hb<;>(try simp only [J1,J2,J3,J4,J5,J6] at hb)<;>(try (exfalso;first|omega|exact hb trivial))))
  refine Z.eff (Z.cl (awake37_z r [] _ hS) rfl ?_) rfl
  clear hS
  rintro e w ⟨rfl, hS⟩
  refine ⟨_, rfl, ?_⟩
  repeat' (first|refine K ?_|(refine Sh.sa hS ?_;clear hS;intro w hS)|(refine K3 ?_;clear hS;intro g w hS hge)|((first|refine GS ?_ ?_|refine VB ?_ ?_)<;>intro hb<;>(try simp only [J1,J2,J3,J4,J5,J6] at hb)<;>(try (exfalso;first|omega|exact hb trivial))))
  refine Z.eff (Z.cl (lightS_z A l.length cap _ _ _ hS) rfl ?_) rfl
  clear hS
  rintro e w ⟨rfl, hS⟩
  refine ⟨_, rfl, ?_⟩
  repeat' (first|refine K ?_|(refine Sh.sa hS ?_;clear hS;intro w hS)|(refine K3 ?_;clear hS;intro g w hS hge)|((first|refine GS ?_ ?_|refine VB ?_ ?_)<;>intro hb<;>(try simp only [J1,J2,J3,J4,J5,J6] at hb)<;>(try (exfalso;first|omega|exact hb trivial))))
  · refine Dnt Tryz.results3 ?_
    exact ⟨rfl, hS.chg⟩
  rename _ ≤ (150 : Int) => hl1
  refine Z.eff (Z.cl (lightS_z A2 l2.length cap2 _ _ _ hS) rfl ?_) rfl
  clear hS
  rintro e w ⟨rfl, hS⟩
  refine ⟨_, rfl, ?_⟩
  repeat' (first|refine K ?_|(refine Sh.sa hS ?_;clear hS;intro w hS)|(refine K3 ?_;clear hS;intro g w hS hge)|((first|refine GS ?_ ?_|refine VB ?_ ?_)<;>intro hb<;>(try simp only [J1,J2,J3,J4,J5,J6] at hb)<;>(try (exfalso;first|omega|exact hb trivial))))
  · refine Dnt Tryz.results3 ?_
    exact ⟨rfl, hS.chg⟩
  rename _ ≤ (150 : Int) => hl2
  refine Z.eff (Z.cl (worlds_z A l cap A2 l2 cap2 pk r [] _ hS (Reads.root hr0) (Reads.root hr1) (by omega) (by omega)) rfl ?_) rfl
  clear hS
  rintro e w ⟨c, a, s, b, rfl, ho, hs, hS⟩
  refine ⟨_, rfl, ?_⟩
  have hk := ho.k
  repeat' (first|refine K ?_|(refine Sh.sa hS ?_;clear hS;intro w hS)|(refine K3 ?_;clear hS;intro g w hS hge)|((first|refine GS ?_ ?_|refine VB ?_ ?_)<;>intro hb<;>(try simp only [J1,J2,J3,J4,J5,J6] at hb)<;>(try (exfalso;first|omega|exact hb trivial))))
  rename_i gc _ _ _ _
  rename Nat => gs
  refine Z.lpS [10, 13, 14, 32, 33, 34, 35, 36, 37, 38, 39, 40, 41, 42, 43, 44, 45, 46, 47, 48, 49, 50, 51, 52, 53, 54, 55, 56, 57, 58, 59, 60, 61, 62, 63, 64, 65, 66, 67, 68, 69] (fun m w z => ∃ i : Int, z = [(13, .int .i64 i)] ∧ (-1 ≤ i ∧ i ≤ c.cells.length + 1) ∧ m = (c.cells.length + 1 - i).toNat ∧ Sep r [] (.blk gs 34 (s.cc c b) :: .blk gc 30 (c.cl a) :: CO c a :: SO c s b :: []) w) _ [(13, .int .i64 (-1))] (by repeat (first | exact trivial | refine ⟨rfl, ?_⟩)) ⟨-1, rfl, by omega, rfl, hS.sb⟩ ?_
  clear hS
  rintro m f0 w _ ⟨i, rfl, hi, rfl, hS⟩
  by_cases hlt : i ≤ c.cells.length
  · repeat' (first|refine K ?_|(refine Sh.sa hS ?_;clear hS;intro w hS)|(refine K3 ?_;clear hS;intro g w hS hge)|((first|refine GS ?_ ?_|refine VB ?_ ?_)<;>intro hb<;>(try simp only [J1,J2,J3,J4,J5,J6] at hb)<;>(try (exfalso;first|omega|exact hb trivial))))
    refine Z.lpS [10, 14, 39, 40, 41, 42, 43, 44, 45, 46, 47, 48, 49, 50, 51, 52, 53, 54, 55, 56, 57, 58, 59, 60, 61, 62, 63, 64, 65, 66, 67, 68, 69] (fun m w z => ∃ j : Int, z = [(14, .int .i64 j)] ∧ (-1 ≤ j ∧ j ≤ c.cells.length + 1) ∧ m = (c.cells.length + 1 - j).toNat ∧ Sep r [] (.blk gs 34 (s.cc c b) :: .blk gc 30 (c.cl a) :: CO c a :: SO c s b :: []) w) _ [(14, .int .i64 (-1))] (by repeat (first | exact trivial | refine ⟨rfl, ?_⟩)) ⟨-1, rfl, by omega, rfl, hS.sb⟩ ?_
    clear hS
    rintro m f1 w _ ⟨j, rfl, hj, rfl, hS⟩
    by_cases hjl : j ≤ c.cells.length
    · repeat' (first|refine K ?_|(refine Sh.sa hS ?_;clear hS;intro w hS)|(refine K3 ?_;clear hS;intro g w hS hge)|((first|refine GS ?_ ?_|refine VB ?_ ?_)<;>intro hb<;>(try simp only [J1,J2,J3,J4,J5,J6] at hb)<;>(try (exfalso;first|omega|exact hb trivial))))
      obtain ⟨bb, hbb⟩ : ∃ bb, conf c s i j = bb := ⟨_, rfl⟩
      refine D.startS (Lr := [.blk gs 34 (s.cc c b), .blk gc 30 (c.cl a), CO c a, SO c s b]) (hS.sb) 24 24 (by kernel_rfl) rfl ?_
      replace hS := hS.drew
      refine Sh.dp 2 4 ?_
      refine Sh.dp 3 12 ?_
      refine Sh.dp 7 140 ?_
      refine Sh.dp 8 396 ?_
      refine Sh.dl 0 397 ?_
      refine Sh.dl 1 399 ?_
      refine Sh.dl 5 431 ?_
      refine Sh.dl 6 495 ?_
      refine D.eff 4 511 rfl D.wantedN (by kernel_rfl) (by kernel_rfl) (fun _ _ h => h) ?_
      refine Z.cl (pconf_z c a s b i j _ _ _ hS ho hs (StC.of_so (k := _) (by repeat (first | exact At.here | apply At.next)))) rfl ?_
      clear hS
      rintro e w ⟨rfl, hS⟩
      refine ⟨_, rfl, ?_⟩
      rw [hbb]
      refine ⟨HM.s (hS.sb), ?_⟩
      refine D.eff 9 1023 rfl D.wantedN (by kernel_rfl) (by kernel_rfl) (fun _ _ h => h) ?_
      refine Z.cl (rconf_z c a s b i j _ _ _ hS ho hs (StC.of_so (k := _) (by repeat (first | exact At.here | apply At.next)))) rfl ?_
      clear hS
      rintro e w ⟨rfl, hS⟩
      refine ⟨_, rfl, ?_⟩
      rw [hbb]
      refine ⟨HM.s (hS.sb), ?_⟩
      first | refine D.pr 10 2047 rfl D.wantedN (by kernel_rfl) rfl ?_ | refine D.pl 10 2047 rfl D.wantedN (by kernel_rfl) (R.nea rfl rfl rfl rfl) ?_
      refine Sh.dp 11 4095 ?_
      refine D.slot 57 rfl (fun hb => by exfalso; (try simp only [decide_eq_true_eq, decide_eq_false_iff_not, Bool.not_eq_true', Bool.not_eq_false', Int.not_lt, Int.not_le] at hb) <;> first | omega | exact hb trivial | cases hb | simp at hb) (fun hb => ?_)
      (try simp only [decide_eq_true_eq, decide_eq_false_iff_not, Bool.not_eq_true', Bool.not_eq_false', Int.not_lt, Int.not_le] at hb)
      refine Sh.dp 14 20479 ?_
      refine Sh.dp 15 53247 ?_
      refine Sh.dp 19 577535 ?_
      refine Sh.dp 20 1626111 ?_
      refine Sh.dl 12 1630207 ?_
      refine Sh.dl 13 1638399 ?_
      refine Sh.dl 17 1769471 ?_
      refine Sh.dl 18 2031615 ?_
      refine D.eff 16 2097151 rfl (D.wantedT rfl rfl) (by kernel_rfl) (by kernel_rfl) (fun _ _ h => h) ?_
      refine WE.guard ?_
      refine Z.cl (pconf_z c a s b i j _ _ _ hS ho hs (StC.of_so (k := _) (by repeat (first | exact At.here | apply At.next)))) rfl ?_
      clear hS
      rintro e w ⟨rfl, hS⟩
      refine ⟨_, rfl, ?_⟩
      rw [hbb]
      refine ⟨HM.s (hS.sb), ?_⟩
      refine D.eff 21 4194303 rfl (D.wantedT rfl rfl) (by kernel_rfl) (by kernel_rfl) (fun _ _ h => h) ?_
      refine WE.guard ?_
      refine Z.cl (pconf_z c a s b j i _ _ _ hS ho hs (StC.of_so (k := _) (by repeat (first | exact At.here | apply At.next)))) rfl ?_
      clear hS
      rintro e w ⟨rfl, hS⟩
      refine ⟨_, rfl, ?_⟩
      rw [conf_comm c s j i, hbb]
      refine ⟨HM.s (hS.sb), ?_⟩
      first | refine D.pr 22 8388607 rfl (D.wantedT rfl rfl) (by kernel_rfl) rfl ?_ | refine D.pl 22 8388607 rfl (D.wantedT rfl rfl) (by kernel_rfl) (R.nea rfl rfl rfl rfl) ?_
      refine Sh.dp 23 16777215 ?_
      refine D.done (by kernel_rfl) ?_
      cases bb
      all_goals
        repeat' (first|refine K ?_|(refine Sh.sa hS ?_;clear hS;intro w hS)|(refine K3 ?_;clear hS;intro g w hS hge)|((first|refine GS ?_ ?_|refine VB ?_ ?_)<;>intro hb<;>(try simp only [J1,J2,J3,J4,J5,J6] at hb)<;>(try (exfalso;first|omega|exact hb trivial))))
        refine Sh.again ((c.cells.length + 1 - (j + 1)).toNat) [(14, .int .i64 (j + 1))] ?_
        exact ⟨j + 1, rfl, by omega, rfl, hS.sb⟩
    · repeat' (first|refine K ?_|(refine Sh.sa hS ?_;clear hS;intro w hS)|(refine K3 ?_;clear hS;intro g w hS hge)|((first|refine GS ?_ ?_|refine VB ?_ ?_)<;>intro hb<;>(try simp only [J1,J2,J3,J4,J5,J6] at hb)<;>(try (exfalso;first|omega|exact hb trivial))))
      refine Sh.again ((c.cells.length + 1 - (i + 1)).toNat) [(13, .int .i64 (i + 1))] ?_
      exact ⟨i + 1, rfl, by omega, rfl, hS.sb⟩
  · repeat' (first|refine K ?_|(refine Sh.sa hS ?_;clear hS;intro w hS)|(refine K3 ?_;clear hS;intro g w hS hge)|((first|refine GS ?_ ?_|refine VB ?_ ?_)<;>intro hb<;>(try simp only [J1,J2,J3,J4,J5,J6] at hb)<;>(try (exfalso;first|omega|exact hb trivial))))
    obtain ⟨bb, hbb⟩ : ∃ bb, conf c s z3 z4 = bb := ⟨_, rfl⟩
    refine D.startS (Lr := [.blk gs 34 (s.cc c b), .blk gc 30 (c.cl a), CO c a, SO c s b]) (hS.sb) 12 12 (by kernel_rfl) rfl ?_
    replace hS := hS.drew
    refine Sh.dp 2 4 ?_
    refine Sh.dp 3 12 ?_
    refine Sh.dp 7 140 ?_
    refine Sh.dp 8 396 ?_
    refine Sh.dl 0 397 ?_
    refine Sh.dl 1 399 ?_
    refine Sh.dl 5 431 ?_
    refine Sh.dl 6 495 ?_
    refine D.eff 4 511 rfl D.wantedN (by kernel_rfl) (by kernel_rfl) (fun _ _ h => h) ?_
    refine Z.cl (pconf_z c a s b z3 z4 _ _ _ hS ho hs (StC.of_so (k := _) (by repeat (first | exact At.here | apply At.next)))) rfl ?_
    clear hS
    rintro e w ⟨rfl, hS⟩
    refine ⟨_, rfl, ?_⟩
    rw [hbb]
    refine ⟨HM.s (hS.sb), ?_⟩
    refine D.eff 9 1023 rfl D.wantedN (by kernel_rfl) (by kernel_rfl) (fun _ _ h => h) ?_
    refine Z.cl (rconf_z c a s b z3 z4 _ _ _ hS ho hs (StC.of_so (k := _) (by repeat (first | exact At.here | apply At.next)))) rfl ?_
    clear hS
    rintro e w ⟨rfl, hS⟩
    refine ⟨_, rfl, ?_⟩
    rw [hbb]
    refine ⟨HM.s (hS.sb), ?_⟩
    first | refine D.pr 10 2047 rfl D.wantedN (by kernel_rfl) rfl ?_ | refine D.pl 10 2047 rfl D.wantedN (by kernel_rfl) (R.eqa rfl rfl rfl rfl) ?_
    refine Sh.dp 11 4095 ?_
    refine D.done (by kernel_rfl) ?_
    cases bb
    all_goals
      repeat' (first|refine K ?_|(refine Sh.sa hS ?_;clear hS;intro w hS)|(refine K3 ?_;clear hS;intro g w hS hge)|((first|refine GS ?_ ?_|refine VB ?_ ?_)<;>intro hb<;>(try simp only [J1,J2,J3,J4,J5,J6] at hb)<;>(try (exfalso;first|omega|exact hb trivial))))
      refine Dnt Tryz.results3 ?_
      exact ⟨rfl, hS.chg⟩
set_option maxRecDepth 100000 in
theorem waveConflicts_lifted (os : Os) (started : os.Started) (H : Type) (enc : TypeId × Value → H) :
    ReturnsInHanded {} Tryz.checked os 3 .any (Rows.waveConflictsSpec.pre6 enc Tryz.prog Tryz.f3 Rows.waveConflictsRow.domain false) (Rows.waveConflictsSpec.post enc Tryz.prog Tryz.f3 false Rows.waveConflictsRow.fresh Rows.waveConflictsRow.handsOn Rows.waveConflictsRow.again) := by
  refine returnsInHanded_of_change (C := Tryz.checked) Tryz.own started (by kernel_rfl) Tryz.func3
    (ChangeSpec.witness6 (enc := enc) (C := Tryz.checked) false ⟨#[], #[.slice none 0 0, .slice none 0 0, .bool false, .int .i64 0, .int .i64 0], []⟩ 8 (by kernel_rfl) (by kernel_rfl) (by kernel_rfl) (by kernel_rfl)) ?_
  intro W base args ds gs before hval0 hW _ _
  have hval : ∀ (j : Nat) t v, Tryz.f3.params[j]? = some t → args[j]? = some v → Value.okWide Tryz.prog W .any base t v := hval0
  have hW0 := hW
  obtain ⟨p, q, hA0, hV, hpq, _, _⟩ := hW
  obtain ⟨la⟩ := args
  have hA : DataW.TrodAll enc Tryz.prog W 0 (fun _ => true) true [22, 22, 4, 3, 3] la ds p := by have := hA0; rw [Tryz.params3] at this; exact this
  rw [Tryz.params3] at hval
  obtain ⟨v0, la0, d0, ds0, p0, q0, rfl, rfl, rfl, h0, hA⟩ := trodAll_cons hA
  obtain ⟨v1, la1, d1, ds1, p1, q1, rfl, rfl, rfl, h1, hA⟩ := trodAll_cons hA
  obtain ⟨v2, la2, d2, ds2, p2, q2, rfl, rfl, rfl, h2, hA⟩ := trodAll_cons hA
  obtain ⟨v3, la3, d3, ds3, p3, q3, rfl, rfl, rfl, h3, hA⟩ := trodAll_cons hA
  obtain ⟨v4, la4, d4, ds4, p4, q4, rfl, rfl, rfl, h4, hA⟩ := trodAll_cons hA
  obtain ⟨rfl, rfl, rfl⟩ := trodAll_nil hA
  obtain ⟨l0, A0, cap0, rfl, _, hr0⟩ := arg_intsr (hval 0 _ _ rfl rfl) h0
  obtain ⟨l1, A1, cap1, rfl, _, hr1⟩ := arg_intsr (hval 1 _ _ rfl rfl) h1
  obtain ⟨b2, rfl⟩ := arg_bool (hval 2 _ _ rfl rfl) h2
  obtain ⟨z3, rfl, hr3⟩ := arg_int (hval 3 _ _ rfl rfl) h3
  obtain ⟨z4, rfl, hr4⟩ := arg_int (hval 4 _ _ rfl rfl) h4
  have fin : Calls Tryz.prog 3 _ W fun e W' => e = .returned (.bool true) ∧ Chg [] W W' := conflicts37_z l0 A0 cap0 l1 A1 cap1 b2 z3 z4 W hr0 hr1  hr3 hr4
  refine fin.mono fun e W' ⟨he, hc⟩ => ⟨_, he, ?_⟩
  exact law_post Tryz.laidOut (by rw [Tryz.params3]; intro t ht; simp only [List.mem_cons, List.not_mem_nil, or_false] at ht; rcases ht with rfl | rfl | rfl | rfl | rfl <;> exact ⟨by kernel_rfl, of_decide_eq_true (by kernel_rfl)⟩) rfl rfl Tryz.underlying4 rfl hW0 hc.below
theorem waveConflicts_holds : Rows.WaveConflictsSaid :=
  OpenClaim.holds_of_wide 3 Tryz.f3 rfl rfl rfl rfl rfl rfl rfl ⟨rfl, rfl, rfl, rfl, rfl⟩ rfl rfl rfl rfl rfl (by kernel_rfl) Tryz.func3 (by kernel_rfl)
    (of_decide_eq_true (by kernel_rfl)) (by unfold Func.isWrapper; rw [if_neg (of_decide_eq_false (by kernel_rfl))]; exact ⟨rfl, rfl⟩)
    (fun os started H enc _ => waveConflicts_lifted os started H enc)
end Go.Proofs.YtmgpionlfemhdaaGreat
