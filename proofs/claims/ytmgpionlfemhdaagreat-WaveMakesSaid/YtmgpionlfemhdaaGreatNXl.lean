/-
  How cells are divided into waves: the program's Make answers as the reference's, for any list of numbers.
-/
import Derived.Test.YtmgpionlfemhdaaGreatNXi
import Derived.Test.YtmgpionlfemhdaaGreatNXj
namespace Go.Proofs.YtmgpionlfemhdaaGreat
open Go.RowKit Go.ChangeShapes Go.WideShapes Go.ChangeAt
set_option linter.unusedSimpArgs false
set_option linter.unusedVariables false

theorem mk_bds {c : Cfg} {s : Sta} {l : List Int} {W : List Wv} (ho : c.ok) (h : W.map Wv.l = (mkR c s l).1) : W.length ≤ l.length ∧ ∀ x, x ∈ W → x.l.length ≤ l.length := by
  obtain ⟨h1, h2⟩ := mkR_bd (c := c) (s := s) (l := l) ho.b.1
  rw [← h] at h1 h2
  exact ⟨by simpa using h1, fun x hx => h2 _ (List.mem_map.2 ⟨x, hx, rfl⟩)⟩
set_option maxHeartbeats 4000000 in
theorem makes37_z (l : List Int) (A : Option Addr) (cap : Nat) (l2 : List Int) (A2 : Option Addr) (cap2 : Nat) (pk : Bool) (l3 : List Int) (A3 : Option Addr) (cap3 : Nat) (r : World) (hr0 : Rows' r 1 (.slice A l.length cap) (l.map ztC)) (hr1 : Rows' r 1 (.slice A2 l2.length cap2) (l2.map ztC)) (hr3 : Rows' r 1 (.slice A3 l3.length cap3) (l3.map ztC)) :
    Calls Tryz.prog 4 #[.slice A l.length cap, .slice A2 l2.length cap2, .bool pk, .slice A3 l3.length cap3] r fun e w' => e = .returned (.bool true) ∧ Chg [] r w' := by
  have hS := Sep.root r
  refine Z.enter Tryz.func4 Tryz.ntmps4 rfl rfl ?_
  repeat' (first|refine K ?_|(refine Sh.sa hS ?_;clear hS;intro w hS)|(refine K3 ?_;clear hS;intro g w hS hge)|((first|refine GS ?_ ?_|refine VB ?_ ?_)<;>intro hb<;>(try simp only [J1,J2,J3,J4,J5,J6] at hb)<;>(try (exfalso;first|omega|exact hb trivial))))
  refine Z.eff (Z.cl (awake37_z r [] _ hS) rfl ?_) rfl
  clear hS
  rintro e w ⟨rfl, hS⟩
  refine ⟨_, rfl, ?_⟩
  repeat' (first|refine K ?_|(refine Sh.sa hS ?_;clear hS;intro w hS)|(refine K3 ?_;clear hS;intro g w hS hge)|((first|refine GS ?_ ?_|refine VB ?_ ?_)<;>intro hb<;>(try simp only [J1,J2,J3,J4,J5,J6] at hb)<;>(try (exfalso;first|omega|exact hb trivial))))
  refine Z.eff (Z.cl (lightS_z A l.length cap _ _ _ hS) rfl ?_) rfl
  clear hS
  rintro e w ⟨rfl, hS⟩
  refine ⟨_, rfl, ?_⟩
  repeat' (first|refine K ?_|(refine Sh.sa hS ?_;clear hS;intro w hS)|(refine K3 ?_;clear hS;intro g w hS hge)|((first|refine GS ?_ ?_|refine VB ?_ ?_)<;>intro hb<;>(try simp only [J1,J2,J3,J4,J5,J6] at hb)<;>(try (exfalso;first|omega|exact hb trivial))))
  · refine Dnt Tryz.results4 ?_
    exact ⟨rfl, hS.chg⟩
  rename _ ≤ (150 : Int) => hl1
  refine Z.eff (Z.cl (lightS_z A2 l2.length cap2 _ _ _ hS) rfl ?_) rfl
  clear hS
  rintro e w ⟨rfl, hS⟩
  refine ⟨_, rfl, ?_⟩
  repeat' (first|refine K ?_|(refine Sh.sa hS ?_;clear hS;intro w hS)|(refine K3 ?_;clear hS;intro g w hS hge)|((first|refine GS ?_ ?_|refine VB ?_ ?_)<;>intro hb<;>(try simp only [J1,J2,J3,J4,J5,J6] at hb)<;>(try (exfalso;first|omega|exact hb trivial))))
  · refine Dnt Tryz.results4 ?_
    exact ⟨rfl, hS.chg⟩
  rename _ ≤ (150 : Int) => hl2

  · refine Dnt Tryz.results4 ?_
    exact ⟨rfl, hS.chg⟩
  have hl3 : l3.length ≤ 40 := by omega
  refine Z.eff (Z.cl (worlds_z A l cap A2 l2 cap2 pk r [] _ hS (Reads.root hr0) (Reads.root hr1) (by omega) (by omega)) rfl ?_) rfl
  clear hS
  rintro e w ⟨c, a, s, b, rfl, ho, hs, hS⟩
  refine ⟨_, rfl, ?_⟩
  repeat' (first|refine K ?_|(refine Sh.sa hS ?_;clear hS;intro w hS)|(refine K3 ?_;clear hS;intro g w hS hge)|((first|refine GS ?_ ?_|refine VB ?_ ?_)<;>intro hb<;>(try simp only [J1,J2,J3,J4,J5,J6] at hb)<;>(try (exfalso;first|omega|exact hb trivial))))
  rename_i gc _ _ _ _
  rename Nat => gs
  refine Z.eff (Z.cl (some_z c a A3 l3 cap3 _ _ _ hS ho (Reads.root hr3) (by omega)) rfl ?_) rfl
  clear hS
  rintro e w ⟨A4, c4, rfl, hS⟩
  refine ⟨_, rfl, ?_⟩
  repeat' (first|refine K ?_|(refine Sh.sa hS ?_;clear hS;intro w hS)|(refine K3 ?_;clear hS;intro g w hS hge)|((first|refine GS ?_ ?_|refine VB ?_ ?_)<;>intro hb<;>(try simp only [J1,J2,J3,J4,J5,J6] at hb)<;>(try (exfalso;first|omega|exact hb trivial))))
  rename Nat => gx
  replace hS := hS.fo (R := .blk gx _ _)
  replace hS := mk_sl (sz := 1) (n := 2) (rows := [(⟨l3, A3, cap3⟩ : Wv), (⟨someL c l3, A4, c4⟩ : Wv)].map Wv.cells) hS rfl (by omega) (by decide) (wv_ok _) rfl
  have hsl := someL_len c l3
  refine Z.lpS [8, 12, 13, 14, 15, 16, 45, 46, 47, 48, 49, 50, 51, 52, 53, 54, 55, 56, 57, 58, 59, 60, 61, 62, 63, 64, 65, 66, 67, 68, 69, 70, 71, 72] (fun m w z => ∃ i : Nat, z = [(45, .int .i64 i)] ∧ i ≤ 2 ∧ m = 2 - i ∧ Sep r [] (.sl 22 1 (.slice (some ⟨gx, 0, none⟩) 2 2) ([(⟨l3, A3, cap3⟩ : Wv), (⟨someL c l3, A4, c4⟩ : Wv)].map Wv.cells) :: .sl 3 1 (.slice A4 (someL c l3).length c4) ((someL c l3).map ztC) :: .blk gs 34 (s.cc c b) :: .blk gc 30 (c.cl a) :: CO c a :: SO c s b :: []) w) _ [(45, .int .i64 (0 : Nat))] (by repeat (first | exact trivial | refine ⟨rfl, ?_⟩)) ⟨0, rfl, by omega, rfl, hS.sb⟩ ?_
  clear hS
  rintro m f0 w _ ⟨i, rfl, hi, rfl, hS⟩
  by_cases hlt : i < 2
  · have hlt2 : i < [(⟨l3, A3, cap3⟩ : Wv), (⟨someL c l3, A4, c4⟩ : Wv)].length := hlt
    have hra : w.rangeAt gx (0 + i * 1) ([(⟨l3, A3, cap3⟩ : Wv), (⟨someL c l3, A4, c4⟩ : Wv)][i]).cells := by
      have h3 := (hS.slrows .here).elem (q := i) (by omega) hlt2
      simpa using h3
    have hin : ∀ x, x ∈ [(⟨l3, A3, cap3⟩ : Wv), (⟨someL c l3, A4, c4⟩ : Wv)] → x.l.length ≤ 40 ∧ Reads r (.sl 22 1 (.slice (some ⟨gx, 0, none⟩) 2 2) ([(⟨l3, A3, cap3⟩ : Wv), (⟨someL c l3, A4, c4⟩ : Wv)].map Wv.cells) :: .sl 3 1 (.slice A4 (someL c l3).length c4) ((someL c l3).map ztC) :: .blk gs 34 (s.cc c b) :: .blk gc 30 (c.cl a) :: CO c a :: SO c s b :: []) 1 (.slice x.A x.l.length x.c) (x.l.map ztC) := fun x hx => by
      simp only [List.mem_cons, List.not_mem_nil, or_false] at hx
      rcases hx with rfl | rfl
      · exact ⟨hl3, Reads.root hr3⟩
      · exact ⟨by show (someL c l3).length ≤ 40; omega, Reads.of_at (e := 3) (.next .here)⟩
    replace hin := hin _ (List.getElem_mem hlt2)
    generalize [(⟨l3, A3, cap3⟩ : Wv), (⟨someL c l3, A4, c4⟩ : Wv)][i] = x at *
    obtain ⟨lx, Ax, cx⟩ := x
    obtain ⟨hlx, hin⟩ := hin
    simp only at hlx hin
    repeat' (first|refine K ?_|(refine Sh.sa hS ?_;clear hS;intro w hS)|(refine K3 ?_;clear hS;intro g w hS hge)|((first|refine GS ?_ ?_|refine VB ?_ ?_)<;>intro hb<;>(try simp only [J1,J2,J3,J4,J5,J6] at hb)<;>(try (exfalso;first|omega|exact hb trivial))))
    clear hra
    refine Z.eff (Z.cl (pmake_z c a s b Ax lx cx _ _ _ hS (CfR.of_co (k := _) (by repeat (first | exact At.here | apply At.next))) ho hs (StC.of_so (k := _) (by repeat (first | exact At.here | apply At.next))) hin (by omega)) rfl ?_) rfl
    clear hS
    rintro e w ⟨W, B, C, rfl, hW, hS⟩
    refine ⟨_, rfl, ?_⟩
    obtain ⟨hW1, hW2⟩ := mk_bds ho hW
    repeat' (first|refine K ?_|(refine Sh.sa hS ?_;clear hS;intro w hS)|(refine K3 ?_;clear hS;intro g w hS hge)|((first|refine GS ?_ ?_|refine VB ?_ ?_)<;>intro hb<;>(try simp only [J1,J2,J3,J4,J5,J6] at hb)<;>(try (exfalso;first|omega|exact hb trivial))))
    refine Z.eff (Z.cl (rmake_z c a s b Ax lx cx _ _ _ hS (CfR.of_co (k := _) (by repeat (first | exact At.here | apply At.next))) ho hs (StC.of_so (k := _) (by repeat (first | exact At.here | apply At.next))) (hin.app [_]) (by omega)) rfl ?_) rfl
    clear hS
    rintro e w ⟨W', B', C', rfl, hW', hS⟩
    refine ⟨_, rfl, ?_⟩
    obtain ⟨hW1', hW2'⟩ := mk_bds ho hW'
    generalize (mkR c s lx).2 = er at *
    repeat' (first|refine K ?_|(refine Sh.sa hS ?_;clear hS;intro w hS)|(refine K3 ?_;clear hS;intro g w hS hge)|((first|refine GS ?_ ?_|refine VB ?_ ?_)<;>intro hb<;>(try simp only [J1,J2,J3,J4,J5,J6] at hb)<;>(try (exfalso;first|omega|exact hb trivial))))
    refine Z.eff (Z.cl (same37_z B B' C C' W W' _ _ _ hS (WvR.of_at (k := _) (by repeat (first | exact At.here | apply At.next))) (WvR.of_at .here) (by omega) (by omega) (fun x hx => Nat.le_trans (hW2 x hx) (by omega)) (fun x hx => Nat.le_trans (hW2' x hx) (by omega))) rfl ?_) rfl
    clear hS
    rintro e w ⟨rfl, hS⟩
    refine ⟨_, rfl, ?_⟩
    rw [hW, hW', show decide ((mkR c s lx).1 = (mkR c s lx).1) = true by simp]
    repeat' (first|refine K ?_|(refine Sh.sa hS ?_;clear hS;intro w hS)|(refine K3 ?_;clear hS;intro g w hS hge)|((first|refine GS ?_ ?_|refine VB ?_ ?_)<;>intro hb<;>(try simp only [J1,J2,J3,J4,J5,J6] at hb)<;>(try (exfalso;first|omega|exact hb trivial))))
    refine Sh.again (2 - (i + 1)) [(45, .int .i64 (i + 1 : Nat))] ?_
    exact ⟨i + 1, rfl, by omega, rfl, hS.sb⟩
  · repeat' (first|refine K ?_|(refine Sh.sa hS ?_;clear hS;intro w hS)|(refine K3 ?_;clear hS;intro g w hS hge)|((first|refine GS ?_ ?_|refine VB ?_ ?_)<;>intro hb<;>(try simp only [J1,J2,J3,J4,J5,J6] at hb)<;>(try (exfalso;first|omega|exact hb trivial))))
    refine Dnt Tryz.results4 ?_
    exact ⟨rfl, hS.chg⟩
set_option maxRecDepth 100000 in
theorem waveMakes_lifted (os : Os) (started : os.Started) (H : Type) (enc : TypeId × Value → H) :
    ReturnsInHanded {} Tryz.checked os 4 .any (Rows.waveMakesSpec.pre6 enc Tryz.prog Tryz.f4 Rows.waveMakesRow.domain false) (Rows.waveMakesSpec.post enc Tryz.prog Tryz.f4 false Rows.waveMakesRow.fresh Rows.waveMakesRow.handsOn Rows.waveMakesRow.again) := by
  refine returnsInHanded_of_change (C := Tryz.checked) Tryz.own started (by kernel_rfl) Tryz.func4
    (ChangeSpec.witness6 (enc := enc) (C := Tryz.checked) false ⟨#[], #[.slice none 0 0, .slice none 0 0, .bool false, .slice none 0 0], []⟩ 8 (by kernel_rfl) (by kernel_rfl) (by kernel_rfl) (by kernel_rfl)) ?_
  intro W base args ds gs before hval0 hW _ _
  have hval : ∀ (j : Nat) t v, Tryz.f4.params[j]? = some t → args[j]? = some v → Value.okWide Tryz.prog W .any base t v := hval0
  have hW0 := hW
  obtain ⟨p, q, hA0, hV, hpq, _, _⟩ := hW
  obtain ⟨la⟩ := args
  have hA : DataW.TrodAll enc Tryz.prog W 0 (fun _ => true) true [22, 22, 4, 22] la ds p := by have := hA0; rw [Tryz.params4] at this; exact this
  rw [Tryz.params4] at hval
  obtain ⟨v0, la0, d0, ds0, p0, q0, rfl, rfl, rfl, h0, hA⟩ := trodAll_cons hA
  obtain ⟨v1, la1, d1, ds1, p1, q1, rfl, rfl, rfl, h1, hA⟩ := trodAll_cons hA
  obtain ⟨v2, la2, d2, ds2, p2, q2, rfl, rfl, rfl, h2, hA⟩ := trodAll_cons hA
  obtain ⟨v3, la3, d3, ds3, p3, q3, rfl, rfl, rfl, h3, hA⟩ := trodAll_cons hA
  obtain ⟨rfl, rfl, rfl⟩ := trodAll_nil hA
  obtain ⟨l0, A0, cap0, rfl, _, hr0⟩ := arg_intsr (hval 0 _ _ rfl rfl) h0
  obtain ⟨l1, A1, cap1, rfl, _, hr1⟩ := arg_intsr (hval 1 _ _ rfl rfl) h1
  obtain ⟨b2, rfl⟩ := arg_bool (hval 2 _ _ rfl rfl) h2
  obtain ⟨l3, A3, cap3, rfl, _, hr3⟩ := arg_intsr (hval 3 _ _ rfl rfl) h3
  have fin : Calls Tryz.prog 4 _ W fun e W' => e = .returned (.bool true) ∧ Chg [] W W' := makes37_z l0 A0 cap0 l1 A1 cap1 b2 l3 A3 cap3 W hr0 hr1  hr3
  refine fin.mono fun e W' ⟨he, hc⟩ => ⟨_, he, ?_⟩
  exact law_post Tryz.laidOut (by rw [Tryz.params4]; intro t ht; simp only [List.mem_cons, List.not_mem_nil, or_false] at ht; rcases ht with rfl | rfl | rfl | rfl <;> exact ⟨by kernel_rfl, of_decide_eq_true (by kernel_rfl)⟩) rfl rfl Tryz.underlying4 rfl hW0 hc.below
theorem waveMakes_holds : Rows.WaveMakesSaid :=
  OpenClaim.holds_of_wide 4 Tryz.f4 rfl rfl rfl rfl rfl rfl rfl ⟨rfl, rfl, rfl, rfl, rfl⟩ rfl rfl rfl rfl rfl (by kernel_rfl) Tryz.func4 (by kernel_rfl)
    (of_decide_eq_true (by kernel_rfl)) (by unfold Func.isWrapper; rw [if_neg (of_decide_eq_false (by kernel_rfl))]; exact ⟨rfl, rfl⟩)
    (fun os started H enc _ => waveMakes_lifted os started H enc)
end Go.Proofs.YtmgpionlfemhdaaGreat
