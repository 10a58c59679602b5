/-
  HandoverMakes: for every input the call returns true, and the arguments read afterwards as they read before.
-/
import Derived.Test.YtkhcndknpcfkoaaGreatNHoR
import Derived.Test.YtkhcndknpcfkoaaGreatNHoA
namespace Go.Proofs.YtkhcndknpcfkoaaGreat
open Go.RowKit Go.ChangeShapes Go.WideShapes Go.ChangeAt
set_option linter.unusedSimpArgs false
set_option linter.unusedVariables false

theorem sameM_self (m : Mf) : sameM m m = true := by simp [sameM, listsB]
theorem missM_self (ten key : Int) (c : Cp) : missM c (mfOf ten key c) = 0 := by
  unfold missM
  rw [if_pos]
  exact Int.le_refl _
set_option maxHeartbeats 4000000 in
theorem makes_z (l : List Int) (A : Option Addr) (cap : Nat) (ten key : Int) (r : World) (hr0 : Rd r 1 A l.length (l.map (Value.int .i64))) (ht : i64ok ten) (_ : i64ok key) :
    Calls Tryz.prog 5 #[.slice A l.length cap, .int .i64 ten, .int .i64 key] r fun e w' => e = .returned (.bool true) ∧ Chg [] r w' := by
  have hS := Sep.root r
  refine Z.enter Tryz.func5 Tryz.ntmps5 rfl rfl ?_
  repeat' (first|refine K ?_|(refine Sh.sa hS ?_;clear hS;intro w hS)|(refine K3 ?_;clear hS;intro g w hS hge)|((first|refine GS ?_ ?_|refine VB ?_ ?_)<;>intro hb<;>(try simp only [J1,J2,J3,J4,J5,J6] at hb)<;>(try (exfalso;first|omega|exact hb trivial))))
  refine Z.eff (Z.cl (awake32_z _ _ _ hS) rfl ?_) rfl
  clear hS
  rintro e w ⟨rfl, hS⟩
  refine ⟨_, rfl, ?_⟩
  repeat' (first|refine K ?_|(refine Sh.sa hS ?_;clear hS;intro w hS)|(refine K3 ?_;clear hS;intro g w hS hge)|((first|refine GS ?_ ?_|refine VB ?_ ?_)<;>intro hb<;>(try simp only [J1,J2,J3,J4,J5,J6] at hb)<;>(try (exfalso;first|omega|exact hb trivial))))
  refine Z.eff (Z.cl (lightS_z A l.length cap _ _ _ hS) rfl ?_) rfl
  clear hS
  rintro e w ⟨rfl, hS⟩
  refine ⟨_, rfl, ?_⟩
  repeat' (first|refine K ?_|(refine Sh.sa hS ?_;clear hS;intro w hS)|(refine K3 ?_;clear hS;intro g w hS hge)|((first|refine GS ?_ ?_|refine VB ?_ ?_)<;>intro hb<;>(try simp only [J1,J2,J3,J4,J5,J6] at hb)<;>(try (exfalso;first|omega|exact hb trivial))))
  · refine Dnt Tryz.results5 ?_
    exact ⟨rfl, hS.chg⟩
  rename _ ≤ (150 : Int) => hlt
  refine Z.eff (Z.cl (history_z l A cap _ _ _ hS hr0 (by omega)) rfl ?_) rfl
  clear hS
  rintro e w ⟨vh, rfl, hS⟩
  refine ⟨_, rfl, ?_⟩
  have hH := hist_isH l
  have hHl := hist_len l
  generalize (hist l).h = h at *
  obtain ⟨Ah, ch, rfl, hcap⟩ := (hS.slrows .here).mform
  repeat' (first|refine K ?_|(refine Sh.sa hS ?_;clear hS;intro w hS)|(refine K3 ?_;clear hS;intro g w hS hge)|((first|refine GS ?_ ?_|refine VB ?_ ?_)<;>intro hb<;>(try simp only [J1,J2,J3,J4,J5,J6] at hb)<;>(try (exfalso;first|omega|exact hb trivial))))
  refine Z.eff (Z.cl (pcfold_ok 3 ten h _ _ _ _ hS (Reads.of_at (e := 99) .here) (by omega) hH) rfl ?_) rfl
  clear hS
  rintro e w ⟨gc, gg, rfl, hS⟩
  refine ⟨_, rfl, ?_⟩
  repeat' (first|refine K ?_|(refine Sh.sa hS ?_;clear hS;intro w hS)|(refine K3 ?_;clear hS;intro g w hS hge)|((first|refine GS ?_ ?_|refine VB ?_ ?_)<;>intro hb<;>(try simp only [J1,J2,J3,J4,J5,J6] at hb)<;>(try (exfalso;first|omega|exact hb trivial))))
  refine Z.eff (Z.cl (rcfold_ok 3 ten h (.slice Ah h.length ch) _ _ _ hS (Reads.of_at (e := 99) (v := .slice Ah h.length ch) (by repeat (first | exact At.here | apply At.next))) (by omega) hH) rfl ?_) rfl
  clear hS
  rintro e w ⟨gd, gh, rfl, hS⟩
  refine ⟨_, rfl, ?_⟩
  have hc := hH.good.1.cg hH.good.1.qok
  have hch := hH.good.2.1
  have hcl : (cpOf h).h.length ≤ 60 := by rw [hch]; omega
  generalize cpOf h = c at *
  have hm := mfOf_ok (key := key) hc ht (by omega)
  repeat' (first|refine K ?_|(refine Sh.sa hS ?_;clear hS;intro w hS)|(refine K3 ?_;clear hS;intro g w hS hge)|((first|refine GS ?_ ?_|refine VB ?_ ?_)<;>intro hb<;>(try simp only [J1,J2,J3,J4,J5,J6] at hb)<;>(try (exfalso;first|omega|exact hb trivial))))
  replace hS := hS.fo (R := PC gc _ _ _ _)
  refine Z.eff (Z.cl (pmake_z gc 3 ten _ c key _ _ _ hS hc (by omega) ht) rfl ?_) rfl
  clear hS
  rintro e w ⟨vk, vi, vs, rfl, hS⟩
  refine ⟨_, rfl, ?_⟩
  obtain ⟨D1, d1, rfl, _⟩ := (hS.slrows (e := 9) (v := vk) (by repeat (first | exact At.here | apply At.next))).mform
  obtain ⟨D2, d2, rfl, _⟩ := (hS.slrows (e := 3) (v := vi) (by repeat (first | exact At.here | apply At.next))).mform
  obtain ⟨D3, d3, rfl, _⟩ := (hS.slrows (e := 3) (v := vs) (by repeat (first | exact At.here | apply At.next))).mform
  repeat' (first|refine K ?_|(refine Sh.sa hS ?_;clear hS;intro w hS)|(refine K3 ?_;clear hS;intro g w hS hge)|((first|refine GS ?_ ?_|refine VB ?_ ?_)<;>intro hb<;>(try simp only [J1,J2,J3,J4,J5,J6] at hb)<;>(try (exfalso;first|omega|exact hb trivial))))
  refine D.startS (Lr := [.blk g 26 ((mfOf ten key c).cells (.slice D1 (mfOf ten key c).keys.length d1) (.slice D2 (mfOf ten key c).items.length d2) (.slice D3 (mfOf ten key c).sessions.length d3))]) (hS.sb) 24 24 (by kernel_rfl) rfl ?_
  replace hS := hS.drew
  refine Sh.dp 1 2 ?_
  refine Sh.dp 2 6 ?_
  refine Sh.dl 0 7 ?_
  refine D.eff 3 15 rfl D.wantedN (by kernel_rfl) (by kernel_rfl) (fun _ _ h => h) ?_
  replace hS := hS.fo (R := CR gd _ _ _ _)
  refine Z.cl (rmake_z gd 3 ten _ c key _ _ _ hS hc (by omega) ht) rfl ?_
  clear hS
  rintro e w ⟨uk, ui, us, rfl, hS⟩
  refine ⟨_, rfl, ?_⟩
  refine ⟨HM.s (hS.sb), ?_⟩
  refine D.eff 4 31 rfl D.wantedN (by kernel_rfl) (by kernel_rfl) (fun _ _ h => h) ?_
  refine Z.cl (rsameM_z (mfOf ten key c) (mfOf ten key c) _ _ _ uk ui us _ _ _ hS ⟨Reads.of_at (e := 9) (v := .slice D1 (mfOf ten key c).keys.length d1) (by repeat (first | exact At.here | apply At.next)), Reads.of_at (e := 3) (v := .slice D2 (mfOf ten key c).items.length d2) (by repeat (first | exact At.here | apply At.next)), Reads.of_at (e := 3) (v := .slice D3 (mfOf ten key c).sessions.length d3) (by repeat (first | exact At.here | apply At.next))⟩ ⟨Reads.of_at (e := 9) (v := uk) (by repeat (first | exact At.here | apply At.next)), Reads.of_at (e := 3) (v := ui) (by repeat (first | exact At.here | apply At.next)), Reads.of_at (e := 3) (v := us) (by repeat (first | exact At.here | apply At.next))⟩ hm.few hm.few) rfl ?_
  clear hS
  rintro e w ⟨rfl, hS⟩
  refine ⟨_, rfl, ?_⟩
  rw [sameM_self]
  refine ⟨HM.s (hS.sb), ?_⟩
  refine Sh.dp 5 63 ?_
  refine D.slot 50 rfl (fun hb => ?_) (fun hb => by exfalso; (try simp only [decide_eq_true_eq, decide_eq_false_iff_not, Bool.not_eq_true', Bool.not_eq_false', Int.not_lt, Int.not_le] at hb) <;> first | omega | exact hb trivial | cases hb | simp at hb)
  (try simp only [decide_eq_true_eq, decide_eq_false_iff_not, Bool.not_eq_true', Bool.not_eq_false', Int.not_lt, Int.not_le] at hb)
  refine Sh.dp 6 127 ?_
  refine Sh.dp 8 383 ?_
  refine Sh.dl 7 511 ?_
  refine D.eff 9 1023 rfl (D.wantedT rfl rfl) (by kernel_rfl) (by kernel_rfl) (fun _ _ h => h) ?_
  refine WE.guard ?_
  replace hS := hS.fo (R := PC gc _ _ _ _)
  refine Z.cl (pcheck_z gc 3 ten _ c (mfOf ten key c) _ _ _ key _ _ _ hS ⟨Reads.of_at (e := 9) (v := .slice D1 (mfOf ten key c).keys.length d1) (by repeat (first | exact At.here | apply At.next)), Reads.of_at (e := 3) (v := .slice D2 (mfOf ten key c).items.length d2) (by repeat (first | exact At.here | apply At.next)), Reads.of_at (e := 3) (v := .slice D3 (mfOf ten key c).sessions.length d3) (by repeat (first | exact At.here | apply At.next))⟩ hm hc (by omega) ht) rfl ?_
  clear hS
  rintro e w ⟨rfl, hS⟩
  refine ⟨_, rfl, ?_⟩
  rw [mfOf_self]
  refine ⟨HM.s (hS.sb), ?_⟩
  first | refine D.pr 10 2047 rfl (D.wantedT rfl rfl) (by kernel_rfl) rfl ?_ | refine D.pl 10 2047 rfl (D.wantedT rfl rfl) (by kernel_rfl) (R.eqa rfl rfl rfl rfl) ?_
  refine Sh.dp 11 4095 ?_
  refine Sh.dp 12 8191 ?_
  refine D.slot 57 rfl (fun hb => ?_) (fun hb => by exfalso; (try simp only [decide_eq_true_eq, decide_eq_false_iff_not, Bool.not_eq_true', Bool.not_eq_false', Int.not_lt, Int.not_le] at hb) <;> first | omega | exact hb trivial | cases hb | simp at hb)
  (try simp only [decide_eq_true_eq, decide_eq_false_iff_not, Bool.not_eq_true', Bool.not_eq_false', Int.not_lt, Int.not_le] at hb)
  refine Sh.dp 13 16383 ?_
  refine Sh.dl 14 32767 ?_
  refine D.eff 15 65535 rfl (D.wantedT rfl rfl) (by kernel_rfl) (by kernel_rfl) (fun _ _ h => h) ?_
  refine WE.guard ?_
  replace hS := hS.fo (R := PC gc _ _ _ _)
  refine Z.cl (pmissing_z gc 3 ten _ c (mfOf ten key c) D1 D2 D3 _ _ _ d1 d2 d3 _ _ _ hS hm.l) rfl ?_
  clear hS
  rintro e w ⟨rfl, hS⟩
  refine ⟨_, rfl, ?_⟩
  rw [missM_self]
  refine ⟨HM.s (hS.sb), ?_⟩
  first | refine D.pr 16 131071 rfl (D.wantedT rfl rfl) (by kernel_rfl) rfl ?_ | refine D.pl 16 131071 rfl (D.wantedT rfl rfl) (by kernel_rfl) (R.eqa rfl rfl rfl rfl) ?_
  refine Sh.dp 17 262143 ?_
  refine Sh.dp 18 524287 ?_
  refine D.slot 63 rfl (fun hb => ?_) (fun hb => by exfalso; (try simp only [decide_eq_true_eq, decide_eq_false_iff_not, Bool.not_eq_true', Bool.not_eq_false', Int.not_lt, Int.not_le] at hb) <;> first | omega | exact hb trivial | cases hb | simp at hb)
  (try simp only [decide_eq_true_eq, decide_eq_false_iff_not, Bool.not_eq_true', Bool.not_eq_false', Int.not_lt, Int.not_le] at hb)
  refine Sh.dl 19 1048575 ?_
  refine Sh.dl 20 2097151 ?_
  refine D.eff 21 4194303 rfl (D.wantedT rfl rfl) (by kernel_rfl) (by kernel_rfl) (fun _ _ h => h) ?_
  refine WE.guard ?_
  refine Z.cl (psameM_z (mfOf ten key c) (mfOf ten key c) _ _ _ _ _ _ _ _ _ hS ⟨Reads.of_at (e := 9) (v := .slice D1 (mfOf ten key c).keys.length d1) (by repeat (first | exact At.here | apply At.next)), Reads.of_at (e := 3) (v := .slice D2 (mfOf ten key c).items.length d2) (by repeat (first | exact At.here | apply At.next)), Reads.of_at (e := 3) (v := .slice D3 (mfOf ten key c).sessions.length d3) (by repeat (first | exact At.here | apply At.next))⟩ ⟨Reads.of_at (e := 9) (v := .slice D1 (mfOf ten key c).keys.length d1) (by repeat (first | exact At.here | apply At.next)), Reads.of_at (e := 3) (v := .slice D2 (mfOf ten key c).items.length d2) (by repeat (first | exact At.here | apply At.next)), Reads.of_at (e := 3) (v := .slice D3 (mfOf ten key c).sessions.length d3) (by repeat (first | exact At.here | apply At.next))⟩ hm.few hm.few) rfl ?_
  clear hS
  rintro e w ⟨rfl, hS⟩
  refine ⟨_, rfl, ?_⟩
  rw [sameM_self]
  refine ⟨HM.s (hS.sb), ?_⟩
  refine Sh.dp 22 8388607 ?_
  refine Sh.dp 23 16777215 ?_
  refine D.done (by kernel_rfl) ?_
  repeat' (first|refine K ?_|(refine Sh.sa hS ?_;clear hS;intro w hS)|(refine K3 ?_;clear hS;intro g w hS hge)|((first|refine GS ?_ ?_|refine VB ?_ ?_)<;>intro hb<;>(try simp only [J1,J2,J3,J4,J5,J6] at hb)<;>(try (exfalso;first|omega|exact hb trivial))))
  refine Dnt Tryz.results5 ?_
  exact ⟨rfl, hS.chg⟩
set_option maxRecDepth 100000 in
theorem handoverMakes_lifted (os : Os) (started : os.Started) (H : Type) (enc : TypeId × Value → H) :
    ReturnsInHanded {} Tryz.checked os 5 .any (Rows.handoverMakesSpec.pre6 enc Tryz.prog Tryz.f5 Rows.handoverMakesRow.domain false) (Rows.handoverMakesSpec.post enc Tryz.prog Tryz.f5 false Rows.handoverMakesRow.fresh Rows.handoverMakesRow.handsOn Rows.handoverMakesRow.again) := by
  refine returnsInHanded_of_change (C := Tryz.checked) Tryz.own started (by kernel_rfl) Tryz.func5
    (ChangeSpec.witness6 (enc := enc) (C := Tryz.checked) false ⟨#[], #[.slice none 0 0, .int .i64 0, .int .i64 0], []⟩ 8 (by kernel_rfl) (by kernel_rfl) (by kernel_rfl) (by kernel_rfl)) ?_
  intro W base args ds gs before hval0 hW _ _
  have hval : ∀ (j : Nat) t v, Tryz.f5.params[j]? = some t → args[j]? = some v → Value.okWide Tryz.prog W .any base t v := hval0
  have hW0 := hW
  obtain ⟨p, q, hA0, hV, hpq, _, _⟩ := hW
  obtain ⟨la⟩ := args
  have hA : DataW.TrodAll enc Tryz.prog W 0 (fun _ => true) true [23, 3, 3] la ds p := by have := hA0; rw [Tryz.params5] at this; exact this
  rw [Tryz.params5] at hval
  obtain ⟨v0, la0, d0, ds0, p0, q0, rfl, rfl, rfl, h0, hA⟩ := trodAll_cons hA
  obtain ⟨v1, la1, d1, ds1, p1, q1, rfl, rfl, rfl, h1, hA⟩ := trodAll_cons hA
  obtain ⟨v2, la2, d2, ds2, p2, q2, rfl, rfl, rfl, h2, hA⟩ := trodAll_cons hA
  obtain ⟨rfl, rfl, rfl⟩ := trodAll_nil hA
  obtain ⟨l0, A0, cap0, rfl, hr0⟩ := arg_ints (hval 0 _ _ rfl rfl) h0
  obtain ⟨z1, rfl, hr1⟩ := arg_int (hval 1 _ _ rfl rfl) h1
  obtain ⟨z2, rfl, hr2⟩ := arg_int (hval 2 _ _ rfl rfl) h2
  have fin : Calls Tryz.prog 5 _ W fun e W' => e = .returned (.bool true) ∧ Chg [] W W' := makes_z l0 A0 cap0 z1 z2 W hr0 hr1 hr2
  refine fin.mono fun e W' ⟨he, hc⟩ => ⟨_, he, ?_⟩
  exact law_post Tryz.laidOut (by rw [Tryz.params5]; intro t ht; simp only [List.mem_cons, List.not_mem_nil, or_false] at ht; rcases ht with rfl | rfl | rfl <;> exact ⟨by kernel_rfl, of_decide_eq_true (by kernel_rfl)⟩) rfl rfl Tryz.underlying4 rfl hW0 hc.below
theorem handoverMakes_holds : Rows.HandoverMakesSaid :=
  OpenClaim.holds_of_wide 5 Tryz.f5 rfl rfl rfl rfl rfl rfl rfl ⟨rfl, rfl, rfl, rfl, rfl⟩ rfl rfl rfl rfl rfl (by kernel_rfl) Tryz.func5 (by kernel_rfl)
    (of_decide_eq_true (by kernel_rfl)) (by unfold Func.isWrapper; rw [if_neg (of_decide_eq_false (by kernel_rfl))]; exact ⟨rfl, rfl⟩)
    (fun os started H enc _ => handoverMakes_lifted os started H enc)
end Go.Proofs.YtkhcndknpcfkoaaGreat
