/-
  HandoverSums: for every input the call returns true, and the arguments read afterwards as they read before.
-/
import Derived.Test.YtkhcndknpcfkoaaGreatNHoR
import Derived.Test.YtkhcndknpcfkoaaGreatNHoA
namespace Go.Proofs.YtkhcndknpcfkoaaGreat
open Go.RowKit Go.ChangeShapes Go.WideShapes Go.ChangeAt
set_option linter.unusedSimpArgs false
set_option linter.unusedVariables false

theorem arg_light {m : Mf} {w : World} {vk vi vs : Value} (h : m.arg w vk vi vs) (hl : lightP m) : m.ok := by
  obtain ⟨h1, h2, h3, h4⟩ := hl
  exact ⟨h.t, h.l, h.e, by omega, fun x hx => by have := h2 x hx; omega, by omega, h.is, by omega, h.ss⟩
set_option maxHeartbeats 2000000 in
theorem sums_z (m : Mf) (A1 : Option Addr) (c1 : Nat) (A2 : Option Addr) (c2 : Nat) (A3 : Option Addr) (c3 : Nat) (key : Int) (r : World) (hm : m.arg r (.slice A1 m.keys.length c1) (.slice A2 m.items.length c2) (.slice A3 m.sessions.length c3)) (_ : -9223372036854775808 ≤ key ∧ key ≤ 9223372036854775807) :
    Calls Tryz.prog 3 #[m.val (.slice A1 m.keys.length c1) (.slice A2 m.items.length c2) (.slice A3 m.sessions.length c3), .int .i64 key] r fun e w' => e = .returned (.bool true) ∧ Chg [] r w' := by
  have hS := Sep.root r
  have hk := fun F => Reads.root (F := F) hm.k
  have hi := fun F => Reads.root (F := F) hm.i
  have hs := fun F => Reads.root (F := F) hm.s
  refine Z.enter Tryz.func3 Tryz.ntmps3 rfl rfl ?_
  repeat' (first|refine K ?_|(refine Sh.sa hS ?_;clear hS;intro w hS)|(refine K3 ?_;clear hS;intro g w hS hge)|((first|refine GS ?_ ?_|refine VB ?_ ?_)<;>intro hb<;>(try simp only [J1,J2,J3,J4,J5,J6] at hb)<;>(try (exfalso;first|omega|exact hb trivial))))
  refine Z.eff (Z.cl (awake32_z _ _ _ hS) rfl ?_) rfl
  clear hS
  rintro e w ⟨rfl, hS⟩
  refine ⟨_, rfl, ?_⟩
  repeat' (first|refine K ?_|(refine Sh.sa hS ?_;clear hS;intro w hS)|(refine K3 ?_;clear hS;intro g w hS hge)|((first|refine GS ?_ ?_|refine VB ?_ ?_)<;>intro hb<;>(try simp only [J1,J2,J3,J4,J5,J6] at hb)<;>(try (exfalso;first|omega|exact hb trivial))))
  refine D.startS (Lr := [.blk g 26 (m.cells (.slice A1 m.keys.length c1) (.slice A2 m.items.length c2) (.slice A3 m.sessions.length c3))]) (hS.sb) 13 13 (by kernel_rfl) rfl ?_
  replace hS := hS.drew
  refine Sh.dl 0 1 ?_
  refine D.eff 1 3 rfl D.wantedN (by kernel_rfl) (by kernel_rfl) (fun _ _ h => h) ?_
  refine Z.cl (light_z m _ A2 A3 c2 c3 _ _ _ hS (hk _)) rfl ?_
  clear hS
  rintro e w ⟨b, rfl, hb0, hS⟩
  refine ⟨_, rfl, ?_⟩
  refine ⟨HM.s (hS.sb), ?_⟩
  refine Sh.dp 2 7 ?_
  refine Sh.dp 3 15 ?_
  refine D.slot 10 rfl (fun hb => ?_) (fun hb => ?_)
  · (try simp only [decide_eq_true_eq, decide_eq_false_iff_not, Bool.not_eq_true', Bool.not_eq_false', Int.not_lt, Int.not_le] at hb)
    refine D.skF 4 31 rfl (by kernel_rfl) rfl rfl ?_
    refine D.skF 5 63 rfl (by kernel_rfl) rfl rfl ?_
    refine D.skF 6 127 rfl (by kernel_rfl) rfl rfl ?_
    refine D.skF 7 255 rfl (by kernel_rfl) rfl rfl ?_
    refine D.skF 8 511 rfl (by kernel_rfl) rfl rfl ?_
    refine D.skF 9 1023 rfl (by kernel_rfl) rfl rfl ?_
    refine D.skF 10 2047 rfl (by kernel_rfl) rfl rfl ?_
    refine Sh.dp 11 4095 ?_
    refine Sh.dp 12 8191 ?_
    refine D.done (by kernel_rfl) ?_
    repeat' (first|refine K ?_|(refine Sh.sa hS ?_;clear hS;intro w hS)|(refine K3 ?_;clear hS;intro g w hS hge)|((first|refine GS ?_ ?_|refine VB ?_ ?_)<;>intro hb<;>(try simp only [J1,J2,J3,J4,J5,J6] at hb)<;>(try (exfalso;first|omega|exact hb trivial))))
    refine Dnt Tryz.results3 ?_
    exact ⟨by simp [Z.packR, hb], hS.chg⟩
  · (try simp only [decide_eq_true_eq, decide_eq_false_iff_not, Bool.not_eq_true', Bool.not_eq_false', Int.not_lt, Int.not_le] at hb)
    refine Sh.dp 5 47 ?_
    refine Sh.dp 8 303 ?_
    refine Sh.dl 4 319 ?_
    refine Sh.dl 7 447 ?_
    refine D.eff 6 511 rfl (D.wantedT rfl rfl) (by kernel_rfl) (by kernel_rfl) (fun _ _ h => h) ?_
    refine WE.guard ?_
    have hok := arg_light hm (hb0 (by simpa using hb))
    refine Z.cl (psum_z m hok _ _ _ key _ _ _ hS (hk _) (hi _) (hs _)) rfl ?_
    clear hS
    rintro e w ⟨rfl, hS⟩
    refine ⟨_, rfl, ?_⟩
    refine ⟨HM.s (hS.sb), ?_⟩
    refine D.eff 9 1023 rfl (D.wantedT rfl rfl) (by kernel_rfl) (by kernel_rfl) (fun _ _ h => h) ?_
    refine WE.guard ?_
    have hok := arg_light hm (hb0 (by simpa using hb))
    refine Z.cl (rsum_z m hok _ _ _ key _ _ _ hS (hk _) (hi _) (hs _)) rfl ?_
    clear hS
    rintro e w ⟨rfl, hS⟩
    refine ⟨_, rfl, ?_⟩
    refine ⟨HM.s (hS.sb), ?_⟩
    refine D.pl 10 2047 rfl (D.wantedT rfl rfl) (by kernel_rfl) (R.ibo rfl rfl rfl) ?_
    refine Sh.dp 11 4095 ?_
    refine Sh.dp 12 8191 ?_
    refine D.done (by kernel_rfl) ?_
    repeat' (first|refine K ?_|(refine Sh.sa hS ?_;clear hS;intro w hS)|(refine K3 ?_;clear hS;intro g w hS hge)|((first|refine GS ?_ ?_|refine VB ?_ ?_)<;>intro hb<;>(try simp only [J1,J2,J3,J4,J5,J6] at hb)<;>(try (exfalso;first|omega|exact hb trivial))))
    refine Dnt Tryz.results3 ?_
    exact ⟨by simp [Z.packR, hb], hS.chg⟩
set_option maxRecDepth 100000 in
theorem handoverSums_lifted (os : Os) (started : os.Started) (H : Type) (enc : TypeId × Value → H) :
    ReturnsInHanded {} Tryz.checked os 3 .any (Rows.handoverSumsSpec.pre6 enc Tryz.prog Tryz.f3 Rows.handoverSumsRow.domain false) (Rows.handoverSumsSpec.post enc Tryz.prog Tryz.f3 false Rows.handoverSumsRow.fresh Rows.handoverSumsRow.handsOn Rows.handoverSumsRow.again) := by
  refine returnsInHanded_of_change (C := Tryz.checked) Tryz.own started (by kernel_rfl) Tryz.func3
    (ChangeSpec.witness6 (enc := enc) (C := Tryz.checked) false ⟨#[], #[.agg #[.int .i64 0, .int .i64 0, .int .i64 0, .slice none 0 0, .slice none 0 0, .slice none 0 0, .int .u64 0], .int .i64 0], []⟩ 8 (by kernel_rfl) (by kernel_rfl) (by kernel_rfl) (by kernel_rfl)) ?_
  intro W base args ds gs before hval0 hW _ _
  have hval : ∀ (j : Nat) t v, Tryz.f3.params[j]? = some t → args[j]? = some v → Value.okWide Tryz.prog W .any base t v := hval0
  have hW0 := hW
  obtain ⟨p, q, hA0, hV, hpq, _, _⟩ := hW
  obtain ⟨la⟩ := args
  have hA : DataW.TrodAll enc Tryz.prog W 0 (fun _ => true) true [26, 3] la ds p := by have := hA0; rw [Tryz.params3] at this; exact this
  rw [Tryz.params3] at hval
  obtain ⟨v0, la0, d0, ds0, p0, q0, rfl, rfl, rfl, h0, hA⟩ := trodAll_cons hA
  obtain ⟨v1, la1, d1, ds1, p1, q1, rfl, rfl, rfl, h1, hA⟩ := trodAll_cons hA
  obtain ⟨rfl, rfl, rfl⟩ := trodAll_nil hA
  obtain ⟨x0, A0, c0, B0, d0, C0, e0, rfl, hr0⟩ := arg_mf (hval 0 _ _ rfl rfl) h0
  obtain ⟨z1, rfl, hr1⟩ := arg_int (hval 1 _ _ rfl rfl) h1
  have fin : Calls Tryz.prog 3 _ W fun e W' => e = .returned (.bool true) ∧ Chg [] W W' := sums_z x0 A0 c0 B0 d0 C0 e0 z1 W hr0 hr1
  refine fin.mono fun e W' ⟨he, hc⟩ => ⟨_, he, ?_⟩
  exact law_post Tryz.laidOut (by rw [Tryz.params3]; intro t ht; simp only [List.mem_cons, List.not_mem_nil, or_false] at ht; rcases ht with rfl | rfl <;> exact ⟨by kernel_rfl, of_decide_eq_true (by kernel_rfl)⟩) rfl rfl Tryz.underlying4 rfl hW0 hc.below
theorem handoverSums_holds : Rows.HandoverSumsSaid :=
  OpenClaim.holds_of_wide 3 Tryz.f3 rfl rfl rfl rfl rfl rfl rfl ⟨rfl, rfl, rfl, rfl, rfl⟩ rfl rfl rfl rfl rfl (by kernel_rfl) Tryz.func3 (by kernel_rfl)
    (of_decide_eq_true (by kernel_rfl)) (by unfold Func.isWrapper; rw [if_neg (of_decide_eq_false (by kernel_rfl))]; exact ⟨rfl, rfl⟩)
    (fun os started H enc _ => handoverSums_lifted os started H enc)
end Go.Proofs.YtkhcndknpcfkoaaGreat
