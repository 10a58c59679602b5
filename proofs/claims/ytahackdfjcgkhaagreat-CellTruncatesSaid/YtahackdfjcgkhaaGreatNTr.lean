/-
  CellTruncates: for every input the call returns true, and the arguments read afterwards as they read before.
-/
import Derived.Test.YtahackdfjcgkhaaGreatYd
import Derived.Test.YtahackdfjcgkhaaGreatNSx
import Derived.Test.YtahackdfjcgkhaaGreatNTc
import Derived.Test.YtahackdfjcgkhaaGreatH1
import Derived.Test.YtahackdfjcgkhaaGreatML
import Derived.Test.YtahackdfjcgkhaaGreatA1
namespace Go.Proofs.YtahackdfjcgkhaaGreat
open Go.RowKit Go.ChangeShapes Go.WideShapes Go.ChangeAt
set_option linter.unusedSimpArgs false
set_option linter.unusedVariables false

theorem trunc_bad {c : Cp} {n : Int} (h : ¬ (0 ≤ n ∧ n ≤ c.h.length)) : truncC c n = (c, 1) := by unfold truncC; rw [if_neg h]
theorem trunc_at {h : List Ch} (hH : IsH h) {k : Nat} (hk : k ≤ h.length) : truncC (cpOf h) (k : Int) = (cpOf (h.take k), 0) := by
  unfold truncC
  rw [hH.good.2.1, if_pos ⟨by omega, by omega⟩]
  unfold cutC
  rw [hH.good.2.1]
  rfl
set_option maxHeartbeats 8000000 in
theorem truncates_z (l : List Int) (A : Option Addr) (cap : Nat) (z : Int) (r : World) (hr0 : Rd r 1 A l.length (l.map (Value.int .i64))) (hz : -9223372036854775808 ≤ z ∧ z ≤ 9223372036854775807) :
    Calls Tryz.prog 10 #[.slice A l.length cap, .int .i64 z] r fun e w' => e = .returned (.bool true) ∧ Chg [] r w' := by
  have hS := Sep.root r
  refine Z.enter Tryz.func10 Tryz.ntmps10 rfl rfl ?_
  repeat' (first|refine Kd ?_|(refine Sh.sa hS ?_;clear hS;intro w hS)|(refine K3 ?_;clear hS;intro g w hS hge)|((first|refine GS ?_ ?_|refine VB ?_ ?_)<;>intro hb<;>(try simp only [J1,J2,J3,J4,J5,J6] at hb)<;>(try (exfalso;first|omega|exact hb trivial))))
  refine Z.eff (Z.cl (awake28_z _ _ _ hS) rfl ?_) rfl
  clear hS
  rintro e w ⟨rfl, hS⟩
  refine ⟨_, rfl, ?_⟩
  repeat' (first|refine Kd ?_|(refine Sh.sa hS ?_;clear hS;intro w hS)|(refine K3 ?_;clear hS;intro g w hS hge)|((first|refine GS ?_ ?_|refine VB ?_ ?_)<;>intro hb<;>(try simp only [J1,J2,J3,J4,J5,J6] at hb)<;>(try (exfalso;first|omega|exact hb trivial))))
  refine Z.eff (Z.cl (lightS_z A l.length cap _ _ _ hS) rfl ?_) rfl
  clear hS
  rintro e w ⟨rfl, hS⟩
  refine ⟨_, rfl, ?_⟩
  repeat' (first|refine Kd ?_|(refine Sh.sa hS ?_;clear hS;intro w hS)|(refine K3 ?_;clear hS;intro g w hS hge)|((first|refine GS ?_ ?_|refine VB ?_ ?_)<;>intro hb<;>(try simp only [J1,J2,J3,J4,J5,J6] at hb)<;>(try (exfalso;first|omega|exact hb trivial))))
  · refine Dnt Tryz.results10 ?_
    exact ⟨rfl, hS.chg⟩
  rename _ ≤ (150 : Int) => hlt
  refine Z.eff (Z.cl (history_z l A cap _ _ _ hS hr0 (by omega)) rfl ?_) rfl
  clear hS
  rintro e w ⟨vh, rfl, hS⟩
  refine ⟨_, rfl, ?_⟩
  have hH := hist_isH l
  have hHl := hist_len l
  generalize (hist l).h = h at *
  obtain ⟨Ah, ch, rfl, hcap⟩ := (hS.slrows .here).mform
  repeat' (first|refine Kd ?_|(refine Sh.sa hS ?_;clear hS;intro w hS)|(refine K3 ?_;clear hS;intro g w hS hge)|((first|refine GS ?_ ?_|refine VB ?_ ?_)<;>intro hb<;>(try simp only [J1,J2,J3,J4,J5,J6] at hb)<;>(try (exfalso;first|omega|exact hb trivial))))
  refine Z.eff (Z.cl (pcfold_ok 1 0 h _ _ _ _ hS (Reads.of_at (e := 49) .here) (by omega) hH) rfl ?_) rfl
  clear hS
  rintro e w ⟨gc, gg, rfl, hS⟩
  refine ⟨_, rfl, ?_⟩
  have hch := hH.good.2.1
  replace hS := (Sep.gate0 (hS.focus (R := .blk gg _ _) (by repeat (first | exact At.here | apply At.next)))).focus (R := PC gc _ _ _ _) (by repeat (first | exact At.here | apply At.next))
  repeat' (first|refine Kd ?_|(refine Sh.sa hS ?_;clear hS;intro w hS)|(refine K3 ?_;clear hS;intro g w hS hge)|((first|refine GS ?_ ?_|refine VB ?_ ?_)<;>intro hb<;>(try simp only [J1,J2,J3,J4,J5,J6] at hb)<;>(try (exfalso;first|omega|exact hb trivial))))
  refine Z.eff (Z.cl (pctrunc_f gc 1 0 _ (cpOf h) (-1) _ _ _ hS (by rw [hch]; exact hH)) rfl ?_) rfl
  clear hS
  rintro e w ⟨rfl, hS⟩
  refine ⟨_, rfl, ?_⟩
  rw [trunc_bad (by omega)] at hS ⊢
  repeat' (first|refine Kd ?_|(refine Sh.sa hS ?_;clear hS;intro w hS)|(refine K3 ?_;clear hS;intro g w hS hge)|((first|refine GS ?_ ?_|refine VB ?_ ?_)<;>intro hb<;>(try simp only [J1,J2,J3,J4,J5,J6] at hb)<;>(try (exfalso;first|omega|exact hb trivial))))
  refine Z.eff (Z.cl (pctrunc_f gc 1 0 _ (cpOf h) ((h.length : Int) + 1) _ _ _ hS (by rw [hch]; exact hH)) rfl ?_) rfl
  clear hS
  rintro e w ⟨rfl, hS⟩
  refine ⟨_, rfl, ?_⟩
  rw [trunc_bad (by rw [hch]; omega)] at hS ⊢
  repeat' (first|refine Kd ?_|(refine Sh.sa hS ?_;clear hS;intro w hS)|(refine K3 ?_;clear hS;intro g w hS hge)|((first|refine GS ?_ ?_|refine VB ?_ ?_)<;>intro hb<;>(try simp only [J1,J2,J3,J4,J5,J6] at hb)<;>(try (exfalso;first|omega|exact hb trivial))))
  refine Z.eff (Z.cl (modS_z z ((h.length : Int) + 1) _ _ _ hS (by omega) (by omega)) rfl ?_) rfl
  clear hS
  rintro e w ⟨rfl, hS⟩
  refine ⟨_, rfl, ?_⟩
  have hm := modN_bd z ((h.length : Int) + 1) (by omega)
  generalize modN z ((h.length : Int) + 1) = zz at *
  obtain ⟨k, rfl⟩ := Int.eq_ofNat_of_zero_le hm.1
  have hk : k ≤ h.length := by omega
  repeat' (first|refine Kd ?_|(refine Sh.sa hS ?_;clear hS;intro w hS)|(refine K3 ?_;clear hS;intro g w hS hge)|((first|refine GS ?_ ?_|refine VB ?_ ?_)<;>intro hb<;>(try simp only [J1,J2,J3,J4,J5,J6] at hb)<;>(try (exfalso;first|omega|exact hb trivial))))
  refine Z.eff (Z.cl (rcfold_ok 1 0 (h.take k) (.slice Ah k ch) _ _ _ hS (fun L w hw => (hw.slrows (e := 49) (v := .slice Ah h.length ch) (at_app L (by repeat (first | exact At.here | apply At.next)))).mtake hk) (by rw [List.length_take]; omega) (hH.take k)) rfl ?_) rfl
  clear hS
  rintro e w ⟨gd, gh, rfl, hS⟩
  refine ⟨_, rfl, ?_⟩
  replace hS := (Sep.gate1 (hS.focus (R := .blk gh _ _) (by repeat (first | exact At.here | apply At.next)))).focus (R := PC gc _ _ _ _) (by repeat (first | exact At.here | apply At.next))
  repeat' (first|refine Kd ?_|(refine Sh.sa hS ?_;clear hS;intro w hS)|(refine K3 ?_;clear hS;intro g w hS hge)|((first|refine GS ?_ ?_|refine VB ?_ ?_)<;>intro hb<;>(try simp only [J1,J2,J3,J4,J5,J6] at hb)<;>(try (exfalso;first|omega|exact hb trivial))))
  refine Z.eff (Z.cl (pctrunc_f gc 1 0 _ (cpOf h) (k : Int) _ _ _ hS (by rw [hch]; exact hH)) rfl ?_) rfl
  clear hS
  rintro e w ⟨rfl, hS⟩
  refine ⟨_, rfl, ?_⟩
  rw [trunc_at hH hk] at hS ⊢
  repeat' (first|refine Kd ?_|(refine Sh.sa hS ?_;clear hS;intro w hS)|(refine K3 ?_;clear hS;intro g w hS hge)|((first|refine GS ?_ ?_|refine VB ?_ ?_)<;>intro hb<;>(try simp only [J1,J2,J3,J4,J5,J6] at hb)<;>(try (exfalso;first|omega|exact hb trivial))))
  have hgk := (hH.take k).good
  have hcg := hgk.1.cg hgk.1.qok
  replace hS := hS.sub (L' := PC gc 1 0 (.pointer (some ⟨gg, 0, .none⟩)) (cpOf (h.take k)) :: GP gg ⟨1, 0, []⟩ :: CR gd 1 0 (.pointer (some ⟨gh, 0, .none⟩)) (cpOf (h.take k)) :: GR gh ⟨1, 0, []⟩ :: .sl 49 8 (.slice Ah h.length ch) (h.map Ch.cells) :: []) (by repeat (first | exact Sub.rest | exact Sub.nil | exact .skip .rest | exact .skip (.skip .rest) | exact .skip (.skip (.skip .rest)) | apply Sub.keep | refine Sub.cons (by repeat (first | exact At.here | apply At.next)) ?_ | apply Sub.skip))
  refine Z.eff (Z.cl (same28_z gc gg gd gh 1 0 1 0 (cpOf (h.take k)) (cpOf (h.take k)) ⟨1, 0, []⟩ ⟨1, 0, []⟩ _ _ _ hS hcg (CRel.refl hcg) rfl (by rw [hgk.2.1, List.length_take]; omega)) rfl ?_) rfl
  clear hS
  rintro e w ⟨rfl, hS⟩
  refine ⟨_, rfl, ?_⟩
  repeat' (first|refine Kd ?_|(refine Sh.sa hS ?_;clear hS;intro w hS)|(refine K3 ?_;clear hS;intro g w hS hge)|((first|refine GS ?_ ?_|refine VB ?_ ?_)<;>intro hb<;>(try simp only [J1,J2,J3,J4,J5,J6] at hb)<;>(try (exfalso;first|omega|exact hb trivial))))
  generalize hA2 : (if ch = ((k : Nat) : Int).toNat then Ah else Ah.map fun x => x.add (((k : Nat) : Int).toNat * 8)) = A2 at *
  refine Z.lpS [4, 13, 73, 74, 75, 76, 77, 78, 79, 80, 81] (fun m w s => ∃ i : Nat, s = [(73, .int .i64 i)] ∧ i ≤ h.length - k ∧ m = h.length - k - i ∧ Sep r [] (PC gc 1 0 (.pointer (some ⟨gg, 0, .none⟩)) (cpOf (h.take (k + i))) :: .sl 49 8 (.slice Ah h.length ch) (h.map Ch.cells) :: []) w) _ [(73, .int .i64 (0 : Nat))] (by repeat (first | exact trivial | refine ⟨rfl, ?_⟩)) ⟨0, rfl, by omega, rfl, hS.sb⟩ ?_
  clear hS
  rintro m f0 w _ ⟨i, rfl, hi, rfl, hS⟩
  by_cases hlt2 : i < h.length - k
  · have h3 := (hS.slrows (e := 49) (v := .slice Ah h.length ch) (by repeat (first | exact At.here | apply At.next))).mdrop (q := k) hk
    rw [show (if ch = k then Ah else Ah.map fun x => x.add (k * 8)) = A2 from hA2] at h3
    obtain ⟨gb, o, hAe, _, hra⟩ := h3.mat (by omega) (q := i) (by rw [List.length_drop]; omega)
    subst hAe
    have hn := hH.next (j := k + i) (by omega)
    have hx : (h.drop k)[i]'(by rw [List.length_drop]; omega) = h[k + i]'(by omega) := by rw [List.getElem_drop]
    rw [hx] at hra
    generalize h[k + i]'(by omega) = x at *
    have hgj := (hH.take (k + i)).good
    repeat' (first|refine Kd ?_|(refine Sh.sa hS ?_;clear hS;intro w hS)|(refine K3 ?_;clear hS;intro g w hS hge)|((first|refine GS ?_ ?_|refine VB ?_ ?_)<;>intro hb<;>(try simp only [J1,J2,J3,J4,J5,J6] at hb)<;>(try (exfalso;first|omega|exact hb trivial))))
    rename Nat => gx
    replace hS := hS.fo (R := PC gc _ _ _ _)
    refine Z.eff (Z.cl (pcapply_z gc 1 0 _ _ x _ _ _ hS hgj.1.cok (by rw [hgj.2.1, List.length_take]; omega)) rfl ?_) rfl
    clear hS
    rintro e w ⟨rfl, hS⟩
    refine ⟨_, rfl, ?_⟩
    rw [hn] at hS ⊢
    repeat' (first|refine Kd ?_|(refine Sh.sa hS ?_;clear hS;intro w hS)|(refine K3 ?_;clear hS;intro g w hS hge)|((first|refine GS ?_ ?_|refine VB ?_ ?_)<;>intro hb<;>(try simp only [J1,J2,J3,J4,J5,J6] at hb)<;>(try (exfalso;first|omega|exact hb trivial))))
    refine Sh.again (h.length - k - (i + 1)) [(73, .int .i64 (i + 1 : Nat))] ?_
    exact ⟨i + 1, rfl, by omega, rfl, by rw [← Nat.add_assoc]; exact hS.sb⟩
  · have e : k + i = h.length := by omega
    rw [e, List.take_length] at hS
    repeat' (first|refine Kd ?_|(refine Sh.sa hS ?_;clear hS;intro w hS)|(refine K3 ?_;clear hS;intro g w hS hge)|((first|refine GS ?_ ?_|refine VB ?_ ?_)<;>intro hb<;>(try simp only [J1,J2,J3,J4,J5,J6] at hb)<;>(try (exfalso;first|omega|exact hb trivial))))
    replace hS := hS.fo (R := PC gc _ _ _ _)
    refine Z.eff (Z.cl (phist_z gc 1 0 _ (cpOf h) 0 _ _ _ hS (by rw [hch]; omega)) rfl ?_) rfl
    clear hS
    rintro e w ⟨A3, c3, rfl, hS⟩
    refine ⟨_, rfl, ?_⟩
    rw [show histB (cpOf h).h 0 = h from by rw [hch]; rfl] at hS ⊢
    repeat' (first|refine Kd ?_|(refine Sh.sa hS ?_;clear hS;intro w hS)|(refine K3 ?_;clear hS;intro g w hS hge)|((first|refine GS ?_ ?_|refine VB ?_ ?_)<;>intro hb<;>(try simp only [J1,J2,J3,J4,J5,J6] at hb)<;>(try (exfalso;first|omega|exact hb trivial))))
    refine Z.eff (Z.cl (chsame_z h h _ _ _ _ _ hS (Reads.of_at (e := 49) (v := .slice A3 h.length c3) (by repeat (first | exact At.here | apply At.next))) (Reads.of_at (e := 49) (v := .slice Ah h.length ch) (by repeat (first | exact At.here | apply At.next))) (by omega) (by omega)) rfl ?_) rfl
    clear hS
    rintro e w ⟨rfl, hS⟩
    refine ⟨_, rfl, ?_⟩
    repeat' (first|refine Kd ?_|(refine Sh.sa hS ?_;clear hS;intro w hS)|(refine K3 ?_;clear hS;intro g w hS hge)|((first|refine GS ?_ ?_|refine VB ?_ ?_)<;>intro hb<;>(try simp only [J1,J2,J3,J4,J5,J6] at hb)<;>(try (exfalso;first|omega|exact hb trivial))))
    refine Dnt Tryz.results10 ?_
    exact ⟨by simp [Z.packR], hS.chg⟩
set_option maxRecDepth 100000 in
theorem cellTruncates_lifted (os : Os) (started : os.Started) (H : Type) (enc : TypeId × Value → H) :
    ReturnsInHanded {} Tryz.checked os 10 .any (Rows.cellTruncatesSpec.pre6 enc Tryz.prog Tryz.f10 Rows.cellTruncatesRow.domain false) (Rows.cellTruncatesSpec.post enc Tryz.prog Tryz.f10 false Rows.cellTruncatesRow.fresh Rows.cellTruncatesRow.handsOn Rows.cellTruncatesRow.again) := by
  refine returnsInHanded_of_change (C := Tryz.checked) Tryz.own started (by kernel_rfl) Tryz.func10
    (ChangeSpec.witness6 (enc := enc) (C := Tryz.checked) false ⟨#[], #[.slice none 0 0, .int .i64 0], []⟩ 8 (by kernel_rfl) (by kernel_rfl) (by kernel_rfl) (by kernel_rfl)) ?_
  intro W base args ds gs before hval0 hW _ _
  have hval : ∀ (j : Nat) t v, Tryz.f10.params[j]? = some t → args[j]? = some v → Value.okWide Tryz.prog W .any base t v := hval0
  have hW0 := hW
  obtain ⟨p, q, hA0, hV, hpq, _, _⟩ := hW
  obtain ⟨la⟩ := args
  have hA : DataW.TrodAll enc Tryz.prog W 0 (fun _ => true) true [24, 3] la ds p := by have := hA0; rw [Tryz.params10] at this; exact this
  rw [Tryz.params10] at hval
  obtain ⟨v0, la0, d0, ds0, p0, q0, rfl, rfl, rfl, h0, hA⟩ := trodAll_cons hA
  obtain ⟨v1, la1, d1, ds1, p1, q1, rfl, rfl, rfl, h1, hA⟩ := trodAll_cons hA
  obtain ⟨rfl, rfl, rfl⟩ := trodAll_nil hA
  obtain ⟨l0, A0, cap0, rfl, hr0⟩ := arg_ints (hval 0 _ _ rfl rfl) h0
  obtain ⟨z1, rfl, hr1⟩ := arg_int (hval 1 _ _ rfl rfl) h1
  have fin : Calls Tryz.prog 10 _ W fun e W' => e = .returned (.bool true) ∧ Chg [] W W' := truncates_z l0 A0 cap0 z1 W hr0 hr1
  refine fin.mono fun e W' ⟨he, hc⟩ => ⟨_, he, ?_⟩
  exact law_post Tryz.laidOut (by rw [Tryz.params10]; intro t ht; simp only [List.mem_cons, List.not_mem_nil, or_false] at ht; rcases ht with rfl | rfl <;> exact ⟨by kernel_rfl, of_decide_eq_true (by kernel_rfl)⟩) rfl rfl Tryz.underlying4 rfl hW0 hc.below
theorem cellTruncates_holds : Rows.CellTruncatesSaid :=
  OpenClaim.holds_of_wide 10 Tryz.f10 rfl rfl rfl rfl rfl rfl rfl ⟨rfl, rfl, rfl, rfl, rfl⟩ rfl rfl rfl rfl rfl (by kernel_rfl) Tryz.func10 (by kernel_rfl)
    (of_decide_eq_true (by kernel_rfl)) (by unfold Func.isWrapper; rw [if_neg (of_decide_eq_false (by kernel_rfl))]; exact ⟨rfl, rfl⟩)
    (fun os started H enc _ => cellTruncates_lifted os started H enc)
end Go.Proofs.YtahackdfjcgkhaaGreat
