/-
  CellFolds: for every input the call returns true, and the arguments read afterwards as they read before.
-/
import Derived.Test.YtahackdfjcgkhaaGreatYd
import Derived.Test.YtahackdfjcgkhaaGreatNSx
import Derived.Test.YtahackdfjcgkhaaGreatNTc
import Derived.Test.YtahackdfjcgkhaaGreatH1
import Derived.Test.YtahackdfjcgkhaaGreatML
import Derived.Test.YtahackdfjcgkhaaGreatA1
namespace Go.Proofs.YtahackdfjcgkhaaGreat
open Go.RowKit Go.ChangeShapes Go.WideShapes Go.ChangeAt
set_option linter.unusedSimpArgs false
set_option linter.unusedVariables false

theorem foldC_ok : ∀ {h : List Ch} {c : Cp} {i : Nat}, Good c → (foldC c h i).e = 0 → Good (foldC c h i).c ∧ (foldC c h i).c.h = c.h ++ h
  | [], c, i, hc, _ => by simp [foldC, hc]
  | x :: h, c, i, hc, he => by
    unfold foldC at he ⊢
    split at he
    · rename_i hx
      rw [if_pos hx]
      obtain ⟨h1, h2⟩ := foldC_ok (.app hc hx) he
      refine ⟨h1, ?_⟩
      rw [h2]
      obtain ⟨_, _, _, _, _, _, e⟩ := cApp_ok hx
      rw [e]
      simp
    · rename_i hx
      exact absurd he hx
/-- The changes behind a number, as the reference lists them. -/
def histR (h : List Ch) (n : Int) : List Ch := h.filter fun x => decide (n < x.seq)
theorem histR_take {h : List Ch} {n : Int} {k : Nat} (hk : k < h.length) : histR (h.take (k + 1)) n = histR (h.take k) n ++ (if n < h[k].seq then [h[k]] else []) := by
  unfold histR
  rw [filt_take hk]
  congr 1
  by_cases h1 : n < h[k].seq <;> simp [h1]
theorem histR_eq {h : List Ch} (hh : IsH h) (n : Int) : histR h n = histB h n := by
  have key : ∀ k, k ≤ h.length → histR (h.take k) n = (h.take k).drop n.toNat := by
    intro k
    induction k with
    | zero => intro _; simp [histR]
    | succ k ih =>
      intro hk
      have hs := hh.seq (i := k) (by omega)
      rw [histR_take (by omega), ih (by omega), List.take_succ_eq_append_getElem (by omega), List.drop_append, List.length_take]
      congr 1
      by_cases h1 : n < h[k].seq
      · rw [if_pos h1]
        have : n.toNat - min k h.length = 0 := by omega
        rw [this]
        rfl
      · rw [if_neg h1]
        symm
        apply List.drop_eq_nil_of_le
        simp
        omega
  have := key h.length (Nat.le_refl _)
  rw [List.take_length] at this
  exact this
set_option maxHeartbeats 2000000 in
theorem rchist_o (g : Nat) (v0 v1 v3 v4 v5 v6 : Value) (h : List Ch) (A : Option Addr) (cap : Nat) (n : Int) (r : World) (F : List Res) (w : World) (hS : Sep r [] (.blk g 69 [v0, v1, .slice A h.length cap, v3, v4, v5, v6] :: F) w) (hrd : Reads r F 8 (.slice A h.length cap) (h.map Ch.cells)) (hl : h.length ≤ 5000) :
    Calls Tryz.prog 35 #[.pointer (some ⟨g, 0, none⟩), .int .i64 n] w fun e w' => ∃ A' c', e = .returned (.slice A' (histR h n).length c') ∧ Sep r [] (.sl 49 8 (.slice A' (histR h n).length c') ((histR h n).map Ch.cells) :: .blk g 69 [v0, v1, .slice A h.length cap, v3, v4, v5, v6] :: F) w' := by
  refine Z.enter Tryz.func35 Tryz.ntmps35 rfl rfl ?_
  repeat' (first|refine Kd ?_|(refine Sh.sa hS ?_;clear hS;intro w hS)|(refine K3 ?_;clear hS;intro g w hS hge)|((first|refine GS ?_ ?_|refine VB ?_ ?_)<;>intro hb<;>(try simp only [J1,J2,J3,J4,J5,J6] at hb)<;>(try (exfalso;first|omega|exact hb trivial))))
  replace hS := Z.nilsl hS 49 8 none
  refine Z.lpS [5, 7, 13, 14, 15, 16, 17, 18, 19, 20, 21, 22, 23, 24, 25] (fun m w s => ∃ (i : Nat) (A1 : Option Addr) (c1 : Nat), s = [(13, .int .i64 i), (5, .slice A1 (histR (h.take i) n).length c1)] ∧ i ≤ h.length ∧ m = h.length - i ∧ Sep r [] (.sl 49 8 (.slice A1 (histR (h.take i) n).length c1) ((histR (h.take i) n).map Ch.cells) :: .blk g 69 [v0, v1, .slice A h.length cap, v3, v4, v5, v6] :: F) w) _ [(13, .int .i64 (0 : Nat)), (5, .slice none 0 0)] (by repeat (first | exact trivial | refine ⟨rfl, ?_⟩)) ⟨0, none, 0, rfl, by omega, rfl, hS⟩ ?_
  clear hS
  rintro m f0 w _ ⟨i, A1, c1, rfl, hi, rfl, hS⟩
  have hwl : (histR (h.take i) n).length ≤ 5000 := Nat.le_trans (List.length_filter_le _ _) (by simp; omega)
  by_cases hlt : i < h.length
  · obtain ⟨gb, o, rfl, _, hra⟩ := (hrd [_, _] _ hS).mat (by omega) hlt
    have hwt := histR_take (n := n) hlt
    generalize h[i] = x at *
    repeat' (first|refine Kd ?_|(refine Sh.sa hS ?_;clear hS;intro w hS)|(refine K3 ?_;clear hS;intro g w hS hge)|((first|refine GS ?_ ?_|refine VB ?_ ?_)<;>intro hb<;>(try simp only [J1,J2,J3,J4,J5,J6] at hb)<;>(try (exfalso;first|omega|exact hb trivial))))
    · rename n < x.seq => hb1
      rw [if_pos hb1] at hwt
      refine Z.eff (Z.apm (l' := [x]) hS rfl rfl rfl (by repeat (first | exact At.here | apply At.next)) (hS.lit1 (by repeat (first | exact At.here | apply At.next)) rfl rfl) (by (try simp only [maxLen, List.length_take, List.length_drop, List.length_append, List.length_cons, List.length_nil, List.length_map]); omega) (by (try simp only [maxLen, List.length_take, List.length_drop, List.length_append, List.length_cons, List.length_nil, List.length_map]); omega) ?_) rfl
      clear hS; intro A' c' w hS
      have hn : (histR (h.take i) n).length + [x].length = (histR (h.take (i + 1)) n).length := by rw [hwt]; simp
      rw [← hwt, hn] at hS
      rw [hn]
      repeat' (first|refine Kd ?_|(refine Sh.sa hS ?_;clear hS;intro w hS)|(refine K3 ?_;clear hS;intro g w hS hge)|((first|refine GS ?_ ?_|refine VB ?_ ?_)<;>intro hb<;>(try simp only [J1,J2,J3,J4,J5,J6] at hb)<;>(try (exfalso;first|omega|exact hb trivial))))
      refine Sh.again (h.length - (i + 1)) [(13, .int .i64 (i + 1 : Nat)), (5, .slice A' _ c')] ?_
      exact ⟨i + 1, A', c', rfl, by omega, rfl, hS.sb⟩
    · have hb1 : ¬ n < x.seq := by omega
      rw [if_neg hb1, List.append_nil] at hwt
      refine Sh.again (h.length - (i + 1)) [(13, .int .i64 (i + 1 : Nat)), (5, .slice A1 _ c1)] ?_
      rw [← hwt] at hS ⊢
      exact ⟨i + 1, A1, c1, rfl, by omega, rfl, hS.sb⟩
  · repeat' (first|refine Kd ?_|(refine Sh.sa hS ?_;clear hS;intro w hS)|(refine K3 ?_;clear hS;intro g w hS hge)|((first|refine GS ?_ ?_|refine VB ?_ ?_)<;>intro hb<;>(try simp only [J1,J2,J3,J4,J5,J6] at hb)<;>(try (exfalso;first|omega|exact hb trivial))))
    refine Dnt Tryz.results35 ?_
    rw [List.take_of_length_le (by omega)] at hS ⊢
    exact ⟨A1, c1, rfl, hS.sb⟩
theorem rchist_z (g : Nat) (cell ten : Int) (vg : Value) (c : Cp) (n : Int) (r : World) (F : List Res) (w : World) (hS : Sep r [] (CR g cell ten vg c :: F) w) (hh : IsH c.h) (hl : c.h.length ≤ 5000) :
    Calls Tryz.prog 35 #[.pointer (some ⟨g, 0, .none⟩), .int .i64 n] w fun e w' => ∃ A' c', e = .returned (.slice A' (histB c.h n).length c') ∧ Sep r [] (CR g cell ten vg c :: .sl 49 8 (.slice A' (histB c.h n).length c') ((histB c.h n).map Ch.cells) :: F) w' := by
  obtain ⟨vh, gs, gq, gt, vs, vl, vr, hS⟩ := Sep.CR_open.1 hS
  obtain ⟨Ah, ch, rfl, _⟩ := (hS.slrows (e := 49) (v := vh) (by repeat (first | exact At.here | apply At.next))).mform
  refine (rchist_o g _ _ _ _ _ _ c.h Ah ch n r _ w hS (Reads.of_at (e := 49) .here) hl).mono ?_
  rintro e w' ⟨A', c', he, hS⟩
  rw [histR_eq hh] at he hS
  exact ⟨A', c', he, Sep.CR_open.2 ⟨.slice Ah c.h.length ch, gs, gq, gt, vs, vl, vr, hS.sb⟩⟩
set_option maxHeartbeats 8000000 in
theorem folds28_z (z1 z2 : Int) (raw : List Ch) (v : Value) (l : List Int) (A : Option Addr) (cap : Nat) (nn fr : Int) (r : World) (_ : -9223372036854775808 ≤ z1 ∧ z1 ≤ 9223372036854775807) (_ : -9223372036854775808 ≤ z2 ∧ z2 ≤ 9223372036854775807) (hraw : Rows' r 8 v (raw.map Ch.cells)) (hr : Rd r 1 A l.length (l.map (Value.int .i64))) (_ : -9223372036854775808 ≤ nn ∧ nn ≤ 9223372036854775807) (_ : -9223372036854775808 ≤ fr ∧ fr ≤ 9223372036854775807) :
    Calls Tryz.prog 5 #[.int .i64 z1, .int .i64 z2, v, .slice A l.length cap, .int .i64 nn, .int .i64 fr] r fun e w' => e = .returned (.bool true) ∧ Chg [] r w' := by
  have hS := Sep.root r
  have hlen := hist_len l
  obtain ⟨Ar, cr, rfl, hcr⟩ := hraw.mform
  refine Z.enter Tryz.func5 Tryz.ntmps5 rfl rfl ?_
  repeat' (first|refine Kd ?_|(refine Sh.sa hS ?_;clear hS;intro w hS)|(refine K3 ?_;clear hS;intro g w hS hge)|((first|refine GS ?_ ?_|refine VB ?_ ?_)<;>intro hb<;>(try simp only [J1,J2,J3,J4,J5,J6] at hb)<;>(try (exfalso;first|omega|exact hb trivial))))
  refine Z.eff (Z.cl (awake28_z _ _ _ hS) rfl ?_) rfl
  clear hS
  rintro e w ⟨rfl, hS⟩
  refine ⟨_, rfl, ?_⟩
  repeat' (first|refine Kd ?_|(refine Sh.sa hS ?_;clear hS;intro w hS)|(refine K3 ?_;clear hS;intro g w hS hge)|((first|refine GS ?_ ?_|refine VB ?_ ?_)<;>intro hb<;>(try simp only [J1,J2,J3,J4,J5,J6] at hb)<;>(try (exfalso;first|omega|exact hb trivial))))
  refine Z.eff (Z.cl (fewS_z raw _ 40 _ _ _ hS (Reads.root hraw) (by omega)) rfl ?_) rfl
  clear hS
  rintro e w ⟨b, rfl, hfew, hS⟩
  refine ⟨_, rfl, ?_⟩
  cases b
  · repeat' (first|refine Kd ?_|(refine Sh.sa hS ?_;clear hS;intro w hS)|(refine K3 ?_;clear hS;intro g w hS hge)|((first|refine GS ?_ ?_|refine VB ?_ ?_)<;>intro hb<;>(try simp only [J1,J2,J3,J4,J5,J6] at hb)<;>(try (exfalso;first|omega|exact hb trivial))))
    refine Dnt Tryz.results5 ?_
    exact ⟨rfl, hS.chg⟩
  replace hfew := hfew rfl
  repeat' (first|refine Kd ?_|(refine Sh.sa hS ?_;clear hS;intro w hS)|(refine K3 ?_;clear hS;intro g w hS hge)|((first|refine GS ?_ ?_|refine VB ?_ ?_)<;>intro hb<;>(try simp only [J1,J2,J3,J4,J5,J6] at hb)<;>(try (exfalso;first|omega|exact hb trivial))))
  refine Z.eff (Z.cl (lightS_z _ _ _ _ _ _ hS) rfl ?_) rfl
  clear hS
  rintro e w ⟨rfl, hS⟩
  refine ⟨_, rfl, ?_⟩
  repeat' (first|refine Kd ?_|(refine Sh.sa hS ?_;clear hS;intro w hS)|(refine K3 ?_;clear hS;intro g w hS hge)|((first|refine GS ?_ ?_|refine VB ?_ ?_)<;>intro hb<;>(try simp only [J1,J2,J3,J4,J5,J6] at hb)<;>(try (exfalso;first|omega|exact hb trivial))))
  · refine Dnt Tryz.results5 ?_
    exact ⟨rfl, hS.chg⟩
  refine Z.eff (Z.cl (history_z l A cap _ _ _ hS hr (by omega)) rfl ?_) rfl
  clear hS
  rintro e w ⟨v, rfl, hS⟩
  refine ⟨_, rfl, ?_⟩
  obtain ⟨Ah, ch, rfl, hch⟩ := (hS.slrows .here).mform
  generalize (hist l).h = h at *
  repeat' (first|refine Kd ?_|(refine Sh.sa hS ?_;clear hS;intro w hS)|(refine K3 ?_;clear hS;intro g w hS hge)|((first|refine GS ?_ ?_|refine VB ?_ ?_)<;>intro hb<;>(try simp only [J1,J2,J3,J4,J5,J6] at hb)<;>(try (exfalso;first|omega|exact hb trivial))))
  refine Z.eff (Z.cl (modS_z nn ((h.length : Int) + 1) _ _ _ hS (by omega) (by omega)) rfl ?_) rfl
  clear hS
  rintro e w ⟨rfl, hS⟩
  refine ⟨_, rfl, ?_⟩
  have hk := modN_bd nn ((h.length : Int) + 1) (by omega)
  generalize modN nn ((h.length : Int) + 1) = k at *
  repeat' (first|refine Kd ?_|(refine Sh.sa hS ?_;clear hS;intro w hS)|(refine K3 ?_;clear hS;intro g w hS hge)|((first|refine GS ?_ ?_|refine VB ?_ ?_)<;>intro hb<;>(try simp only [J1,J2,J3,J4,J5,J6] at hb)<;>(try (exfalso;first|omega|exact hb trivial))))
  rename Nat => gl
  obtain ⟨ls, hls⟩ : ∃ ls, ls = [(⟨Ar, raw.length, cr, raw⟩ : LS), ⟨Ah, h.length, ch, h⟩, ⟨Ah, k.toNat, ch, h.take k.toNat⟩] := ⟨_, rfl⟩
  have hall : ∀ p, p ∈ ls → p.n = p.l.length ∧ p.l.length ≤ 1000 ∧ Reads r [Res.sl 49 8 (.slice Ah h.length ch) (h.map Ch.cells)] 8 (.slice p.A p.n p.c) (p.l.map Ch.cells) := by
    intro p hp
    rw [hls] at hp
    simp only [List.mem_cons, List.not_mem_nil, or_false] at hp
    rcases hp with rfl | rfl | rfl
    · exact ⟨rfl, by simp only; omega, Reads.root hraw⟩
    · exact ⟨rfl, by simp only; omega, Reads.of_at (by repeat (first | exact At.here | apply At.next))⟩
    · exact ⟨by simp; omega, by simp only [List.length_take]; omega, fun L w hw => (Reads.of_at (e := 49) .here L w hw).mtake (show k.toNat ≤ h.length by omega)⟩
  have hn3 : ls.length = 3 := by rw [hls]; rfl
  replace hS := mk_sl (sz := 1) (n := 3) (rows := ls.map LS.cells) hS (by rw [hls]; rfl) (by omega) (by decide) LS.row_ok (by rw [hls]; rfl)
  generalize [Res.sl 49 8 (.slice Ah h.length ch) (h.map Ch.cells)] = FF at *
  refine Z.lpS [12, 15, 16, 17, 18, 19, 20, 21, 45, 46, 47, 48, 49, 50, 51, 52, 53, 54, 55, 56, 57, 58, 59, 60, 61, 62, 63, 64, 65, 66, 67, 68, 69, 70, 71, 72, 73, 74, 75, 76, 77, 78, 79, 80, 81, 82, 83, 84, 85, 86, 87, 88, 89, 90, 91, 92, 93, 94, 95, 96, 97, 98] (fun m w s => ∃ q : Nat, s = [(45, .int .i64 q)] ∧ q ≤ ls.length ∧ m = ls.length - q ∧ Sep r [] (.sl 36 1 (.slice (some ⟨gl, 0, none⟩) 3 3) (ls.map LS.cells) :: FF) w) _ [(45, .int .i64 (0 : Nat))] (by repeat (first | exact trivial | refine ⟨rfl, ?_⟩)) ⟨0, rfl, by omega, rfl, hS⟩ ?_
  clear hS
  rintro m f0 w _ ⟨q, rfl, hq, rfl, hS⟩
  by_cases hlt : q < ls.length
  · have hra := (hS.slrows .here).elem (by omega) hlt
    obtain ⟨hyn, hyl, hy⟩ := hall ls[q] (by simp)
    replace hra : w.rangeAt gl (0 + q * 1) [.slice ls[q].A ls[q].n ls[q].c] := hra
    generalize ls[q].n = ny at *
    generalize ls[q].A = Ay at *
    generalize ls[q].c = cy at *
    generalize ls[q].l = y at *
    subst hyn
    obtain ⟨R, hR⟩ : ∃ R, foldC .zero y 0 = R := ⟨_, rfl⟩
    repeat' (first|refine Kd ?_|(refine Sh.sa hS ?_;clear hS;intro w hS)|(refine K3 ?_;clear hS;intro g w hS hge)|((first|refine GS ?_ ?_|refine VB ?_ ?_)<;>intro hb<;>(try simp only [J1,J2,J3,J4,J5,J6] at hb)<;>(try (exfalso;first|omega|exact hb trivial))))
    refine Z.eff (Z.cl (pcfold_z z1 z2 y _ _ _ _ hS (hy.cons _) (by omega) R hR) rfl ?_) rfl
    clear hS hra
    rintro e w (⟨h0, g1, gg1, rfl, hS⟩ | ⟨h0, rfl, hS⟩)
    · refine ⟨_, rfl, ?_⟩
      obtain ⟨hg, hgh⟩ := foldC_ok (h := y) (c := .zero) (i := 0) .zero (by rw [hR]; exact h0)
      rw [hR] at hg hgh
      replace hgh : R.c.h = y := hgh
      repeat' (first|refine Kd ?_|(refine Sh.sa hS ?_;clear hS;intro w hS)|(refine K3 ?_;clear hS;intro g w hS hge)|((first|refine GS ?_ ?_|refine VB ?_ ?_)<;>intro hb<;>(try simp only [J1,J2,J3,J4,J5,J6] at hb)<;>(try (exfalso;first|omega|exact hb trivial))))
      refine Z.eff (Z.cl (rcfold_z z1 z2 y _ _ _ _ hS (((hy.cons _).cons _).cons _) (by omega) R hR) rfl ?_) rfl
      clear hS
      rintro e w (⟨_, g2, gg2, rfl, hS⟩ | ⟨h1, _⟩)
      · refine ⟨_, rfl, ?_⟩
        replace hS := Sep.gate0 (hS.focus (R := .blk gg1 _ _) (by repeat (first | exact At.here | apply At.next)))
        replace hS := Sep.gate1 (hS.focus (R := .blk gg2 _ _) (by repeat (first | exact At.here | apply At.next)))
        replace hS := hS.sub (L' := PC g1 z1 z2 (.pointer (some ⟨gg1, 0, .none⟩)) R.c :: GP gg1 ⟨z1, 0, []⟩ :: CR g2 z1 z2 (.pointer (some ⟨gg2, 0, .none⟩)) R.c :: GR gg2 ⟨z1, 0, []⟩ :: .sl 36 1 (.slice (some ⟨gl, 0, none⟩) 3 3) (ls.map LS.cells) :: FF) (by repeat (first | exact Sub.rest | exact Sub.nil | exact .skip .rest | exact .skip (.skip .rest) | exact .skip (.skip (.skip .rest)) | apply Sub.keep | refine Sub.cons (by repeat (first | exact At.here | apply At.next)) ?_ | apply Sub.skip))
        have hcg := hg.cg hg.qok
        repeat' (first|refine Kd ?_|(refine Sh.sa hS ?_;clear hS;intro w hS)|(refine K3 ?_;clear hS;intro g w hS hge)|((first|refine GS ?_ ?_|refine VB ?_ ?_)<;>intro hb<;>(try simp only [J1,J2,J3,J4,J5,J6] at hb)<;>(try (exfalso;first|omega|exact hb trivial))))
        refine Z.eff (Z.cl (same28_z g1 gg1 g2 gg2 z1 z2 z1 z2 R.c R.c ⟨z1, 0, []⟩ ⟨z1, 0, []⟩ _ _ _ hS hcg (CRel.refl hcg) rfl (by rw [hgh]; omega)) rfl ?_) rfl
        clear hS
        rintro e w ⟨rfl, hS⟩
        refine ⟨_, rfl, ?_⟩
        repeat' (first|refine Kd ?_|(refine Sh.sa hS ?_;clear hS;intro w hS)|(refine K3 ?_;clear hS;intro g w hS hge)|((first|refine GS ?_ ?_|refine VB ?_ ?_)<;>intro hb<;>(try simp only [J1,J2,J3,J4,J5,J6] at hb)<;>(try (exfalso;first|omega|exact hb trivial))))
        refine Z.eff (Z.cl (phist_z g1 z1 z2 _ R.c fr _ _ _ hS (by rw [hgh]; omega)) rfl ?_) rfl
        clear hS
        rintro e w ⟨A3, c3, rfl, hS⟩
        refine ⟨_, rfl, ?_⟩
        repeat' (first|refine Kd ?_|(refine Sh.sa hS ?_;clear hS;intro w hS)|(refine K3 ?_;clear hS;intro g w hS hge)|((first|refine GS ?_ ?_|refine VB ?_ ?_)<;>intro hb<;>(try simp only [J1,J2,J3,J4,J5,J6] at hb)<;>(try (exfalso;first|omega|exact hb trivial))))
        replace hS := hS.fo (R := CR g2 _ _ _ _)
        refine Z.eff (Z.cl (rchist_z g2 z1 z2 _ R.c fr _ _ _ hS hg.isH (by rw [hgh]; omega)) rfl ?_) rfl
        clear hS
        rintro e w ⟨A4, c4, rfl, hS⟩
        refine ⟨_, rfl, ?_⟩
        repeat' (first|refine Kd ?_|(refine Sh.sa hS ?_;clear hS;intro w hS)|(refine K3 ?_;clear hS;intro g w hS hge)|((first|refine GS ?_ ?_|refine VB ?_ ?_)<;>intro hb<;>(try simp only [J1,J2,J3,J4,J5,J6] at hb)<;>(try (exfalso;first|omega|exact hb trivial))))
        have hbl : (histB R.c.h fr).length ≤ 1000 := by unfold histB; rw [List.length_drop, hgh]; omega
        refine Z.eff (Z.cl (chsame_z (histB R.c.h fr) (histB R.c.h fr) _ _ _ _ _ hS (Reads.of_at (e := 49) (v := .slice A3 (histB R.c.h fr).length c3) (by repeat (first | exact At.here | apply At.next))) (Reads.of_at (e := 49) (v := .slice A4 (histB R.c.h fr).length c4) (by repeat (first | exact At.here | apply At.next))) (by omega) (by omega)) rfl ?_) rfl
        clear hS
        rintro e w ⟨rfl, hS⟩
        refine ⟨_, rfl, ?_⟩
        repeat' (first|refine Kd ?_|(refine Sh.sa hS ?_;clear hS;intro w hS)|(refine K3 ?_;clear hS;intro g w hS hge)|((first|refine GS ?_ ?_|refine VB ?_ ?_)<;>intro hb<;>(try simp only [J1,J2,J3,J4,J5,J6] at hb)<;>(try (exfalso;first|omega|exact hb trivial))))
        all_goals (try (exfalso; simp at hb; done))
        refine Sh.again (ls.length - (q + 1)) [(45, .int .i64 (q + 1 : Nat))] ?_
        exact ⟨q + 1, rfl, by omega, rfl, hS.sb⟩
      · exact absurd h0 h1
    · refine ⟨_, rfl, ?_⟩
      repeat' (first|refine Kd ?_|(refine Sh.sa hS ?_;clear hS;intro w hS)|(refine K3 ?_;clear hS;intro g w hS hge)|((first|refine GS ?_ ?_|refine VB ?_ ?_)<;>intro hb<;>(try simp only [J1,J2,J3,J4,J5,J6] at hb)<;>(try (exfalso;first|omega|exact hb trivial))))
      refine Z.eff (Z.cl (rcfold_z z1 z2 y _ _ _ _ hS (hy.cons _) (by omega) R hR) rfl ?_) rfl
      clear hS
      rintro e w (⟨h1, _⟩ | ⟨_, rfl, hS⟩)
      · exact absurd h1 h0
      · refine ⟨_, rfl, ?_⟩
        repeat' (first|refine Kd ?_|(refine Sh.sa hS ?_;clear hS;intro w hS)|(refine K3 ?_;clear hS;intro g w hS hge)|((first|refine GS ?_ ?_|refine VB ?_ ?_)<;>intro hb<;>(try simp only [J1,J2,J3,J4,J5,J6] at hb)<;>(try (exfalso;first|omega|exact hb trivial))))
        refine Sh.again (ls.length - (q + 1)) [(45, .int .i64 (q + 1 : Nat))] ?_
        exact ⟨q + 1, rfl, by omega, rfl, hS.sb⟩
  · repeat' (first|refine Kd ?_|(refine Sh.sa hS ?_;clear hS;intro w hS)|(refine K3 ?_;clear hS;intro g w hS hge)|((first|refine GS ?_ ?_|refine VB ?_ ?_)<;>intro hb<;>(try simp only [J1,J2,J3,J4,J5,J6] at hb)<;>(try (exfalso;first|omega|exact hb trivial))))
    refine Dnt Tryz.results5 ?_
    exact ⟨rfl, hS.chg⟩
set_option maxRecDepth 100000 in
theorem cellFolds_lifted (os : Os) (started : os.Started) (H : Type) (enc : TypeId × Value → H) :
    ReturnsInHanded {} Tryz.checked os 5 .any (Rows.cellFoldsSpec.pre6 enc Tryz.prog Tryz.f5 Rows.cellFoldsRow.domain false) (Rows.cellFoldsSpec.post enc Tryz.prog Tryz.f5 false Rows.cellFoldsRow.fresh Rows.cellFoldsRow.handsOn Rows.cellFoldsRow.again) := by
  refine returnsInHanded_of_change (C := Tryz.checked) Tryz.own started (by kernel_rfl) Tryz.func5
    (ChangeSpec.witness6 (enc := enc) (C := Tryz.checked) false ⟨#[], #[.int .i64 0, .int .i64 0, .slice none 0 0, .slice none 0 0, .int .i64 0, .int .i64 0], []⟩ 8 (by kernel_rfl) (by kernel_rfl) (by kernel_rfl) (by kernel_rfl)) ?_
  intro W base args ds gs before hval0 hW _ _
  have hval : ∀ (j : Nat) t v, Tryz.f5.params[j]? = some t → args[j]? = some v → Value.okWide Tryz.prog W .any base t v := hval0
  have hW0 := hW
  obtain ⟨p, q, hA0, hV, hpq, _, _⟩ := hW
  obtain ⟨la⟩ := args
  have hA : DataW.TrodAll enc Tryz.prog W 0 (fun _ => true) true [3, 3, 36, 24, 3, 3] la ds p := by have := hA0; rw [Tryz.params5] at this; exact this
  rw [Tryz.params5] at hval
  obtain ⟨v0, la0, d0, ds0, p0, q0, rfl, rfl, rfl, h0, hA⟩ := trodAll_cons hA
  obtain ⟨v1, la1, d1, ds1, p1, q1, rfl, rfl, rfl, h1, hA⟩ := trodAll_cons hA
  obtain ⟨v2, la2, d2, ds2, p2, q2, rfl, rfl, rfl, h2, hA⟩ := trodAll_cons hA
  obtain ⟨v3, la3, d3, ds3, p3, q3, rfl, rfl, rfl, h3, hA⟩ := trodAll_cons hA
  obtain ⟨v4, la4, d4, ds4, p4, q4, rfl, rfl, rfl, h4, hA⟩ := trodAll_cons hA
  obtain ⟨v5, la5, d5, ds5, p5, q5, rfl, rfl, rfl, h5, hA⟩ := trodAll_cons hA
  obtain ⟨rfl, rfl, rfl⟩ := trodAll_nil hA
  obtain ⟨z0, rfl, hr0⟩ := arg_int (hval 0 _ _ rfl rfl) h0
  obtain ⟨z1, rfl, hr1⟩ := arg_int (hval 1 _ _ rfl rfl) h1
  obtain ⟨l2, A2, cap2, rfl, hr2⟩ := arg_changes (hval 2 _ _ rfl rfl) h2
  obtain ⟨l3, A3, cap3, rfl, hr3⟩ := arg_ints (hval 3 _ _ rfl rfl) h3
  obtain ⟨z4, rfl, hr4⟩ := arg_int (hval 4 _ _ rfl rfl) h4
  obtain ⟨z5, rfl, hr5⟩ := arg_int (hval 5 _ _ rfl rfl) h5
  have fin : Calls Tryz.prog 5 _ W fun e W' => e = .returned (.bool true) ∧ Chg [] W W' := folds28_z z0 z1 l2 _ l3 A3 cap3 z4 z5 W hr0 hr1 hr2 hr3 hr4 hr5
  refine fin.mono fun e W' ⟨he, hc⟩ => ⟨_, he, ?_⟩
  exact law_post Tryz.laidOut (by rw [Tryz.params5]; intro t ht; simp only [List.mem_cons, List.not_mem_nil, or_false] at ht; rcases ht with rfl | rfl | rfl | rfl | rfl | rfl <;> exact ⟨by kernel_rfl, of_decide_eq_true (by kernel_rfl)⟩) rfl rfl Tryz.underlying4 rfl hW0 hc.below
theorem cellFolds_holds : Rows.CellFoldsSaid :=
  OpenClaim.holds_of_wide 5 Tryz.f5 rfl rfl rfl rfl rfl rfl rfl ⟨rfl, rfl, rfl, rfl, rfl⟩ rfl rfl rfl rfl rfl (by kernel_rfl) Tryz.func5 (by kernel_rfl)
    (of_decide_eq_true (by kernel_rfl)) (by unfold Func.isWrapper; rw [if_neg (of_decide_eq_false (by kernel_rfl))]; exact ⟨rfl, rfl⟩)
    (fun os started H enc _ => cellFolds_lifted os started H enc)
end Go.Proofs.YtahackdfjcgkhaaGreat
