import Derived.Test.YtfmnjbhncnldmaaGreatR44
set_option linter.unusedSimpArgs false
set_option linter.unusedVariables false
namespace Go.Proofs.YtfmnjbhncnldmaaGreat
open Go.RowKit
attribute [local irreducible] Res.blk Res.sl Res.all Res.ex Res.pure Res.star
theorem lostL_at {h : List Ch} {j a k : Nat} (hk : k < (lostL h j a h.length).length) (hl : j + k < h.length) : (lostL h j a h.length)[k] = h[j + k] := by
  simp only [lostL, List.getElem_drop, List.getElem_take]
set_option maxHeartbeats 16000000 in
theorem pkept_z (gx n i : Nat) (q : PQd) (c : Nat → Nat) (vg : Nat → Value) (nb : Nat → Int) (ak lag : Int) (ch ci : Cp) (j : Nat) (r : World) (F : List Res) (w : World)
    (hS : Sep r [] (.blk gx 42 (prC q n nb ak) :: PC q.gh 0 0 (.pointer (some ⟨q.gg, 0, .none⟩)) ch :: .sl 34 1 (.slice q.cA n q.cc) (((List.range n).map c).map ptC) :: PC (c i) (i + 1) 0 (vg i) ci :: F) w) (hin : i < n) (hn2 : n ≤ 2) (hh : IsH ch.h) (hl : ch.h.length ≤ 4000) (hci : ci = cpOf (ch.h.take j)) (hj : j ≤ ch.h.length) (hak : 0 ≤ ak ∧ ak ≤ ch.h.length) (hlag : lag = -1 ∨ ak ≤ j + lag) (hlb : -1 ≤ lag ∧ lag ≤ 1000) :
    Calls Tryz.prog 11 #[.pointer (some ⟨gx, 0, .none⟩), .int .i64 i, .int .i64 lag] w fun e w' => e = .returned (.bool true) ∧ Sep r [] (.blk gx 42 (prC q n nb ak) :: PC q.gh 0 0 (.pointer (some ⟨q.gg, 0, .none⟩)) ch :: .sl 34 1 (.slice q.cA n q.cc) (((List.range n).map c).map ptC) :: PC (c i) (i + 1) 0 (vg i) ci :: F) w' := by
  obtain ⟨a, rfl⟩ := Int.eq_ofNat_of_zero_le hak.1
  have hln : 0 < n := by omega
  obtain ⟨gC, hqC⟩ := Z.Sep_slform hS (e := 34) (sz := 1) (A := q.cA) (n0 := n) (c := q.cc) (rows := ((List.range n).map c).map ptC) AtF (by simpa using hln)
  obtain ⟨gh, gg, gl, cA, cc, fA, fc, sA, sc, hA, hc⟩ := q
  simp only at hqC
  subst hqC
  dsimp only at hS ⊢
  have hcih : ci.h = ch.h.take j := by rw [hci]; exact (hh.take j).good.2.1
  have hlj : (ch.h.take j).length = j := by rw [List.length_take]; omega
  generalize hgh : ch.h = h at *
  have aC : ∀ W L, Sep r [] L W → ∀ {k}, At L k (.sl 34 1 (.slice (some ⟨gC, 0, none⟩) n cc) (((List.range n).map c).map ptC)) → W.rangeAt gC (0 + i * 1) (ptC (c i)) := fun W L h k ha => row_at (fc := ptC) h ha (by omega) (by simpa using hin) (by simp)
  refine Z.enter Tryz.func11 Tryz.ntmps11 rfl rfl ?_
  repeat' (first|refine K ?_|(refine Sh.sa hS ?_;clear hS;intro w hS)|(refine K3 ?_;clear hS;intro g w hS hge)|((first|refine GS ?_ ?_|refine VB ?_ ?_)<;>intro hb<;>(try simp only [JJ] at hb)<;>(try exact JX)))
  refine Z.cut [7, 8, 12, 13, 14, 15, 16, 17, 18, 19, 20, 21, 22, 23, 24] (fun w z => ∃ A7 c7 A8 c8, z = [(7, .slice A7 h.length c7), (8, .slice A8 j c8)] ∧ Sep r [] (.sl 149 8 (.slice A7 h.length c7) (h.map Ch.cells) :: .sl 149 8 (.slice A8 j c8) ((h.take j).map Ch.cells) :: .blk gx 42 (prC ⟨gh, gg, gl, some ⟨gC, 0, none⟩, cc, fA, fc, sA, sc, hA, hc⟩ n nb a) :: PC gh 0 0 (.pointer (some ⟨gg, 0, .none⟩)) ch :: .sl 34 1 (.slice (some ⟨gC, 0, none⟩) n cc) (((List.range n).map c).map ptC) :: PC (c i) (i + 1) 0 (vg i) ci :: F) w) ?_ ?_
  · refine D.startS (Lr := [.blk gx 42 (prC ⟨gh, gg, gl, some ⟨gC, 0, none⟩, cc, fA, fc, sA, sc, hA, hc⟩ n nb a), .sl 34 1 (.slice (some ⟨gC, 0, none⟩) n cc) (((List.range n).map c).map ptC)]) (hS.sb) 15 15 (by kernel_rfl) rfl ?_
    replace hS := hS.drew
    refine Sh.dp 0 1 ?_
    refine Sh.dp 1 3 ?_
    refine Sh.dp 2 7 ?_
    refine Sh.dp 5 39 ?_
    refine Sh.dp 6 103 ?_
    refine Sh.dp 7 231 ?_
    refine Sh.dp 9 743 ?_
    refine Sh.dl 3 751 ?_
    refine Sh.dl 8 1007 ?_
    first | refine D.ixn 10 2031 rfl D.wantedN (by kernel_rfl) rfl rfl rfl (by omega) ?_ | refine D.ix 10 2031 rfl D.wantedN (by kernel_rfl) rfl rfl rfl (by omega) ?_ | refine D.ia 10 2031 rfl D.wantedN (by kernel_rfl) rfl rfl rfl (by omega) ?_
    refine D.ldR 11 4079 rfl D.wantedN (by kernel_rfl) rfl (fun W h => aC W _ h AtF) rfl ?_
    refine D.eff 4 4095 rfl D.wantedN (by kernel_rfl) (by kernel_rfl) (fun _ _ h => h) ?_
    replace hS := hS.fo (R := PC gh 0 0 (.pointer (some ⟨gg, 0, .none⟩)) ch)
    refine Z.cl (phist0_z gh 0 0 _ ch _ _ _ hS (by rw [hgh]; omega)) rfl ?_
    clear hS
    rintro e w ⟨A7, c7, rfl, hS⟩
    refine ⟨_, rfl, ?_⟩
    rw [hgh] at hS ⊢
    refine ⟨HM.s (hS.sb), ?_⟩
    refine D.eff 12 8191 rfl D.wantedN (by kernel_rfl) (by kernel_rfl) (fun _ _ h => h) ?_
    replace hS := hS.fo (R := PC (c i) (i + 1) 0 (vg i) ci)
    refine Z.cl (phist0_z (c i) (i + 1) 0 _ ci _ _ _ hS (by rw [hcih]; omega)) rfl ?_
    clear hS
    rintro e w ⟨A8, c8, rfl, hS⟩
    refine ⟨_, rfl, ?_⟩
    rw [hcih, hlj] at hS ⊢
    refine ⟨HM.s (hS.sb), ?_⟩
    refine Sh.dp 13 16383 ?_
    refine Sh.dp 14 32767 ?_
    refine D.done (by kernel_rfl) ?_
    refine Sh.cut [(7, _), (8, _)] ?_
    exact ⟨_, _, _, _, rfl, hS.sb⟩
  clear hS
  rintro f0 w _ ⟨A7, c7, A8, c8, rfl, hS⟩
  repeat' (first|refine K ?_|(refine Sh.sa hS ?_;clear hS;intro w hS)|(refine K3 ?_;clear hS;intro g w hS hge)|((first|refine GS ?_ ?_|refine VB ?_ ?_)<;>intro hb<;>(try simp only [JJ] at hb)<;>(try exact JX)))
  refine Z.eff (Z.cl (foreport_z h j a (.slice A7 h.length c7) (.slice A8 j c8) _ _ _ hS (Reads.of_at (e := 149) (v := .slice A7 h.length c7) AtF) (Reads.of_at (e := 149) (v := .slice A8 j c8) AtF) hh hj (by omega)) rfl ?_) rfl
  clear hS
  rintro e w ⟨AL, cl, d, rfl, hS⟩
  refine ⟨_, rfl, ?_⟩
  have hlo : (lostL h j a h.length).length = a - j := by unfold lostL; rw [List.length_drop, List.length_take]; omega
  rw [hlo] at hS ⊢
  repeat' (first|refine K ?_|(refine Sh.sa hS ?_;clear hS;intro w hS)|(refine K3 ?_;clear hS;intro g w hS hge)|((first|refine GS ?_ ?_|refine VB ?_ ?_)<;>intro hb<;>(try simp only [JJ] at hb)<;>(try exact JX)))
  rename Nat => g9
  refine Z.eff (Z.cl (fowithin_z lag j AL (a - j) cl d (by omega) _ _ _ hS) rfl ?_) rfl
  clear hS
  rintro e w ⟨rfl, hS⟩
  refine ⟨_, rfl, ?_⟩
  repeat' (first|refine K ?_|(refine Sh.sa hS ?_;clear hS;intro w hS)|(refine K3 ?_;clear hS;intro g w hS hge)|((first|refine GS ?_ ?_|refine VB ?_ ?_)<;>intro hb<;>(try simp only [JJ] at hb)<;>(try exact JX)))
  refine Z.eff (Z.cl (fokept_z h j a (.slice A7 h.length c7) (.slice A8 j c8) _ _ _ hS (Reads.of_at (e := 149) (v := .slice A7 h.length c7) AtF) (Reads.of_at (e := 149) (v := .slice A8 j c8) AtF) hh hj (by omega)) rfl ?_) rfl
  clear hS
  rintro e w ⟨AK, ck, rfl, hS⟩
  refine ⟨_, rfl, ?_⟩
  have hke : (keptL h j a h.length).length = min j a := by unfold keptL; rw [List.length_take]; omega
  rw [hke] at hS ⊢
  repeat' (first|refine K ?_|(refine Sh.sa hS ?_;clear hS;intro w hS)|(refine K3 ?_;clear hS;intro g w hS hge)|((first|refine GS ?_ ?_|refine VB ?_ ?_)<;>intro hb<;>(try simp only [JJ] at hb)<;>(try exact JX)))
  refine D.startS (Lr := [.blk g9 144 (lossC j AL (a - j : Nat) cl d), .blk gx 42 (prC ⟨gh, gg, gl, some ⟨gC, 0, none⟩, cc, fA, fc, sA, sc, hA, hc⟩ n nb a)]) (hS.sb) 23 23 (by kernel_rfl) rfl ?_
  replace hS := hS.drew
  refine Sh.dp 0 1 ?_
  refine Sh.dp 1 3 ?_
  refine Sh.dp 2 7 ?_
  refine Sh.dp 6 71 ?_
  refine Sh.dp 7 199 ?_
  refine Sh.dp 8 455 ?_
  refine Sh.dl 3 463 ?_
  refine Sh.dp 4 479 ?_
  first | refine D.sum 5 511 rfl D.wantedN (by kernel_rfl) rfl (by constructor <;> omega) ?_ | refine D.sumW 5 511 rfl D.wantedN (by kernel_rfl) rfl ?_
  refine Sh.dl 9 1023 ?_
  first | refine D.pr 10 2047 rfl D.wantedN (by kernel_rfl) rfl ?_ | refine D.pl 10 2047 rfl D.wantedN (by kernel_rfl) (R.nea rfl rfl rfl rfl) ?_
  refine Sh.dp 11 4095 ?_
  refine D.slot 68 rfl (fun hb => by exfalso; (try simp only [decide_eq_true_eq, decide_eq_false_iff_not, Bool.not_eq_true', Bool.not_eq_false', Int.not_lt, Int.not_le] at hb) <;> first | omega | exact hb trivial | cases hb | simp at hb) (fun hb => ?_)
  (try simp only [decide_eq_true_eq, decide_eq_false_iff_not, Bool.not_eq_true', Bool.not_eq_false', Int.not_lt, Int.not_le] at hb)
  refine Sh.dp 12 8191 ?_
  refine Sh.dp 13 16383 ?_
  refine Sh.dp 14 32767 ?_
  refine Sh.dp 15 65535 ?_
  refine Sh.dp 16 131071 ?_
  refine Sh.dp 18 393215 ?_
  refine Sh.dp 19 917503 ?_
  refine Sh.dl 17 1048575 ?_
  refine D.pl 20 2097151 rfl (D.wantedT rfl rfl) (by kernel_rfl) (R.min2 rfl rfl) ?_
  first | refine D.pr 21 4194303 rfl (D.wantedT rfl rfl) (by kernel_rfl) rfl ?_ | refine D.pl 21 4194303 rfl (D.wantedT rfl rfl) (by kernel_rfl) (R.nea rfl rfl rfl rfl) ?_
  refine Sh.dp 22 8388607 ?_
  refine D.done (by kernel_rfl) ?_
  repeat' (first|refine K ?_|(refine Sh.sa hS ?_;clear hS;intro w hS)|(refine K3 ?_;clear hS;intro g w hS hge)|((first|refine GS ?_ ?_|refine VB ?_ ?_)<;>intro hb<;>(try simp only [JJ] at hb)<;>(try exact JX)))
  refine Z.lpS [6, 11, 80, 81, 82, 83, 84, 85, 86, 87, 88, 89, 90, 91, 92, 93, 94, 95, 96, 97, 98, 99] (fun m w z => ∃ k : Nat, z = [(11, .int .i64 k)] ∧ k ≤ a - j ∧ m = a - j - k ∧ Sep r [] (.blk g9 144 (lossC j AL (a - j : Nat) cl d) :: .sl 149 8 (.slice AL (a - j) cl) ((lostL h j a h.length).map Ch.cells) :: .sl 149 8 (.slice A7 h.length c7) (h.map Ch.cells) :: .sl 149 8 (.slice A8 j c8) ((h.take j).map Ch.cells) :: .blk gx 42 (prC ⟨gh, gg, gl, some ⟨gC, 0, none⟩, cc, fA, fc, sA, sc, hA, hc⟩ n nb a) :: PC gh 0 0 (.pointer (some ⟨gg, 0, .none⟩)) ch :: .sl 34 1 (.slice (some ⟨gC, 0, none⟩) n cc) (((List.range n).map c).map ptC) :: PC (c i) (i + 1) 0 (vg i) ci :: F) w) _ [(11, .int .i64 (0 : Nat))] (by repeat (first | exact trivial | refine ⟨rfl, ?_⟩)) ⟨0, rfl, by omega, rfl, hS.sb⟩ ?_
  clear hS
  rintro m f1 w _ ⟨k, rfl, hk, rfl, hS⟩
  by_cases hlt : k < a - j
  · have hk1 : k < (lostL h j a h.length).length := by omega
    have hk2 : j + k < h.length := by omega
    have hx := lostL_at hk1 hk2
    obtain ⟨gb, ob, hA, _, _⟩ := (hS.slrows (e := 149) (v := .slice AL (a - j) cl) AtF).mat (by omega) (q := k) hk1
    subst hA
    obtain ⟨gb2, ob2, hA2, _, _⟩ := (hS.slrows (e := 149) (v := .slice A7 h.length c7) AtF).mat (by omega) (q := j + k) hk2
    subst hA2
    have aL : ∀ W L, Sep r [] L W → ∀ {k2}, At L k2 (.sl 149 8 (.slice (some ⟨gb, ob, none⟩) (a - j) cl) ((lostL h j a h.length).map Ch.cells)) → W.rangeAt gb (ob + k * 8) h[j + k].cells := fun W L hW k2 ha => by
      have h3 := (hW.slrows ha).elem (q := k) (by omega) (by simpa using hk1)
      rw [hx] at h3
      exact h3
    have aH : ∀ W L, Sep r [] L W → ∀ {k2}, At L k2 (.sl 149 8 (.slice (some ⟨gb2, ob2, none⟩) h.length c7) (h.map Ch.cells)) → W.rangeAt gb2 (ob2 + (j + k) * 8) h[j + k].cells := fun W L hW k2 ha => by
      have h3 := (hW.slrows ha).elem (q := j + k) (by omega) (by simpa using hk2)
      exact h3
    clear hx
    generalize h[j + k] = y at *
    repeat' (first|refine K ?_|(refine Sh.sa hS ?_;clear hS;intro w hS)|(refine K3 ?_;clear hS;intro g w hS hge)|((first|refine GS ?_ ?_|refine VB ?_ ?_)<;>intro hb<;>(try simp only [JJ] at hb)<;>(try exact JX)))
    refine D.startS (Lr := [.blk g9 144 (lossC j (some ⟨gb, ob, none⟩) (a - j : Nat) cl d), .sl 149 8 (.slice (some ⟨gb, ob, none⟩) (a - j) cl) ((lostL h j a h.length).map Ch.cells), .sl 149 8 (.slice (some ⟨gb2, ob2, none⟩) h.length c7) (h.map Ch.cells)]) (hS.sb) 13 13 (by kernel_rfl) rfl ?_
    replace hS := hS.drew
    refine Sh.dp 0 1 ?_
    refine Sh.dp 2 5 ?_
    refine Sh.dp 5 37 ?_
    refine Sh.dp 6 101 ?_
    refine Sh.dp 7 229 ?_
    refine Sh.dp 8 485 ?_
    first | refine D.sum 9 997 rfl D.wantedN (by kernel_rfl) rfl (by constructor <;> omega) ?_ | refine D.sumW 9 997 rfl D.wantedN (by kernel_rfl) rfl ?_
    first | refine D.ixn 10 2021 rfl D.wantedN (by kernel_rfl) rfl rfl rfl (by omega) ?_ | refine D.ix 10 2021 rfl D.wantedN (by kernel_rfl) rfl rfl rfl (by omega) ?_ | refine D.ia 10 2021 rfl D.wantedN (by kernel_rfl) rfl rfl rfl (by omega) ?_
    refine Sh.dl 1 2023 ?_
    first | refine D.ixn 3 2031 rfl D.wantedN (by kernel_rfl) rfl rfl rfl (by omega) ?_ | refine D.ix 3 2031 rfl D.wantedN (by kernel_rfl) rfl rfl rfl (by omega) ?_ | refine D.ia 3 2031 rfl D.wantedN (by kernel_rfl) rfl rfl rfl (by omega) ?_
    refine D.ldR 4 2047 rfl D.wantedN (by kernel_rfl) rfl (fun W h => aL W _ h AtF) rfl ?_
    refine D.ldR 11 4095 rfl D.wantedN (by kernel_rfl) rfl (fun W h => aH W _ h AtF) rfl ?_
    first | refine D.pr 12 8191 rfl D.wantedN (by kernel_rfl) rfl ?_ | refine D.pl 12 8191 rfl D.wantedN (by kernel_rfl) (R.nea rfl rfl rfl rfl) ?_
    refine D.done (by kernel_rfl) ?_
    repeat' (first|refine K ?_|(refine Sh.sa hS ?_;clear hS;intro w hS)|(refine K3 ?_;clear hS;intro g w hS hge)|((first|refine GS ?_ ?_|refine VB ?_ ?_)<;>intro hb<;>(try simp only [JJ] at hb)<;>(try exact JX)))
    · exfalso
      simp at hb
    refine Sh.again (a - j - (k + 1)) [(11, .int .i64 (k + 1 : Nat))] ?_
    exact ⟨k + 1, rfl, by omega, rfl, hS.sb⟩
  · repeat' (first|refine K ?_|(refine Sh.sa hS ?_;clear hS;intro w hS)|(refine K3 ?_;clear hS;intro g w hS hge)|((first|refine GS ?_ ?_|refine VB ?_ ?_)<;>intro hb<;>(try simp only [JJ] at hb)<;>(try exact JX)))
    refine Dnt Tryz.results11 ?_
    exact ⟨rfl, hS.sb⟩
end Go.Proofs.YtfmnjbhncnldmaaGreat
