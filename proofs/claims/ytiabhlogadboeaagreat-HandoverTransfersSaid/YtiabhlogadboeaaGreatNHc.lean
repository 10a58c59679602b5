/-
  HandoverTransfers: for every input the call returns true, and the arguments read afterwards as they read before.
-/
import Derived.Test.YtiabhlogadboeaaGreatNHoQ
namespace Go.Proofs.YtiabhlogadboeaaGreat
open Go.RowKit Go.ChangeShapes Go.WideShapes Go.ChangeAt
set_option linter.unusedSimpArgs false
set_option linter.unusedVariables false

theorem sameM_self (m : Mf) : sameM m m = true := by simp [sameM, listsB]
/-- One transfer to try: tenants, cells, epoch. -/
structure Tr where
  t0 : Int
  t1 : Int
  c0 : Int
  c1 : Int
  e : Int
def Tr.cells (x : Tr) : List Value := [.int .i64 x.t0, .int .i64 x.t1, .int .i64 x.c0, .int .i64 x.c1, .int .i64 x.e]
theorem Tr.ok {l : List Tr} : ∀ row, row ∈ l.map Tr.cells → row.length = 5 ∧ ∀ u, u ∈ row → u.oneCell' = true := by
  intro row hr
  obtain ⟨x, _, rfl⟩ := List.mem_map.1 hr
  exact ⟨rfl, by simp [Tr.cells, Value.oneCell']⟩
set_option maxHeartbeats 8000000 in
theorem transfers_z (l : List Int) (A : Option Addr) (cap : Nat) (m : List Int) (A2 : Option Addr) (cap2 : Nat) (n : Int) (fk : Bool) (t0 t1 c0 c1 ep key : Int) (r : World) (hr0 : Rd r 1 A l.length (l.map (Value.int .i64))) (hr1 : Rd r 1 A2 m.length (m.map (Value.int .i64))) (_ : i64ok n) (ht : i64ok t0 ∧ i64ok t1) (_ : i64ok c0 ∧ i64ok c1) (_ : i64ok ep) (_ : i64ok key) :
    Calls Tryz.prog 3 #[.slice A l.length cap, .slice A2 m.length cap2, .int .i64 n, .bool fk, .agg #[.int .i64 t0, .int .i64 t1], .agg #[.int .i64 c0, .int .i64 c1], .int .i64 ep, .int .i64 key] r fun e w' => e = .returned (.bool true) ∧ Chg [] r w' := by
  have hS := Sep.root r
  have hpG := pairG_isH l n m fk
  have hpH := hist_isH l
  have hpl := hist_len l
  refine Z.enter Tryz.func3 Tryz.ntmps3 rfl rfl ?_
  repeat' (first|refine K ?_|(refine Sh.sa hS ?_;clear hS;intro w hS)|(refine K3 ?_;clear hS;intro g w hS hge)|((first|refine GS ?_ ?_|refine VB ?_ ?_)<;>intro hb<;>(try simp only [J1,J2,J3,J4,J5,J6] at hb)<;>(try (exfalso;first|omega|exact hb trivial))))
  rename Nat => g13
  refine Z.eff (Z.cl (awake32_z _ _ _ hS) rfl ?_) rfl
  clear hS
  rintro e w ⟨rfl, hS⟩
  refine ⟨_, rfl, ?_⟩
  repeat' (first|refine K ?_|(refine Sh.sa hS ?_;clear hS;intro w hS)|(refine K3 ?_;clear hS;intro g w hS hge)|((first|refine GS ?_ ?_|refine VB ?_ ?_)<;>intro hb<;>(try simp only [J1,J2,J3,J4,J5,J6] at hb)<;>(try (exfalso;first|omega|exact hb trivial))))
  refine Z.eff (Z.cl (lightS_z A l.length cap _ _ _ hS) rfl ?_) rfl
  clear hS
  rintro e w ⟨rfl, hS⟩
  refine ⟨_, rfl, ?_⟩
  repeat' (first|refine K ?_|(refine Sh.sa hS ?_;clear hS;intro w hS)|(refine K3 ?_;clear hS;intro g w hS hge)|((first|refine GS ?_ ?_|refine VB ?_ ?_)<;>intro hb<;>(try simp only [J1,J2,J3,J4,J5,J6] at hb)<;>(try (exfalso;first|omega|exact hb trivial))))
  · refine Dnt Tryz.results3 ?_
    exact ⟨rfl, hS.chg⟩
  rename _ ≤ (150 : Int) => hlt
  refine Z.eff (Z.cl (lightS_z A2 m.length cap2 _ _ _ hS) rfl ?_) rfl
  clear hS
  rintro e w ⟨rfl, hS⟩
  refine ⟨_, rfl, ?_⟩
  repeat' (first|refine K ?_|(refine Sh.sa hS ?_;clear hS;intro w hS)|(refine K3 ?_;clear hS;intro g w hS hge)|((first|refine GS ?_ ?_|refine VB ?_ ?_)<;>intro hb<;>(try simp only [J1,J2,J3,J4,J5,J6] at hb)<;>(try (exfalso;first|omega|exact hb trivial))))
  · refine Dnt Tryz.results3 ?_
    exact ⟨rfl, hS.chg⟩
  rename (m.length : Int) ≤ (150 : Int) => hlt2
  refine Z.cut [37, 38, 39, 40, 41, 42, 43, 44, 45, 46, 47, 48] (fun w s => ∃ (gs : Nat) (a b : Tr), s = [(46, .slice (some ⟨gs, 0, .none⟩) 2 2), (47, .int .i64 2), (48, .int .i64 0)] ∧ i64ok a.t0 ∧ i64ok b.t0 ∧ Sep r [] (.sl 26 5 (.slice (some ⟨gs, 0, .none⟩) 2 2) ([a, b].map Tr.cells) :: []) w) ?_ ?_
  · refine D.startS (Lr := [.blk g13 23 [.int .i64 c0, .int .i64 c1], .blk g 23 [.int .i64 t0, .int .i64 t1]]) (hS.sb) 12 12 (by kernel_rfl) rfl ?_
    replace hS := hS.drew
    refine Sh.dp 2 4 ?_
    first | refine D.bu 4 20 rfl D.wantedN (by kernel_rfl) rfl rfl ?_ | refine D.buA 4 20 rfl D.wantedN (by kernel_rfl) rfl rfl ?_
    first | refine D.bu 5 52 rfl D.wantedN (by kernel_rfl) rfl rfl ?_ | refine D.buA 5 52 rfl D.wantedN (by kernel_rfl) rfl rfl ?_
    refine Sh.dp 6 116 ?_
    refine Sh.dp 11 2164 ?_
    refine Sh.dl 0 2165 ?_
    refine Sh.dl 1 2167 ?_
    first | refine D.bu 3 2175 rfl D.wantedN (by kernel_rfl) rfl rfl ?_ | refine D.buA 3 2175 rfl D.wantedN (by kernel_rfl) rfl rfl ?_
    refine D.eff 7 2303 rfl D.wantedN (by kernel_rfl) (by kernel_rfl) (fun _ _ h => h) ?_
    refine Z.cl (modS_z ep 9 _ _ _ hS (by omega) (by omega)) rfl ?_
    clear hS
    rintro e w ⟨rfl, hS⟩
    refine ⟨_, rfl, ?_⟩
    refine ⟨HM.s (hS.sb), ?_⟩
    first | refine D.bu 8 2559 rfl D.wantedN (by kernel_rfl) rfl rfl ?_ | refine D.buA 8 2559 rfl D.wantedN (by kernel_rfl) rfl rfl ?_
    refine D.eff 9 3071 rfl D.wantedN (by kernel_rfl) (by kernel_rfl) (fun _ _ h => h) ?_
    refine Z.bs hS rfl rfl rfl ?_
    clear hS; intro g w hS hge
    refine ⟨HM.s (hS.sb), ?_⟩
    refine Sh.dp 10 4095 ?_
    refine D.done (by kernel_rfl) ?_
    refine Sh.cut [(46, _), (47, _), (48, _)] ?_
    refine ⟨_, ⟨t0, t1, c0, c1, ep⟩, ⟨2, 2, 0, 1, modN ep 9⟩, rfl, ht.1, by show i64ok 2; unfold i64ok; omega, ?_⟩
    exact (mk_sl (n := 2) (rows := [⟨t0, t1, c0, c1, ep⟩, ⟨2, 2, 0, 1, modN ep 9⟩].map Tr.cells) hS rfl (by omega) (by decide) Tr.ok rfl).sub (by repeat (first | exact Sub.rest | exact Sub.nil | exact .skip .rest | exact .skip (.skip .rest) | exact .skip (.skip (.skip .rest)) | apply Sub.keep | refine Sub.cons (by repeat (first | exact At.here | apply At.next)) ?_ | apply Sub.skip))
  clear hS
  rintro f0 w _ ⟨gs, a, b, rfl, ha, hb0, hS⟩
  have hab : ∀ q (hq : q < 2), i64ok ([a, b][q]'(by simpa using hq)).t0 := by
    intro q hq
    match q, hq with
    | 0, _ => exact ha
    | 1, _ => exact hb0
  repeat' (first|refine K ?_|(refine Sh.sa hS ?_;clear hS;intro w hS)|(refine K3 ?_;clear hS;intro g w hS hge)|((first|refine GS ?_ ?_|refine VB ?_ ?_)<;>intro hb<;>(try simp only [J1,J2,J3,J4,J5,J6] at hb)<;>(try (exfalso;first|omega|exact hb trivial))))
  refine Z.lpS [16, 18, 19, 20, 21, 22, 23, 24, 25, 26, 48, 49, 50, 51, 52, 53, 54, 55, 56, 57, 58, 59, 60, 61, 62, 63, 64, 65, 66, 67, 68, 69, 70, 71, 72, 73, 74, 75, 76, 77, 78, 79, 80, 81, 82, 83, 84, 85, 86, 87, 88, 89, 90, 91, 92, 93, 94, 95, 96, 97, 98, 99, 100, 101, 102, 103, 104, 105, 106, 107, 108, 109, 110, 111, 112, 113, 114, 115, 116, 117, 118, 119, 120, 121, 122, 123, 124, 125, 126, 127, 128, 129, 130, 131, 132] (fun mm w s => ∃ q : Nat, s = [(48, .int .i64 q)] ∧ q ≤ 2 ∧ mm = 2 - q ∧ Sep r [] (.sl 26 5 (.slice (some ⟨gs, 0, .none⟩) 2 2) ([a, b].map Tr.cells) :: []) w) _ [(48, .int .i64 (0 : Nat))] (by repeat (first | exact trivial | refine ⟨rfl, ?_⟩)) ⟨0, rfl, by omega, rfl, hS⟩ ?_
  clear hS
  rintro mm f0 w _ ⟨q, rfl, hq, rfl, hS⟩
  by_cases hlt3 : q < 2
  · obtain ⟨gb, o, hAe, _, hra⟩ := (hS.slrows (e := 26) (v := .slice (some ⟨gs, 0, .none⟩) 2 2) (by repeat (first | exact At.here | apply At.next))).mat (by omega) (q := q) (by simpa using hlt3)
    injection hAe with hAe
    injection hAe with hg1 hg2
    subst hg1 hg2
    have htx := hab q hlt3
    generalize [a, b][q]'(by simpa using hlt3) = x at *
    obtain ⟨u0, u1, d0, d1, xe⟩ := x
    simp only at htx
    repeat' (first|refine K ?_|(refine Sh.sa hS ?_;clear hS;intro w hS)|(refine K3 ?_;clear hS;intro g w hS hge)|((first|refine GS ?_ ?_|refine VB ?_ ?_)<;>intro hb<;>(try simp only [J1,J2,J3,J4,J5,J6] at hb)<;>(try (exfalso;first|omega|exact hb trivial))))
    refine Z.eff (Z.cl (pair_z l A cap m A2 cap2 n fk u0 u1 d0 d1 _ _ _ hS hr0 hr1 (by omega) (by omega)) rfl ?_) rfl
    clear hS
    rintro e w ⟨ga, gga, gb, ggb, gv, ggv, gw, ggw, rfl, hS⟩
    refine ⟨_, rfl, ?_⟩
    obtain ⟨hGH, hGl⟩ := hpG
    have hAh := hpH.good.2.1
    have hBh := hGH.good.2.1
    have hA := hpH.good.1.cg hpH.good.1.qok
    have hB := hGH.good.1.cg hGH.good.1.qok
    have hAl : (cpOf (hist l).h).h.length ≤ 60 := by rw [hAh]; omega
    have hBl : (cpOf (pairG l n m fk)).h.length ≤ 90 := by rw [hBh]; omega
    clear hAh hBh
    generalize cpOf (hist l).h = cA at *
    generalize cpOf (pairG l n m fk) = cB at *
    generalize hbad : badT u0 u1 d0 d1 xe = BAD
    repeat' (first|refine K ?_|(refine Sh.sa hS ?_;clear hS;intro w hS)|(refine K3 ?_;clear hS;intro g w hS hge)|((first|refine GS ?_ ?_|refine VB ?_ ?_)<;>intro hb<;>(try simp only [J1,J2,J3,J4,J5,J6] at hb)<;>(try (exfalso;first|omega|exact hb trivial))))
    replace hS := ((hS.focus (R := PC gb _ _ _ _) (by repeat (first | exact At.here | apply At.next))).focus (R := GP gga _) (by repeat (first | exact At.here | apply At.next))).focus (R := PC ga _ _ _ _) (by repeat (first | exact At.here | apply At.next))
    refine Z.eff (Z.cl (ptransfer_z ga gga gb d0 u0 d1 u1 _ cA cB ⟨d0, 0, []⟩ xe key _ _ _ hS hA hB (by omega) (by omega) (by simp) htx BAD hbad) rfl ?_) rfl
    clear hS
    rintro e w ⟨vk, vi, vs, rfl, hS⟩
    refine ⟨_, rfl, ?_⟩
    obtain ⟨D1, e1, rfl, _⟩ := (hS.slrows (e := 9) (v := vk) (by repeat (first | exact At.here | apply At.next))).mform
    obtain ⟨D2, e2, rfl, _⟩ := (hS.slrows (e := 3) (v := vi) (by repeat (first | exact At.here | apply At.next))).mform
    obtain ⟨D3, e3, rfl, _⟩ := (hS.slrows (e := 3) (v := vs) (by repeat (first | exact At.here | apply At.next))).mform
    repeat' (first|refine K ?_|(refine Sh.sa hS ?_;clear hS;intro w hS)|(refine K3 ?_;clear hS;intro g w hS hge)|((first|refine GS ?_ ?_|refine VB ?_ ?_)<;>intro hb<;>(try simp only [J1,J2,J3,J4,J5,J6] at hb)<;>(try (exfalso;first|omega|exact hb trivial))))
    rename Nat => g23
    replace hS := ((hS.focus (R := CR gw _ _ _ _) (by repeat (first | exact At.here | apply At.next))).focus (R := GR ggv _) (by repeat (first | exact At.here | apply At.next))).focus (R := CR gv _ _ _ _) (by repeat (first | exact At.here | apply At.next))
    refine Z.eff (Z.cl (rtransfer_z gv ggv gw d0 u0 d1 u1 _ cA cB ⟨d0, 0, []⟩ xe key _ _ _ hS hA hB (by omega) (by omega) htx BAD hbad) rfl ?_) rfl
    clear hS
    rintro e w ⟨uk, ui, us, rfl, hS⟩
    refine ⟨_, rfl, ?_⟩
    obtain ⟨E1, f1, rfl, _⟩ := (hS.slrows (e := 9) (v := uk) (by repeat (first | exact At.here | apply At.next))).mform
    obtain ⟨E2, f2, rfl, _⟩ := (hS.slrows (e := 3) (v := ui) (by repeat (first | exact At.here | apply At.next))).mform
    obtain ⟨E3, f3, rfl, _⟩ := (hS.slrows (e := 3) (v := us) (by repeat (first | exact At.here | apply At.next))).mform
    repeat' (first|refine K ?_|(refine Sh.sa hS ?_;clear hS;intro w hS)|(refine K3 ?_;clear hS;intro g w hS hge)|((first|refine GS ?_ ?_|refine VB ?_ ?_)<;>intro hb<;>(try simp only [J1,J2,J3,J4,J5,J6] at hb)<;>(try (exfalso;first|omega|exact hb trivial))))
    rename Nat => g25
    have hcl : (trG BAD ⟨d0, 0, []⟩ (closeP ⟨d0, 0, []⟩ xe).1).closed = (trG BAD ⟨d0, 0, []⟩ (closeR ⟨d0, 0, []⟩ xe).1).closed := by
      cases BAD
      · unfold trG closeP closeR
        split <;> rfl
      · rfl
    have hCl : (trC BAD cB (cpOf cA.h)).h.length ≤ 90 := by
      cases BAD
      · show (cpOf cA.h).h.length ≤ 90
        rw [hA.isH.good.2.1]
        omega
      · exact hBl
    have hMf : (trM BAD u0 key cA).few := by
      cases BAD
      · exact (mfOf_ok hA htx (by omega)).few
      · exact ⟨by show (0 : Nat) ≤ 100000; decide, by show (0 : Nat) ≤ 100000; decide, by show (0 : Nat) ≤ 100000; decide⟩
    generalize trG BAD ⟨d0, 0, []⟩ (closeP ⟨d0, 0, []⟩ xe).1 = G1x at *
    generalize trG BAD ⟨d0, 0, []⟩ (closeR ⟨d0, 0, []⟩ xe).1 = G2x at *
    generalize trC BAD cB (cpOf cA.h) = cD at *
    generalize trM BAD u0 key cA = M at *
    generalize trE BAD = EB at *
    obtain ⟨vh, s1, q1, t1, vs1, vl1, vr1, hS⟩ := Sep.CR_open.1 (hS.focus (R := CR gv _ _ _ _) (by repeat (first | exact At.here | apply At.next)))
    obtain ⟨Ah, ch, rfl, _⟩ := (hS.slrows (e := 90) (v := vh) (by repeat (first | exact At.here | apply At.next))).mform
    obtain ⟨uh, s2, q2, t2, vs2, vl2, vr2, hS⟩ := Sep.CR_open.1 (hS.focus (R := CR gw _ _ _ _) (by repeat (first | exact At.here | apply At.next)))
    obtain ⟨Bh, bh, rfl, _⟩ := (hS.slrows (e := 90) (v := uh) (by repeat (first | exact At.here | apply At.next))).mform
    obtain ⟨Ag, cg, hS⟩ := Sep.GR_open.1 (hS.focus (R := GR ggv _) (by repeat (first | exact At.here | apply At.next)))
    refine D.startS (Lr := [.blk g23 36 (M.cells (.slice D1 M.keys.length e1) (.slice D2 M.items.length e2) (.slice D3 M.sessions.length e3)), .blk g25 36 (M.cells (.slice E1 M.keys.length f1) (.slice E2 M.items.length f2) (.slice E3 M.sessions.length f3)), .blk gv 54 [.int .i64 d0, .int .i64 u0, .slice Ah cA.h.length ch, .pointer (some ⟨s1, 0, .none⟩), .pointer (some ⟨q1, 0, .none⟩), .pointer (some ⟨t1, 0, .none⟩), .pointer (some ⟨ggv, 0, .none⟩)], .blk gw 54 [.int .i64 d1, .int .i64 u1, .slice Bh cD.h.length bh, .pointer (some ⟨s2, 0, .none⟩), .pointer (some ⟨q2, 0, .none⟩), .pointer (some ⟨t2, 0, .none⟩), .pointer (some ⟨ggw, 0, .none⟩)], .blk ggv 47 [.int .i64 G2x.cell, .int .i64 G2x.closed, .slice Ag G2x.ws.length cg]]) (hS.sb) 42 42 (by kernel_rfl) rfl ?_
    replace hS := hS.drew
    refine Sh.dp 0 1 ?_
    refine Sh.dp 1 3 ?_
    first | refine D.pr 2 7 rfl D.wantedN (by kernel_rfl) rfl ?_ | refine D.pl 2 7 rfl D.wantedN (by kernel_rfl) (R.nea rfl rfl rfl rfl) ?_
    refine Sh.dp 3 15 ?_
    refine D.slot 93 rfl (fun hb => by exfalso; (try simp only [decide_eq_true_eq, decide_eq_false_iff_not, Bool.not_eq_true', Bool.not_eq_false', Int.not_lt, Int.not_le] at hb) <;> first | omega | exact hb trivial | cases hb | simp at hb) (fun hb => ?_)
    (try simp only [decide_eq_true_eq, decide_eq_false_iff_not, Bool.not_eq_true', Bool.not_eq_false', Int.not_lt, Int.not_le] at hb)
    refine Sh.dl 4 31 ?_
    refine Sh.dl 5 63 ?_
    refine D.eff 6 127 rfl (D.wantedT rfl rfl) (by kernel_rfl) (by kernel_rfl) (fun _ _ h => h) ?_
    refine WE.guard ?_
    refine Z.cl (rsameM_z M M _ _ _ _ _ _ _ _ _ hS ⟨Reads.of_at (e := 9) (v := .slice D1 M.keys.length e1) (by repeat (first | exact At.here | apply At.next)), Reads.of_at (e := 3) (v := .slice D2 M.items.length e2) (by repeat (first | exact At.here | apply At.next)), Reads.of_at (e := 3) (v := .slice D3 M.sessions.length e3) (by repeat (first | exact At.here | apply At.next))⟩ ⟨Reads.of_at (e := 9) (v := .slice E1 M.keys.length f1) (by repeat (first | exact At.here | apply At.next)), Reads.of_at (e := 3) (v := .slice E2 M.items.length f2) (by repeat (first | exact At.here | apply At.next)), Reads.of_at (e := 3) (v := .slice E3 M.sessions.length f3) (by repeat (first | exact At.here | apply At.next))⟩ hMf hMf) rfl ?_
    clear hS
    rintro e w ⟨rfl, hS⟩
    refine ⟨_, rfl, ?_⟩
    rw [sameM_self]
    refine ⟨HM.s (hS.sb), ?_⟩
    refine Sh.dp 7 255 ?_
    refine Sh.dp 8 511 ?_
    refine Sh.dp 9 1023 ?_
    refine D.slot 99 rfl (fun hb => by exfalso; (try simp only [decide_eq_true_eq, decide_eq_false_iff_not, Bool.not_eq_true', Bool.not_eq_false', Int.not_lt, Int.not_le] at hb) <;> first | omega | exact hb trivial | cases hb | simp at hb) (fun hb => ?_)
    (try simp only [decide_eq_true_eq, decide_eq_false_iff_not, Bool.not_eq_true', Bool.not_eq_false', Int.not_lt, Int.not_le] at hb)
    refine Sh.dp 10 2047 ?_
    refine Sh.dp 13 10239 ?_
    refine Sh.dp 14 26623 ?_
    refine Sh.dp 15 59391 ?_
    refine Sh.dl 16 124927 ?_
    refine Sh.dp 17 255999 ?_
    refine Sh.dp 18 518143 ?_
    refine Sh.dl 19 1042431 ?_
    refine D.eff 11 1044479 rfl (D.wantedT rfl rfl) (by kernel_rfl) (by kernel_rfl) (fun _ _ h => h) ?_
    refine WE.guard ?_
    replace hS := hS.fo (R := PC ga _ _ _ _)
    refine Z.cl (pcgate_z ga gga _ _ _ _ _ _ hS) rfl ?_
    clear hS
    rintro e w ⟨rfl, hS⟩
    refine ⟨_, rfl, ?_⟩
    refine ⟨HM.s (hS.sb), ?_⟩
    refine D.eff 12 1048575 rfl (D.wantedT rfl rfl) (by kernel_rfl) (by kernel_rfl) (fun _ _ h => h) ?_
    refine WE.guard ?_
    replace hS := hS.fo (R := GP gga _)
    refine Z.cl (gclosed_z gga _ _ _ _ hS) rfl ?_
    clear hS
    rintro e w ⟨rfl, hS⟩
    refine ⟨_, rfl, ?_⟩
    rw [hcl]
    refine ⟨HM.s (hS.sb), ?_⟩
    first | refine D.pr 20 2097151 rfl (D.wantedT rfl rfl) (by kernel_rfl) rfl ?_ | refine D.pl 20 2097151 rfl (D.wantedT rfl rfl) (by kernel_rfl) (R.nea rfl rfl rfl rfl) ?_
    refine Sh.dp 21 4194303 ?_
    refine Sh.dp 22 8388607 ?_
    refine D.slot 112 rfl (fun hb => by exfalso; (try simp only [decide_eq_true_eq, decide_eq_false_iff_not, Bool.not_eq_true', Bool.not_eq_false', Int.not_lt, Int.not_le] at hb) <;> first | omega | exact hb trivial | cases hb | simp at hb) (fun hb => ?_)
    (try simp only [decide_eq_true_eq, decide_eq_false_iff_not, Bool.not_eq_true', Bool.not_eq_false', Int.not_lt, Int.not_le] at hb)
    refine Sh.dp 23 16777215 ?_
    refine Sh.dp 25 50331647 ?_
    refine Sh.dp 26 117440511 ?_
    refine Sh.dp 27 251658239 ?_
    refine Sh.dl 28 520093695 ?_
    refine D.eff 24 536870911 rfl (D.wantedT rfl rfl) (by kernel_rfl) (by kernel_rfl) (fun _ _ h => h) ?_
    refine WE.guard ?_
    replace hS := hS.fo (R := PC ga _ _ _ _)
    refine Z.cl (phist_z ga _ _ _ cA 0 _ _ _ hS (by omega)) rfl ?_
    clear hS
    rintro e w ⟨A3, c3, rfl, hS⟩
    refine ⟨_, rfl, ?_⟩
    rw [show histB cA.h 0 = cA.h from rfl] at hS ⊢
    refine ⟨HM.s (hS.sb), ?_⟩
    refine D.eff 29 1073741823 rfl (D.wantedT rfl rfl) (by kernel_rfl) (by kernel_rfl) (fun _ _ h => h) ?_
    refine WE.guard ?_
    refine Z.cl (chsame_z cA.h cA.h _ _ _ _ _ hS (Reads.of_at (e := 90) (v := .slice A3 cA.h.length c3) (by repeat (first | exact At.here | apply At.next))) (Reads.of_at (e := 90) (v := .slice Ah cA.h.length ch) (by repeat (first | exact At.here | apply At.next))) (by omega) (by omega)) rfl ?_
    clear hS
    rintro e w ⟨rfl, hS⟩
    refine ⟨_, rfl, ?_⟩
    refine ⟨HM.s (hS.sb), ?_⟩
    refine Sh.dp 30 2147483647 ?_
    refine Sh.dp 31 4294967295 ?_
    refine Sh.dp 32 8589934591 ?_
    refine D.slot 122 rfl (fun hb => by exfalso; (try simp only [decide_eq_true_eq, decide_eq_false_iff_not, Bool.not_eq_true', Bool.not_eq_false', Int.not_lt, Int.not_le] at hb) <;> first | omega | exact hb trivial | cases hb | simp at hb) (fun hb => ?_)
    (try simp only [decide_eq_true_eq, decide_eq_false_iff_not, Bool.not_eq_true', Bool.not_eq_false', Int.not_lt, Int.not_le] at hb)
    refine Sh.dp 33 17179869183 ?_
    refine Sh.dp 35 51539607551 ?_
    refine Sh.dp 36 120259084287 ?_
    refine Sh.dp 37 257698037759 ?_
    refine Sh.dl 38 532575944703 ?_
    refine D.eff 34 549755813887 rfl (D.wantedT rfl rfl) (by kernel_rfl) (by kernel_rfl) (fun _ _ h => h) ?_
    refine WE.guard ?_
    replace hS := hS.fo (R := PC gb _ _ _ _)
    refine Z.cl (phist_z gb _ _ _ cD 0 _ _ _ hS (by omega)) rfl ?_
    clear hS
    rintro e w ⟨A4, c4, rfl, hS⟩
    refine ⟨_, rfl, ?_⟩
    rw [show histB cD.h 0 = cD.h from rfl] at hS ⊢
    refine ⟨HM.s (hS.sb), ?_⟩
    refine D.eff 39 1099511627775 rfl (D.wantedT rfl rfl) (by kernel_rfl) (by kernel_rfl) (fun _ _ h => h) ?_
    refine WE.guard ?_
    refine Z.cl (chsame_z cD.h cD.h _ _ _ _ _ hS (Reads.of_at (e := 90) (v := .slice A4 cD.h.length c4) (by repeat (first | exact At.here | apply At.next))) (Reads.of_at (e := 90) (v := .slice Bh cD.h.length bh) (by repeat (first | exact At.here | apply At.next))) (by omega) (by omega)) rfl ?_
    clear hS
    rintro e w ⟨rfl, hS⟩
    refine ⟨_, rfl, ?_⟩
    refine ⟨HM.s (hS.sb), ?_⟩
    refine Sh.dp 40 2199023255551 ?_
    refine Sh.dp 41 4398046511103 ?_
    refine D.done (by kernel_rfl) ?_
    repeat' (first|refine K ?_|(refine Sh.sa hS ?_;clear hS;intro w hS)|(refine K3 ?_;clear hS;intro g w hS hge)|((first|refine GS ?_ ?_|refine VB ?_ ?_)<;>intro hb<;>(try simp only [J1,J2,J3,J4,J5,J6] at hb)<;>(try (exfalso;first|omega|exact hb trivial))))
    all_goals (try (exfalso; first | exact hb rfl | (simp at hb; done)))
    refine Sh.again (2 - (q + 1)) [(48, .int .i64 (q + 1 : Nat))] ?_
    exact ⟨q + 1, rfl, by omega, rfl, hS.sb⟩
  · repeat' (first|refine K ?_|(refine Sh.sa hS ?_;clear hS;intro w hS)|(refine K3 ?_;clear hS;intro g w hS hge)|((first|refine GS ?_ ?_|refine VB ?_ ?_)<;>intro hb<;>(try simp only [J1,J2,J3,J4,J5,J6] at hb)<;>(try (exfalso;first|omega|exact hb trivial))))
    refine Dnt Tryz.results3 ?_
    exact ⟨rfl, hS.chg⟩
set_option maxRecDepth 100000 in
theorem handoverTransfers_lifted (os : Os) (started : os.Started) (H : Type) (enc : TypeId × Value → H) :
    ReturnsInHanded {} Tryz.checked os 3 .any (Rows.handoverTransfersSpec.pre6 enc Tryz.prog Tryz.f3 Rows.handoverTransfersRow.domain false) (Rows.handoverTransfersSpec.post enc Tryz.prog Tryz.f3 false Rows.handoverTransfersRow.fresh Rows.handoverTransfersRow.handsOn Rows.handoverTransfersRow.again) := by
  refine returnsInHanded_of_change (C := Tryz.checked) Tryz.own started (by kernel_rfl) Tryz.func3
    (ChangeSpec.witness6 (enc := enc) (C := Tryz.checked) false ⟨#[], #[.slice none 0 0, .slice none 0 0, .int .i64 0, .bool false, .agg #[.int .i64 0, .int .i64 0], .agg #[.int .i64 0, .int .i64 0], .int .i64 0, .int .i64 0], []⟩ 8 (by kernel_rfl) (by kernel_rfl) (by kernel_rfl) (by kernel_rfl)) ?_
  intro W base args ds gs before hval0 hW _ _
  have hval : ∀ (j : Nat) t v, Tryz.f3.params[j]? = some t → args[j]? = some v → Value.okWide Tryz.prog W .any base t v := hval0
  have hW0 := hW
  obtain ⟨p, q, hA0, hV, hpq, _, _⟩ := hW
  obtain ⟨la⟩ := args
  have hA : DataW.TrodAll enc Tryz.prog W 0 (fun _ => true) true [22, 22, 3, 4, 23, 23, 3, 3] la ds p := by have := hA0; rw [Tryz.params3] at this; exact this
  rw [Tryz.params3] at hval
  obtain ⟨v0, la0, d0, ds0, p0, q0, rfl, rfl, rfl, h0, hA⟩ := trodAll_cons hA
  obtain ⟨v1, la1, d1, ds1, p1, q1, rfl, rfl, rfl, h1, hA⟩ := trodAll_cons hA
  obtain ⟨v2, la2, d2, ds2, p2, q2, rfl, rfl, rfl, h2, hA⟩ := trodAll_cons hA
  obtain ⟨v3, la3, d3, ds3, p3, q3, rfl, rfl, rfl, h3, hA⟩ := trodAll_cons hA
  obtain ⟨v4, la4, d4, ds4, p4, q4, rfl, rfl, rfl, h4, hA⟩ := trodAll_cons hA
  obtain ⟨v5, la5, d5, ds5, p5, q5, rfl, rfl, rfl, h5, hA⟩ := trodAll_cons hA
  obtain ⟨v6, la6, d6, ds6, p6, q6, rfl, rfl, rfl, h6, hA⟩ := trodAll_cons hA
  obtain ⟨v7, la7, d7, ds7, p7, q7, rfl, rfl, rfl, h7, hA⟩ := trodAll_cons hA
  obtain ⟨rfl, rfl, rfl⟩ := trodAll_nil hA
  obtain ⟨l0, A0, cap0, rfl, hr0⟩ := arg_ints (hval 0 _ _ rfl rfl) h0
  obtain ⟨l1, A1, cap1, rfl, hr1⟩ := arg_ints (hval 1 _ _ rfl rfl) h1
  obtain ⟨z2, rfl, hr2⟩ := arg_int (hval 2 _ _ rfl rfl) h2
  obtain ⟨b3, rfl⟩ := arg_bool (hval 3 _ _ rfl rfl) h3
  obtain ⟨y4, z4, rfl, hr4⟩ := arg_pair (hval 4 _ _ rfl rfl) h4
  obtain ⟨y5, z5, rfl, hr5⟩ := arg_pair (hval 5 _ _ rfl rfl) h5
  obtain ⟨z6, rfl, hr6⟩ := arg_int (hval 6 _ _ rfl rfl) h6
  obtain ⟨z7, rfl, hr7⟩ := arg_int (hval 7 _ _ rfl rfl) h7
  have fin : Calls Tryz.prog 3 _ W fun e W' => e = .returned (.bool true) ∧ Chg [] W W' := transfers_z l0 A0 cap0 l1 A1 cap1 z2 b3 y4 z4 y5 z5 z6 z7 W hr0 hr1 hr2  hr4 hr5 hr6 hr7
  refine fin.mono fun e W' ⟨he, hc⟩ => ⟨_, he, ?_⟩
  exact law_post Tryz.laidOut (by rw [Tryz.params3]; intro t ht; simp only [List.mem_cons, List.not_mem_nil, or_false] at ht; rcases ht with rfl | rfl | rfl | rfl | rfl | rfl | rfl | rfl <;> exact ⟨by kernel_rfl, of_decide_eq_true (by kernel_rfl)⟩) rfl rfl Tryz.underlying4 rfl hW0 hc.below
theorem handoverTransfers_holds : Rows.HandoverTransfersSaid :=
  OpenClaim.holds_of_wide 3 Tryz.f3 rfl rfl rfl rfl rfl rfl rfl ⟨rfl, rfl, rfl, rfl, rfl⟩ rfl rfl rfl rfl rfl (by kernel_rfl) Tryz.func3 (by kernel_rfl)
    (of_decide_eq_true (by kernel_rfl)) (by unfold Func.isWrapper; rw [if_neg (of_decide_eq_false (by kernel_rfl))]; exact ⟨rfl, rfl⟩)
    (fun os started H enc _ => handoverTransfers_lifted os started H enc)
end Go.Proofs.YtiabhlogadboeaaGreat
