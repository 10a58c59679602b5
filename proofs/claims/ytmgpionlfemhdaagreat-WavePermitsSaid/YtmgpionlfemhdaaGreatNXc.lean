/-
  Waves compared; numbers in ascending order, each once.
-/
import Derived.Test.YtmgpionlfemhdaaGreatNXb
namespace Go.Proofs.YtmgpionlfemhdaaGreat
open Go.RowKit
set_option linter.unusedSimpArgs false
set_option linter.unusedVariables false
attribute [local irreducible] Res.blk Res.sl Res.all Res.ex Res.pure Res.star

set_option maxHeartbeats 4000000 in
theorem same37_z (B B' : Option Addr) (C C' : Nat) (W W' : List Wv) (r : World) (F : List Res) (w : World) (hS : Sep r [] F w) (h1 : WvR r F B C W) (h2 : WvR r F B' C' W') (hl : W.length ≤ 100000) (hl' : W'.length ≤ 100000) (hx : ∀ x, x ∈ W → x.l.length ≤ 100000) (hx' : ∀ x, x ∈ W' → x.l.length ≤ 100000) :
    Calls Tryz.prog 16 #[.slice B W.length C, .slice B' W'.length C'] w fun e w' => e = .returned (.bool (decide (W.map Wv.l = W'.map Wv.l))) ∧ Sep r [] F w' := by
  refine Z.enter Tryz.func16 Tryz.ntmps16 rfl rfl ?_
  repeat' (first|refine K ?_|(refine Sh.sa hS ?_;clear hS;intro w hS)|(refine K3 ?_;clear hS;intro g w hS hge)|((first|refine GS ?_ ?_|refine VB ?_ ?_)<;>intro hb<;>(try simp only [J1,J2,J3,J4,J5,J6] at hb)<;>(try (exfalso;first|omega|exact hb trivial))))
  · refine Dnt Tryz.results16 ?_
    have : W.map Wv.l ≠ W'.map Wv.l := fun h => by
      have := congrArg List.length h
      simp only [List.length_map] at this
      omega
    exact ⟨by simp [this, Z.packR], hS⟩
  have hlen : W.length = W'.length := by omega
  refine Z.lpS [4, 5, 6, 14, 15, 16, 17, 18, 19, 20, 21, 22, 23, 24, 25, 26, 27, 28, 29, 30, 31, 32, 33, 34, 35, 36, 37, 38, 39, 40, 41, 42, 43, 44, 45, 46, 47, 48, 49, 50, 51, 52] (fun m w z => ∃ i : Nat, z = [(14, .int .i64 i)] ∧ i ≤ W.length ∧ (W.take i).map Wv.l = (W'.take i).map Wv.l ∧ m = W.length - i ∧ Sep r [] F w) _ [(14, .int .i64 (0 : Nat))] (by repeat (first | exact trivial | refine ⟨rfl, ?_⟩)) ⟨0, rfl, by omega, by simp, rfl, hS⟩ ?_
  clear hS
  rintro m f0 w _ ⟨i, rfl, hi, heq, rfl, hS⟩
  by_cases hlt : i < W.length
  · have hlt' : i < W'.length := by omega
    obtain ⟨gb, o, rfl, _⟩ := h1.get [] hS hlt
    obtain ⟨gb', o', rfl, _⟩ := h2.get [] hS hlt'
    have hra : ∀ X, Sep r [] F X → X.rangeAt gb (o + i * 1) (W[i]).cells := fun X h => h1.geta [] h rfl hlt
    have hra' : ∀ X, Sep r [] F X → X.rangeAt gb' (o' + i * 1) (W'[i]).cells := fun X h => h2.geta [] h rfl hlt'
    have hn := h1.inn _ (List.getElem_mem hlt)
    have hn' := h2.inn _ (List.getElem_mem hlt')
    have hxl := hx _ (List.getElem_mem hlt)
    have hxl' := hx' _ (List.getElem_mem hlt')
    have e1 : (W.take (i + 1)).map Wv.l = (W.take i).map Wv.l ++ [(W[i]).l] := by rw [List.take_succ_eq_append_getElem hlt, List.map_append]; rfl
    have e2 : (W'.take (i + 1)).map Wv.l = (W'.take i).map Wv.l ++ [(W'[i]).l] := by rw [List.take_succ_eq_append_getElem hlt', List.map_append]; rfl
    have e3 : W.map Wv.l = W'.map Wv.l → (W[i]).l = (W'[i]).l := fun h => by
      have h3 : (W.map Wv.l)[i]? = (W'.map Wv.l)[i]? := by rw [h]
      simpa [hlt, hlt'] using h3
    generalize W[i] = x at *
    generalize W'[i] = x' at *
    obtain ⟨l, A, c⟩ := x
    obtain ⟨l', A', c'⟩ := x'
    simp only at hn hn' hxl hxl' e1 e2 e3
    repeat' (first|refine K ?_|(refine Sh.sa hS ?_;clear hS;intro w hS)|(refine K3 ?_;clear hS;intro g w hS hge)|((first|refine GS ?_ ?_|refine VB ?_ ?_)<;>intro hb<;>(try simp only [J1,J2,J3,J4,J5,J6] at hb)<;>(try (exfalso;first|omega|exact hb trivial))))
    refine D.startS hS 11 11 (by kernel_rfl) rfl ?_
    replace hS := hS.drew
    refine Sh.dp 0 1 ?_
    refine Sh.dp 1 3 ?_
    first | refine D.ixn 2 7 rfl D.wantedN (by kernel_rfl) rfl rfl rfl (by omega) ?_ | refine D.ix 2 7 rfl D.wantedN (by kernel_rfl) rfl rfl rfl (by omega) ?_ | refine D.ia 2 7 rfl D.wantedN (by kernel_rfl) rfl rfl rfl (by omega) ?_
    refine Sh.dp 5 39 ?_
    refine Sh.dp 6 103 ?_
    first | refine D.ixn 7 231 rfl D.wantedN (by kernel_rfl) rfl rfl rfl (by omega) ?_ | refine D.ix 7 231 rfl D.wantedN (by kernel_rfl) rfl rfl rfl (by omega) ?_ | refine D.ia 7 231 rfl D.wantedN (by kernel_rfl) rfl rfl rfl (by omega) ?_
    refine D.ldR 3 239 rfl D.wantedN (by kernel_rfl) rfl hra rfl ?_
    refine Sh.dp 4 255 ?_
    refine D.ldR 8 511 rfl D.wantedN (by kernel_rfl) rfl hra' rfl ?_
    refine Sh.dp 9 1023 ?_
    first | refine D.pr 10 2047 rfl D.wantedN (by kernel_rfl) rfl ?_ | refine D.pl 10 2047 rfl D.wantedN (by kernel_rfl) (R.nea rfl rfl rfl rfl) ?_
    refine D.done (by kernel_rfl) ?_
    have hw := hra _ hS
    repeat' (first|refine K ?_|(refine Sh.sa hS ?_;clear hS;intro w hS)|(refine K3 ?_;clear hS;intro g w hS hge)|((first|refine GS ?_ ?_|refine VB ?_ ?_)<;>intro hb<;>(try simp only [J1,J2,J3,J4,J5,J6] at hb)<;>(try (exfalso;first|omega|exact hb trivial))))
    · refine Dnt Tryz.results16 ?_
      have : W.map Wv.l ≠ W'.map Wv.l := fun h => by
        have := congrArg List.length (e3 h)
        omega
      exact ⟨by simp [this, Z.packR], hS⟩
    have hll : l.length = l'.length := by omega
    clear hw
    refine Z.lpS [4, 6, 33, 34, 35, 36, 37, 38, 39, 40, 41, 42, 43, 44, 45, 46, 47, 48, 49, 50, 51] (fun m w z => ∃ j : Nat, z = [(33, .int .i64 j)] ∧ j ≤ l.length ∧ l.take j = l'.take j ∧ m = l.length - j ∧ Sep r [] F w) _ [(33, .int .i64 (0 : Nat))] (by repeat (first | exact trivial | refine ⟨rfl, ?_⟩)) ⟨0, rfl, by omega, by simp, rfl, hS⟩ ?_
    clear hS
    rintro m f1 w _ ⟨j, rfl, hj, hq, rfl, hS⟩
    by_cases hjl : j < l.length
    · have hjl' : j < l'.length := by omega
      obtain ⟨ga, oa, rfl, _⟩ := int_get hn [] hS hjl
      obtain ⟨ga', oa', rfl, _⟩ := int_get hn' [] hS hjl'
      have hrb : ∀ X, Sep r [] F X → X.rangeAt ga (oa + j * 1) (ztC l[j]) := fun X h => int_geta hn [] h rfl hjl
      have hrb' : ∀ X, Sep r [] F X → X.rangeAt ga' (oa' + j * 1) (ztC l'[j]) := fun X h => int_geta hn' [] h rfl hjl'
      repeat' (first|refine K ?_|(refine Sh.sa hS ?_;clear hS;intro w hS)|(refine K3 ?_;clear hS;intro g w hS hge)|((first|refine GS ?_ ?_|refine VB ?_ ?_)<;>intro hb<;>(try simp only [J1,J2,J3,J4,J5,J6] at hb)<;>(try (exfalso;first|omega|exact hb trivial))))
      refine D.startS hS 15 15 (by kernel_rfl) rfl ?_
      replace hS := hS.drew
      refine Sh.dp 0 1 ?_
      refine Sh.dp 1 3 ?_
      first | refine D.ixn 2 7 rfl D.wantedN (by kernel_rfl) rfl rfl rfl (by omega) ?_ | refine D.ix 2 7 rfl D.wantedN (by kernel_rfl) rfl rfl rfl (by omega) ?_ | refine D.ia 2 7 rfl D.wantedN (by kernel_rfl) rfl rfl rfl (by omega) ?_
      refine Sh.dp 4 23 ?_
      refine Sh.dp 7 151 ?_
      refine Sh.dp 8 407 ?_
      first | refine D.ixn 9 919 rfl D.wantedN (by kernel_rfl) rfl rfl rfl (by omega) ?_ | refine D.ix 9 919 rfl D.wantedN (by kernel_rfl) rfl rfl rfl (by omega) ?_ | refine D.ia 9 919 rfl D.wantedN (by kernel_rfl) rfl rfl rfl (by omega) ?_
      refine Sh.dp 11 2967 ?_
      refine D.ldR 3 2975 rfl D.wantedN (by kernel_rfl) rfl hra rfl ?_
      first | refine D.ixn 5 3007 rfl D.wantedN (by kernel_rfl) rfl rfl rfl (by omega) ?_ | refine D.ix 5 3007 rfl D.wantedN (by kernel_rfl) rfl rfl rfl (by omega) ?_ | refine D.ia 5 3007 rfl D.wantedN (by kernel_rfl) rfl rfl rfl (by omega) ?_
      refine D.ldR 6 3071 rfl D.wantedN (by kernel_rfl) rfl hrb rfl ?_
      refine D.ldR 10 4095 rfl D.wantedN (by kernel_rfl) rfl hra' rfl ?_
      first | refine D.ixn 12 8191 rfl D.wantedN (by kernel_rfl) rfl rfl rfl (by omega) ?_ | refine D.ix 12 8191 rfl D.wantedN (by kernel_rfl) rfl rfl rfl (by omega) ?_ | refine D.ia 12 8191 rfl D.wantedN (by kernel_rfl) rfl rfl rfl (by omega) ?_
      refine D.ldR 13 16383 rfl D.wantedN (by kernel_rfl) rfl hrb' rfl ?_
      first | refine D.pr 14 32767 rfl D.wantedN (by kernel_rfl) rfl ?_ | refine D.pl 14 32767 rfl D.wantedN (by kernel_rfl) (R.nea rfl rfl rfl rfl) ?_
      refine D.done (by kernel_rfl) ?_
      repeat' (first|refine K ?_|(refine Sh.sa hS ?_;clear hS;intro w hS)|(refine K3 ?_;clear hS;intro g w hS hge)|((first|refine GS ?_ ?_|refine VB ?_ ?_)<;>intro hb<;>(try simp only [J1,J2,J3,J4,J5,J6] at hb)<;>(try (exfalso;first|omega|exact hb trivial))))
      · refine Dnt Tryz.results16 ?_
        have : W.map Wv.l ≠ W'.map Wv.l := fun h => by
          have h3 := e3 h
          subst h3
          exact hb rfl
        exact ⟨by simp [this, Z.packR], hS⟩
      · refine Sh.again (l.length - (j + 1)) [(33, .int .i64 (j + 1 : Nat))] ?_
        have hb' : l[j] = l'[j] := by first | exact hb | omega
        exact ⟨j + 1, rfl, by omega, by rw [List.take_succ_eq_append_getElem hjl, List.take_succ_eq_append_getElem hjl', hq, hb'], rfl, hS⟩
    · repeat' (first|refine K ?_|(refine Sh.sa hS ?_;clear hS;intro w hS)|(refine K3 ?_;clear hS;intro g w hS hge)|((first|refine GS ?_ ?_|refine VB ?_ ?_)<;>intro hb<;>(try simp only [J1,J2,J3,J4,J5,J6] at hb)<;>(try (exfalso;first|omega|exact hb trivial))))
      have hj2 : j = l.length := by omega
      subst hj2
      rw [List.take_length, List.take_of_length_le (by omega)] at hq
      refine Sh.again (W.length - (i + 1)) [(14, .int .i64 (i + 1 : Nat))] ?_
      exact ⟨i + 1, rfl, by omega, by rw [e1, e2, heq, hq], rfl, hS⟩
  · repeat' (first|refine K ?_|(refine Sh.sa hS ?_;clear hS;intro w hS)|(refine K3 ?_;clear hS;intro g w hS hge)|((first|refine GS ?_ ?_|refine VB ?_ ?_)<;>intro hb<;>(try simp only [J1,J2,J3,J4,J5,J6] at hb)<;>(try (exfalso;first|omega|exact hb trivial))))
    refine Dnt Tryz.results16 ?_
    rw [List.take_of_length_le (by omega), List.take_of_length_le (by omega)] at heq
    exact ⟨by simp [heq, Z.packR], hS⟩
set_option maxHeartbeats 4000000 in
theorem sorted37_z (A : Option Addr) (l : List Int) (cap : Nat) (r : World) (F : List Res) (w : World) (hS : Sep r [] F w) (hrd : Reads r F 1 (.slice A l.length cap) (l.map ztC)) (hl : l.length ≤ 100000) :
    Calls Tryz.prog 34 #[.slice A l.length cap] w fun e w' => ∃ A' c', e = .returned (.slice A' (sortS l).length c') ∧ Sep r [] (.sl 3 1 (.slice A' (sortS l).length c') ((sortS l).map ztC) :: F) w' := by
  refine Z.enter Tryz.func34 Tryz.ntmps34 rfl rfl ?_
  repeat' (first|refine K ?_|(refine Sh.sa hS ?_;clear hS;intro w hS)|(refine K3 ?_;clear hS;intro g w hS hge)|((first|refine GS ?_ ?_|refine VB ?_ ?_)<;>intro hb<;>(try simp only [J1,J2,J3,J4,J5,J6] at hb)<;>(try (exfalso;first|omega|exact hb trivial))))
  replace hS := Z.nilsl hS 3 1 none
  refine Z.lpS [3, 5, 6, 9, 10, 11, 12, 13, 14, 15, 16, 17, 18, 19, 20, 21, 22, 23, 24, 25, 26, 27, 28, 29, 30, 31, 32, 33, 34, 35, 36, 37, 38, 39, 40, 41, 42, 43, 44, 45, 46, 47, 48, 49, 50, 51] (fun m w z => ∃ (i : Nat) (out : List Int) (A' : Option Addr) (c' : Nat), z = [(3, .slice A' out.length c'), (9, .int .i64 i)] ∧ i ≤ l.length ∧ out.length ≤ i ∧ sortS (l.take i) = out ∧ m = l.length - i ∧ Sep r [] (.sl 3 1 (.slice A' out.length c') (out.map ztC) :: F) w) _ [(3, .slice none 0 0), (9, .int .i64 (0 : Nat))] (by repeat (first | exact trivial | refine ⟨rfl, ?_⟩)) ⟨0, [], none, 0, rfl, by omega, by simp, rfl, rfl, hS⟩ ?_
  clear hS
  rintro m f0 w _ ⟨i, out, A', c', rfl, hi, hol, hout, rfl, hS⟩
  by_cases hlt : i < l.length
  · obtain ⟨gb, o, rfl, hra⟩ := int_get hrd [_] hS hlt
    have hn : sortS (l.take (i + 1)) = insS out l[i] := by rw [List.take_succ_eq_append_getElem hlt, sortS_snoc, hout]
    have hasc : out.Pairwise (· < ·) := by rw [← hout]; exact sortS_asc _
    have hlen := insS_len out hasc l[i]
    generalize l[i] = x at *
    repeat' (first|refine K ?_|(refine Sh.sa hS ?_;clear hS;intro w hS)|(refine K3 ?_;clear hS;intro g w hS hge)|((first|refine GS ?_ ?_|refine VB ?_ ?_)<;>intro hb<;>(try simp only [J1,J2,J3,J4,J5,J6] at hb)<;>(try (exfalso;first|omega|exact hb trivial))))
    clear hra
    refine Z.lpS [6, 13, 14, 15, 16, 17, 18, 19, 20, 21, 22, 23, 24, 25, 26] (fun m w z => ∃ j : Nat, z = [(6, .int .i64 j)] ∧ j ≤ out.length ∧ (∀ q (hq : q < out.length), q < j → out[q] < x) ∧ m = out.length - j ∧ Sep r [] (.sl 3 1 (.slice A' out.length c') (out.map ztC) :: F) w) _ [(6, .int .i64 (0 : Nat))] (by repeat (first | exact trivial | refine ⟨rfl, ?_⟩)) ⟨0, rfl, by omega, fun q _ h => absurd h (by omega), rfl, hS⟩ ?_
    clear hS
    rintro m f1 w _ ⟨j, rfl, hj, hjo, rfl, hS⟩
    have hcap : out.length ≤ c' := by
      obtain ⟨_, _, hv, hcap⟩ := (hS.slrows .here).mform
      injection hv with _ _ h3
      omega
    by_cases hjl : j < out.length
    · obtain ⟨g9, rfl⟩ := Z.Sep_slform hS (rows := out.map ztC) .here (by simpa using (by omega : 0 < out.length))
      have hra : w.rangeAt g9 (0 + j * 1) (ztC out[j]) := by
        have h3 := (hS.slrows .here).elem (q := j) (by omega) (by simpa using hjl)
        simpa using h3
      by_cases hox : out[j] < x
      · repeat' (first|refine K ?_|(refine Sh.sa hS ?_;clear hS;intro w hS)|(refine K3 ?_;clear hS;intro g w hS hge)|((first|refine GS ?_ ?_|refine VB ?_ ?_)<;>intro hb<;>(try simp only [J1,J2,J3,J4,J5,J6] at hb)<;>(try (exfalso;first|omega|exact hb trivial))))
        refine Sh.again (out.length - (j + 1)) [(6, .int .i64 (j + 1 : Nat))] ?_
        refine ⟨j + 1, rfl, by omega, fun q hq hqj => ?_, rfl, hS⟩
        rcases Nat.lt_or_ge q j with h1 | h1
        · exact hjo q hq h1
        · have : q = j := by omega
          subst this
          exact hox
      · by_cases hoe : out[j] = x
        · rw [insS_has hasc (by rw [← hoe]; exact List.getElem_mem hjl)] at hn
          repeat' (first|refine K ?_|(refine Sh.sa hS ?_;clear hS;intro w hS)|(refine K3 ?_;clear hS;intro g w hS hge)|((first|refine GS ?_ ?_|refine VB ?_ ?_)<;>intro hb<;>(try simp only [J1,J2,J3,J4,J5,J6] at hb)<;>(try (exfalso;first|omega|exact hb trivial))))
          refine Sh.again (l.length - (i + 1)) [(3, _), (9, .int .i64 (i + 1 : Nat))] ?_
          exact ⟨i + 1, out, _, c', rfl, by omega, by omega, hn, rfl, hS⟩
        · rw [insS_at hasc hj hjo (fun _ => by omega)] at hn
          repeat' (first|refine K ?_|(refine Sh.sa hS ?_;clear hS;intro w hS)|(refine K3 ?_;clear hS;intro g w hS hge)|((first|refine GS ?_ ?_|refine VB ?_ ?_)<;>intro hb<;>(try simp only [J1,J2,J3,J4,J5,J6] at hb)<;>(try (exfalso;first|omega|exact hb trivial))))
          clear hra
          refine D.startS hS 13 13 (by kernel_rfl) rfl ?_
          replace hS := hS.drew
          refine Sh.dp 1 2 ?_
          refine Sh.dp 2 6 ?_
          refine D.pl 3 14 rfl D.wantedN (by kernel_rfl) (R.upto rfl rfl rfl (by omega)) ?_
          refine Sh.dp 5 46 ?_
          refine Sh.dp 8 302 ?_
          refine Sh.dp 9 814 ?_
          refine D.pl 10 1838 rfl D.wantedN (by kernel_rfl) (R.since rfl rfl rfl (by omega)) ?_
          refine D.each [0, 6] (by kernel_rfl) rfl ?_
          refine D.econs 0 1839 rfl D.wantedN (by kernel_rfl) (fun _ _ h => h) ?_ ?_
          · refine Z.bs hS rfl rfl rfl ?_
            clear hS; intro g w hS hge
            refine ⟨HM.s (hS.sb), ?_⟩
            refine D.each [4, 6] (by kernel_rfl) rfl ?_
            refine D.econs 4 1855 rfl D.wantedN (by kernel_rfl) (fun _ _ h => h) ?_ ?_
            · refine Z.ap0m (fc := ztC) hS rfl rfl rfl ((hS.slrows (by repeat (first | exact At.here | apply At.next))).mtake hj) (by (try simp only [maxLen, List.length_take, List.length_drop, List.length_append, List.length_cons, List.length_nil, List.length_map]); omega) (by (try simp only [maxLen, List.length_take, List.length_drop, List.length_append, List.length_cons, List.length_nil, List.length_map]); omega) ?_
              clear hS; intro A1 c1 w hS
              refine ⟨HM.s (hS.sb), ?_⟩
              refine D.eff 6 1919 rfl D.wantedN (by kernel_rfl) (by kernel_rfl) (fun _ _ h => h) ?_
              refine Z.bs hS rfl rfl rfl ?_
              clear hS; intro g w hS hge
              refine ⟨HM.s (hS.sb), ?_⟩
              refine D.eff 7 2047 rfl D.wantedN (by kernel_rfl) (by kernel_rfl) (fun _ _ h => h) ?_
              refine Z.apm (l' := [x]) hS rfl rfl rfl (by repeat (first | exact At.here | apply At.next)) (hS.lit1 (by repeat (first | exact At.here | apply At.next)) rfl rfl) (by (try simp only [maxLen, List.length_take, List.length_drop, List.length_append, List.length_cons, List.length_nil, List.length_map]); omega) (by (try simp only [maxLen, List.length_take, List.length_drop, List.length_append, List.length_cons, List.length_nil, List.length_map]); omega) ?_
              clear hS; intro A2 c2 w hS
              refine ⟨HM.s (hS.sb), ?_⟩
              refine D.eff 11 4095 rfl D.wantedN (by kernel_rfl) (by kernel_rfl) (fun _ _ h => h) ?_
              refine Z.apm hS rfl rfl rfl (by repeat (first | exact At.here | apply At.next)) ((hS.slrows (by repeat (first | exact At.here | apply At.next))).mdrop hj) (by (try simp only [maxLen, List.length_take, List.length_drop, List.length_append, List.length_cons, List.length_nil, List.length_map]); omega) (by (try simp only [maxLen, List.length_take, List.length_drop, List.length_append, List.length_cons, List.length_nil, List.length_map]); omega) ?_
              clear hS; intro A3 c3 w hS
              refine ⟨HM.s (hS.sb), ?_⟩
              refine Sh.dp 12 8191 ?_
              refine D.done (by kernel_rfl) ?_
              repeat' (first|refine K ?_|(refine Sh.sa hS ?_;clear hS;intro w hS)|(refine K3 ?_;clear hS;intro g w hS hge)|((first|refine GS ?_ ?_|refine VB ?_ ?_)<;>intro hb<;>(try simp only [J1,J2,J3,J4,J5,J6] at hb)<;>(try (exfalso;first|omega|exact hb trivial))))
              refine Sh.again (l.length - (i + 1)) [(3, _), (9, .int .i64 (i + 1 : Nat))] ?_
              refine ⟨i + 1, out.take j ++ [x] ++ out.drop j, A3, c3, by simp; omega, by omega, by simp; omega, by rw [hn]; simp, rfl, ?_⟩
              rw [List.length_append]
              exact hS.sb
            refine D.econs 6 1903 rfl D.wantedN (by kernel_rfl) (fun _ _ h => h) ?_ ?_
            · refine Z.bs hS rfl rfl rfl ?_
              clear hS; intro g w hS hge
              refine ⟨HM.s (hS.sb), ?_⟩
              refine D.eff 4 1919 rfl D.wantedN (by kernel_rfl) (by kernel_rfl) (fun _ _ h => h) ?_
              refine Z.ap0m (fc := ztC) hS rfl rfl rfl ((hS.slrows (by repeat (first | exact At.here | apply At.next))).mtake hj) (by (try simp only [maxLen, List.length_take, List.length_drop, List.length_append, List.length_cons, List.length_nil, List.length_map]); omega) (by (try simp only [maxLen, List.length_take, List.length_drop, List.length_append, List.length_cons, List.length_nil, List.length_map]); omega) ?_
              clear hS; intro A1 c1 w hS
              refine ⟨HM.s (hS.sb), ?_⟩
              refine D.eff 7 2047 rfl D.wantedN (by kernel_rfl) (by kernel_rfl) (fun _ _ h => h) ?_
              refine Z.apm (l' := [x]) hS rfl rfl rfl (by repeat (first | exact At.here | apply At.next)) (hS.lit1 (by repeat (first | exact At.here | apply At.next)) rfl rfl) (by (try simp only [maxLen, List.length_take, List.length_drop, List.length_append, List.length_cons, List.length_nil, List.length_map]); omega) (by (try simp only [maxLen, List.length_take, List.length_drop, List.length_append, List.length_cons, List.length_nil, List.length_map]); omega) ?_
              clear hS; intro A2 c2 w hS
              refine ⟨HM.s (hS.sb), ?_⟩
              refine D.eff 11 4095 rfl D.wantedN (by kernel_rfl) (by kernel_rfl) (fun _ _ h => h) ?_
              refine Z.apm hS rfl rfl rfl (by repeat (first | exact At.here | apply At.next)) ((hS.slrows (by repeat (first | exact At.here | apply At.next))).mdrop hj) (by (try simp only [maxLen, List.length_take, List.length_drop, List.length_append, List.length_cons, List.length_nil, List.length_map]); omega) (by (try simp only [maxLen, List.length_take, List.length_drop, List.length_append, List.length_cons, List.length_nil, List.length_map]); omega) ?_
              clear hS; intro A3 c3 w hS
              refine ⟨HM.s (hS.sb), ?_⟩
              refine Sh.dp 12 8191 ?_
              refine D.done (by kernel_rfl) ?_
              repeat' (first|refine K ?_|(refine Sh.sa hS ?_;clear hS;intro w hS)|(refine K3 ?_;clear hS;intro g w hS hge)|((first|refine GS ?_ ?_|refine VB ?_ ?_)<;>intro hb<;>(try simp only [J1,J2,J3,J4,J5,J6] at hb)<;>(try (exfalso;first|omega|exact hb trivial))))
              refine Sh.again (l.length - (i + 1)) [(3, _), (9, .int .i64 (i + 1 : Nat))] ?_
              refine ⟨i + 1, out.take j ++ [x] ++ out.drop j, A3, c3, by simp; omega, by omega, by simp; omega, by rw [hn]; simp, rfl, ?_⟩
              rw [List.length_append]
              exact hS.sb
            exact D.enil
          refine D.econs 6 1902 rfl D.wantedN (by kernel_rfl) (fun _ _ h => h) ?_ ?_
          · refine Z.bs hS rfl rfl rfl ?_
            clear hS; intro g w hS hge
            refine ⟨HM.s (hS.sb), ?_⟩
            refine D.eff 0 1903 rfl D.wantedN (by kernel_rfl) (by kernel_rfl) (fun _ _ h => h) ?_
            refine Z.bs hS rfl rfl rfl ?_
            clear hS; intro g w hS hge
            refine ⟨HM.s (hS.sb), ?_⟩
            refine D.eff 4 1919 rfl D.wantedN (by kernel_rfl) (by kernel_rfl) (fun _ _ h => h) ?_
            refine Z.ap0m (fc := ztC) hS rfl rfl rfl ((hS.slrows (by repeat (first | exact At.here | apply At.next))).mtake hj) (by (try simp only [maxLen, List.length_take, List.length_drop, List.length_append, List.length_cons, List.length_nil, List.length_map]); omega) (by (try simp only [maxLen, List.length_take, List.length_drop, List.length_append, List.length_cons, List.length_nil, List.length_map]); omega) ?_
            clear hS; intro A1 c1 w hS
            refine ⟨HM.s (hS.sb), ?_⟩
            refine D.eff 7 2047 rfl D.wantedN (by kernel_rfl) (by kernel_rfl) (fun _ _ h => h) ?_
            refine Z.apm (l' := [x]) hS rfl rfl rfl (by repeat (first | exact At.here | apply At.next)) (hS.lit1 (by repeat (first | exact At.here | apply At.next)) rfl rfl) (by (try simp only [maxLen, List.length_take, List.length_drop, List.length_append, List.length_cons, List.length_nil, List.length_map]); omega) (by (try simp only [maxLen, List.length_take, List.length_drop, List.length_append, List.length_cons, List.length_nil, List.length_map]); omega) ?_
            clear hS; intro A2 c2 w hS
            refine ⟨HM.s (hS.sb), ?_⟩
            refine D.eff 11 4095 rfl D.wantedN (by kernel_rfl) (by kernel_rfl) (fun _ _ h => h) ?_
            refine Z.apm hS rfl rfl rfl (by repeat (first | exact At.here | apply At.next)) ((hS.slrows (by repeat (first | exact At.here | apply At.next))).mdrop hj) (by (try simp only [maxLen, List.length_take, List.length_drop, List.length_append, List.length_cons, List.length_nil, List.length_map]); omega) (by (try simp only [maxLen, List.length_take, List.length_drop, List.length_append, List.length_cons, List.length_nil, List.length_map]); omega) ?_
            clear hS; intro A3 c3 w hS
            refine ⟨HM.s (hS.sb), ?_⟩
            refine Sh.dp 12 8191 ?_
            refine D.done (by kernel_rfl) ?_
            repeat' (first|refine K ?_|(refine Sh.sa hS ?_;clear hS;intro w hS)|(refine K3 ?_;clear hS;intro g w hS hge)|((first|refine GS ?_ ?_|refine VB ?_ ?_)<;>intro hb<;>(try simp only [J1,J2,J3,J4,J5,J6] at hb)<;>(try (exfalso;first|omega|exact hb trivial))))
            refine Sh.again (l.length - (i + 1)) [(3, _), (9, .int .i64 (i + 1 : Nat))] ?_
            refine ⟨i + 1, out.take j ++ [x] ++ out.drop j, A3, c3, by simp; omega, by omega, by simp; omega, by rw [hn]; simp, rfl, ?_⟩
            rw [List.length_append]
            exact hS.sb
          exact D.enil
    · have hj2 : j = out.length := by omega
      rw [insS_at hasc hj hjo (fun h => absurd h hjl)] at hn
      repeat' (first|refine K ?_|(refine Sh.sa hS ?_;clear hS;intro w hS)|(refine K3 ?_;clear hS;intro g w hS hge)|((first|refine GS ?_ ?_|refine VB ?_ ?_)<;>intro hb<;>(try simp only [J1,J2,J3,J4,J5,J6] at hb)<;>(try (exfalso;first|omega|exact hb trivial))))
      refine D.startS hS 13 13 (by kernel_rfl) rfl ?_
      replace hS := hS.drew
      refine Sh.dp 1 2 ?_
      refine Sh.dp 2 6 ?_
      refine D.pl 3 14 rfl D.wantedN (by kernel_rfl) (R.upto rfl rfl rfl (by omega)) ?_
      refine Sh.dp 5 46 ?_
      refine Sh.dp 8 302 ?_
      refine Sh.dp 9 814 ?_
      refine D.pl 10 1838 rfl D.wantedN (by kernel_rfl) (R.since rfl rfl rfl (by omega)) ?_
      refine D.each [0, 6] (by kernel_rfl) rfl ?_
      refine D.econs 0 1839 rfl D.wantedN (by kernel_rfl) (fun _ _ h => h) ?_ ?_
      · refine Z.bs hS rfl rfl rfl ?_
        clear hS; intro g w hS hge
        refine ⟨HM.s (hS.sb), ?_⟩
        refine D.each [4, 6] (by kernel_rfl) rfl ?_
        refine D.econs 4 1855 rfl D.wantedN (by kernel_rfl) (fun _ _ h => h) ?_ ?_
        · refine Z.ap0m (fc := ztC) hS rfl rfl rfl ((hS.slrows (by repeat (first | exact At.here | apply At.next))).mtake hj) (by (try simp only [maxLen, List.length_take, List.length_drop, List.length_append, List.length_cons, List.length_nil, List.length_map]); omega) (by (try simp only [maxLen, List.length_take, List.length_drop, List.length_append, List.length_cons, List.length_nil, List.length_map]); omega) ?_
          clear hS; intro A1 c1 w hS
          refine ⟨HM.s (hS.sb), ?_⟩
          refine D.eff 6 1919 rfl D.wantedN (by kernel_rfl) (by kernel_rfl) (fun _ _ h => h) ?_
          refine Z.bs hS rfl rfl rfl ?_
          clear hS; intro g w hS hge
          refine ⟨HM.s (hS.sb), ?_⟩
          refine D.eff 7 2047 rfl D.wantedN (by kernel_rfl) (by kernel_rfl) (fun _ _ h => h) ?_
          refine Z.apm (l' := [x]) hS rfl rfl rfl (by repeat (first | exact At.here | apply At.next)) (hS.lit1 (by repeat (first | exact At.here | apply At.next)) rfl rfl) (by (try simp only [maxLen, List.length_take, List.length_drop, List.length_append, List.length_cons, List.length_nil, List.length_map]); omega) (by (try simp only [maxLen, List.length_take, List.length_drop, List.length_append, List.length_cons, List.length_nil, List.length_map]); omega) ?_
          clear hS; intro A2 c2 w hS
          refine ⟨HM.s (hS.sb), ?_⟩
          refine D.eff 11 4095 rfl D.wantedN (by kernel_rfl) (by kernel_rfl) (fun _ _ h => h) ?_
          refine Z.apm hS rfl rfl rfl (by repeat (first | exact At.here | apply At.next)) ((hS.slrows (by repeat (first | exact At.here | apply At.next))).mdrop hj) (by (try simp only [maxLen, List.length_take, List.length_drop, List.length_append, List.length_cons, List.length_nil, List.length_map]); omega) (by (try simp only [maxLen, List.length_take, List.length_drop, List.length_append, List.length_cons, List.length_nil, List.length_map]); omega) ?_
          clear hS; intro A3 c3 w hS
          refine ⟨HM.s (hS.sb), ?_⟩
          refine Sh.dp 12 8191 ?_
          refine D.done (by kernel_rfl) ?_
          repeat' (first|refine K ?_|(refine Sh.sa hS ?_;clear hS;intro w hS)|(refine K3 ?_;clear hS;intro g w hS hge)|((first|refine GS ?_ ?_|refine VB ?_ ?_)<;>intro hb<;>(try simp only [J1,J2,J3,J4,J5,J6] at hb)<;>(try (exfalso;first|omega|exact hb trivial))))
          refine Sh.again (l.length - (i + 1)) [(3, _), (9, .int .i64 (i + 1 : Nat))] ?_
          refine ⟨i + 1, out.take j ++ [x] ++ out.drop j, A3, c3, by simp; omega, by omega, by simp; omega, by rw [hn]; simp, rfl, ?_⟩
          rw [List.length_append]
          exact hS.sb
        refine D.econs 6 1903 rfl D.wantedN (by kernel_rfl) (fun _ _ h => h) ?_ ?_
        · refine Z.bs hS rfl rfl rfl ?_
          clear hS; intro g w hS hge
          refine ⟨HM.s (hS.sb), ?_⟩
          refine D.eff 4 1919 rfl D.wantedN (by kernel_rfl) (by kernel_rfl) (fun _ _ h => h) ?_
          refine Z.ap0m (fc := ztC) hS rfl rfl rfl ((hS.slrows (by repeat (first | exact At.here | apply At.next))).mtake hj) (by (try simp only [maxLen, List.length_take, List.length_drop, List.length_append, List.length_cons, List.length_nil, List.length_map]); omega) (by (try simp only [maxLen, List.length_take, List.length_drop, List.length_append, List.length_cons, List.length_nil, List.length_map]); omega) ?_
          clear hS; intro A1 c1 w hS
          refine ⟨HM.s (hS.sb), ?_⟩
          refine D.eff 7 2047 rfl D.wantedN (by kernel_rfl) (by kernel_rfl) (fun _ _ h => h) ?_
          refine Z.apm (l' := [x]) hS rfl rfl rfl (by repeat (first | exact At.here | apply At.next)) (hS.lit1 (by repeat (first | exact At.here | apply At.next)) rfl rfl) (by (try simp only [maxLen, List.length_take, List.length_drop, List.length_append, List.length_cons, List.length_nil, List.length_map]); omega) (by (try simp only [maxLen, List.length_take, List.length_drop, List.length_append, List.length_cons, List.length_nil, List.length_map]); omega) ?_
          clear hS; intro A2 c2 w hS
          refine ⟨HM.s (hS.sb), ?_⟩
          refine D.eff 11 4095 rfl D.wantedN (by kernel_rfl) (by kernel_rfl) (fun _ _ h => h) ?_
          refine Z.apm hS rfl rfl rfl (by repeat (first | exact At.here | apply At.next)) ((hS.slrows (by repeat (first | exact At.here | apply At.next))).mdrop hj) (by (try simp only [maxLen, List.length_take, List.length_drop, List.length_append, List.length_cons, List.length_nil, List.length_map]); omega) (by (try simp only [maxLen, List.length_take, List.length_drop, List.length_append, List.length_cons, List.length_nil, List.length_map]); omega) ?_
          clear hS; intro A3 c3 w hS
          refine ⟨HM.s (hS.sb), ?_⟩
          refine Sh.dp 12 8191 ?_
          refine D.done (by kernel_rfl) ?_
          repeat' (first|refine K ?_|(refine Sh.sa hS ?_;clear hS;intro w hS)|(refine K3 ?_;clear hS;intro g w hS hge)|((first|refine GS ?_ ?_|refine VB ?_ ?_)<;>intro hb<;>(try simp only [J1,J2,J3,J4,J5,J6] at hb)<;>(try (exfalso;first|omega|exact hb trivial))))
          refine Sh.again (l.length - (i + 1)) [(3, _), (9, .int .i64 (i + 1 : Nat))] ?_
          refine ⟨i + 1, out.take j ++ [x] ++ out.drop j, A3, c3, by simp; omega, by omega, by simp; omega, by rw [hn]; simp, rfl, ?_⟩
          rw [List.length_append]
          exact hS.sb
        exact D.enil
      refine D.econs 6 1902 rfl D.wantedN (by kernel_rfl) (fun _ _ h => h) ?_ ?_
      · refine Z.bs hS rfl rfl rfl ?_
        clear hS; intro g w hS hge
        refine ⟨HM.s (hS.sb), ?_⟩
        refine D.eff 0 1903 rfl D.wantedN (by kernel_rfl) (by kernel_rfl) (fun _ _ h => h) ?_
        refine Z.bs hS rfl rfl rfl ?_
        clear hS; intro g w hS hge
        refine ⟨HM.s (hS.sb), ?_⟩
        refine D.eff 4 1919 rfl D.wantedN (by kernel_rfl) (by kernel_rfl) (fun _ _ h => h) ?_
        refine Z.ap0m (fc := ztC) hS rfl rfl rfl ((hS.slrows (by repeat (first | exact At.here | apply At.next))).mtake hj) (by (try simp only [maxLen, List.length_take, List.length_drop, List.length_append, List.length_cons, List.length_nil, List.length_map]); omega) (by (try simp only [maxLen, List.length_take, List.length_drop, List.length_append, List.length_cons, List.length_nil, List.length_map]); omega) ?_
        clear hS; intro A1 c1 w hS
        refine ⟨HM.s (hS.sb), ?_⟩
        refine D.eff 7 2047 rfl D.wantedN (by kernel_rfl) (by kernel_rfl) (fun _ _ h => h) ?_
        refine Z.apm (l' := [x]) hS rfl rfl rfl (by repeat (first | exact At.here | apply At.next)) (hS.lit1 (by repeat (first | exact At.here | apply At.next)) rfl rfl) (by (try simp only [maxLen, List.length_take, List.length_drop, List.length_append, List.length_cons, List.length_nil, List.length_map]); omega) (by (try simp only [maxLen, List.length_take, List.length_drop, List.length_append, List.length_cons, List.length_nil, List.length_map]); omega) ?_
        clear hS; intro A2 c2 w hS
        refine ⟨HM.s (hS.sb), ?_⟩
        refine D.eff 11 4095 rfl D.wantedN (by kernel_rfl) (by kernel_rfl) (fun _ _ h => h) ?_
        refine Z.apm hS rfl rfl rfl (by repeat (first | exact At.here | apply At.next)) ((hS.slrows (by repeat (first | exact At.here | apply At.next))).mdrop hj) (by (try simp only [maxLen, List.length_take, List.length_drop, List.length_append, List.length_cons, List.length_nil, List.length_map]); omega) (by (try simp only [maxLen, List.length_take, List.length_drop, List.length_append, List.length_cons, List.length_nil, List.length_map]); omega) ?_
        clear hS; intro A3 c3 w hS
        refine ⟨HM.s (hS.sb), ?_⟩
        refine Sh.dp 12 8191 ?_
        refine D.done (by kernel_rfl) ?_
        repeat' (first|refine K ?_|(refine Sh.sa hS ?_;clear hS;intro w hS)|(refine K3 ?_;clear hS;intro g w hS hge)|((first|refine GS ?_ ?_|refine VB ?_ ?_)<;>intro hb<;>(try simp only [J1,J2,J3,J4,J5,J6] at hb)<;>(try (exfalso;first|omega|exact hb trivial))))
        refine Sh.again (l.length - (i + 1)) [(3, _), (9, .int .i64 (i + 1 : Nat))] ?_
        refine ⟨i + 1, out.take j ++ [x] ++ out.drop j, A3, c3, by simp; omega, by omega, by simp; omega, by rw [hn]; simp, rfl, ?_⟩
        rw [List.length_append]
        exact hS.sb
      exact D.enil
  · repeat' (first|refine K ?_|(refine Sh.sa hS ?_;clear hS;intro w hS)|(refine K3 ?_;clear hS;intro g w hS hge)|((first|refine GS ?_ ?_|refine VB ?_ ?_)<;>intro hb<;>(try simp only [J1,J2,J3,J4,J5,J6] at hb)<;>(try (exfalso;first|omega|exact hb trivial))))
    refine Dnt Tryz.results34 ?_
    rw [List.take_of_length_le (by omega)] at hout
    rw [hout]
    exact ⟨A', c', rfl, hS.sb⟩
end Go.Proofs.YtmgpionlfemhdaaGreat
