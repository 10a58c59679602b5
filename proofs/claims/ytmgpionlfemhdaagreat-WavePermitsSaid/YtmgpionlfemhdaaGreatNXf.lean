/-
  Which waves are permitted: the program's Check and the reference's.
-/
import Derived.Test.YtmgpionlfemhdaaGreatNXe
namespace Go.Proofs.YtmgpionlfemhdaaGreat
open Go.RowKit
set_option linter.unusedSimpArgs false
set_option linter.unusedVariables false
attribute [local irreducible] Res.blk Res.sl Res.all Res.ex Res.pure Res.star

theorem ChkR.stop {c : Cfg} {s : Sta} {W : List Wv} {i : Nat} (hi : i < W.length) (hall : ∀ j (hj : j < (W.map Wv.l).length), j < i → wrongAt c s (W.map Wv.l) j hj = 0) (h : wrongB c s (W[i]).l ((W.take i).map Wv.l).flatten (decide (i = 0)) ≠ 0) : ChkR c s (W.map Wv.l) i (wrongB c s (W[i]).l ((W.take i).map Wv.l).flatten (decide (i = 0))) := by
  refine ⟨hall, .inl ⟨by simpa using hi, ?_, h⟩⟩
  unfold wrongAt
  rw [List.getElem_map, List.map_take]
theorem ChkR.pass {c : Cfg} {s : Sta} {W : List Wv} {i : Nat} (hi : i < W.length) (hall : ∀ j (hj : j < (W.map Wv.l).length), j < i → wrongAt c s (W.map Wv.l) j hj = 0) (h : wrongB c s (W[i]).l ((W.take i).map Wv.l).flatten (decide (i = 0)) = 0) : ∀ j (hj : j < (W.map Wv.l).length), j < i + 1 → wrongAt c s (W.map Wv.l) j hj = 0 := fun j hj hji => by
  rcases Nat.lt_or_ge j i with h3 | h3
  · exact hall j hj h3
  · have : j = i := by omega
    subst this
    unfold wrongAt
    rw [List.getElem_map, ← List.map_take]
    exact h
theorem flat_succ {W : List Wv} {i : Nat} (hi : i < W.length) : ((W.take (i + 1)).map Wv.l).flatten = ((W.take i).map Wv.l).flatten ++ (W[i]).l := by
  rw [List.take_succ_eq_append_getElem hi, List.map_append, List.flatten_append]
  simp
set_option maxHeartbeats 4000000 in
theorem rcheck_z (c : Cfg) (a : CAd) (s : Sta) (b : SAd) (B : Option Addr) (C : Nat) (W : List Wv) (r : World) (F : List Res) (w : World) (hS : Sep r [] F w) (hr : CfR r F c a) (ho : c.ok) (hs : s.ok c) (hq : StC r F s c b) (hw : WvR r F B C W) (hl : W.length ≤ 100) (hx : ∀ x, x ∈ W → x.l.length ≤ 100) :
    Calls Tryz.prog 20 #[c.val a, s.vc c b, .slice B W.length C] w fun e w' => ∃ (i : Nat) (er : Int), e = .returned (.tuple #[.int .i64 i, .int .i64 er]) ∧ ChkR c s (W.map Wv.l) i er ∧ Sep r [] F w' := by
  refine Z.enter Tryz.func20 Tryz.ntmps20 rfl rfl ?_
  repeat' (first|refine K ?_|(refine Sh.sa hS ?_;clear hS;intro w hS)|(refine K3 ?_;clear hS;intro g w hS hge)|((first|refine GS ?_ ?_|refine VB ?_ ?_)<;>intro hb<;>(try simp only [J1,J2,J3,J4,J5,J6] at hb)<;>(try (exfalso;first|omega|exact hb trivial))))
  rename_i gc _ _
  rename Nat => gs
  replace hS := Z.nilsl hS 3 1 none
  refine Z.lpS [6, 7, 8, 9, 10, 11, 14, 15, 16, 17, 18, 19, 20, 21, 22, 23, 24, 25, 26, 27, 28, 29, 30, 31, 32, 33] (fun m w z => ∃ (i : Nat) (ah : List Int) (A2 : Option Addr) (c2 : Nat), z = [(8, .slice A2 ah.length c2), (14, .int .i64 i)] ∧ i ≤ W.length ∧ ah.length ≤ i * 100 ∧ ah = ((W.take i).map Wv.l).flatten ∧ (∀ j (hj : j < (W.map Wv.l).length), j < i → wrongAt c s (W.map Wv.l) j hj = 0) ∧ m = W.length - i ∧ Sep r [] (.sl 3 1 (.slice A2 ah.length c2) (ah.map ztC) :: .blk gs 34 (s.cc c b) :: .blk gc 30 (c.cl a) :: F) w) _ [(8, .slice none 0 0), (14, .int .i64 (0 : Nat))] (by repeat (first | exact trivial | refine ⟨rfl, ?_⟩)) ⟨0, [], none, 0, rfl, by omega, by simp, by simp, fun j _ h => absurd h (by omega), rfl, hS.sb⟩ ?_
  clear hS
  rintro m f0 w _ ⟨i, ah, A2, c2, rfl, hi, hal, hah, hall, rfl, hS⟩
  by_cases hlt : i < W.length
  · obtain ⟨gb, o, hB, hra⟩ := hw.get [_, _, _] hS hlt
    subst hB
    have hin := hw.inn _ (List.getElem_mem hlt)
    have hxl := hx _ (List.getElem_mem hlt)
    have hst := ChkR.stop hlt hall
    have hps := ChkR.pass hlt hall
    have hfl := flat_succ hlt
    rw [← hah] at hst hps hfl
    generalize W[i] = x at *
    obtain ⟨l', A', c'⟩ := x
    simp only at hin hxl hst hps hfl
    have hd : decide ((i : Int) = 0) = decide (i = 0) := by rw [decide_eq_decide]; omega
    repeat' (first|refine K ?_|(refine Sh.sa hS ?_;clear hS;intro w hS)|(refine K3 ?_;clear hS;intro g w hS hge)|((first|refine GS ?_ ?_|refine VB ?_ ?_)<;>intro hb<;>(try simp only [J1,J2,J3,J4,J5,J6] at hb)<;>(try (exfalso;first|omega|exact hb trivial))))
    rw [hd]
    refine Z.eff (Z.cl (wrong_z c a s b A' l' c' A2 ah c2 (decide (i = 0)) _ _ _ hS (hr.app [_, _, _]) ho hs (hq.app [_, _, _]) (hin.app [_, _, _]) (by omega) (Reads.of_at (e := 3) (v := .slice A2 ah.length c2) (by repeat (first | exact At.here | apply At.next))) (by omega)) rfl ?_) rfl
    clear hS
    rintro e w ⟨rfl, hS⟩
    refine ⟨_, rfl, ?_⟩
    clear hra
    repeat' (first|refine K ?_|(refine Sh.sa hS ?_;clear hS;intro w hS)|(refine K3 ?_;clear hS;intro g w hS hge)|((first|refine GS ?_ ?_|refine VB ?_ ?_)<;>intro hb<;>(try simp only [J1,J2,J3,J4,J5,J6] at hb)<;>(try (exfalso;first|omega|exact hb trivial))))
    · refine Dntt Tryz.results20 ?_
      exact ⟨i, _, rfl, hst (by first | exact hb | omega), hS.sb⟩
    · refine Z.eff (Z.apm (l' := l') hS rfl rfl rfl (by repeat (first | exact At.here | apply At.next)) (hin [_, _, _] _ hS) (by (try simp only [maxLen, List.length_take, List.length_drop, List.length_append, List.length_cons, List.length_nil, List.length_map]); omega) (by (try simp only [maxLen, List.length_take, List.length_drop, List.length_append, List.length_cons, List.length_nil, List.length_map]); omega) ?_) rfl
      clear hS; intro A3 c3 w hS
      rw [← List.length_append] at hS ⊢
      repeat' (first|refine K ?_|(refine Sh.sa hS ?_;clear hS;intro w hS)|(refine K3 ?_;clear hS;intro g w hS hge)|((first|refine GS ?_ ?_|refine VB ?_ ?_)<;>intro hb<;>(try simp only [J1,J2,J3,J4,J5,J6] at hb)<;>(try (exfalso;first|omega|exact hb trivial))))
      refine Sh.again (W.length - (i + 1)) [(8, _), (14, .int .i64 (i + 1 : Nat))] ?_
      exact ⟨i + 1, ah ++ l', A3, c3, rfl, by omega, by simp; omega, hfl.symm, hps (by first | exact hb | omega), rfl, hS.sb⟩
  · have hi2 : i = W.length := by omega
    repeat' (first|refine K ?_|(refine Sh.sa hS ?_;clear hS;intro w hS)|(refine K3 ?_;clear hS;intro g w hS hge)|((first|refine GS ?_ ?_|refine VB ?_ ?_)<;>intro hb<;>(try simp only [J1,J2,J3,J4,J5,J6] at hb)<;>(try (exfalso;first|omega|exact hb trivial))))
    refine Dntt Tryz.results20 ?_
    refine ⟨W.length, 0, rfl, ⟨fun j hj _ => hall j hj (by simp at hj; omega), .inr ⟨by simp, rfl⟩⟩, hS.sb⟩
instance : HasM Tryz.prog 79 3 4 (.bool false) := ⟨Tryz.underlying79, Maps.int_keyed Tryz.underlying3, fun w => by kernel_rfl⟩
theorem key_int37 {k : Int} (h : -9223372036854775808 ≤ k ∧ k ≤ 9223372036854775807) : ∃ l, keyOf Tryz.prog 3 (.int .i64 k) = some l :=
  ⟨_, Maps.keyOf_int_mk Tryz.underlying3 (by unfold Lit.wf; rw [Bool.and_eq_true, decide_eq_true_eq, decide_eq_true_eq]; exact ⟨h.1, h.2⟩)⟩
def kvB (k : Int) : Value × Value := (.int .i64 k, .bool true)
theorem lookB {l : List Int} {k : Int} (h : k ∈ l) : LookM (l.map kvB) (.int .i64 k) (some (.bool true)) := .inl ⟨_, rfl, List.mem_map.2 ⟨k, h, rfl⟩⟩
theorem noneB {l : List Int} {k : Int} (h : k ∉ l) : ∀ p, p ∈ l.map kvB → p.1 ≠ .int .i64 k := fun p hp e => by
  obtain ⟨x, hx, rfl⟩ := List.mem_map.1 hp
  injection e with _ e
  subst e
  exact h hx
theorem putB {l : List Int} {k : Int} (h : k ∉ l) : PutM (l.map kvB) (.int .i64 k) (.bool true) ((l ++ [k]).map kvB) := .inr ⟨noneB h, by
  rw [List.map_append]
  exact List.perm_append_comm⟩
set_option maxHeartbeats 8000000 in
theorem pcheck_z (c : Cfg) (a : CAd) (s : Sta) (b : SAd) (B : Option Addr) (C : Nat) (W : List Wv) (r : World) (F : List Res) (w : World) (hS : Sep r [] F w) (hr : CfR r F c a) (ho : c.ok) (hs : s.ok c) (hq : StC r F s c b) (hw : WvR r F B C W) (hl : W.length ≤ 100) (hx : ∀ x, x ∈ W → x.l.length ≤ 100) :
    Calls Tryz.prog 19 #[c.val a, s.vc c b, .slice B W.length C] w fun e w' => ∃ (i : Nat) (er : Int), e = .returned (.tuple #[.int .i64 i, .int .i64 er]) ∧ ChkR c s (W.map Wv.l) i er ∧ Sep r [] F w' := by
  have hck := ho.k
  have hbl := ho.b
  refine Z.enter Tryz.func19 Tryz.ntmps19 rfl rfl ?_
  repeat' (first|refine K ?_|(refine Sh.sa hS ?_;clear hS;intro w hS)|(refine K3 ?_;clear hS;intro g w hS hge)|((first|refine GS ?_ ?_|refine VB ?_ ?_)<;>intro hb<;>(try simp only [J1,J2,J3,J4,J5,J6] at hb)<;>(try (exfalso;first|omega|exact hb trivial))))
  rename_i gc _ _
  rename Nat => gs
  refine Z.eff (Z.mkm hS ?_) rfl
  clear hS; intro gm w hS hgm
  repeat' (first|refine K ?_|(refine Sh.sa hS ?_;clear hS;intro w hS)|(refine K3 ?_;clear hS;intro g w hS hge)|((first|refine GS ?_ ?_|refine VB ?_ ?_)<;>intro hb<;>(try simp only [J1,J2,J3,J4,J5,J6] at hb)<;>(try (exfalso;first|omega|exact hb trivial))))
  refine Z.lpS [6, 7, 9, 10, 12, 13, 17, 18, 19, 20, 21, 22, 23, 24, 25, 26, 27, 28, 29, 30, 31, 32, 33, 34, 35, 36, 37, 38, 39, 40, 41, 42, 43, 44, 45, 46, 47, 48, 49, 50, 51, 52, 53, 54, 55, 56, 57, 58, 59, 60, 61, 62, 63, 64, 65, 66, 67, 68] (fun m w z => ∃ (i : Nat) (seen : List Int), z = [(17, .int .i64 i)] ∧ i ≤ W.length ∧ seen.length ≤ i * 100 ∧ seen = ((W.take i).map Wv.l).flatten ∧ (∀ j (hj : j < (W.map Wv.l).length), j < i → wrongAt c s (W.map Wv.l) j hj = 0) ∧ m = W.length - i ∧ Sep r [] (.mp Tryz.prog 3 gm (seen.map kvB) :: .blk gs 34 (s.cc c b) :: .blk gc 30 (c.cl a) :: F) w) _ [(17, .int .i64 (0 : Nat))] (by repeat (first | exact trivial | refine ⟨rfl, ?_⟩)) ⟨0, [], rfl, by omega, by simp, by simp, fun j _ h => absurd h (by omega), rfl, hS.sb⟩ ?_
  clear hS
  rintro m f0 w _ ⟨i, seen, rfl, hi, hal, hah, hall, rfl, hS⟩
  by_cases hlt : i < W.length
  · obtain ⟨gb, o, hB, hra⟩ := hw.get [_, _, _] hS hlt
    subst hB
    have hin := hw.inn _ (List.getElem_mem hlt)
    have hxl := hx _ (List.getElem_mem hlt)
    have hst := ChkR.stop hlt hall
    have hps := ChkR.pass hlt hall
    have hfl := flat_succ hlt
    rw [← hah] at hst hps hfl
    generalize W[i] = x at *
    obtain ⟨l', A', c'⟩ := x
    simp only at hin hxl hst hps hfl
    repeat' (first|refine K ?_|(refine Sh.sa hS ?_;clear hS;intro w hS)|(refine K3 ?_;clear hS;intro g w hS hge)|((first|refine GS ?_ ?_|refine VB ?_ ?_)<;>intro hb<;>(try simp only [J1,J2,J3,J4,J5,J6] at hb)<;>(try (exfalso;first|omega|exact hb trivial))))
    · have : l' = [] := List.eq_nil_of_length_eq_zero (by omega)
      subst this
      refine Dntt Tryz.results19 ?_
      exact ⟨i, 1, rfl, hst (by unfold wrongB; rw [if_pos rfl]; decide), hS.sb⟩
    have hne : l' ≠ [] := by rintro rfl; exact hb rfl
    clear hra
    have h0S : Sep r [] (.mp Tryz.prog 3 gm ((seen ++ l'.take 0).map kvB) :: .blk gs 34 (s.cc c b) :: .blk gc 30 (c.cl a) :: F) w := by rw [List.take_zero, List.append_nil]; exact hS.sb
    refine Z.lpS [6, 7, 12, 28, 29, 30, 31, 32, 33, 34, 35, 36, 37, 38, 39, 40, 41, 42, 43, 44] (fun m w z => ∃ j : Nat, z = [(28, .int .i64 j)] ∧ j ≤ l'.length ∧ (∀ q (hq : q < l'.length), q < j → inC c l'[q] = true ∧ l'[q] ∉ seen ∧ l'[q] ∉ l'.take q) ∧ m = l'.length - j ∧ Sep r [] (.mp Tryz.prog 3 gm ((seen ++ l'.take j).map kvB) :: .blk gs 34 (s.cc c b) :: .blk gc 30 (c.cl a) :: F) w) _ [(28, .int .i64 (0 : Nat))] (by repeat (first | exact trivial | refine ⟨rfl, ?_⟩)) ⟨0, rfl, by omega, fun q _ h => absurd h (by omega), rfl, h0S⟩ ?_
    clear hS h0S
    rintro m f1 w _ ⟨j, rfl, hj, hno, rfl, hS⟩
    by_cases hjl : j < l'.length
    · obtain ⟨ga, oa, hAe, hra⟩ := int_get hin [_, _, _] hS hjl
      subst hAe
      have hbad := wrongB_bad (c := c) (s := s) (ahead := seen) (first := decide (i = 0)) hjl
      have hnx : inC c l'[j] = true → l'[j] ∉ seen → l'[j] ∉ l'.take j → ∀ q (hq : q < l'.length), q < j + 1 → inC c l'[q] = true ∧ l'[q] ∉ seen ∧ l'[q] ∉ l'.take q := fun h1 h2 h3 q hq hqj => by
        rcases Nat.lt_or_ge q j with h4 | h4
        · exact hno q hq h4
        · have : q = j := by omega
          subst this
          exact ⟨h1, h2, h3⟩
      have htk : seen ++ l'.take (j + 1) = (seen ++ l'.take j) ++ [l'[j]] := by rw [List.take_succ_eq_append_getElem hjl, List.append_assoc]
      generalize l'[j] = y at *
      repeat' (first|refine K ?_|(refine Sh.sa hS ?_;clear hS;intro w hS)|(refine K3 ?_;clear hS;intro g w hS hge)|((first|refine GS ?_ ?_|refine VB ?_ ?_)<;>intro hb<;>(try simp only [J1,J2,J3,J4,J5,J6] at hb)<;>(try (exfalso;first|omega|exact hb trivial))))
      refine Z.eff (Z.cl (pexists_z c a y _ _ _ hS ho) rfl ?_) rfl
      clear hS
      rintro e w ⟨rfl, hS⟩
      refine ⟨_, rfl, ?_⟩
      cases hic : inC c y
      · repeat' (first|refine K ?_|(refine Sh.sa hS ?_;clear hS;intro w hS)|(refine K3 ?_;clear hS;intro g w hS hge)|((first|refine GS ?_ ?_|refine VB ?_ ?_)<;>intro hb<;>(try simp only [J1,J2,J3,J4,J5,J6] at hb)<;>(try (exfalso;first|omega|exact hb trivial))))
        refine Dntt Tryz.results19 ?_
        have hwb := hbad (.inl hic)
        exact ⟨i, 1, rfl, hwb ▸ hst (by rw [hwb]; decide), hS.sb⟩
      · have hyb : 0 ≤ y ∧ y < c.cells.length := by unfold inC at hic; simpa using hic
        have hky : -9223372036854775808 ≤ y ∧ y ≤ 9223372036854775807 := by omega
        by_cases hin2 : y ∈ seen ++ l'.take j
        · repeat' (first|refine K ?_|(refine Sh.sa hS ?_;clear hS;intro w hS)|(refine K3 ?_;clear hS;intro g w hS hge)|((first|refine GS ?_ ?_|refine VB ?_ ?_)<;>intro hb<;>(try simp only [J1,J2,J3,J4,J5,J6] at hb)<;>(try (exfalso;first|omega|exact hb trivial))))
          refine Z.eff (Z.lk hS (some (.bool true)) rfl rfl (by repeat (first | exact At.here | apply At.next)) (key_int37 hky) (lookB hin2) ?_) rfl
          repeat' (first|refine K ?_|(refine Sh.sa hS ?_;clear hS;intro w hS)|(refine K3 ?_;clear hS;intro g w hS hge)|((first|refine GS ?_ ?_|refine VB ?_ ?_)<;>intro hb<;>(try simp only [J1,J2,J3,J4,J5,J6] at hb)<;>(try (exfalso;first|omega|exact hb trivial))))
          refine Dntt Tryz.results19 ?_
          have hwb := hbad (.inr (List.mem_append.1 hin2))
          exact ⟨i, 1, rfl, hwb ▸ hst (by rw [hwb]; decide), hS.sb⟩
        · have hy1 : y ∉ seen := fun h => hin2 (List.mem_append_left _ h)
          have hy2 : y ∉ l'.take j := fun h => hin2 (List.mem_append_right _ h)
          repeat' (first|refine K ?_|(refine Sh.sa hS ?_;clear hS;intro w hS)|(refine K3 ?_;clear hS;intro g w hS hge)|((first|refine GS ?_ ?_|refine VB ?_ ?_)<;>intro hb<;>(try simp only [J1,J2,J3,J4,J5,J6] at hb)<;>(try (exfalso;first|omega|exact hb trivial))))
          refine Z.eff (Z.lk hS none rfl rfl (by repeat (first | exact At.here | apply At.next)) (key_int37 hky) (.inr ⟨rfl, noneB hin2⟩) ?_) rfl
          repeat' (first|refine K ?_|(refine Sh.sa hS ?_;clear hS;intro w hS)|(refine K3 ?_;clear hS;intro g w hS hge)|((first|refine GS ?_ ?_|refine VB ?_ ?_)<;>intro hb<;>(try simp only [J1,J2,J3,J4,J5,J6] at hb)<;>(try (exfalso;first|omega|exact hb trivial))))
          refine Z.eff (Z.upm hS ((seen ++ l'.take j ++ [y]).map kvB) rfl rfl rfl (by repeat (first | exact At.here | apply At.next)) (key_int37 hky) (putB hin2) (by simp [maxLen]; omega) ?_) rfl
          clear hS; intro w hS
          rw [← htk] at hS
          repeat' (first|refine K ?_|(refine Sh.sa hS ?_;clear hS;intro w hS)|(refine K3 ?_;clear hS;intro g w hS hge)|((first|refine GS ?_ ?_|refine VB ?_ ?_)<;>intro hb<;>(try simp only [J1,J2,J3,J4,J5,J6] at hb)<;>(try (exfalso;first|omega|exact hb trivial))))
          refine Sh.again (l'.length - (j + 1)) [(28, .int .i64 (j + 1 : Nat))] ?_
          exact ⟨j + 1, rfl, by omega, hnx hic hy1 hy2, rfl, hS.sb⟩
    have hwp : wrongB c s l' seen (decide (i = 0)) = wrongR c s l' (decide (i = 0)) := wrongB_pass hne fun q hq => hno q hq (by omega)
    rw [hwp] at hst hps
    have hj2 : j = l'.length := by omega
    rw [hj2, List.take_length, ← hfl] at hS
    have hbig : ¬ (c.blast < (l'.length : Int) ∨ i = 0 ∧ 1 < l'.length) → wrongR c s l' (decide (i = 0)) = wrongP c s l' := fun h => by
      unfold wrongR
      rw [if_neg]
      simpa using h
    have hbig2 : (c.blast < (l'.length : Int) ∨ i = 0 ∧ 1 < l'.length) → wrongR c s l' (decide (i = 0)) = 14 := fun h => by
      unfold wrongR
      rw [if_pos]
      simpa using h
    clear hno hwp
    by_cases hB : c.blast < (l'.length : Int) ∨ i = 0 ∧ 1 < l'.length
    · rw [hbig2 hB] at hst
      repeat' (first|refine K ?_|(refine Sh.sa hS ?_;clear hS;intro w hS)|(refine K3 ?_;clear hS;intro g w hS hge)|((first|refine GS ?_ ?_|refine VB ?_ ?_)<;>intro hb<;>(try simp only [J1,J2,J3,J4,J5,J6] at hb)<;>(try (exfalso;first|omega|exact hb trivial))))
      all_goals
        refine Dntt Tryz.results19 ?_
        exact ⟨i, 14, rfl, hst (by decide), hS.sb⟩
    · rw [hbig hB] at hst hps
      repeat' (first|refine K ?_|(refine Sh.sa hS ?_;clear hS;intro w hS)|(refine K3 ?_;clear hS;intro g w hS hge)|((first|refine GS ?_ ?_|refine VB ?_ ?_)<;>intro hb<;>(try simp only [J1,J2,J3,J4,J5,J6] at hb)<;>(try (exfalso;first|omega|exact hb trivial))))
      all_goals
        refine Z.eff (Z.cl (pairs_z c a s b A' l' c' _ _ _ hS (hr.app [_, _, _]) ho hs (hq.app [_, _, _]) (hin.app [_, _, _]) (by omega)) rfl ?_) rfl
        clear hS
        rintro e w ⟨rfl, hS⟩
        refine ⟨_, rfl, ?_⟩
        repeat' (first|refine K ?_|(refine Sh.sa hS ?_;clear hS;intro w hS)|(refine K3 ?_;clear hS;intro g w hS hge)|((first|refine GS ?_ ?_|refine VB ?_ ?_)<;>intro hb<;>(try simp only [J1,J2,J3,J4,J5,J6] at hb)<;>(try (exfalso;first|omega|exact hb trivial))))
        · refine Dntt Tryz.results19 ?_
          exact ⟨i, _, rfl, hst (by first | exact hb | omega), hS.sb⟩
        · refine Sh.again (W.length - (i + 1)) [(17, .int .i64 (i + 1 : Nat))] ?_
          exact ⟨i + 1, _, rfl, by omega, by rw [hfl]; simp; omega, rfl, hps (by first | exact hb | omega), rfl, hS⟩
  · have hi2 : i = W.length := by omega
    repeat' (first|refine K ?_|(refine Sh.sa hS ?_;clear hS;intro w hS)|(refine K3 ?_;clear hS;intro g w hS hge)|((first|refine GS ?_ ?_|refine VB ?_ ?_)<;>intro hb<;>(try simp only [J1,J2,J3,J4,J5,J6] at hb)<;>(try (exfalso;first|omega|exact hb trivial))))
    refine Dntt Tryz.results19 ?_
    refine ⟨W.length, 0, rfl, ⟨fun j hj _ => hall j hj (by simp at hj; omega), .inr ⟨by simp, rfl⟩⟩, hS.sb⟩
end Go.Proofs.YtmgpionlfemhdaaGreat
