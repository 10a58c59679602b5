/-
  How cells are divided into waves: the program's function and the reference's.
-/
import Derived.Test.YtmgpionlfemhdaaGreatNXa
import Derived.Test.YtmgpionlfemhdaaGreatNXs
namespace Go.Proofs.YtmgpionlfemhdaaGreat
open Go.RowKit
set_option linter.unusedSimpArgs false
set_option linter.unusedVariables false
attribute [local irreducible] Res.blk Res.sl Res.all Res.ex Res.pure Res.star

set_option maxHeartbeats 1000000 in
theorem iclone_z (l : List Int) (A : Option Addr) (c : Nat) (r : World) (F : List Res) (w : World) (hS : Sep r [] F w) (hrd : Reads r F 1 (.slice A l.length c) (l.map ztC)) (hl : l.length ≤ 100000) :
    Calls Tryz.prog 35 #[.slice A l.length c] w fun e w' => ∃ A c, e = .returned (.slice A l.length c) ∧ Sep r [] (.sl 3 1 (.slice A l.length c) (l.map ztC) :: F) w' := by
  obtain ⟨_, _, _, hv, hnil, hc, _⟩ := hrd [] w hS
  injection hv with e1 e2 e3
  subst e1
  simp only [List.length_map] at hnil hc
  cases A with
  | none =>
    have hl0 : l = [] := by have := hnil rfl; exact List.eq_nil_of_length_eq_zero (by omega)
    subst hl0
    refine Z.enter Tryz.func35 Tryz.ntmps35 rfl rfl ?_
    repeat' (first|refine K ?_|(refine Sh.sa hS ?_;clear hS;intro w hS)|(refine K3 ?_;clear hS;intro g w hS hge)|((first|refine GS ?_ ?_|refine VB ?_ ?_)<;>intro hb<;>(try simp only [J1,J2,J3,J4,J5,J6] at hb)<;>(try (exfalso;first|omega|exact hb trivial))))
    refine Dnt Tryz.results35 ?_
    exact ⟨none, 0, rfl, Z.nilsl hS _ _ none⟩
  | some a =>
    refine Z.enter Tryz.func35 Tryz.ntmps35 rfl rfl ?_
    repeat' (first|refine K ?_|(refine Sh.sa hS ?_;clear hS;intro w hS)|(refine K3 ?_;clear hS;intro g w hS hge)|((first|refine GS ?_ ?_|refine VB ?_ ?_)<;>intro hb<;>(try simp only [J1,J2,J3,J4,J5,J6] at hb)<;>(try (exfalso;first|omega|exact hb trivial))))
    refine Z.eff (Z.ap0m hS rfl rfl rfl (hrd [_] _ hS) (by (try simp only [maxLen, List.length_take, List.length_drop, List.length_append, List.length_cons, List.length_nil, List.length_map]); omega) (by (try simp only [maxLen, List.length_take, List.length_drop, List.length_append, List.length_cons, List.length_nil, List.length_map]); omega) ?_) rfl
    clear hS; intro A' c' w hS
    repeat' (first|refine K ?_|(refine Sh.sa hS ?_;clear hS;intro w hS)|(refine K3 ?_;clear hS;intro g w hS hge)|((first|refine GS ?_ ?_|refine VB ?_ ?_)<;>intro hb<;>(try simp only [J1,J2,J3,J4,J5,J6] at hb)<;>(try (exfalso;first|omega|exact hb trivial))))
    refine Dnt Tryz.results35 ?_
    exact ⟨_, _, rfl, hS.sb⟩
theorem mkR_ok {c : Cfg} {s : Sta} {l : List Int} (h : mkOk c l = true) : mkR c s l = (mkW c s (srt l), 0) := by unfold mkR; rw [if_pos h]
theorem mkR_no {c : Cfg} {s : Sta} {l : List Int} (h : mkOk c l = false) : mkR c s l = ([], 1) := by unfold mkR; rw [if_neg (by rw [h]; decide)]
theorem mk_srt (c : Cfg) {l q : List Int} (h : srt l = q) : q.length = l.length ∧ (mkOk c l = true ↔ ∀ i (hi : i < q.length), inC c q[i] = true ∧ (0 < i → q[i - 1] ≠ q[i])) := by subst h; exact ⟨srt_len l, mkOk_srt c l⟩
theorem getWv {W : List Wv} {ws : List (List Int)} (h : W.map Wv.l = ws) {j : Nat} (hj : j < W.length) (hj' : j < ws.length) : ws[j] = (W[j]).l := by subst h; simp
theorem len_set {W : List Wv} {j i : Nat} {y : Wv} (h : ∀ x, x ∈ W → x.l.length ≤ i) (hy : y.l.length ≤ i + 1) : ∀ x, x ∈ W.set j y → x.l.length ≤ i + 1 := fun x hx => by
  rcases List.mem_or_eq_of_mem_set hx with hx | rfl
  · exact Nat.le_succ_of_le (h x hx)
  · exact hy
theorem len_snoc {W : List Wv} {i : Nat} {y : Wv} (h : ∀ x, x ∈ W → x.l.length ≤ i) (hy : y.l.length ≤ i + 1) : ∀ x, x ∈ W ++ [y] → x.l.length ≤ i + 1 := fun x hx => by
  rcases List.mem_append.1 hx with hx | hx
  · exact Nat.le_succ_of_le (h x hx)
  · rw [List.mem_singleton] at hx
    subst hx
    exact hy
theorem setWv {W : List Wv} {j : Nat} {y : Wv} : (W.set j y).map Wv.l = (W.map Wv.l).set j y.l := List.map_set
set_option maxHeartbeats 8000000 in
theorem pmake_z (c : Cfg) (a : CAd) (s : Sta) (b : SAd) (A : Option Addr) (l : List Int) (cap : Nat) (r : World) (F : List Res) (w : World) (hS : Sep r [] F w) (hr : CfR r F c a) (ho : c.ok) (hs : s.ok c) (hq : StC r F s c b) (hrd : Reads r F 1 (.slice A l.length cap) (l.map ztC)) (hl : l.length ≤ 1000) :
    Calls Tryz.prog 14 #[c.val a, s.vc c b, .slice A l.length cap] w fun e w' => ∃ (W : List Wv) (B : Option Addr) (C : Nat), e = .returned (.tuple #[.slice B W.length C, .int .i64 (mkR c s l).2]) ∧ W.map Wv.l = (mkR c s l).1 ∧ Sep r [] (WO B C W :: F) w' := by
  refine Z.enter Tryz.func14 Tryz.ntmps14 rfl rfl ?_
  repeat' (first|refine K ?_|(refine Sh.sa hS ?_;clear hS;intro w hS)|(refine K3 ?_;clear hS;intro g w hS hge)|((first|refine GS ?_ ?_|refine VB ?_ ?_)<;>intro hb<;>(try simp only [J1,J2,J3,J4,J5,J6] at hb)<;>(try (exfalso;first|omega|exact hb trivial))))
  rename_i gc _ _
  rename Nat => gs
  refine Z.eff (Z.cl (iclone_z l A cap _ _ _ hS (hrd.app [_, _]) (by omega)) rfl ?_) rfl
  clear hS
  rintro e w ⟨A1, c1, rfl, hS⟩
  refine ⟨_, rfl, ?_⟩
  repeat' (first|refine K ?_|(refine Sh.sa hS ?_;clear hS;intro w hS)|(refine K3 ?_;clear hS;intro g w hS hge)|((first|refine GS ?_ ?_|refine VB ?_ ?_)<;>intro hb<;>(try simp only [J1,J2,J3,J4,J5,J6] at hb)<;>(try (exfalso;first|omega|exact hb trivial))))
  refine Z.eff (Z.cl (sort_z A1 l c1 _ _ _ hS (by omega)) rfl ?_) rfl
  clear hS
  rintro e w ⟨rfl, hS⟩
  refine ⟨_, rfl, ?_⟩
  have hno : mkOk c l = false → mkR c s l = ([], 1) := mkR_no
  have hyes : mkOk c l = true → mkR c s l = (mkW c s (srt l), 0) := mkR_ok
  obtain ⟨q, hqq⟩ : ∃ q, srt l = q := ⟨_, rfl⟩
  obtain ⟨hql, hchk⟩ := mk_srt c hqq
  rw [hqq] at hS hyes
  clear hqq
  repeat' (first|refine K ?_|(refine Sh.sa hS ?_;clear hS;intro w hS)|(refine K3 ?_;clear hS;intro g w hS hge)|((first|refine GS ?_ ?_|refine VB ?_ ?_)<;>intro hb<;>(try simp only [J1,J2,J3,J4,J5,J6] at hb)<;>(try (exfalso;first|omega|exact hb trivial))))
  refine Z.lpS [6, 7, 9, 10, 21, 22, 23, 24, 25, 26, 27, 28, 29, 30, 31, 32, 33, 34, 35, 36, 37, 38, 39, 40, 41, 42, 43] (fun m w z => ∃ i : Nat, z = [(21, .int .i64 i)] ∧ i ≤ l.length ∧ (∀ j (hj : j < q.length), j < i → inC c q[j] = true ∧ (0 < j → q[j - 1] ≠ q[j])) ∧ m = l.length - i ∧ Sep r [] (.sl 3 1 (.slice A1 l.length c1) (q.map ztC) :: .blk gs 34 (s.cc c b) :: .blk gc 30 (c.cl a) :: F) w) _ [(21, .int .i64 (0 : Nat))] (by repeat (first | exact trivial | refine ⟨rfl, ?_⟩)) ⟨0, rfl, by omega, fun j _ h => absurd h (by omega), rfl, hS.sb⟩ ?_
  clear hS
  rintro m f0 w _ ⟨i, rfl, hi, hall, rfl, hS⟩
  by_cases hlt : i < l.length
  · have hlt2 : i < q.length := by omega
    obtain ⟨g1, rfl⟩ := Z.Sep_slform hS (rows := q.map ztC) .here (by simpa using (by omega : 0 < q.length))
    have hra : w.rangeAt g1 (0 + i * 1) (ztC q[i]) := by
      have h3 := (hS.slrows .here).elem (q := i) (by omega) (by simpa using hlt2)
      simpa using h3
    have hbad : (inC c q[i] = true → 0 < i ∧ q[i - 1] = q[i]) → mkR c s l = ([], 1) := fun h => hno (by
      cases hok : mkOk c l
      · rfl
      · have h2 := hchk.1 hok i hlt2
        have h3 := h h2.1
        exact absurd h3.2 (h2.2 h3.1))
    have hnx : inC c q[i] = true → (0 < i → q[i - 1] ≠ q[i]) → ∀ j (hj : j < q.length), j < i + 1 → inC c q[j] = true ∧ (0 < j → q[j - 1] ≠ q[j]) := fun h1 h2 j hj hji => by
      rcases Nat.lt_or_ge j i with h3 | h3
      · exact hall j hj h3
      · have : j = i := by omega
        subst this
        exact ⟨h1, h2⟩
    repeat' (first|refine K ?_|(refine Sh.sa hS ?_;clear hS;intro w hS)|(refine K3 ?_;clear hS;intro g w hS hge)|((first|refine GS ?_ ?_|refine VB ?_ ?_)<;>intro hb<;>(try simp only [J1,J2,J3,J4,J5,J6] at hb)<;>(try (exfalso;first|omega|exact hb trivial))))
    refine Z.eff (Z.cl (pexists_z c a q[i] _ _ _ hS ho) rfl ?_) rfl
    clear hS
    rintro e w ⟨rfl, hS⟩
    refine ⟨_, rfl, ?_⟩
    cases hic : inC c q[i]
    · repeat' (first|refine K ?_|(refine Sh.sa hS ?_;clear hS;intro w hS)|(refine K3 ?_;clear hS;intro g w hS hge)|((first|refine GS ?_ ?_|refine VB ?_ ?_)<;>intro hb<;>(try simp only [J1,J2,J3,J4,J5,J6] at hb)<;>(try (exfalso;first|omega|exact hb trivial))))
      refine Dntt Tryz.results14 ?_
      rw [hbad (fun h => by rw [hic] at h; cases h)]
      exact ⟨[], none, 0, rfl, rfl, WO.nil (hS.sb) none⟩
    · by_cases hi0 : 0 < i
      · have hrb : w.rangeAt g1 (0 + ((i : Int) - 1).toNat * 1) (ztC q[i - 1]) := by
          have h3 := (hS.slrows (e := 3) (sz := 1) (v := .slice (some ⟨g1, 0, none⟩) l.length c1) (rows := q.map ztC) .here).elem (q := i - 1) (by omega) (by omega)
          rw [show ((i : Int) - 1).toNat = i - 1 by omega]
          simpa using h3
        generalize q[i - 1] = x1 at *
        generalize q[i] = x2 at *
        repeat' (first|refine K ?_|(refine Sh.sa hS ?_;clear hS;intro w hS)|(refine K3 ?_;clear hS;intro g w hS hge)|((first|refine GS ?_ ?_|refine VB ?_ ?_)<;>intro hb<;>(try simp only [J1,J2,J3,J4,J5,J6] at hb)<;>(try (exfalso;first|omega|exact hb trivial))))
        · refine Dntt Tryz.results14 ?_
          rw [hbad (fun _ => ⟨hi0, hb⟩)]
          exact ⟨[], none, 0, rfl, rfl, WO.nil (hS.sb) none⟩
        · refine Sh.again (l.length - (i + 1)) [(21, .int .i64 (i + 1 : Nat))] ?_
          exact ⟨i + 1, rfl, by omega, hnx hic (fun _ => hb), rfl, hS⟩
      · have : i = 0 := by omega
        subst this
        repeat' (first|refine K ?_|(refine Sh.sa hS ?_;clear hS;intro w hS)|(refine K3 ?_;clear hS;intro g w hS hge)|((first|refine GS ?_ ?_|refine VB ?_ ?_)<;>intro hb<;>(try simp only [J1,J2,J3,J4,J5,J6] at hb)<;>(try (exfalso;first|omega|exact hb trivial))))
        refine Sh.again (l.length - (0 + 1)) [(21, .int .i64 (0 + 1 : Nat))] ?_
        exact ⟨0 + 1, rfl, by omega, hnx hic (fun h => absurd h (by omega)), rfl, hS⟩
  have hi2 : i = l.length := by omega
  have hok : mkOk c l = true := hchk.2 fun j hj => hall j hj (by omega)
  rw [hyes hok]
  repeat' (first|refine K ?_|(refine Sh.sa hS ?_;clear hS;intro w hS)|(refine K3 ?_;clear hS;intro g w hS hge)|((first|refine GS ?_ ?_|refine VB ?_ ?_)<;>intro hb<;>(try simp only [J1,J2,J3,J4,J5,J6] at hb)<;>(try (exfalso;first|omega|exact hb trivial))))
  clear hall hchk hno hyes hi hi2 hok hlt hb
  replace hS := WO.nil hS none
  refine Z.lpS [11, 13, 14, 46, 47, 48, 49, 50, 51, 52, 53, 54, 55, 56, 57, 58, 59, 60, 61, 62, 63, 64, 65, 66, 67, 68, 69, 70, 71, 72, 73, 74, 75, 76, 77, 78, 79] (fun m w z => ∃ (i : Nat) (W : List Wv) (B : Option Addr) (C : Nat), z = [(11, .slice B W.length C), (46, .int .i64 i)] ∧ i ≤ l.length ∧ W.length ≤ i ∧ W.map Wv.l = mkW c s (q.take i) ∧ (∀ x, x ∈ W → x.l.length ≤ i) ∧ m = l.length - i ∧ Sep r [] (WO B C W :: .sl 3 1 (.slice A1 l.length c1) (q.map ztC) :: .blk gs 34 (s.cc c b) :: .blk gc 30 (c.cl a) :: F) w) _ [(11, .slice none 0 0), (46, .int .i64 (0 : Nat))] (by repeat (first | exact trivial | refine ⟨rfl, ?_⟩)) ⟨0, [], none, 0, rfl, by omega, by simp, by simp [mkW], by simp, rfl, hS⟩ ?_
  clear hS
  rintro m f0 w _ ⟨i, W, B, C, rfl, hi, hWl, hW, hWx, rfl, hS⟩
  by_cases hlt : i < l.length
  · have hlt2 : i < q.length := by omega
    obtain ⟨g1, rfl⟩ := Z.Sep_slform hS (rows := q.map ztC) (.next .here) (by simpa using (by omega : 0 < q.length))
    have hra : w.rangeAt g1 (0 + i * 1) (ztC q[i]) := by
      have h3 := (hS.slrows (.next .here)).elem (q := i) (by omega) (by simpa using hlt2)
      simpa using h3
    have hsx : mkW c s (q.take (i + 1)) = insW c s (W.map Wv.l) q[i] := by rw [List.take_succ_eq_append_getElem hlt2, mkW_snoc, hW]
    generalize q[i] = x at *
    repeat' (first|refine K ?_|(refine Sh.sa hS ?_;clear hS;intro w hS)|(refine K3 ?_;clear hS;intro g w hS hge)|((first|refine GS ?_ ?_|refine VB ?_ ?_)<;>intro hb<;>(try simp only [J1,J2,J3,J4,J5,J6] at hb)<;>(try (exfalso;first|omega|exact hb trivial))))
    clear hra
    refine Z.lpS [14, 50, 51, 52, 53, 54, 55, 56, 57, 58, 59, 60, 61, 62, 63, 64, 65, 66, 67, 68, 69, 70, 71, 72, 73] (fun m w z => ∃ j : Nat, z = [(14, .int .i64 j)] ∧ 1 ≤ j ∧ (∀ p (hp : p < W.length), 1 ≤ p → p < j → joinB c s (W[p]).l x = false) ∧ m = W.length - j ∧ Sep r [] (WO B C W :: .sl 3 1 (.slice (some ⟨g1, 0, none⟩) l.length c1) (q.map ztC) :: .blk gs 34 (s.cc c b) :: .blk gc 30 (c.cl a) :: F) w) _ [(14, .int .i64 (1 : Nat))] (by repeat (first | exact trivial | refine ⟨rfl, ?_⟩)) ⟨1, rfl, by omega, fun p _ h1 h2 => absurd h2 (by omega), rfl, hS⟩ ?_
    clear hS
    rintro m f1 w _ ⟨j, rfl, hj, hno, rfl, hS⟩
    by_cases hjl : j < W.length
    · obtain ⟨gB, rfl⟩ := Z.Sep_slform (WO.op hS) (rows := W.map Wv.cells) .here (by simpa using (by omega : 0 < W.length))
      have hrr := fun X (h : Sep r [] (WO (some ⟨gB, 0, none⟩) C W :: .sl 3 1 (.slice (some ⟨g1, 0, none⟩) l.length c1) (q.map ztC) :: .blk gs 34 (s.cc c b) :: .blk gc 30 (c.cl a) :: F) X) => (WvR.of_at (r := r) (F := WO (some ⟨gB, 0, none⟩) C W :: .sl 3 1 (.slice (some ⟨g1, 0, none⟩) l.length c1) (q.map ztC) :: .blk gs 34 (s.cc c b) :: .blk gc 30 (c.cl a) :: F) .here).geta [] h rfl hjl
      have hin := (WvR.of_at (r := r) (F := WO (some ⟨gB, 0, none⟩) C W :: .sl 3 1 (.slice (some ⟨g1, 0, none⟩) l.length c1) (q.map ztC) :: .blk gs 34 (s.cc c b) :: .blk gc 30 (c.cl a) :: F) .here).inn _ (List.getElem_mem hjl)
      have hxl := hWx _ (List.getElem_mem hjl)
      have hjw := fun h => insW_found c s x (ws := W.map Wv.l) (i := j) hj (by simpa using hjl) (fun p h1 h2 => by simpa using hno p (by omega) h1 h2) h
      have hnw : joinB c s (W[j]).l x = false → ∀ p (hp : p < W.length), 1 ≤ p → p < j + 1 → joinB c s (W[p]).l x = false := fun h p hp h1 h2 => by
        rcases Nat.lt_or_ge p j with h3 | h3
        · exact hno p hp h1 h3
        · have : p = j := by omega
          subst this
          exact h
      simp only [List.getElem_map] at hjw
      obtain ⟨y, hX⟩ : ∃ y, W[j] = y := ⟨_, rfl⟩
      obtain ⟨l', A', c'⟩ := y
      rw [hX] at hrr hin hxl hjw hnw
      simp only at hin hxl hjw hnw
      repeat' (first|refine K ?_|(refine Sh.sa hS ?_;clear hS;intro w hS)|(refine K3 ?_;clear hS;intro g w hS hge)|((first|refine GS ?_ ?_|refine VB ?_ ?_)<;>intro hb<;>(try simp only [J1,J2,J3,J4,J5,J6] at hb)<;>(try (exfalso;first|omega|exact hb trivial))))
      cases hjn : joinB c s l' x
      · refine D.startS hS 8 8 (by kernel_rfl) rfl ?_
        replace hS := hS.drew
        refine Sh.dp 2 4 ?_
        refine Sh.dp 3 12 ?_
        first | refine D.ixn 4 28 rfl D.wantedN (by kernel_rfl) rfl rfl rfl (by omega) ?_ | refine D.ix 4 28 rfl D.wantedN (by kernel_rfl) rfl rfl rfl (by omega) ?_ | refine D.ia 4 28 rfl D.wantedN (by kernel_rfl) rfl rfl rfl (by omega) ?_
        refine Sh.dp 6 92 ?_
        refine Sh.dl 0 93 ?_
        refine Sh.dl 1 95 ?_
        refine D.ldR 5 127 rfl D.wantedN (by kernel_rfl) rfl hrr rfl ?_
        refine D.eff 7 255 rfl D.wantedN (by kernel_rfl) (by kernel_rfl) (fun _ _ h => h) ?_
        refine Z.cl (pjoin_z c a s b A' l' c' x _ _ _ hS (hr.app [_, _, _, _]) ho hs (hq.app [_, _, _, _]) hin (by omega)) rfl ?_
        clear hS
        rintro e w ⟨rfl, hS⟩
        refine ⟨_, rfl, ?_⟩
        rw [hjn]
        refine ⟨HM.s (hS.sb), ?_⟩
        refine D.done (by kernel_rfl) ?_
        repeat' (first|refine K ?_|(refine Sh.sa hS ?_;clear hS;intro w hS)|(refine K3 ?_;clear hS;intro g w hS hge)|((first|refine GS ?_ ?_|refine VB ?_ ?_)<;>intro hb<;>(try simp only [J1,J2,J3,J4,J5,J6] at hb)<;>(try (exfalso;first|omega|exact hb trivial))))
        refine Sh.again (W.length - (j + 1)) [(14, .int .i64 (j + 1 : Nat))] ?_
        exact ⟨j + 1, rfl, by omega, hnw hjn, rfl, hS⟩
      · refine D.startS hS 8 8 (by kernel_rfl) rfl ?_
        replace hS := hS.drew
        refine Sh.dp 2 4 ?_
        refine Sh.dp 3 12 ?_
        first | refine D.ixn 4 28 rfl D.wantedN (by kernel_rfl) rfl rfl rfl (by omega) ?_ | refine D.ix 4 28 rfl D.wantedN (by kernel_rfl) rfl rfl rfl (by omega) ?_ | refine D.ia 4 28 rfl D.wantedN (by kernel_rfl) rfl rfl rfl (by omega) ?_
        refine Sh.dp 6 92 ?_
        refine Sh.dl 0 93 ?_
        refine Sh.dl 1 95 ?_
        refine D.ldR 5 127 rfl D.wantedN (by kernel_rfl) rfl hrr rfl ?_
        refine D.eff 7 255 rfl D.wantedN (by kernel_rfl) (by kernel_rfl) (fun _ _ h => h) ?_
        refine Z.cl (pjoin_z c a s b A' l' c' x _ _ _ hS (hr.app [_, _, _, _]) ho hs (hq.app [_, _, _, _]) hin (by omega)) rfl ?_
        clear hS
        rintro e w ⟨rfl, hS⟩
        refine ⟨_, rfl, ?_⟩
        rw [hjn]
        refine ⟨HM.s (hS.sb), ?_⟩
        refine D.done (by kernel_rfl) ?_
        skip
        have hrw := hrr _ hS
        repeat' (first|refine K ?_|(refine Sh.sa hS ?_;clear hS;intro w hS)|(refine K3 ?_;clear hS;intro g w hS hge)|((first|refine GS ?_ ?_|refine VB ?_ ?_)<;>intro hb<;>(try simp only [J1,J2,J3,J4,J5,J6] at hb)<;>(try (exfalso;first|omega|exact hb trivial))))
        clear hrw
        replace hS := WO.op (hS.fo (R := WO (some ⟨gB, 0, none⟩) C W))
        have hat := fun R => at_idx (f := Wv.res) R hjl
        rw [hX] at hat
        refine Z.eff (Z.apm (fc := ztC) (l := l') (l' := [x]) hS rfl rfl rfl (.next (hat _)) (hS.lit1 (.next (at_app _ .here)) rfl rfl) (by (try simp only [maxLen, List.length_take, List.length_drop, List.length_append, List.length_cons, List.length_nil, List.length_map]); omega) (by (try simp only [maxLen, List.length_take, List.length_drop, List.length_append, List.length_cons, List.length_nil, List.length_map]); omega) ?_) rfl
        clear hS hat; intro A2 c2 w hS
        rw [← List.length_append] at hS ⊢
        repeat' (first|refine K ?_|(refine Sh.sa hS ?_;clear hS;intro w hS)|(refine K3 ?_;clear hS;intro g w hS hge)|((first|refine GS ?_ ?_|refine VB ?_ ?_)<;>intro hb<;>(try simp only [J1,J2,J3,J4,J5,J6] at hb)<;>(try (exfalso;first|omega|exact hb trivial))))
        refine Z.eff (Z.stF (j := 0) (fc := Wv.cells) (⟨l' ++ [x], A2, c2⟩ : Wv) hS rfl (.next .here) hjl rfl rfl rfl (by omega) rfl ?_) rfl
        clear hS; intro w hS
        replace hS := WO.set (⟨l' ++ [x], A2, c2⟩ : Wv) hjl (hS.sub (.cons (.next .here) .rest))
        repeat' (first|refine K ?_|(refine Sh.sa hS ?_;clear hS;intro w hS)|(refine K3 ?_;clear hS;intro g w hS hge)|((first|refine GS ?_ ?_|refine VB ?_ ?_)<;>intro hb<;>(try simp only [J1,J2,J3,J4,J5,J6] at hb)<;>(try (exfalso;first|omega|exact hb trivial))))
        refine Sh.again (l.length - (i + 1)) [(11, _), (46, .int .i64 (i + 1 : Nat))] ?_
        exact ⟨i + 1, W.set j ⟨l' ++ [x], A2, c2⟩, some ⟨gB, 0, none⟩, C, by rw [List.length_set], by omega, by simp; omega, by rw [hsx, hjw hjn, setWv], len_set hWx (by simp; omega), rfl, hS.sb⟩
    · repeat' (first|refine K ?_|(refine Sh.sa hS ?_;clear hS;intro w hS)|(refine K3 ?_;clear hS;intro g w hS hge)|((first|refine GS ?_ ?_|refine VB ?_ ?_)<;>intro hb<;>(try simp only [J1,J2,J3,J4,J5,J6] at hb)<;>(try (exfalso;first|omega|exact hb trivial))))
      rename_i g3 _ _
      rename Nat => g2
      replace hS := hS.fo (R := .blk g3 _ _)
      replace hS := mk_sl (sz := 1) (n := 1) (rows := [x].map ztC) hS rfl (by omega) (by decide) (by intro row hrow; simp at hrow; subst hrow; exact ⟨rfl, by simp [ztC, Value.oneCell']⟩) rfl
      replace hS := hS.fo (R := .blk g2 _ _)
      replace hS := WO.op (hS.fo (R := WO B C W))
      refine Z.eff (Z.apm (fc := Wv.cells) (l := W) (l' := [(⟨[x], some ⟨g3, 0, none⟩, 1⟩ : Wv)]) hS rfl rfl rfl .here (hS.lit1 (.next (at_app _ .here)) rfl rfl) (by (try simp only [maxLen, List.length_take, List.length_drop, List.length_append, List.length_cons, List.length_nil, List.length_map]); omega) (by (try simp only [maxLen, List.length_take, List.length_drop, List.length_append, List.length_cons, List.length_nil, List.length_map]); omega) ?_) rfl
      clear hS; intro B2 C2 w hS
      rw [← List.length_append] at hS ⊢
      replace hS := WO.snoc (⟨[x], some ⟨g3, 0, none⟩, 1⟩ : Wv) (hS.sub (.cons (.next (at_app _ (.next .here))) .rest)) rfl
      repeat' (first|refine K ?_|(refine Sh.sa hS ?_;clear hS;intro w hS)|(refine K3 ?_;clear hS;intro g w hS hge)|((first|refine GS ?_ ?_|refine VB ?_ ?_)<;>intro hb<;>(try simp only [J1,J2,J3,J4,J5,J6] at hb)<;>(try (exfalso;first|omega|exact hb trivial))))
      refine Sh.again (l.length - (i + 1)) [(11, _), (46, .int .i64 (i + 1 : Nat))] ?_
      exact ⟨i + 1, W ++ [⟨[x], some ⟨g3, 0, none⟩, 1⟩], B2, C2, rfl, by omega, by simp; omega, by rw [hsx, insW_none c s x (fun p h1 h2 => by simpa using hno p (by simpa using h2) h1 (by simp at h2; omega))]; simp, len_snoc hWx (by simp), rfl, hS.sb⟩
  · have hi2 : i = l.length := by omega
    rw [List.take_of_length_le (by omega)] at hW
    repeat' (first|refine K ?_|(refine Sh.sa hS ?_;clear hS;intro w hS)|(refine K3 ?_;clear hS;intro g w hS hge)|((first|refine GS ?_ ?_|refine VB ?_ ?_)<;>intro hb<;>(try simp only [J1,J2,J3,J4,J5,J6] at hb)<;>(try (exfalso;first|omega|exact hb trivial))))
    refine Dntt Tryz.results14 ?_
    exact ⟨W, B, C, rfl, hW, hS.sb⟩
theorem nodup_of_count {l : List Int} (h : ∀ j (hj : j < l.length), l.count l[j] ≤ 1) : l.Nodup := by
  rw [List.nodup_iff_count]
  intro a
  by_cases ha : a ∈ l
  · obtain ⟨j, hj, rfl⟩ := List.mem_iff_getElem.1 ha
    exact h j hj
  · rw [List.count_eq_zero.2 ha]
    omega
set_option maxHeartbeats 8000000 in
theorem rmake_z (c : Cfg) (a : CAd) (s : Sta) (b : SAd) (A : Option Addr) (l : List Int) (cap : Nat) (r : World) (F : List Res) (w : World) (hS : Sep r [] F w) (hr : CfR r F c a) (ho : c.ok) (hs : s.ok c) (hq : StC r F s c b) (hrd : Reads r F 1 (.slice A l.length cap) (l.map ztC)) (hl : l.length ≤ 1000) :
    Calls Tryz.prog 15 #[c.val a, s.vc c b, .slice A l.length cap] w fun e w' => ∃ (W : List Wv) (B : Option Addr) (C : Nat), e = .returned (.tuple #[.slice B W.length C, .int .i64 (mkR c s l).2]) ∧ W.map Wv.l = (mkR c s l).1 ∧ Sep r [] (WO B C W :: F) w' := by
  have hck := ho.k
  refine Z.enter Tryz.func15 Tryz.ntmps15 rfl rfl ?_
  repeat' (first|refine K ?_|(refine Sh.sa hS ?_;clear hS;intro w hS)|(refine K3 ?_;clear hS;intro g w hS hge)|((first|refine GS ?_ ?_|refine VB ?_ ?_)<;>intro hb<;>(try simp only [J1,J2,J3,J4,J5,J6] at hb)<;>(try (exfalso;first|omega|exact hb trivial))))
  rename_i gc _ _
  rename Nat => gs
  refine Z.lpS [6, 7, 9, 15, 16, 17, 18, 19, 20, 21, 22, 23, 24, 25, 26, 27, 28, 29] (fun m w z => ∃ i : Nat, z = [(15, .int .i64 i)] ∧ i ≤ l.length ∧ (∀ j (hj : j < l.length), j < i → inC c l[j] = true ∧ l.count l[j] ≤ 1) ∧ m = l.length - i ∧ Sep r [] (.blk gs 34 (s.cc c b) :: .blk gc 30 (c.cl a) :: F) w) _ [(15, .int .i64 (0 : Nat))] (by repeat (first | exact trivial | refine ⟨rfl, ?_⟩)) ⟨0, rfl, by omega, fun j _ h => absurd h (by omega), rfl, hS.sb⟩ ?_
  clear hS
  rintro m f0 w _ ⟨i, rfl, hi, hall, rfl, hS⟩
  by_cases hlt : i < l.length
  · obtain ⟨gb, o, hAe, hra⟩ := int_get hrd [_, _] hS hlt
    have hbad : (inC c l[i] = true → 1 < l.count l[i]) → mkR c s l = ([], 1) := fun h => mkR_no (by
      cases hok : mkOk c l
      · rfl
      · unfold mkOk at hok
        rw [Bool.and_eq_true, List.all_eq_true, decide_eq_true_eq] at hok
        have h2 := h (hok.1 _ (List.getElem_mem hlt))
        have h3 := List.nodup_iff_count.1 hok.2 l[i]
        omega)
    have hnx : inC c l[i] = true → l.count l[i] ≤ 1 → ∀ j (hj : j < l.length), j < i + 1 → inC c l[j] = true ∧ l.count l[j] ≤ 1 := fun h1 h2 j hj hji => by
      rcases Nat.lt_or_ge j i with h3 | h3
      · exact hall j hj h3
      · have : j = i := by omega
        subst this
        exact ⟨h1, h2⟩
    subst hAe
    generalize l[i] = x at *
    repeat' (first|refine K ?_|(refine Sh.sa hS ?_;clear hS;intro w hS)|(refine K3 ?_;clear hS;intro g w hS hge)|((first|refine GS ?_ ?_|refine VB ?_ ?_)<;>intro hb<;>(try simp only [J1,J2,J3,J4,J5,J6] at hb)<;>(try (exfalso;first|omega|exact hb trivial))))
    refine Z.eff (Z.cl (rexists_z c a x _ _ _ hS ho) rfl ?_) rfl
    clear hS
    rintro e w ⟨rfl, hS⟩
    refine ⟨_, rfl, ?_⟩
    cases hic : inC c x
    · repeat' (first|refine K ?_|(refine Sh.sa hS ?_;clear hS;intro w hS)|(refine K3 ?_;clear hS;intro g w hS hge)|((first|refine GS ?_ ?_|refine VB ?_ ?_)<;>intro hb<;>(try simp only [J1,J2,J3,J4,J5,J6] at hb)<;>(try (exfalso;first|omega|exact hb trivial))))
      refine Dntt Tryz.results15 ?_
      rw [hbad (fun h => by rw [hic] at h; cases h)]
      exact ⟨[], none, 0, rfl, rfl, WO.nil (hS.sb) none⟩
    · repeat' (first|refine K ?_|(refine Sh.sa hS ?_;clear hS;intro w hS)|(refine K3 ?_;clear hS;intro g w hS hge)|((first|refine GS ?_ ?_|refine VB ?_ ?_)<;>intro hb<;>(try simp only [J1,J2,J3,J4,J5,J6] at hb)<;>(try (exfalso;first|omega|exact hb trivial))))
      refine Z.eff (Z.cl (count37_z _ l cap x _ _ _ hS (hrd.app [_, _]) (by omega)) rfl ?_) rfl
      clear hS
      rintro e w ⟨rfl, hS⟩
      refine ⟨_, rfl, ?_⟩
      repeat' (first|refine K ?_|(refine Sh.sa hS ?_;clear hS;intro w hS)|(refine K3 ?_;clear hS;intro g w hS hge)|((first|refine GS ?_ ?_|refine VB ?_ ?_)<;>intro hb<;>(try simp only [J1,J2,J3,J4,J5,J6] at hb)<;>(try (exfalso;first|omega|exact hb trivial))))
      · refine Dntt Tryz.results15 ?_
        rw [hbad (fun _ => by omega)]
        exact ⟨[], none, 0, rfl, rfl, WO.nil (hS.sb) none⟩
      · refine Sh.again (l.length - (i + 1)) [(15, .int .i64 (i + 1 : Nat))] ?_
        exact ⟨i + 1, rfl, by omega, hnx hic (by omega), rfl, hS⟩
  have hi2 : i = l.length := by omega
  have hok : mkOk c l = true := by
    unfold mkOk
    rw [Bool.and_eq_true, List.all_eq_true, decide_eq_true_eq]
    refine ⟨fun y hy => ?_, nodup_of_count fun j hj => (hall j hj (by omega)).2⟩
    obtain ⟨j, hj, rfl⟩ := List.mem_iff_getElem.1 hy
    exact (hall j hj (by omega)).1
  rw [mkR_ok hok]
  have hocc := occ_srt hok
  repeat' (first|refine K ?_|(refine Sh.sa hS ?_;clear hS;intro w hS)|(refine K3 ?_;clear hS;intro g w hS hge)|((first|refine GS ?_ ?_|refine VB ?_ ?_)<;>intro hb<;>(try simp only [J1,J2,J3,J4,J5,J6] at hb)<;>(try (exfalso;first|omega|exact hb trivial))))
  clear hall hi hi2 hok hlt hb
  replace hS := WO.nil hS none
  refine Z.lpS [10, 11, 12, 33, 34, 35, 36, 37, 38, 39, 40, 41, 42, 43, 44, 45, 46, 47, 48, 49, 50, 51, 52, 53, 54, 55, 56, 57, 58, 59, 60, 61, 62, 63, 64, 65, 66, 67, 68, 69, 70, 71, 72, 73, 74, 75, 76] (fun m w z => ∃ (i : Nat) (W : List Wv) (B : Option Addr) (C : Nat), z = [(10, .slice B W.length C), (33, .int .i64 i)] ∧ i ≤ c.cells.length ∧ W.length ≤ i ∧ W.map Wv.l = mkW c s (occ c l i) ∧ (∀ x, x ∈ W → x.l.length ≤ i) ∧ m = c.cells.length - i ∧ Sep r [] (WO B C W :: .blk gs 34 (s.cc c b) :: .blk gc 30 (c.cl a) :: F) w) _ [(10, .slice none 0 0), (33, .int .i64 (0 : Nat))] (by repeat (first | exact trivial | refine ⟨rfl, ?_⟩)) ⟨0, [], none, 0, rfl, by omega, by simp, by simp [mkW, occ], by simp, rfl, hS⟩ ?_
  clear hS
  rintro m f0 w _ ⟨i, W, B, C, rfl, hi, hWl, hW, hWx, rfl, hS⟩
  by_cases hlt : i < c.cells.length
  · have hos := occ_succ c l i
    obtain ⟨x, hx⟩ : ∃ x : Int, x = (i : Int) := ⟨_, rfl⟩
    by_cases hil : (i : Int) ∈ l
    · rw [if_pos hil] at hos
      have hcn : 0 < l.count (i : Int) := List.count_pos_iff.2 hil
      have hsx : mkW c s (occ c l (i + 1)) = insW c s (W.map Wv.l) x := by rw [hos, mkW_snoc, hW, hx]
      repeat' (first|refine K ?_|(refine Sh.sa hS ?_;clear hS;intro w hS)|(refine K3 ?_;clear hS;intro g w hS hge)|((first|refine GS ?_ ?_|refine VB ?_ ?_)<;>intro hb<;>(try simp only [J1,J2,J3,J4,J5,J6] at hb)<;>(try (exfalso;first|omega|exact hb trivial))))
      refine Z.eff (Z.cl (count37_z _ l cap i _ _ _ hS (hrd.app [_, _, _]) (by omega)) rfl ?_) rfl
      clear hS
      rintro e w ⟨rfl, hS⟩
      refine ⟨_, rfl, ?_⟩
      repeat' (first|refine K ?_|(refine Sh.sa hS ?_;clear hS;intro w hS)|(refine K3 ?_;clear hS;intro g w hS hge)|((first|refine GS ?_ ?_|refine VB ?_ ?_)<;>intro hb<;>(try simp only [J1,J2,J3,J4,J5,J6] at hb)<;>(try (exfalso;first|omega|exact hb trivial))))
      refine Z.lpS [12, 40, 41, 42, 43, 44, 45, 46, 47, 48, 49, 50, 51, 52, 53, 54, 55, 56] (fun m w z => ∃ j : Nat, z = [(12, .int .i64 j)] ∧ 1 ≤ j ∧ (∀ p (hp : p < W.length), 1 ≤ p → p < j → joinB c s (W[p]).l x = false) ∧ m = W.length - j ∧ Sep r [] (WO B C W :: .blk gs 34 (s.cc c b) :: .blk gc 30 (c.cl a) :: F) w) _ [(12, .int .i64 (1 : Nat))] (by repeat (first | exact trivial | refine ⟨rfl, ?_⟩)) ⟨1, rfl, by omega, fun p _ h1 h2 => absurd h2 (by omega), rfl, hS⟩ ?_
      clear hS
      rintro m f1 w _ ⟨j, rfl, hj, hno, rfl, hS⟩
      by_cases hjl : j < W.length
      · obtain ⟨gB, rfl⟩ := Z.Sep_slform (WO.op hS) (rows := W.map Wv.cells) .here (by simpa using (by omega : 0 < W.length))
        have hrr := fun X (h : Sep r [] (WO (some ⟨gB, 0, none⟩) C W :: .blk gs 34 (s.cc c b) :: .blk gc 30 (c.cl a) :: F) X) => (WvR.of_at (r := r) (F := WO (some ⟨gB, 0, none⟩) C W :: .blk gs 34 (s.cc c b) :: .blk gc 30 (c.cl a) :: F) .here).geta [] h rfl hjl
        have hin := (WvR.of_at (r := r) (F := WO (some ⟨gB, 0, none⟩) C W :: .blk gs 34 (s.cc c b) :: .blk gc 30 (c.cl a) :: F) .here).inn _ (List.getElem_mem hjl)
        have hxl := hWx _ (List.getElem_mem hjl)
        have hjw := fun h => insW_found c s x (ws := W.map Wv.l) (i := j) hj (by simpa using hjl) (fun p h1 h2 => by simpa using hno p (by omega) h1 h2) h
        have hnw : joinB c s (W[j]).l x = false → ∀ p (hp : p < W.length), 1 ≤ p → p < j + 1 → joinB c s (W[p]).l x = false := fun h p hp h1 h2 => by
          rcases Nat.lt_or_ge p j with h3 | h3
          · exact hno p hp h1 h3
          · have : p = j := by omega
            subst this
            exact h
        simp only [List.getElem_map] at hjw
        obtain ⟨y, hX⟩ : ∃ y, W[j] = y := ⟨_, rfl⟩
        obtain ⟨l', A', c'⟩ := y
        rw [hX] at hrr hin hxl hjw hnw
        simp only at hin hxl hjw hnw
        subst hx
        repeat' (first|refine K ?_|(refine Sh.sa hS ?_;clear hS;intro w hS)|(refine K3 ?_;clear hS;intro g w hS hge)|((first|refine GS ?_ ?_|refine VB ?_ ?_)<;>intro hb<;>(try simp only [J1,J2,J3,J4,J5,J6] at hb)<;>(try (exfalso;first|omega|exact hb trivial))))
        cases hjn : joinB c s l' i
        · refine D.startS hS 15 15 (by kernel_rfl) rfl ?_
          replace hS := hS.drew
          refine Sh.dp 0 1 ?_
          refine Sh.dp 1 3 ?_
          refine Sh.dp 2 7 ?_
          refine Sh.dp 3 15 ?_
          refine Sh.dp 4 31 ?_
          refine D.slot 44 rfl (fun hb => ?_) (fun hb => by exfalso; (try simp only [decide_eq_true_eq, decide_eq_false_iff_not, Bool.not_eq_true', Bool.not_eq_false', Int.not_lt, Int.not_le] at hb) <;> first | omega | exact hb trivial | cases hb | simp at hb)
          (try simp only [decide_eq_true_eq, decide_eq_false_iff_not, Bool.not_eq_true', Bool.not_eq_false', Int.not_lt, Int.not_le] at hb)
          refine Sh.dp 7 159 ?_
          refine Sh.dp 8 415 ?_
          first | refine D.ixn 9 927 rfl (D.wantedT rfl rfl) (by kernel_rfl) rfl rfl rfl (by omega) ?_ | refine D.ix 9 927 rfl (D.wantedT rfl rfl) (by kernel_rfl) rfl rfl rfl (by omega) ?_ | refine D.ia 9 927 rfl (D.wantedT rfl rfl) (by kernel_rfl) rfl rfl rfl (by omega) ?_
          refine Sh.dp 11 2975 ?_
          refine Sh.dl 5 3007 ?_
          refine Sh.dl 6 3071 ?_
          refine D.ldR 10 4095 rfl (D.wantedT rfl rfl) (by kernel_rfl) rfl hrr rfl ?_
          refine D.eff 12 8191 rfl (D.wantedT rfl rfl) (by kernel_rfl) (by kernel_rfl) (fun _ _ h => h) ?_
          refine WE.guard ?_
          refine Z.cl (rjoin_z c a s b A' l' c' i _ _ _ hS (hr.app [_, _, _]) ho hs (hq.app [_, _, _]) hin (by omega)) rfl ?_
          clear hS
          rintro e w ⟨rfl, hS⟩
          refine ⟨_, rfl, ?_⟩
          rw [hjn]
          refine ⟨HM.s (hS.sb), ?_⟩
          refine Sh.dp 13 16383 ?_
          refine Sh.dp 14 32767 ?_
          refine D.done (by kernel_rfl) ?_
          repeat' (first|refine K ?_|(refine Sh.sa hS ?_;clear hS;intro w hS)|(refine K3 ?_;clear hS;intro g w hS hge)|((first|refine GS ?_ ?_|refine VB ?_ ?_)<;>intro hb<;>(try simp only [J1,J2,J3,J4,J5,J6] at hb)<;>(try (exfalso;first|omega|exact hb trivial))))
          refine Sh.again (W.length - (j + 1)) [(12, .int .i64 (j + 1 : Nat))] ?_
          exact ⟨j + 1, rfl, by omega, hnw hjn, rfl, hS⟩
        · refine D.startS hS 15 15 (by kernel_rfl) rfl ?_
          replace hS := hS.drew
          refine Sh.dp 0 1 ?_
          refine Sh.dp 1 3 ?_
          refine Sh.dp 2 7 ?_
          refine Sh.dp 3 15 ?_
          refine Sh.dp 4 31 ?_
          refine D.slot 44 rfl (fun hb => ?_) (fun hb => by exfalso; (try simp only [decide_eq_true_eq, decide_eq_false_iff_not, Bool.not_eq_true', Bool.not_eq_false', Int.not_lt, Int.not_le] at hb) <;> first | omega | exact hb trivial | cases hb | simp at hb)
          (try simp only [decide_eq_true_eq, decide_eq_false_iff_not, Bool.not_eq_true', Bool.not_eq_false', Int.not_lt, Int.not_le] at hb)
          refine Sh.dp 7 159 ?_
          refine Sh.dp 8 415 ?_
          first | refine D.ixn 9 927 rfl (D.wantedT rfl rfl) (by kernel_rfl) rfl rfl rfl (by omega) ?_ | refine D.ix 9 927 rfl (D.wantedT rfl rfl) (by kernel_rfl) rfl rfl rfl (by omega) ?_ | refine D.ia 9 927 rfl (D.wantedT rfl rfl) (by kernel_rfl) rfl rfl rfl (by omega) ?_
          refine Sh.dp 11 2975 ?_
          refine Sh.dl 5 3007 ?_
          refine Sh.dl 6 3071 ?_
          refine D.ldR 10 4095 rfl (D.wantedT rfl rfl) (by kernel_rfl) rfl hrr rfl ?_
          refine D.eff 12 8191 rfl (D.wantedT rfl rfl) (by kernel_rfl) (by kernel_rfl) (fun _ _ h => h) ?_
          refine WE.guard ?_
          refine Z.cl (rjoin_z c a s b A' l' c' i _ _ _ hS (hr.app [_, _, _]) ho hs (hq.app [_, _, _]) hin (by omega)) rfl ?_
          clear hS
          rintro e w ⟨rfl, hS⟩
          refine ⟨_, rfl, ?_⟩
          rw [hjn]
          refine ⟨HM.s (hS.sb), ?_⟩
          refine Sh.dp 13 16383 ?_
          refine Sh.dp 14 32767 ?_
          refine D.done (by kernel_rfl) ?_
          skip
          have hrw := hrr _ hS
          repeat' (first|refine K ?_|(refine Sh.sa hS ?_;clear hS;intro w hS)|(refine K3 ?_;clear hS;intro g w hS hge)|((first|refine GS ?_ ?_|refine VB ?_ ?_)<;>intro hb<;>(try simp only [J1,J2,J3,J4,J5,J6] at hb)<;>(try (exfalso;first|omega|exact hb trivial))))
          clear hrw
          replace hS := WO.op (hS.fo (R := WO (some ⟨gB, 0, none⟩) C W))
          have hat := fun R => at_idx (f := Wv.res) R hjl
          rw [hX] at hat
          refine Z.eff (Z.apm (fc := ztC) (l := l') (l' := [(i : Int)]) hS rfl rfl rfl (.next (hat _)) (hS.lit1 (.next (at_app _ .here)) rfl rfl) (by (try simp only [maxLen, List.length_take, List.length_drop, List.length_append, List.length_cons, List.length_nil, List.length_map]); omega) (by (try simp only [maxLen, List.length_take, List.length_drop, List.length_append, List.length_cons, List.length_nil, List.length_map]); omega) ?_) rfl
          clear hS hat; intro A2 c2 w hS
          rw [← List.length_append] at hS ⊢
          repeat' (first|refine K ?_|(refine Sh.sa hS ?_;clear hS;intro w hS)|(refine K3 ?_;clear hS;intro g w hS hge)|((first|refine GS ?_ ?_|refine VB ?_ ?_)<;>intro hb<;>(try simp only [J1,J2,J3,J4,J5,J6] at hb)<;>(try (exfalso;first|omega|exact hb trivial))))
          refine Z.eff (Z.stF (j := 0) (fc := Wv.cells) (⟨l' ++ [(i : Int)], A2, c2⟩ : Wv) hS rfl (.next .here) hjl rfl rfl rfl (by omega) rfl ?_) rfl
          clear hS; intro w hS
          replace hS := WO.set (⟨l' ++ [(i : Int)], A2, c2⟩ : Wv) hjl (hS.sub (.cons (.next .here) .rest))
          repeat' (first|refine K ?_|(refine Sh.sa hS ?_;clear hS;intro w hS)|(refine K3 ?_;clear hS;intro g w hS hge)|((first|refine GS ?_ ?_|refine VB ?_ ?_)<;>intro hb<;>(try simp only [J1,J2,J3,J4,J5,J6] at hb)<;>(try (exfalso;first|omega|exact hb trivial))))
          refine Sh.again (c.cells.length - (i + 1)) [(10, _), (33, .int .i64 (i + 1 : Nat))] ?_
          exact ⟨i + 1, W.set j ⟨l' ++ [(i : Int)], A2, c2⟩, some ⟨gB, 0, none⟩, C, by rw [List.length_set], by omega, by simp; omega, by rw [hsx, hjw hjn, setWv], len_set hWx (by simp; omega), rfl, hS.sb⟩
      · subst hx
        repeat' (first|refine K ?_|(refine Sh.sa hS ?_;clear hS;intro w hS)|(refine K3 ?_;clear hS;intro g w hS hge)|((first|refine GS ?_ ?_|refine VB ?_ ?_)<;>intro hb<;>(try simp only [J1,J2,J3,J4,J5,J6] at hb)<;>(try (exfalso;first|omega|exact hb trivial))))
        refine D.startS hS 15 15 (by kernel_rfl) rfl ?_
        replace hS := hS.drew
        refine Sh.dp 0 1 ?_
        refine Sh.dp 1 3 ?_
        refine Sh.dp 2 7 ?_
        refine Sh.dp 3 15 ?_
        refine Sh.dp 4 31 ?_
        refine D.slot 44 rfl (fun hb => by exfalso; (try simp only [decide_eq_true_eq, decide_eq_false_iff_not, Bool.not_eq_true', Bool.not_eq_false', Int.not_lt, Int.not_le] at hb) <;> first | omega | exact hb trivial | cases hb | simp at hb) (fun hb => ?_)
        (try simp only [decide_eq_true_eq, decide_eq_false_iff_not, Bool.not_eq_true', Bool.not_eq_false', Int.not_lt, Int.not_le] at hb)
        refine D.skF 5 63 rfl (by kernel_rfl) rfl rfl ?_
        refine D.skF 6 127 rfl (by kernel_rfl) rfl rfl ?_
        refine D.skF 7 255 rfl (by kernel_rfl) rfl rfl ?_
        refine D.skF 8 511 rfl (by kernel_rfl) rfl rfl ?_
        refine D.skF 9 1023 rfl (by kernel_rfl) rfl rfl ?_
        refine D.skF 10 2047 rfl (by kernel_rfl) rfl rfl ?_
        refine D.skF 11 4095 rfl (by kernel_rfl) rfl rfl ?_
        refine D.skF 12 8191 rfl (by kernel_rfl) rfl rfl ?_
        refine D.skF 13 16383 rfl (by kernel_rfl) rfl rfl ?_
        refine Sh.dp 14 32767 ?_
        refine D.done (by kernel_rfl) ?_
        repeat' (first|refine K ?_|(refine Sh.sa hS ?_;clear hS;intro w hS)|(refine K3 ?_;clear hS;intro g w hS hge)|((first|refine GS ?_ ?_|refine VB ?_ ?_)<;>intro hb<;>(try simp only [J1,J2,J3,J4,J5,J6] at hb)<;>(try (exfalso;first|omega|exact hb trivial))))
        rename_i g3 _ _
        rename Nat => g2
        replace hS := hS.fo (R := .blk g3 _ _)
        replace hS := mk_sl (sz := 1) (n := 1) (rows := [(i : Int)].map ztC) hS rfl (by omega) (by decide) (by intro row hrow; simp at hrow; subst hrow; exact ⟨rfl, by simp [ztC, Value.oneCell']⟩) rfl
        replace hS := hS.fo (R := .blk g2 _ _)
        replace hS := WO.op (hS.fo (R := WO B C W))
        refine Z.eff (Z.apm (fc := Wv.cells) (l := W) (l' := [(⟨[(i : Int)], some ⟨g3, 0, none⟩, 1⟩ : Wv)]) hS rfl rfl rfl .here (hS.lit1 (.next (at_app _ .here)) rfl rfl) (by (try simp only [maxLen, List.length_take, List.length_drop, List.length_append, List.length_cons, List.length_nil, List.length_map]); omega) (by (try simp only [maxLen, List.length_take, List.length_drop, List.length_append, List.length_cons, List.length_nil, List.length_map]); omega) ?_) rfl
        clear hS; intro B2 C2 w hS
        rw [← List.length_append] at hS ⊢
        replace hS := WO.snoc (⟨[(i : Int)], some ⟨g3, 0, none⟩, 1⟩ : Wv) (hS.sub (.cons (.next (at_app _ (.next .here))) .rest)) rfl
        repeat' (first|refine K ?_|(refine Sh.sa hS ?_;clear hS;intro w hS)|(refine K3 ?_;clear hS;intro g w hS hge)|((first|refine GS ?_ ?_|refine VB ?_ ?_)<;>intro hb<;>(try simp only [J1,J2,J3,J4,J5,J6] at hb)<;>(try (exfalso;first|omega|exact hb trivial))))
        refine Sh.again (c.cells.length - (i + 1)) [(10, _), (33, .int .i64 (i + 1 : Nat))] ?_
        exact ⟨i + 1, W ++ [⟨[(i : Int)], some ⟨g3, 0, none⟩, 1⟩], B2, C2, rfl, by omega, by simp; omega, by rw [hsx, insW_none c s i (fun p h1 h2 => by simpa using hno p (by simpa using h2) h1 (by simp at h2; omega))]; simp, len_snoc hWx (by simp), rfl, hS.sb⟩
    · rw [if_neg hil, List.append_nil] at hos
      have hcn : l.count (i : Int) = 0 := List.count_eq_zero.2 hil
      repeat' (first|refine K ?_|(refine Sh.sa hS ?_;clear hS;intro w hS)|(refine K3 ?_;clear hS;intro g w hS hge)|((first|refine GS ?_ ?_|refine VB ?_ ?_)<;>intro hb<;>(try simp only [J1,J2,J3,J4,J5,J6] at hb)<;>(try (exfalso;first|omega|exact hb trivial))))
      refine Z.eff (Z.cl (count37_z _ l cap i _ _ _ hS (hrd.app [_, _, _]) (by omega)) rfl ?_) rfl
      clear hS
      rintro e w ⟨rfl, hS⟩
      refine ⟨_, rfl, ?_⟩
      repeat' (first|refine K ?_|(refine Sh.sa hS ?_;clear hS;intro w hS)|(refine K3 ?_;clear hS;intro g w hS hge)|((first|refine GS ?_ ?_|refine VB ?_ ?_)<;>intro hb<;>(try simp only [J1,J2,J3,J4,J5,J6] at hb)<;>(try (exfalso;first|omega|exact hb trivial))))
      refine Sh.again (c.cells.length - (i + 1)) [(10, _), (33, .int .i64 (i + 1 : Nat))] ?_
      exact ⟨i + 1, W, B, C, rfl, by omega, by omega, by rw [hos, hW], fun x hx => Nat.le_succ_of_le (hWx x hx), rfl, hS⟩
  · have hi2 : i = c.cells.length := by omega
    subst hi2
    rw [hocc] at hW
    repeat' (first|refine K ?_|(refine Sh.sa hS ?_;clear hS;intro w hS)|(refine K3 ?_;clear hS;intro g w hS hge)|((first|refine GS ?_ ?_|refine VB ?_ ?_)<;>intro hb<;>(try simp only [J1,J2,J3,J4,J5,J6] at hb)<;>(try (exfalso;first|omega|exact hb trivial))))
    refine Dntt Tryz.results15 ?_
    exact ⟨W, B, C, rfl, hW, hS.sb⟩
theorem mkW_len (c : Cfg) (s : Sta) (l : List Int) : (mkW c s l).length ≤ l.length := by
  suffices h : ∀ (l : List Int) (a : List (List Int)), (l.foldl (insW c s) a).length ≤ a.length + l.length by simpa [mkW] using h l []
  intro l
  induction l with
  | nil => intro a; simp
  | cons k l ih =>
    intro a
    have h1 := ih (insW c s a k)
    have h2 := insW_len c s k a
    simp only [List.foldl_cons, List.length_cons]
    omega
/-- How many waves there are, and how long they are. -/
theorem mkR_bd {c : Cfg} {s : Sta} {l : List Int} (hb : 1 ≤ c.blast) : (mkR c s l).1.length ≤ l.length ∧ ∀ w, w ∈ (mkR c s l).1 → w.length ≤ l.length := by
  unfold mkR
  split
  · refine ⟨Nat.le_trans (mkW_len c s _) (Nat.le_of_eq (srt_len l)), fun w hw => ?_⟩
    have h1 := (mkW_made (s := s) hb (srt l)).perm.length_eq
    rw [srt_len] at h1
    rw [← h1]
    exact (List.sublist_flatten_of_mem hw).length_le
  · exact ⟨by simp, by simp⟩
end Go.Proofs.YtmgpionlfemhdaaGreat
