/-
  A wave that is permitted: at most Blast cells, and no tenant has both copies in it.
-/
import Derived.Test.YtmgpionlfemhdaaGreatNXi
import Derived.Test.YtmgpionlfemhdaaGreatNXj
namespace Go.Proofs.YtmgpionlfemhdaaGreat
open Go.RowKit Go.ChangeShapes Go.WideShapes Go.ChangeAt
set_option linter.unusedSimpArgs false
set_option linter.unusedVariables false

/-- The home, or the standby, of a tenant is among cells. -/
def hasH (y : TS) (l : List Int) : Bool := l.any fun k => y.placed && decide (y.home = k)
def hasS (y : TS) (l : List Int) : Bool := l.any fun k => y.placed && decide (y.standby = k)
theorem hasH_succ (y : TS) {l : List Int} {i : Nat} (h : i < l.length) : hasH y (l.take (i + 1)) = (hasH y (l.take i) || (y.placed && decide (y.home = l[i]))) := by
  unfold hasH
  rw [List.take_succ_eq_append_getElem h, List.any_append]
  simp
theorem hasS_succ (y : TS) {l : List Int} {i : Nat} (h : i < l.length) : hasS y (l.take (i + 1)) = (hasS y (l.take i) || (y.placed && decide (y.standby = l[i]))) := by
  unfold hasS
  rw [List.take_succ_eq_append_getElem h, List.any_append]
  simp
theorem apart37 {c : Cfg} {s : Sta} {l : List Int} {y : TS} (hs : s.ok c) (hy : y ∈ s.tenants) (hin : ∀ k, k ∈ l → inC c k = true) (hno : ∀ a, a ∈ l → ∀ b, b ∈ l → conf c s a b = false) : (hasH y l && hasS y l) = false := by
  cases h : (hasH y l && hasS y l)
  · rfl
  exfalso
  rw [Bool.and_eq_true] at h
  obtain ⟨h1, h2⟩ := h
  obtain ⟨k1, hk1, h1⟩ := List.any_eq_true.1 h1
  obtain ⟨k2, hk2, h2⟩ := List.any_eq_true.1 h2
  rw [Bool.and_eq_true, decide_eq_true_eq] at h1 h2
  obtain ⟨hp, h1⟩ := h1
  obtain ⟨_, h2⟩ := h2
  have hc := hno k1 hk1 k2 hk2
  have hi1 := hin k1 hk1
  have hi2 := hin k2 hk2
  by_cases he : k1 = k2
  · have h3 := (hs.t y hy).hs (by rw [h1, h2, he])
    unfold inC at hi2
    rw [decide_eq_true_eq] at hi2
    omega
  · rw [conf_any he hi1 hi2, List.any_eq_false] at hc
    refine hc y hy ?_
    simp [conf1, btw37, fst37, snd37, hp, h1, h2]
theorem chk_two {c : Cfg} {s : Sta} {k : Int} {l : List Int} {i : Nat} (h : ChkR c s [[k], l] i 0) : wrongB c s l [k] false = 0 := by
  obtain ⟨h1, h2⟩ := h
  rcases h2 with ⟨_, _, h3⟩ | ⟨h2, _⟩
  · exact absurd rfl h3
  · have h3 := h1 1 (by simp) (by simp at h2; omega)
    exact h3
set_option maxHeartbeats 8000000 in
theorem safe37_z (l : List Int) (A : Option Addr) (cap : Nat) (l2 : List Int) (A2 : Option Addr) (cap2 : Nat) (pk : Bool) (l3 : List Int) (A3 : Option Addr) (cap3 : Nat) (r : World) (hr0 : Rows' r 1 (.slice A l.length cap) (l.map ztC)) (hr1 : Rows' r 1 (.slice A2 l2.length cap2) (l2.map ztC)) (hr3 : Rows' r 1 (.slice A3 l3.length cap3) (l3.map ztC)) :
    Calls Tryz.prog 6 #[.slice A l.length cap, .slice A2 l2.length cap2, .bool pk, .slice A3 l3.length cap3] r fun e w' => e = .returned (.bool true) ∧ Chg [] r w' := by
  have hS := Sep.root r
  refine Z.enter Tryz.func6 Tryz.ntmps6 rfl rfl ?_
  repeat' (first|refine K ?_|(refine Sh.sa hS ?_;clear hS;intro w hS)|(refine K3 ?_;clear hS;intro g w hS hge)|((first|refine GS ?_ ?_|refine VB ?_ ?_)<;>intro hb<;>(try simp only [J1,J2,J3,J4,J5,J6] at hb)<;>(try (exfalso;first|omega|exact hb trivial))))
  refine Z.eff (Z.cl (awake37_z r [] _ hS) rfl ?_) rfl
  clear hS
  rintro e w ⟨rfl, hS⟩
  refine ⟨_, rfl, ?_⟩
  repeat' (first|refine K ?_|(refine Sh.sa hS ?_;clear hS;intro w hS)|(refine K3 ?_;clear hS;intro g w hS hge)|((first|refine GS ?_ ?_|refine VB ?_ ?_)<;>intro hb<;>(try simp only [J1,J2,J3,J4,J5,J6] at hb)<;>(try (exfalso;first|omega|exact hb trivial))))
  refine Z.eff (Z.cl (lightS_z A l.length cap _ _ _ hS) rfl ?_) rfl
  clear hS
  rintro e w ⟨rfl, hS⟩
  refine ⟨_, rfl, ?_⟩
  repeat' (first|refine K ?_|(refine Sh.sa hS ?_;clear hS;intro w hS)|(refine K3 ?_;clear hS;intro g w hS hge)|((first|refine GS ?_ ?_|refine VB ?_ ?_)<;>intro hb<;>(try simp only [J1,J2,J3,J4,J5,J6] at hb)<;>(try (exfalso;first|omega|exact hb trivial))))
  · refine Dnt Tryz.results6 ?_
    exact ⟨rfl, hS.chg⟩
  rename _ ≤ (150 : Int) => hl1
  refine Z.eff (Z.cl (lightS_z A2 l2.length cap2 _ _ _ hS) rfl ?_) rfl
  clear hS
  rintro e w ⟨rfl, hS⟩
  refine ⟨_, rfl, ?_⟩
  repeat' (first|refine K ?_|(refine Sh.sa hS ?_;clear hS;intro w hS)|(refine K3 ?_;clear hS;intro g w hS hge)|((first|refine GS ?_ ?_|refine VB ?_ ?_)<;>intro hb<;>(try simp only [J1,J2,J3,J4,J5,J6] at hb)<;>(try (exfalso;first|omega|exact hb trivial))))
  · refine Dnt Tryz.results6 ?_
    exact ⟨rfl, hS.chg⟩
  rename _ ≤ (150 : Int) => hl2

  refine Z.eff (Z.cl (lightS_z A3 l3.length cap3 _ _ _ hS) rfl ?_) rfl
  clear hS
  rintro e w ⟨rfl, hS⟩
  refine ⟨_, rfl, ?_⟩
  repeat' (first|refine K ?_|(refine Sh.sa hS ?_;clear hS;intro w hS)|(refine K3 ?_;clear hS;intro g w hS hge)|((first|refine GS ?_ ?_|refine VB ?_ ?_)<;>intro hb<;>(try simp only [J1,J2,J3,J4,J5,J6] at hb)<;>(try (exfalso;first|omega|exact hb trivial))))
  · refine Dnt Tryz.results6 ?_
    exact ⟨rfl, hS.chg⟩
  rename _ ≤ (150 : Int) => hl3
  refine Z.eff (Z.cl (worlds_z A l cap A2 l2 cap2 pk r [] _ hS (Reads.root hr0) (Reads.root hr1) (by omega) (by omega)) rfl ?_) rfl
  clear hS
  rintro e w ⟨c, a, s, b, rfl, ho, hs, hS⟩
  refine ⟨_, rfl, ?_⟩
  repeat' (first|refine K ?_|(refine Sh.sa hS ?_;clear hS;intro w hS)|(refine K3 ?_;clear hS;intro g w hS hge)|((first|refine GS ?_ ?_|refine VB ?_ ?_)<;>intro hb<;>(try simp only [J1,J2,J3,J4,J5,J6] at hb)<;>(try (exfalso;first|omega|exact hb trivial))))
  rename_i gc _ _ _ _
  rename Nat => gs
  refine Z.eff (Z.cl (made_z c a A3 l3 cap3 _ _ _ hS ho (Reads.root hr3) (by omega)) rfl ?_) rfl
  clear hS
  rintro e w ⟨W, B, C, rfl, hWl, hWx, hS⟩
  refine ⟨_, rfl, ?_⟩
  have htl := ho.t
  have hstl := hs.tl
  repeat' (first|refine K ?_|(refine Sh.sa hS ?_;clear hS;intro w hS)|(refine K3 ?_;clear hS;intro g w hS hge)|((first|refine GS ?_ ?_|refine VB ?_ ?_)<;>intro hb<;>(try simp only [J1,J2,J3,J4,J5,J6] at hb)<;>(try (exfalso;first|omega|exact hb trivial))))
  refine Z.lpS [8, 12, 13, 14, 16, 17, 18, 20, 47, 48, 49, 50, 51, 52, 53, 54, 55, 56, 57, 58, 59, 60, 61, 62, 63, 64, 65, 66, 67, 68, 69, 70, 71, 72, 73, 74, 75, 76, 77, 78, 79, 80, 81, 82, 83, 84, 85, 86, 87, 88, 89, 90, 91, 92, 93, 94, 95, 96, 97, 98, 99, 100, 101, 102, 103, 104, 105, 106, 107, 108, 109, 110, 111, 112, 113, 114, 115] (fun m w z => ∃ i : Nat, z = [(47, .int .i64 i)] ∧ i ≤ W.length ∧ m = W.length - i ∧ Sep r [] (WO B C W :: .blk gs 34 (s.cc c b) :: .blk gc 30 (c.cl a) :: CO c a :: SO c s b :: []) w) _ [(47, .int .i64 (0 : Nat))] (by repeat (first | exact trivial | refine ⟨rfl, ?_⟩)) ⟨0, rfl, by omega, rfl, hS.sb⟩ ?_
  clear hS
  rintro m f0 w _ ⟨i, rfl, hi, rfl, hS⟩
  by_cases hlt : i < W.length
  · obtain ⟨gB, rfl⟩ := Z.Sep_slform (WO.op hS) (rows := W.map Wv.cells) .here (by simpa using (by omega : 0 < W.length))
    have hra := (WvR.of_at (r := r) (F := WO (some ⟨gB, 0, none⟩) C W :: .blk gs 34 (s.cc c b) :: .blk gc 30 (c.cl a) :: CO c a :: SO c s b :: []) .here).geta [] hS rfl hlt
    have hin := (WvR.of_at (r := r) (F := WO (some ⟨gB, 0, none⟩) C W :: .blk gs 34 (s.cc c b) :: .blk gc 30 (c.cl a) :: CO c a :: SO c s b :: []) .here).inn _ (List.getElem_mem hlt)
    have hxl := hWx _ (List.getElem_mem hlt)
    generalize W[i] = x at *
    obtain ⟨lx, Ax, cx⟩ := x
    simp only at hin hxl
    repeat' (first|refine K ?_|(refine Sh.sa hS ?_;clear hS;intro w hS)|(refine K3 ?_;clear hS;intro g w hS hge)|((first|refine GS ?_ ?_|refine VB ?_ ?_)<;>intro hb<;>(try simp only [J1,J2,J3,J4,J5,J6] at hb)<;>(try (exfalso;first|omega|exact hb trivial))))
    clear hra
    refine Z.cut [13, 14, 51, 52, 53, 54, 55, 56, 57, 58, 59, 60, 61] (fun w z => ∃ (k : Int) (q : Nat) (er : Int), z = [(12, .slice Ax lx.length cx), (13, .int .i64 q), (14, .int .i64 er)] ∧ ChkR c s [[k], lx] q er ∧ Sep r [] (WO (some ⟨gB, 0, none⟩) C W :: .blk gs 34 (s.cc c b) :: .blk gc 30 (c.cl a) :: CO c a :: SO c s b :: []) w) ?_ ?_
    · refine D.startS (Lr := [WO (some ⟨gB, 0, none⟩) C W, .blk gs 34 (s.cc c b), .blk gc 30 (c.cl a), CO c a, SO c s b]) (hS.sb) 13 13 (by kernel_rfl) rfl ?_
      replace hS := hS.drew
      refine Sh.dp 2 4 ?_
      refine Sh.dp 5 36 ?_
      refine Sh.dl 0 37 ?_
      refine Sh.dl 1 39 ?_
      refine D.eff 3 47 rfl D.wantedN (by kernel_rfl) (by kernel_rfl) (fun _ _ h => h) ?_
      refine Z.cl (w0_z Ax lx cx _ _ _ hS hin (by omega)) rfl ?_
      clear hS
      rintro e w ⟨k, rfl, hS⟩
      refine ⟨_, rfl, ?_⟩
      refine ⟨HM.s (hS.sb), ?_⟩
      refine D.eff 4 63 rfl D.wantedN (by kernel_rfl) (by kernel_rfl) (fun _ _ h => h) ?_
      refine Z.bs hS rfl rfl rfl ?_
      clear hS; intro g4 w hS hge4
      replace hS := mk_sl (sz := 1) (n := 1) (rows := [k].map ztC) hS rfl (by omega) (by decide) (zt_ok _) rfl
      refine ⟨HM.s (hS.sb), ?_⟩
      refine D.eff 6 127 rfl D.wantedN (by kernel_rfl) (by kernel_rfl) (fun _ _ h => h) ?_
      refine Z.bs hS rfl rfl rfl ?_
      clear hS; intro g6 w hS hge6
      replace hS := mk_sl (sz := 1) (n := 2) (rows := [(⟨[k], some ⟨g4, 0, none⟩, 1⟩ : Wv), ⟨lx, Ax, cx⟩].map Wv.cells) hS rfl (by omega) (by decide) (wv_ok _) rfl
      refine ⟨HM.s (hS.sb), ?_⟩
      refine D.eff 7 255 rfl D.wantedN (by kernel_rfl) (by kernel_rfl) (fun _ _ h => h) ?_
      refine Z.cl (pcheck_z c a s b (some ⟨g6, 0, none⟩) 2 [⟨[k], some ⟨g4, 0, none⟩, 1⟩, ⟨lx, Ax, cx⟩] _ _ _ hS (CfR.of_co (k := _) (by repeat (first | exact At.here | apply At.next))) ho hs (StC.of_so (k := _) (by repeat (first | exact At.here | apply At.next))) ⟨Reads.of_at (e := 22) .here, fun x hx => by simp only [List.mem_cons, List.not_mem_nil, or_false] at hx; rcases hx with rfl | rfl <;> first | exact Reads.of_at (e := 3) (.next .here) | exact hin.app [_, _]⟩ (by simp) (fun x hx => by simp only [List.mem_cons, List.not_mem_nil, or_false] at hx; rcases hx with rfl | rfl <;> first | (show [k].length ≤ 100; simp; done) | (show lx.length ≤ 100; omega))) rfl ?_
      clear hS
      rintro e w ⟨q, er, rfl, hck, hS⟩
      refine ⟨_, rfl, ?_⟩
      refine ⟨HM.s (hS.sb), ?_⟩
      refine Sh.dp 8 511 ?_
      refine Sh.dp 9 1023 ?_
      refine Sh.dp 10 2047 ?_
      refine Sh.dp 11 4095 ?_
      refine Sh.dp 12 8191 ?_
      refine D.done (by kernel_rfl) ?_
      refine Sh.cut [(12, _), (13, _), (14, _)] ?_
      exact ⟨k, q, er, rfl, hck, hS.sb⟩
    clear hS
    rintro f1 w _ ⟨k, q, er, rfl, hck, hS⟩
    by_cases her : er = 0
    · subst her
      obtain ⟨hne, hk1, _, ⟨hbl, _⟩, _, hcf⟩ := wrongB_zero.1 (chk_two hck)
      have hp : 0 < lx.length := List.length_pos_iff.2 hne
      have hap : ∀ y, y ∈ s.tenants → (hasH y lx && hasS y lx) = false := fun y hy => apart37 hs hy (fun k hk => (hk1 k hk).1) hcf
      repeat' (first|refine K ?_|(refine Sh.sa hS ?_;clear hS;intro w hS)|(refine K3 ?_;clear hS;intro g w hS hge)|((first|refine GS ?_ ?_|refine VB ?_ ?_)<;>intro hb<;>(try simp only [J1,J2,J3,J4,J5,J6] at hb)<;>(try (exfalso;first|omega|exact hb trivial))))
      refine Z.lpS [8, 16, 17, 18, 20, 77, 78, 79, 80, 81, 82, 83, 84, 85, 86, 87, 88, 89, 90, 91, 92, 93, 94, 95, 96, 97, 98, 99, 100, 101, 102, 103, 104, 105, 106, 107, 108, 109, 110, 111, 112, 113, 114] (fun m w z => ∃ j : Nat, z = [(77, .int .i64 j)] ∧ j ≤ c.tenants.length ∧ m = c.tenants.length - j ∧ Sep r [] (WO (some ⟨gB, 0, none⟩) C W :: .blk gs 34 (s.cc c b) :: .blk gc 30 (c.cl a) :: CO c a :: SO c s b :: []) w) _ [(77, .int .i64 (0 : Nat))] (by repeat (first | exact trivial | refine ⟨rfl, ?_⟩)) ⟨0, rfl, by omega, rfl, hS.sb⟩ ?_
      clear hS
      rintro m f2 w _ ⟨j, rfl, hj, rfl, hS⟩
      by_cases hjl : j < c.tenants.length
      · have hj2 : j < s.tenants.length := by omega
        obtain ⟨gt, o, hA, hra⟩ := reads_ts ((StC.of_so (k := _) (F := WO (some ⟨gB, 0, none⟩) C W :: .blk gs 34 (s.cc c b) :: .blk gc 30 (c.cl a) :: CO c a :: SO c s b :: []) (by repeat (first | exact At.here | apply At.next))).str hs) [] hS hj2
        obtain ⟨tA, tc, kA, kc⟩ := b
        simp only at hA
        subst hA
        have hyp := hap _ (List.getElem_mem hj2)
        generalize s.tenants[j] = y at *
        repeat' (first|refine K ?_|(refine Sh.sa hS ?_;clear hS;intro w hS)|(refine K3 ?_;clear hS;intro g w hS hge)|((first|refine GS ?_ ?_|refine VB ?_ ?_)<;>intro hb<;>(try simp only [J1,J2,J3,J4,J5,J6] at hb)<;>(try (exfalso;first|omega|exact hb trivial))))
        rename Nat => gy
        clear hra
        refine Z.lpS [17, 18, 20, 83, 84, 85, 86, 87, 88, 89, 90, 91, 92, 93, 94, 95, 96, 97, 98, 99, 100, 101, 102, 103, 104, 105, 106, 107, 108, 109] (fun m w z => ∃ q : Nat, z = [(17, .bool (hasH y (lx.take q))), (18, .bool (hasS y (lx.take q))), (83, .int .i64 q)] ∧ q ≤ lx.length ∧ m = lx.length - q ∧ Sep r [] (.blk gy 56 y.cells :: WO (some ⟨gB, 0, none⟩) C W :: .blk gs 34 (s.cc c ⟨some ⟨gt, o, none⟩, tc, kA, kc⟩) :: .blk gc 30 (c.cl a) :: CO c a :: SO c s ⟨some ⟨gt, o, none⟩, tc, kA, kc⟩ :: []) w) _ [(17, .bool false), (18, .bool false), (83, .int .i64 (0 : Nat))] (by repeat (first | exact trivial | refine ⟨rfl, ?_⟩)) ⟨0, rfl, by omega, rfl, hS.sb⟩ ?_
        clear hS
        rintro m f3 w _ ⟨q, rfl, hq, rfl, hS⟩
        by_cases hql : q < lx.length
        · obtain ⟨ga, oa, hAe, hra⟩ := int_get hin [_] hS hql
          subst hAe
          have e1 := hasH_succ y hql
          have e2 := hasS_succ y hql
          generalize hasH y (lx.take q) = bh at *
          generalize hasS y (lx.take q) = bs at *
          generalize lx[q] = k2 at *
          obtain ⟨pl, sh, xh, xs, xn, xt, xe, xw⟩ := y
          cases pl <;> cases bh <;> cases bs
          all_goals
            repeat' (first|refine K ?_|(refine Sh.sa hS ?_;clear hS;intro w hS)|(refine K3 ?_;clear hS;intro g w hS hge)|((first|refine GS ?_ ?_|refine VB ?_ ?_)<;>intro hb<;>(try simp only [J1,J2,J3,J4,J5,J6] at hb)<;>(try (exfalso;first|omega|exact hb trivial))))
            refine Sh.again (lx.length - (q + 1)) [(17, _), (18, _), (83, .int .i64 (q + 1 : Nat))] ?_
            exact ⟨q + 1, by rw [e1, e2]; rfl, by omega, rfl, hS.sb⟩
        · have hq2 : q = lx.length := by omega
          rw [hq2, List.take_length]
          generalize hasH y lx = bh at *
          generalize hasS y lx = bs at *
          cases bh <;> cases bs
          all_goals first | exact absurd hyp (by decide) | skip
          all_goals
            repeat' (first|refine K ?_|(refine Sh.sa hS ?_;clear hS;intro w hS)|(refine K3 ?_;clear hS;intro g w hS hge)|((first|refine GS ?_ ?_|refine VB ?_ ?_)<;>intro hb<;>(try simp only [J1,J2,J3,J4,J5,J6] at hb)<;>(try (exfalso;first|omega|exact hb trivial))))
            refine Sh.again (c.tenants.length - (j + 1)) [(77, .int .i64 (j + 1 : Nat))] ?_
            exact ⟨j + 1, rfl, by omega, rfl, hS.sb⟩
      · repeat' (first|refine K ?_|(refine Sh.sa hS ?_;clear hS;intro w hS)|(refine K3 ?_;clear hS;intro g w hS hge)|((first|refine GS ?_ ?_|refine VB ?_ ?_)<;>intro hb<;>(try simp only [J1,J2,J3,J4,J5,J6] at hb)<;>(try (exfalso;first|omega|exact hb trivial))))
        refine Sh.again (W.length - (i + 1)) [(47, .int .i64 (i + 1 : Nat))] ?_
        exact ⟨i + 1, rfl, by omega, rfl, hS.sb⟩
    · repeat' (first|refine K ?_|(refine Sh.sa hS ?_;clear hS;intro w hS)|(refine K3 ?_;clear hS;intro g w hS hge)|((first|refine GS ?_ ?_|refine VB ?_ ?_)<;>intro hb<;>(try simp only [J1,J2,J3,J4,J5,J6] at hb)<;>(try (exfalso;first|omega|exact hb trivial))))
      refine Sh.again (W.length - (i + 1)) [(47, .int .i64 (i + 1 : Nat))] ?_
      exact ⟨i + 1, rfl, by omega, rfl, hS.sb⟩
  · repeat' (first|refine K ?_|(refine Sh.sa hS ?_;clear hS;intro w hS)|(refine K3 ?_;clear hS;intro g w hS hge)|((first|refine GS ?_ ?_|refine VB ?_ ?_)<;>intro hb<;>(try simp only [J1,J2,J3,J4,J5,J6] at hb)<;>(try (exfalso;first|omega|exact hb trivial))))
    refine Dnt Tryz.results6 ?_
    exact ⟨rfl, hS.chg⟩
set_option maxRecDepth 100000 in
theorem waveSafe_lifted (os : Os) (started : os.Started) (H : Type) (enc : TypeId × Value → H) :
    ReturnsInHanded {} Tryz.checked os 6 .any (Rows.waveSafeSpec.pre6 enc Tryz.prog Tryz.f6 Rows.waveSafeRow.domain false) (Rows.waveSafeSpec.post enc Tryz.prog Tryz.f6 false Rows.waveSafeRow.fresh Rows.waveSafeRow.handsOn Rows.waveSafeRow.again) := by
  refine returnsInHanded_of_change (C := Tryz.checked) Tryz.own started (by kernel_rfl) Tryz.func6
    (ChangeSpec.witness6 (enc := enc) (C := Tryz.checked) false ⟨#[], #[.slice none 0 0, .slice none 0 0, .bool false, .slice none 0 0], []⟩ 8 (by kernel_rfl) (by kernel_rfl) (by kernel_rfl) (by kernel_rfl)) ?_
  intro W base args ds gs before hval0 hW _ _
  have hval : ∀ (j : Nat) t v, Tryz.f6.params[j]? = some t → args[j]? = some v → Value.okWide Tryz.prog W .any base t v := hval0
  have hW0 := hW
  obtain ⟨p, q, hA0, hV, hpq, _, _⟩ := hW
  obtain ⟨la⟩ := args
  have hA : DataW.TrodAll enc Tryz.prog W 0 (fun _ => true) true [22, 22, 4, 22] la ds p := by have := hA0; rw [Tryz.params6] at this; exact this
  rw [Tryz.params6] at hval
  obtain ⟨v0, la0, d0, ds0, p0, q0, rfl, rfl, rfl, h0, hA⟩ := trodAll_cons hA
  obtain ⟨v1, la1, d1, ds1, p1, q1, rfl, rfl, rfl, h1, hA⟩ := trodAll_cons hA
  obtain ⟨v2, la2, d2, ds2, p2, q2, rfl, rfl, rfl, h2, hA⟩ := trodAll_cons hA
  obtain ⟨v3, la3, d3, ds3, p3, q3, rfl, rfl, rfl, h3, hA⟩ := trodAll_cons hA
  obtain ⟨rfl, rfl, rfl⟩ := trodAll_nil hA
  obtain ⟨l0, A0, cap0, rfl, _, hr0⟩ := arg_intsr (hval 0 _ _ rfl rfl) h0
  obtain ⟨l1, A1, cap1, rfl, _, hr1⟩ := arg_intsr (hval 1 _ _ rfl rfl) h1
  obtain ⟨b2, rfl⟩ := arg_bool (hval 2 _ _ rfl rfl) h2
  obtain ⟨l3, A3, cap3, rfl, _, hr3⟩ := arg_intsr (hval 3 _ _ rfl rfl) h3
  have fin : Calls Tryz.prog 6 _ W fun e W' => e = .returned (.bool true) ∧ Chg [] W W' := safe37_z l0 A0 cap0 l1 A1 cap1 b2 l3 A3 cap3 W hr0 hr1  hr3
  refine fin.mono fun e W' ⟨he, hc⟩ => ⟨_, he, ?_⟩
  exact law_post Tryz.laidOut (by rw [Tryz.params6]; intro t ht; simp only [List.mem_cons, List.not_mem_nil, or_false] at ht; rcases ht with rfl | rfl | rfl | rfl <;> exact ⟨by kernel_rfl, of_decide_eq_true (by kernel_rfl)⟩) rfl rfl Tryz.underlying4 rfl hW0 hc.below
theorem waveSafe_holds : Rows.WaveSafeSaid :=
  OpenClaim.holds_of_wide 6 Tryz.f6 rfl rfl rfl rfl rfl rfl rfl ⟨rfl, rfl, rfl, rfl, rfl⟩ rfl rfl rfl rfl rfl (by kernel_rfl) Tryz.func6 (by kernel_rfl)
    (of_decide_eq_true (by kernel_rfl)) (by unfold Func.isWrapper; rw [if_neg (of_decide_eq_false (by kernel_rfl))]; exact ⟨rfl, rfl⟩)
    (fun os started H enc _ => waveSafe_lifted os started H enc)
end Go.Proofs.YtmgpionlfemhdaaGreat
