/-
  The waves that are made are permitted, contain all cells, each once, and do not depend on the order in which the cells are given.
-/
import Derived.Test.YtmgpionlfemhdaaGreatNXi
import Derived.Test.YtmgpionlfemhdaaGreatNXj
import Derived.Test.YtmgpionlfemhdaaGreatNXo
namespace Go.Proofs.YtmgpionlfemhdaaGreat
open Go.RowKit Go.ChangeShapes Go.WideShapes Go.ChangeAt
set_option linter.unusedSimpArgs false
set_option linter.unusedVariables false

theorem mk_bds6 {c : Cfg} {s : Sta} {l : List Int} {W : List Wv} (ho : c.ok) (h : W.map Wv.l = (mkR c s l).1) : W.length ≤ l.length ∧ ∀ x, x ∈ W → x.l.length ≤ l.length := by
  obtain ⟨h1, h2⟩ := mkR_bd (c := c) (s := s) (l := l) ho.b.1
  rw [← h] at h1 h2
  exact ⟨by simpa using h1, fun x hx => h2 _ (List.mem_map.2 ⟨x, hx, rfl⟩)⟩
theorem some_ok {c : Cfg} (ho : c.ok) (l : List Int) : mkOk c (someL c l) = true := by
  unfold mkOk
  rw [Bool.and_eq_true, List.all_eq_true, decide_eq_true_eq]
  exact ⟨fun x hx => someL_in ho hx, (sortS_asc _).imp fun h => by omega⟩
def turnL (x : List Int) (d i : Nat) : List Int := ((List.range x.length).take i).map fun i => x.getD ((i + d) % x.length) 0
theorem turnL_succ {x : List Int} {d i : Nat} (h : i < x.length) : turnL x d (i + 1) = turnL x d i ++ [x.getD ((i + d) % x.length) 0] := by
  unfold turnL
  rw [List.take_succ_eq_append_getElem (by simpa using h), List.map_append]
  simp
theorem turnL_all {x : List Int} {d : Nat} (hd : 0 < x.length → d < x.length) : (turnL x d x.length).Perm x := by
  unfold turnL
  rw [List.take_of_length_le (by simp)]
  rcases Nat.eq_zero_or_pos x.length with h | h
  · have : x = [] := List.eq_nil_of_length_eq_zero h
    subst this
    exact List.Perm.refl _
  · exact turn_perm x d (hd h)
set_option maxHeartbeats 8000000 in
theorem permits37_z (l : List Int) (A : Option Addr) (cap : Nat) (l2 : List Int) (A2 : Option Addr) (cap2 : Nat) (pk : Bool) (l3 : List Int) (A3 : Option Addr) (cap3 : Nat) (dz : Int) (r : World) (hr0 : Rows' r 1 (.slice A l.length cap) (l.map ztC)) (hr1 : Rows' r 1 (.slice A2 l2.length cap2) (l2.map ztC)) (hr3 : Rows' r 1 (.slice A3 l3.length cap3) (l3.map ztC)) (_ : -9223372036854775808 ≤ dz ∧ dz ≤ 9223372036854775807) :
    Calls Tryz.prog 7 #[.slice A l.length cap, .slice A2 l2.length cap2, .bool pk, .slice A3 l3.length cap3, .int .i64 dz] r fun e w' => e = .returned (.bool true) ∧ Chg [] r w' := by
  have hS := Sep.root r
  refine Z.enter Tryz.func7 Tryz.ntmps7 rfl rfl ?_
  repeat' (first|refine K ?_|(refine Sh.sa hS ?_;clear hS;intro w hS)|(refine K3 ?_;clear hS;intro g w hS hge)|((first|refine GS ?_ ?_|refine VB ?_ ?_)<;>intro hb<;>(try simp only [J1,J2,J3,J4,J5,J6] at hb)<;>(try (exfalso;first|omega|exact hb trivial))))
  refine Z.eff (Z.cl (awake37_z r [] _ hS) rfl ?_) rfl
  clear hS
  rintro e w ⟨rfl, hS⟩
  refine ⟨_, rfl, ?_⟩
  repeat' (first|refine K ?_|(refine Sh.sa hS ?_;clear hS;intro w hS)|(refine K3 ?_;clear hS;intro g w hS hge)|((first|refine GS ?_ ?_|refine VB ?_ ?_)<;>intro hb<;>(try simp only [J1,J2,J3,J4,J5,J6] at hb)<;>(try (exfalso;first|omega|exact hb trivial))))
  refine Z.eff (Z.cl (lightS_z A l.length cap _ _ _ hS) rfl ?_) rfl
  clear hS
  rintro e w ⟨rfl, hS⟩
  refine ⟨_, rfl, ?_⟩
  repeat' (first|refine K ?_|(refine Sh.sa hS ?_;clear hS;intro w hS)|(refine K3 ?_;clear hS;intro g w hS hge)|((first|refine GS ?_ ?_|refine VB ?_ ?_)<;>intro hb<;>(try simp only [J1,J2,J3,J4,J5,J6] at hb)<;>(try (exfalso;first|omega|exact hb trivial))))
  · refine Dnt Tryz.results7 ?_
    exact ⟨rfl, hS.chg⟩
  rename _ ≤ (150 : Int) => hl1
  refine Z.eff (Z.cl (lightS_z A2 l2.length cap2 _ _ _ hS) rfl ?_) rfl
  clear hS
  rintro e w ⟨rfl, hS⟩
  refine ⟨_, rfl, ?_⟩
  repeat' (first|refine K ?_|(refine Sh.sa hS ?_;clear hS;intro w hS)|(refine K3 ?_;clear hS;intro g w hS hge)|((first|refine GS ?_ ?_|refine VB ?_ ?_)<;>intro hb<;>(try simp only [J1,J2,J3,J4,J5,J6] at hb)<;>(try (exfalso;first|omega|exact hb trivial))))
  · refine Dnt Tryz.results7 ?_
    exact ⟨rfl, hS.chg⟩
  rename _ ≤ (150 : Int) => hl2

  · refine Dnt Tryz.results7 ?_
    exact ⟨rfl, hS.chg⟩
  have hl3 : l3.length ≤ 40 := by omega
  refine Z.eff (Z.cl (worlds_z A l cap A2 l2 cap2 pk r [] _ hS (Reads.root hr0) (Reads.root hr1) (by omega) (by omega)) rfl ?_) rfl
  clear hS
  rintro e w ⟨c, a, s, b, rfl, ho, hs, hS⟩
  refine ⟨_, rfl, ?_⟩
  repeat' (first|refine K ?_|(refine Sh.sa hS ?_;clear hS;intro w hS)|(refine K3 ?_;clear hS;intro g w hS hge)|((first|refine GS ?_ ?_|refine VB ?_ ?_)<;>intro hb<;>(try simp only [J1,J2,J3,J4,J5,J6] at hb)<;>(try (exfalso;first|omega|exact hb trivial))))
  rename_i gc _ _ _ _
  rename Nat => gs
  refine Z.eff (Z.cl (some_z c a A3 l3 cap3 _ _ _ hS ho (Reads.root hr3) (by omega)) rfl ?_) rfl
  clear hS
  rintro e w ⟨A4, c4, rfl, hS⟩
  refine ⟨_, rfl, ?_⟩
  have hxl : (someL c l3).length ≤ 40 := Nat.le_trans (someL_len c l3) hl3
  have hasc : (someL c l3).Pairwise (· < ·) := sortS_asc _
  have hxok := some_ok ho l3
  have hxin : ∀ k, k ∈ someL c l3 → inC c k = true := fun k hk => someL_in ho hk
  generalize someL c l3 = x at *
  have hnd : x.Nodup := hasc.imp fun h => by omega
  have hsx : srt x = x := srt_of_asc hasc
  have hmk : mkR c s x = (mkW c s x, 0) := by rw [mkR_ok hxok, hsx]
  have hmd := mkW_made (c := c) (s := s) ho.b.1 x
  repeat' (first|refine K ?_|(refine Sh.sa hS ?_;clear hS;intro w hS)|(refine K3 ?_;clear hS;intro g w hS hge)|((first|refine GS ?_ ?_|refine VB ?_ ?_)<;>intro hb<;>(try simp only [J1,J2,J3,J4,J5,J6] at hb)<;>(try (exfalso;first|omega|exact hb trivial))))
  refine Z.eff (Z.cl (pmake_z c a s b A4 x c4 _ _ _ hS (CfR.of_co (k := _) (by repeat (first | exact At.here | apply At.next))) ho hs (StC.of_so (k := _) (by repeat (first | exact At.here | apply At.next))) (Reads.of_at (e := 3) .here) (by omega)) rfl ?_) rfl
  clear hS
  rintro e w ⟨W, B, C, rfl, hW, hS⟩
  refine ⟨_, rfl, ?_⟩
  obtain ⟨hWl, hWx⟩ := mk_bds6 ho hW
  rw [hmk] at hW
  rw [hmk]
  replace hW : W.map Wv.l = mkW c s x := hW
  rw [← hW] at hmd
  have hfp : (flatW W).Perm x := hmd.perm
  have hfn : (W.map Wv.l).flatten.Nodup := hfp.nodup_iff.2 hnd
  repeat' (first|refine K ?_|(refine Sh.sa hS ?_;clear hS;intro w hS)|(refine K3 ?_;clear hS;intro g w hS hge)|((first|refine GS ?_ ?_|refine VB ?_ ?_)<;>intro hb<;>(try simp only [J1,J2,J3,J4,J5,J6] at hb)<;>(try (exfalso;first|omega|exact hb trivial))))
  refine Z.eff (Z.cl (pcheck_z c a s b B C W _ _ _ hS (CfR.of_co (k := _) (by repeat (first | exact At.here | apply At.next))) ho hs (StC.of_so (k := _) (by repeat (first | exact At.here | apply At.next))) (WvR.of_at .here) (by omega) (fun y hy => Nat.le_trans (hWx y hy) (by omega))) rfl ?_) rfl
  clear hS
  rintro e w ⟨q1, e1, rfl, hc1, hS⟩
  refine ⟨_, rfl, ?_⟩
  have hck : ChkR c s (W.map Wv.l) W.length 0 := ⟨fun j hj _ => hmd.right hxin hnd j hj, .inr ⟨by simp, rfl⟩⟩
  obtain ⟨rfl, rfl⟩ := hc1.one hck
  repeat' (first|refine K ?_|(refine Sh.sa hS ?_;clear hS;intro w hS)|(refine K3 ?_;clear hS;intro g w hS hge)|((first|refine GS ?_ ?_|refine VB ?_ ?_)<;>intro hb<;>(try simp only [J1,J2,J3,J4,J5,J6] at hb)<;>(try (exfalso;first|omega|exact hb trivial))))
  refine Z.eff (Z.cl (cells_z B C W x _ _ _ hS (WvR.of_at .here) (by omega) (fun y hy => Nat.le_trans (hWx y hy) (by omega)) hasc hfp) rfl ?_) rfl
  clear hS
  rintro e w ⟨A5, c5, rfl, hS⟩
  refine ⟨_, rfl, ?_⟩
  repeat' (first|refine K ?_|(refine Sh.sa hS ?_;clear hS;intro w hS)|(refine K3 ?_;clear hS;intro g w hS hge)|((first|refine GS ?_ ?_|refine VB ?_ ?_)<;>intro hb<;>(try simp only [J1,J2,J3,J4,J5,J6] at hb)<;>(try (exfalso;first|omega|exact hb trivial))))
  refine Z.eff (Z.cl (sameI_z x x _ _ _ _ _ hS (Reads.of_at (e := 3) (v := .slice A5 x.length c5) (by repeat (first | exact At.here | apply At.next))) (Reads.of_at (e := 3) (v := .slice A4 x.length c4) (by repeat (first | exact At.here | apply At.next))) (by omega) (by omega)) rfl ?_) rfl
  clear hS
  rintro e w ⟨rfl, hS⟩
  refine ⟨_, rfl, ?_⟩
  rw [show decide (x = x) = true by simp]
  repeat' (first|refine K ?_|(refine Sh.sa hS ?_;clear hS;intro w hS)|(refine K3 ?_;clear hS;intro g w hS hge)|((first|refine GS ?_ ?_|refine VB ?_ ?_)<;>intro hb<;>(try simp only [J1,J2,J3,J4,J5,J6] at hb)<;>(try (exfalso;first|omega|exact hb trivial))))
  clear hck hc1 hb
  have hmb : 0 < x.length → 0 ≤ modN dz x.length ∧ modN dz x.length < x.length := fun h => modN_bd dz x.length (by omega)
  obtain ⟨d, hd⟩ : ∃ d : Nat, 0 < x.length → modN dz x.length = (d : Int) ∧ d < x.length := ⟨(modN dz x.length).toNat, fun h => by have := hmb h; omega⟩
  replace hS := Z.nilsl hS 3 1 none
  refine Z.lpS [18, 19, 87, 88, 89, 90, 91, 92, 93, 94, 95, 96, 97, 98, 99, 100, 101, 102, 103, 104, 105] (fun m w z => ∃ (i : Nat) (o : List Int) (A6 : Option Addr) (c6 : Nat), z = [(18, .slice A6 o.length c6), (87, .int .i64 i)] ∧ i ≤ x.length ∧ o.length = i ∧ o = turnL x d i ∧ m = x.length - i ∧ Sep r [] (.sl 3 1 (.slice A6 o.length c6) (o.map ztC) :: WO B C W :: .sl 3 1 (.slice A4 x.length c4) (x.map ztC) :: .blk gs 34 (s.cc c b) :: .blk gc 30 (c.cl a) :: CO c a :: SO c s b :: []) w) _ [(18, .slice none 0 0), (87, .int .i64 (0 : Nat))] (by repeat (first | exact trivial | refine ⟨rfl, ?_⟩)) ⟨0, [], none, 0, rfl, by omega, rfl, by simp [turnL], rfl, hS.sb⟩ ?_
  clear hS
  rintro m f0 w _ ⟨i, o, A6, c6, rfl, hi, hol, ho6, rfl, hS⟩
  by_cases hlt : i < x.length
  · have h0 : 0 < x.length := by omega
    obtain ⟨hd1, hd2⟩ := hd h0
    have hsu := turnL_succ (d := d) hlt
    rw [← ho6] at hsu
    obtain ⟨g4, rfl⟩ := Z.Sep_slform hS (e := 3) (sz := 1) (c := c4) (A := A4) (rows := x.map ztC) (n0 := x.length) (.next (.next .here)) (by simpa using h0)
    repeat' (first|refine K ?_|(refine Sh.sa hS ?_;clear hS;intro w hS)|(refine K3 ?_;clear hS;intro g w hS hge)|((first|refine GS ?_ ?_|refine VB ?_ ?_)<;>intro hb<;>(try simp only [J1,J2,J3,J4,J5,J6] at hb)<;>(try (exfalso;first|omega|exact hb trivial))))
    refine Z.eff (Z.cl (modS_z dz x.length _ _ _ hS (by omega) (by omega)) rfl ?_) rfl
    clear hS
    rintro e w ⟨rfl, hS⟩
    refine ⟨_, rfl, ?_⟩
    rw [hd1]
    have ht1 := Int.tmod_nonneg (x.length : Int) (show 0 ≤ (i : Int) + d by omega)
    have ht2 := Int.tmod_lt_of_pos ((i : Int) + d) (show 0 < (x.length : Int) by omega)
    have ht3 : (((i : Int) + d).tmod x.length).toNat = (i + d) % x.length := by
      rw [Int.tmod_eq_emod_of_nonneg (by omega), show ((i : Int) + d) % (x.length : Int) = (((i + d) % x.length : Nat) : Int) by simp]
      exact Int.toNat_natCast _
    have hra : w.rangeAt g4 (0 + (((i : Int) + d).tmod x.length).toNat * 1) (ztC (x.getD ((i + d) % x.length) 0)) := by
      rw [ht3]
      have hq : (i + d) % x.length < x.length := Nat.mod_lt _ h0
      have h3 := (hS.slrows (e := 3) (sz := 1) (v := .slice (some ⟨g4, 0, none⟩) x.length c4) (rows := x.map ztC) (.next (.next .here))).elem (q := (i + d) % x.length) (by omega) hq
      rw [List.getD_eq_getElem?_getD, List.getElem?_eq_getElem hq]
      simpa using h3
    generalize x.getD ((i + d) % x.length) 0 = v at *
    repeat' (first|refine K ?_|(refine Sh.sa hS ?_;clear hS;intro w hS)|(refine K3 ?_;clear hS;intro g w hS hge)|((first|refine GS ?_ ?_|refine VB ?_ ?_)<;>intro hb<;>(try simp only [J1,J2,J3,J4,J5,J6] at hb)<;>(try (exfalso;first|omega|exact hb trivial))))
    refine Z.eff (Z.apm (l' := [v]) hS rfl rfl rfl (by repeat (first | exact At.here | apply At.next)) (hS.lit1 (by repeat (first | exact At.here | apply At.next)) rfl rfl) (by (try simp only [maxLen, List.length_take, List.length_drop, List.length_append, List.length_cons, List.length_nil, List.length_map]); omega) (by (try simp only [maxLen, List.length_take, List.length_drop, List.length_append, List.length_cons, List.length_nil, List.length_map]); omega) ?_) rfl
    clear hS; intro A7 c7 w hS
    rw [← List.length_append] at hS ⊢
    repeat' (first|refine K ?_|(refine Sh.sa hS ?_;clear hS;intro w hS)|(refine K3 ?_;clear hS;intro g w hS hge)|((first|refine GS ?_ ?_|refine VB ?_ ?_)<;>intro hb<;>(try simp only [J1,J2,J3,J4,J5,J6] at hb)<;>(try (exfalso;first|omega|exact hb trivial))))
    refine Sh.again (x.length - (i + 1)) [(18, _), (87, .int .i64 (i + 1 : Nat))] ?_
    exact ⟨i + 1, o ++ [v], A7, c7, rfl, by omega, by simp; omega, hsu.symm, rfl, hS.sb⟩
  have hi2 : i = x.length := by omega
  rw [hi2] at ho6
  have hop : o.Perm x := by rw [ho6]; exact turnL_all fun h => (hd h).2
  have hon : o.Nodup := hop.nodup_iff.2 hnd
  have hook : mkOk c o = true := by
    unfold mkOk
    rw [Bool.and_eq_true, List.all_eq_true, decide_eq_true_eq]
    exact ⟨fun k hk => hxin k (hop.mem_iff.1 hk), hon⟩
  have hmo : mkR c s o = (mkW c s x, 0) := by rw [mkR_ok hook, srt_of_perm hop hon, hsx]
  repeat' (first|refine K ?_|(refine Sh.sa hS ?_;clear hS;intro w hS)|(refine K3 ?_;clear hS;intro g w hS hge)|((first|refine GS ?_ ?_|refine VB ?_ ?_)<;>intro hb<;>(try simp only [J1,J2,J3,J4,J5,J6] at hb)<;>(try (exfalso;first|omega|exact hb trivial))))
  clear hlt hb
  refine Z.eff (Z.cl (pmake_z c a s b A6 o c6 _ _ _ hS (CfR.of_co (k := _) (by repeat (first | exact At.here | apply At.next))) ho hs (StC.of_so (k := _) (by repeat (first | exact At.here | apply At.next))) (Reads.of_at (e := 3) .here) (by omega)) rfl ?_) rfl
  clear hS
  rintro e w ⟨V, B2, C2, rfl, hV, hS⟩
  refine ⟨_, rfl, ?_⟩
  obtain ⟨hVl, hVx⟩ := mk_bds6 ho hV
  rw [hmo] at hV
  rw [hmo]
  replace hV : V.map Wv.l = W.map Wv.l := by rw [hW]; exact hV
  repeat' (first|refine K ?_|(refine Sh.sa hS ?_;clear hS;intro w hS)|(refine K3 ?_;clear hS;intro g w hS hge)|((first|refine GS ?_ ?_|refine VB ?_ ?_)<;>intro hb<;>(try simp only [J1,J2,J3,J4,J5,J6] at hb)<;>(try (exfalso;first|omega|exact hb trivial))))
  replace hS := hS.sub (L' := WO B C W :: WO B2 C2 V :: []) (by repeat (first | exact Sub.rest | exact Sub.nil | exact .skip .rest | exact .skip (.skip .rest) | exact .skip (.skip (.skip .rest)) | apply Sub.keep | refine Sub.cons (by repeat (first | exact At.here | apply At.next)) ?_ | apply Sub.skip))
  refine Z.lpS [10, 22, 23, 24, 26, 115, 116, 117, 118, 119, 120, 121, 122, 123, 124, 125, 126, 127, 128, 129, 130, 131, 132, 133, 134, 135, 136] (fun m w z => ∃ i n : Nat, z = [(22, .int .i64 n), (115, .int .i64 i)] ∧ i ≤ W.length ∧ n ≤ i * 40 ∧ n = (flatW (W.take i)).length ∧ m = W.length - i ∧ Sep r [] (WO B C W :: WO B2 C2 V :: []) w) _ [(22, .int .i64 (0 : Nat)), (115, .int .i64 (0 : Nat))] (by repeat (first | exact trivial | refine ⟨rfl, ?_⟩)) ⟨0, 0, rfl, by omega, by omega, by simp [flatW], rfl, hS⟩ ?_
  clear hS
  rintro m f1 w _ ⟨i, n, rfl, hi, hn, hn2, rfl, hS⟩
  by_cases hlt : i < W.length
  · have hw := WvR.of_at (r := r) (F := WO B C W :: WO B2 C2 V :: []) .here
    obtain ⟨gb, ob, hB, hra⟩ := hw.get [] hS hlt
    subst hB
    have hxi := hWx _ (List.getElem_mem hlt)
    have hin := hw.inn _ (List.getElem_mem hlt)
    have hfl := flatW_succ hlt
    obtain ⟨y, hX⟩ : ∃ y, W[i] = y := ⟨_, rfl⟩
    rw [hX] at hra hxi hin hfl
    obtain ⟨lx, Ax, cx⟩ := y
    simp only [Wv.cells] at hra hxi hin hfl
    repeat' (first|refine K ?_|(refine Sh.sa hS ?_;clear hS;intro w hS)|(refine K3 ?_;clear hS;intro g w hS hge)|((first|refine GS ?_ ?_|refine VB ?_ ?_)<;>intro hb<;>(try simp only [J1,J2,J3,J4,J5,J6] at hb)<;>(try (exfalso;first|omega|exact hb trivial))))
    clear hra
    refine Z.lpS [10, 26, 126, 127, 128, 129, 130, 131, 132, 133, 134, 135] (fun m w z => ∃ j : Nat, z = [(126, .int .i64 j)] ∧ j ≤ lx.length ∧ m = lx.length - j ∧ Sep r [] (WO (some ⟨gb, ob, none⟩) C W :: WO B2 C2 V :: []) w) _ [(126, .int .i64 (0 : Nat))] (by repeat (first | exact trivial | refine ⟨rfl, ?_⟩)) ⟨0, rfl, by omega, rfl, hS⟩ ?_
    clear hS
    rintro m f2 w _ ⟨j, rfl, hj, rfl, hS⟩
    by_cases hjl : j < lx.length
    · obtain ⟨ga, oa, hAe, hra⟩ := int_get hin [] hS hjl
      subst hAe
      have hkm : lx[j] ∈ (W[i]).l := by rw [hX]; exact List.getElem_mem hjl
      generalize lx[j] = k at *
      have hone : ∀ p (hp : p < W.length), k ∈ (W[p]).l → p = i := fun p hp h => wave_one hfn (by simpa using hp) (by simpa using hlt) (k := k) (by simpa using h) (by simpa using hkm)
      repeat' (first|refine K ?_|(refine Sh.sa hS ?_;clear hS;intro w hS)|(refine K3 ?_;clear hS;intro g w hS hge)|((first|refine GS ?_ ?_|refine VB ?_ ?_)<;>intro hb<;>(try simp only [J1,J2,J3,J4,J5,J6] at hb)<;>(try (exfalso;first|omega|exact hb trivial))))
      refine Z.eff (Z.cl (of_z _ C W k i _ _ _ hS hw (by omega) (fun y hy => Nat.le_trans (hWx y hy) (by omega)) hlt hkm hone) rfl ?_) rfl
      clear hS
      rintro e w ⟨rfl, hS⟩
      refine ⟨_, rfl, ?_⟩
      repeat' (first|refine K ?_|(refine Sh.sa hS ?_;clear hS;intro w hS)|(refine K3 ?_;clear hS;intro g w hS hge)|((first|refine GS ?_ ?_|refine VB ?_ ?_)<;>intro hb<;>(try simp only [J1,J2,J3,J4,J5,J6] at hb)<;>(try (exfalso;first|omega|exact hb trivial))))
      refine Sh.again (lx.length - (j + 1)) [(126, .int .i64 (j + 1 : Nat))] ?_
      exact ⟨j + 1, rfl, by omega, rfl, hS⟩
    · repeat' (first|refine K ?_|(refine Sh.sa hS ?_;clear hS;intro w hS)|(refine K3 ?_;clear hS;intro g w hS hge)|((first|refine GS ?_ ?_|refine VB ?_ ?_)<;>intro hb<;>(try simp only [J1,J2,J3,J4,J5,J6] at hb)<;>(try (exfalso;first|omega|exact hb trivial))))
      refine Sh.again (W.length - (i + 1)) [(22, .int .i64 (n + lx.length : Nat)), (115, .int .i64 (i + 1 : Nat))] ?_
      exact ⟨i + 1, n + lx.length, rfl, by omega, by omega, by rw [hfl, List.length_append, hn2], rfl, hS⟩
  · have hi3 : i = W.length := by omega
    rw [List.take_of_length_le (by omega), hfp.length_eq] at hn2
    subst hn2
    repeat' (first|refine K ?_|(refine Sh.sa hS ?_;clear hS;intro w hS)|(refine K3 ?_;clear hS;intro g w hS hge)|((first|refine GS ?_ ?_|refine VB ?_ ?_)<;>intro hb<;>(try simp only [J1,J2,J3,J4,J5,J6] at hb)<;>(try (exfalso;first|omega|exact hb trivial))))
    refine Z.eff (Z.cl (same37_z B2 B C2 C V W _ _ _ hS (WvR.of_at (k := _) (by repeat (first | exact At.here | apply At.next))) (WvR.of_at .here) (by omega) (by omega) (fun y hy => Nat.le_trans (hVx y hy) (by omega)) (fun y hy => Nat.le_trans (hWx y hy) (by omega))) rfl ?_) rfl
    clear hS
    rintro e w ⟨rfl, hS⟩
    refine ⟨_, rfl, ?_⟩
    rw [hV, show decide (W.map Wv.l = W.map Wv.l) = true by simp]
    repeat' (first|refine K ?_|(refine Sh.sa hS ?_;clear hS;intro w hS)|(refine K3 ?_;clear hS;intro g w hS hge)|((first|refine GS ?_ ?_|refine VB ?_ ?_)<;>intro hb<;>(try simp only [J1,J2,J3,J4,J5,J6] at hb)<;>(try (exfalso;first|omega|exact hb trivial))))
    refine Dnt Tryz.results7 ?_
    exact ⟨by simp [Z.packR], hS.chg⟩
set_option maxRecDepth 100000 in
theorem wavePermits_lifted (os : Os) (started : os.Started) (H : Type) (enc : TypeId × Value → H) :
    ReturnsInHanded {} Tryz.checked os 7 .any (Rows.wavePermitsSpec.pre6 enc Tryz.prog Tryz.f7 Rows.wavePermitsRow.domain false) (Rows.wavePermitsSpec.post enc Tryz.prog Tryz.f7 false Rows.wavePermitsRow.fresh Rows.wavePermitsRow.handsOn Rows.wavePermitsRow.again) := by
  refine returnsInHanded_of_change (C := Tryz.checked) Tryz.own started (by kernel_rfl) Tryz.func7
    (ChangeSpec.witness6 (enc := enc) (C := Tryz.checked) false ⟨#[], #[.slice none 0 0, .slice none 0 0, .bool false, .slice none 0 0, .int .i64 0], []⟩ 8 (by kernel_rfl) (by kernel_rfl) (by kernel_rfl) (by kernel_rfl)) ?_
  intro W base args ds gs before hval0 hW _ _
  have hval : ∀ (j : Nat) t v, Tryz.f7.params[j]? = some t → args[j]? = some v → Value.okWide Tryz.prog W .any base t v := hval0
  have hW0 := hW
  obtain ⟨p, q, hA0, hV, hpq, _, _⟩ := hW
  obtain ⟨la⟩ := args
  have hA : DataW.TrodAll enc Tryz.prog W 0 (fun _ => true) true [22, 22, 4, 22, 3] la ds p := by have := hA0; rw [Tryz.params7] at this; exact this
  rw [Tryz.params7] at hval
  obtain ⟨v0, la0, d0, ds0, p0, q0, rfl, rfl, rfl, h0, hA⟩ := trodAll_cons hA
  obtain ⟨v1, la1, d1, ds1, p1, q1, rfl, rfl, rfl, h1, hA⟩ := trodAll_cons hA
  obtain ⟨v2, la2, d2, ds2, p2, q2, rfl, rfl, rfl, h2, hA⟩ := trodAll_cons hA
  obtain ⟨v3, la3, d3, ds3, p3, q3, rfl, rfl, rfl, h3, hA⟩ := trodAll_cons hA
  obtain ⟨v4, la4, d4, ds4, p4, q4, rfl, rfl, rfl, h4, hA⟩ := trodAll_cons hA
  obtain ⟨rfl, rfl, rfl⟩ := trodAll_nil hA
  obtain ⟨l0, A0, cap0, rfl, _, hr0⟩ := arg_intsr (hval 0 _ _ rfl rfl) h0
  obtain ⟨l1, A1, cap1, rfl, _, hr1⟩ := arg_intsr (hval 1 _ _ rfl rfl) h1
  obtain ⟨b2, rfl⟩ := arg_bool (hval 2 _ _ rfl rfl) h2
  obtain ⟨l3, A3, cap3, rfl, _, hr3⟩ := arg_intsr (hval 3 _ _ rfl rfl) h3
  obtain ⟨z4, rfl, hr4⟩ := arg_int (hval 4 _ _ rfl rfl) h4
  have fin : Calls Tryz.prog 7 _ W fun e W' => e = .returned (.bool true) ∧ Chg [] W W' := permits37_z l0 A0 cap0 l1 A1 cap1 b2 l3 A3 cap3 z4 W hr0 hr1  hr3 hr4
  refine fin.mono fun e W' ⟨he, hc⟩ => ⟨_, he, ?_⟩
  exact law_post Tryz.laidOut (by rw [Tryz.params7]; intro t ht; simp only [List.mem_cons, List.not_mem_nil, or_false] at ht; rcases ht with rfl | rfl | rfl | rfl | rfl <;> exact ⟨by kernel_rfl, of_decide_eq_true (by kernel_rfl)⟩) rfl rfl Tryz.underlying4 rfl hW0 hc.below
theorem wavePermits_holds : Rows.WavePermitsSaid :=
  OpenClaim.holds_of_wide 7 Tryz.f7 rfl rfl rfl rfl rfl rfl rfl ⟨rfl, rfl, rfl, rfl, rfl⟩ rfl rfl rfl rfl rfl (by kernel_rfl) Tryz.func7 (by kernel_rfl)
    (of_decide_eq_true (by kernel_rfl)) (by unfold Func.isWrapper; rw [if_neg (of_decide_eq_false (by kernel_rfl))]; exact ⟨rfl, rfl⟩)
    (fun os started H enc _ => wavePermits_lifted os started H enc)
end Go.Proofs.YtmgpionlfemhdaaGreat
