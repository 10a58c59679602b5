/-
  What cells are booked for, and small questions about states.
-/
import Derived.Test.YtmgpionlfemhdaaGreatNUd
namespace Go.Proofs.YtmgpionlfemhdaaGreat
open Go.RowKit
set_option linter.unusedSimpArgs false
set_option linter.unusedVariables false
attribute [local irreducible] Res.blk Res.sl Res.all Res.ex Res.pure Res.star

set_option maxHeartbeats 1000000 in
theorem add_z (A : Option Addr) (l : List Int) (n c : Nat) (i z : Int) (r : World) (F : List Res) (w : World) (hS : Sep r [] (.sl 3 1 (.slice A n c) (l.map ztC) :: F) w) (hn : l.length = n) :
    Calls Tryz.prog 134 #[.slice A n c, .int .i64 i, .int .i64 z] w fun e w' => ∃ (v : Value) (l' : List Int), e = .returned v ∧ l'.length = n ∧ Sep r [] (.sl 3 1 (.slice A n c) (l'.map ztC) :: F) w' := by
  subst hn
  by_cases h : 0 ≤ i ∧ i < l.length
  · obtain ⟨q, rfl⟩ := Int.eq_ofNat_of_zero_le h.1
    have hq : q < l.length := by omega
    obtain ⟨g, rfl⟩ := Z.Sep_slform hS (e := 3) (sz := 1) (c := c) (A := A) (rows := l.map ztC) (n0 := l.length) .here (by rw [List.length_map]; omega)
    have hra : w.rangeAt g (0 + q * 1) (ztC l[q]) := by
      have h3 := (hS.slrows .here).elem (q := q) (by omega) (by simpa using hq)
      simpa using h3
    refine Z.enter Tryz.func134 Tryz.ntmps134 rfl rfl ?_
    repeat' (first|refine K ?_|(refine Sh.sa hS ?_;clear hS;intro w hS)|(refine K3 ?_;clear hS;intro g w hS hge)|((first|refine GS ?_ ?_|refine VB ?_ ?_)<;>intro hb<;>(try simp only [J1,J2,J3,J4,J5,J6] at hb)<;>(try (exfalso;first|omega|exact hb trivial))))
    refine Z.sumW rfl ?_
    repeat' (first|refine K ?_|(refine Sh.sa hS ?_;clear hS;intro w hS)|(refine K3 ?_;clear hS;intro g w hS hge)|((first|refine GS ?_ ?_|refine VB ?_ ?_)<;>intro hb<;>(try simp only [J1,J2,J3,J4,J5,J6] at hb)<;>(try (exfalso;first|omega|exact hb trivial))))
    refine Z.eff (Z.stF (j := 0) (IntKind.i64.wrap (l[q] + z)) hS rfl .here hq rfl rfl rfl (by omega) rfl ?_) rfl
    clear hS; intro w hS
    repeat' (first|refine K ?_|(refine Sh.sa hS ?_;clear hS;intro w hS)|(refine K3 ?_;clear hS;intro g w hS hge)|((first|refine GS ?_ ?_|refine VB ?_ ?_)<;>intro hb<;>(try simp only [J1,J2,J3,J4,J5,J6] at hb)<;>(try (exfalso;first|omega|exact hb trivial))))
    refine Dn Tryz.results134 ?_
    exact ⟨_, _, rfl, List.length_set .., hS⟩
  · refine Z.enter Tryz.func134 Tryz.ntmps134 rfl rfl ?_
    repeat' (first|refine K ?_|(refine Sh.sa hS ?_;clear hS;intro w hS)|(refine K3 ?_;clear hS;intro g w hS hge)|((first|refine GS ?_ ?_|refine VB ?_ ?_)<;>intro hb<;>(try simp only [J1,J2,J3,J4,J5,J6] at hb)<;>(try (exfalso;first|omega|exact hb trivial))))
    all_goals
      refine Dn Tryz.results134 ?_
      exact ⟨_, l, rfl, rfl, hS⟩
theorem reads_ts {r w : World} {F : List Res} {s : Sta} {b : SAd} (hr : StR r F s b) (L : List Res) (hS : Sep r [] (L ++ F) w) {k : Nat} (h : k < s.tenants.length) : ∃ gb o, b.tA = some ⟨gb, o, none⟩ ∧ w.rangeAt gb (o + k * 12) (s.tenants[k]).cells := by
  obtain ⟨gb, o, hA, _, hra⟩ := (hr.t L w hS).mat (by omega) (q := k) (by simpa using h)
  exact ⟨gb, o, hA, by simpa using hra⟩
theorem reads_ks {r w : World} {F : List Res} {s : Sta} {b : SAd} (hr : StR r F s b) (L : List Res) (hS : Sep r [] (L ++ F) w) {k : Nat} (h : k < s.cells.length) : ∃ gb o, b.kA = some ⟨gb, o, none⟩ ∧ w.rangeAt gb (o + k * 4) (s.cells[k]).cells := by
  obtain ⟨gb, o, hA, _, hra⟩ := (hr.k L w hS).mat (by omega) (q := k) (by simpa using h)
  exact ⟨gb, o, hA, by simpa using hra⟩
theorem reads_tn {r w : World} {F : List Res} {c : Cfg} {a : CAd} (hr : CfR r F c a) (L : List Res) (hS : Sep r [] (L ++ F) w) {k : Nat} (h : k < c.tenants.length) : ∃ gb o, a.tA = some ⟨gb, o, none⟩ ∧ w.rangeAt gb (o + k * 7) (c.tenants[k]).cells := by
  obtain ⟨gb, o, hA, _, hra⟩ := (hr.t L w hS).mat (by omega) (q := k) (by simpa using h)
  exact ⟨gb, o, hA, by simpa using hra⟩
theorem reads_kn {r w : World} {F : List Res} {c : Cfg} {a : CAd} (hr : CfR r F c a) (L : List Res) (hS : Sep r [] (L ++ F) w) {k : Nat} (h : k < c.cells.length) : ∃ gb o, a.kA = some ⟨gb, o, none⟩ ∧ w.rangeAt gb (o + k * 2) (c.cells[k]).cells := by
  obtain ⟨gb, o, hA, _, hra⟩ := (hr.k L w hS).mat (by omega) (q := k) (by simpa using h)
  exact ⟨gb, o, hA, by simpa using hra⟩
/-- The same with the address known. -/
theorem at_ts {r w : World} {F : List Res} {s : Sta} {b : SAd} (hr : StR r F s b) (L : List Res) (hS : Sep r [] (L ++ F) w) {k gb o : Nat} (hA : b.tA = some ⟨gb, o, none⟩) (h : k < s.tenants.length) : w.rangeAt gb (o + k * 12) (s.tenants[k]).cells := by
  obtain ⟨gb', o', hA', hra⟩ := reads_ts hr L hS h
  rw [hA] at hA'
  simp only [Option.some.injEq, Addr.mk.injEq] at hA'
  obtain ⟨rfl, rfl, _⟩ := hA'
  exact hra
theorem at_ks {r w : World} {F : List Res} {s : Sta} {b : SAd} (hr : StR r F s b) (L : List Res) (hS : Sep r [] (L ++ F) w) {k gb o : Nat} (hA : b.kA = some ⟨gb, o, none⟩) (h : k < s.cells.length) : w.rangeAt gb (o + k * 4) (s.cells[k]).cells := by
  obtain ⟨gb', o', hA', hra⟩ := reads_ks hr L hS h
  rw [hA] at hA'
  simp only [Option.some.injEq, Addr.mk.injEq] at hA'
  obtain ⟨rfl, rfl, _⟩ := hA'
  exact hra
theorem at_tn {r w : World} {F : List Res} {c : Cfg} {a : CAd} (hr : CfR r F c a) (L : List Res) (hS : Sep r [] (L ++ F) w) {k gb o : Nat} (hA : a.tA = some ⟨gb, o, none⟩) (h : k < c.tenants.length) : w.rangeAt gb (o + k * 7) (c.tenants[k]).cells := by
  obtain ⟨gb', o', hA', hra⟩ := reads_tn hr L hS h
  rw [hA] at hA'
  simp only [Option.some.injEq, Addr.mk.injEq] at hA'
  obtain ⟨rfl, rfl, _⟩ := hA'
  exact hra
theorem at_kn {r w : World} {F : List Res} {c : Cfg} {a : CAd} (hr : CfR r F c a) (L : List Res) (hS : Sep r [] (L ++ F) w) {k gb o : Nat} (hA : a.kA = some ⟨gb, o, none⟩) (h : k < c.cells.length) : w.rangeAt gb (o + k * 2) (c.cells[k]).cells := by
  obtain ⟨gb', o', hA', hra⟩ := reads_kn hr L hS h
  rw [hA] at hA'
  simp only [Option.some.injEq, Addr.mk.injEq] at hA'
  obtain ⟨rfl, rfl, _⟩ := hA'
  exact hra
theorem zerosL_int (n : Nat) : Z.zerosL [Value.int .i64 0] n = ((List.replicate n (0 : Int)).map ztC).flatten := by
  induction n with
  | zero => rfl
  | succ k ih =>
    rw [List.replicate_succ]
    show [Value.int .i64 0] ++ _ = _
    rw [ih]
    rfl
theorem zt_ok (l : List Int) : ∀ row, row ∈ l.map ztC → row.length = 1 ∧ ∀ u, u ∈ row → u.oneCell' = true := by
  intro row hr
  obtain ⟨x, _, rfl⟩ := List.mem_map.1 hr
  exact ⟨rfl, by simp [ztC, Value.oneCell']⟩
set_option maxHeartbeats 8000000 in
theorem booked_z (c : Cfg) (a : CAd) (s : Sta) (b : SAd) (r : World) (F : List Res) (w : World) (hS : Sep r [] F w) (hr : CfR r F c a) (hs : StR r F s b) (ho : c.ok) (hl : s.tenants.length = c.tenants.length) :
    Calls Tryz.prog 132 #[c.val a, s.val b] w fun e w' => ∃ (l : List Int) (A : Option Addr) (cap : Nat), e = .returned (.slice A l.length cap) ∧ l.length = c.cells.length ∧ Sep r [] (.sl 3 1 (.slice A l.length cap) (l.map ztC) :: F) w' := by
  have hk := ho.k
  have htl := ho.t
  refine Z.enter Tryz.func132 Tryz.ntmps132 rfl rfl ?_
  repeat' (first|refine K ?_|(refine Sh.sa hS ?_;clear hS;intro w hS)|(refine K3 ?_;clear hS;intro g w hS hge)|((first|refine GS ?_ ?_|refine VB ?_ ?_)<;>intro hb<;>(try simp only [J1,J2,J3,J4,J5,J6] at hb)<;>(try (exfalso;first|omega|exact hb trivial))))
  rename Nat => g3
  refine Z.eff (Z.mks (l := c.cells.length) (c := c.cells.length) hS rfl rfl rfl (Nat.le_refl _) (by show 8 * c.cells.length ≤ 281474976710656; omega) (by unfold maxLen; omega) ?_) rfl
  clear hS; intro g5 w hS _
  replace hS := mk_sl (n := c.cells.length) (rows := (List.replicate c.cells.length (0 : Int)).map ztC) hS (by simp) (by omega) (by unfold maxLen; omega) (zt_ok _) (zerosL_int _)
  repeat' (first|refine K ?_|(refine Sh.sa hS ?_;clear hS;intro w hS)|(refine K3 ?_;clear hS;intro g w hS hge)|((first|refine GS ?_ ?_|refine VB ?_ ?_)<;>intro hb<;>(try simp only [J1,J2,J3,J4,J5,J6] at hb)<;>(try (exfalso;first|omega|exact hb trivial))))
  refine Z.lpS [6, 7, 8, 13, 14, 15, 16, 17, 18, 19, 20, 21, 22, 23, 24, 25, 26, 27, 28, 29, 30, 31, 32, 33, 34, 35, 36, 37, 38, 39, 40, 41, 42, 43, 44, 45, 46, 47, 48, 49, 50, 51, 52, 53, 54, 55, 56, 57, 58, 59] (fun m w z => ∃ (i : Nat) (l : List Int), z = [(6, .int .i64 i)] ∧ l.length = c.cells.length ∧ i ≤ s.tenants.length ∧ m = s.tenants.length - i ∧ Sep r [] (.sl 3 1 (.slice (some ⟨g5, 0, .none⟩) c.cells.length c.cells.length) (l.map ztC) :: .blk g3 34 (s.cl b) :: .blk g 30 (c.cl a) :: F) w) _ [(6, .int .i64 (0 : Nat))] (by repeat (first | exact trivial | refine ⟨rfl, ?_⟩)) ⟨0, List.replicate c.cells.length 0, rfl, by simp, by omega, rfl, hS⟩ ?_
  clear hS
  rintro m f0 w _ ⟨i, l, rfl, hl0, hi, rfl, hS⟩
  by_cases hlt : i < s.tenants.length
  · have hlt2 : i < c.tenants.length := by omega
    obtain ⟨gb, o, hA, _⟩ := reads_ts hs [_, _, _] hS hlt
    obtain ⟨gc, o2, hA2, _⟩ := reads_tn hr [_, _, _] hS hlt2
    have hra1 : ∀ W, Sep r [] (.sl 3 1 (.slice (some ⟨g5, 0, .none⟩) c.cells.length c.cells.length) (l.map ztC) :: .blk g3 34 (s.cl b) :: .blk g 30 (c.cl a) :: F) W → W.rangeAt gb (o + i * 12) (s.tenants[i]).cells := fun W hW => at_ts hs [_, _, _] hW hA hlt
    have hra2 : ∀ W, Sep r [] (.sl 3 1 (.slice (some ⟨g5, 0, .none⟩) c.cells.length c.cells.length) (l.map ztC) :: .blk g3 34 (s.cl b) :: .blk g 30 (c.cl a) :: F) W → W.rangeAt gc (o2 + i * 7) (c.tenants[i]).cells := fun W hW => at_tn hr [_, _, _] hW hA2 hlt2
    generalize s.tenants[i] = x at *
    generalize c.tenants[i] = d at *
    obtain ⟨zA, zc, kA, kc, tA, tc, vA, vc, rA, rc, oA, oc⟩ := a
    obtain ⟨sA, sc, qA, qc⟩ := b
    simp only at hA hA2
    subst hA hA2
    repeat' (first|refine K ?_|(refine Sh.sa hS ?_;clear hS;intro w hS)|(refine K3 ?_;clear hS;intro g w hS hge)|((first|refine GS ?_ ?_|refine VB ?_ ?_)<;>intro hb<;>(try simp only [J1,J2,J3,J4,J5,J6] at hb)<;>(try (exfalso;first|omega|exact hb trivial))))
    refine Z.cut [7, 8, 20, 21, 22, 23, 24, 25, 26, 27, 28, 29] (fun w z => ∃ g7 g8, z = [(7, .pointer (some ⟨g7, 0, .none⟩)), (8, .pointer (some ⟨g8, 0, .none⟩))] ∧ Sep r [] (.blk g7 56 x.cells :: .blk g8 93 d.cells :: .sl 3 1 (.slice (some ⟨g5, 0, .none⟩) c.cells.length c.cells.length) (l.map ztC) :: .blk g3 34 (s.cl ⟨some ⟨gb, o, none⟩, sc, qA, qc⟩) :: .blk g 30 (c.cl ⟨zA, zc, kA, kc, some ⟨gc, o2, none⟩, tc, vA, vc, rA, rc, oA, oc⟩) :: F) w) ?_ ?_
    · refine D.startS hS 13 14 (by kernel_rfl) rfl ?_
      replace hS := hS.drew
      refine Sh.dp 0 1 ?_
      refine Sh.dp 2 5 ?_
      refine Sh.dp 5 37 ?_
      refine Sh.dp 7 165 ?_
      refine Sh.dl 1 167 ?_
      first | refine D.ixn 3 175 rfl D.wantedN (by kernel_rfl) rfl rfl rfl (by omega) ?_ | refine D.ix 3 175 rfl D.wantedN (by kernel_rfl) rfl rfl rfl (by omega) ?_ | refine D.ia 3 175 rfl D.wantedN (by kernel_rfl) rfl rfl rfl (by omega) ?_
      refine D.ldR 4 191 rfl D.wantedN (by kernel_rfl) rfl hra1 rfl ?_
      refine Sh.dl 6 255 ?_
      first | refine D.ixn 8 511 rfl D.wantedN (by kernel_rfl) rfl rfl rfl (by omega) ?_ | refine D.ix 8 511 rfl D.wantedN (by kernel_rfl) rfl rfl rfl (by omega) ?_ | refine D.ia 8 511 rfl D.wantedN (by kernel_rfl) rfl rfl rfl (by omega) ?_
      refine D.ldR 9 1023 rfl D.wantedN (by kernel_rfl) rfl hra2 rfl ?_
      refine D.each [10, 11] (by kernel_rfl) rfl ?_
      refine D.econs 10 2047 rfl D.wantedN (by kernel_rfl) (fun _ _ h => h) ?_ ?_
      · refine Z.al hS ?_
        clear hS; intro g w hS hge
        refine ⟨HM.s (hS.sb), ?_⟩
        refine D.eff 11 4095 rfl D.wantedN (by kernel_rfl) (by kernel_rfl) (fun _ _ h => h) ?_
        refine Z.al hS ?_
        clear hS; intro g w hS hge
        refine ⟨HM.s (hS.sb), ?_⟩
        refine D.eff 12 8191 rfl D.wantedN (by kernel_rfl) (by kernel_rfl) (fun _ _ h => h) ?_
        refine Z.st hS rfl (by repeat (first | exact At.here | apply At.next)) rfl rfl ?_
        clear hS; intro w hS
        refine ⟨HM.s (hS.sb), ?_⟩
        refine D.eff 13 16383 rfl D.wantedN (by kernel_rfl) (by kernel_rfl) (fun _ _ h => h) ?_
        refine Z.st hS rfl (by repeat (first | exact At.here | apply At.next)) rfl rfl ?_
        clear hS; intro w hS
        refine ⟨HM.last (by kernel_rfl), ?_⟩
        refine D.done (by kernel_rfl) ?_
        refine Sh.cut [(7, _), (8, _)] ?_
        exact ⟨_, _, rfl, hS.sb⟩
      refine D.econs 11 3071 rfl D.wantedN (by kernel_rfl) (fun _ _ h => h) ?_ ?_
      · refine Z.al hS ?_
        clear hS; intro g w hS hge
        refine ⟨HM.s (hS.sb), ?_⟩
        refine D.eff 10 4095 rfl D.wantedN (by kernel_rfl) (by kernel_rfl) (fun _ _ h => h) ?_
        refine Z.al hS ?_
        clear hS; intro g w hS hge
        refine ⟨HM.s (hS.sb), ?_⟩
        refine D.eff 12 8191 rfl D.wantedN (by kernel_rfl) (by kernel_rfl) (fun _ _ h => h) ?_
        refine Z.st hS rfl (by repeat (first | exact At.here | apply At.next)) rfl rfl ?_
        clear hS; intro w hS
        refine ⟨HM.s (hS.sb), ?_⟩
        refine D.eff 13 16383 rfl D.wantedN (by kernel_rfl) (by kernel_rfl) (fun _ _ h => h) ?_
        refine Z.st hS rfl (by repeat (first | exact At.here | apply At.next)) rfl rfl ?_
        clear hS; intro w hS
        refine ⟨HM.last (by kernel_rfl), ?_⟩
        refine D.done (by kernel_rfl) ?_
        refine Sh.cut [(7, _), (8, _)] ?_
        exact ⟨_, _, rfl, hS.sb⟩
      exact D.enil
    clear hS
    rintro f0 w _ ⟨g7, g8, rfl, hS⟩
    repeat' (first|refine K ?_|(refine Sh.sa hS ?_;clear hS;intro w hS)|(refine K3 ?_;clear hS;intro g w hS hge)|((first|refine GS ?_ ?_|refine VB ?_ ?_)<;>intro hb<;>(try simp only [J1,J2,J3,J4,J5,J6] at hb)<;>(try (exfalso;first|omega|exact hb trivial))))
    · refine Sh.again (s.tenants.length - (i + 1)) [(6, .int .i64 (i + 1 : Nat))] ?_
      exact ⟨i + 1, l, rfl, hl0, by omega, rfl, hS.sb⟩
    · replace hS := hS.fo (R := .sl 3 1 (.slice (some ⟨g5, 0, .none⟩) c.cells.length c.cells.length) _)
      refine Z.eff (Z.cl (add_z _ l _ _ _ _ _ _ _ hS hl0) rfl ?_) rfl
      clear hS
      rintro e w ⟨v, l, rfl, hl0, hS⟩
      refine ⟨_, rfl, ?_⟩
      repeat' (first|refine K ?_|(refine Sh.sa hS ?_;clear hS;intro w hS)|(refine K3 ?_;clear hS;intro g w hS hge)|((first|refine GS ?_ ?_|refine VB ?_ ?_)<;>intro hb<;>(try simp only [J1,J2,J3,J4,J5,J6] at hb)<;>(try (exfalso;first|omega|exact hb trivial))))
      replace hS := hS.fo (R := .sl 3 1 (.slice (some ⟨g5, 0, .none⟩) c.cells.length c.cells.length) _)
      refine Z.eff (Z.cl (add_z _ l _ _ _ _ _ _ _ hS hl0) rfl ?_) rfl
      clear hS
      rintro e w ⟨v, l, rfl, hl0, hS⟩
      refine ⟨_, rfl, ?_⟩
      repeat' (first|refine K ?_|(refine Sh.sa hS ?_;clear hS;intro w hS)|(refine K3 ?_;clear hS;intro g w hS hge)|((first|refine GS ?_ ?_|refine VB ?_ ?_)<;>intro hb<;>(try simp only [J1,J2,J3,J4,J5,J6] at hb)<;>(try (exfalso;first|omega|exact hb trivial))))
      replace hS := hS.fo (R := .sl 3 1 (.slice (some ⟨g5, 0, .none⟩) c.cells.length c.cells.length) _)
      refine Z.eff (Z.cl (add_z _ l _ _ _ _ _ _ _ hS hl0) rfl ?_) rfl
      clear hS
      rintro e w ⟨v, l, rfl, hl0, hS⟩
      refine ⟨_, rfl, ?_⟩
      repeat' (first|refine K ?_|(refine Sh.sa hS ?_;clear hS;intro w hS)|(refine K3 ?_;clear hS;intro g w hS hge)|((first|refine GS ?_ ?_|refine VB ?_ ?_)<;>intro hb<;>(try simp only [J1,J2,J3,J4,J5,J6] at hb)<;>(try (exfalso;first|omega|exact hb trivial))))
      replace hS := hS.fo (R := .sl 3 1 (.slice (some ⟨g5, 0, .none⟩) c.cells.length c.cells.length) _)
      refine Z.eff (Z.cl (add_z _ l _ _ _ _ _ _ _ hS hl0) rfl ?_) rfl
      clear hS
      rintro e w ⟨v, l, rfl, hl0, hS⟩
      refine ⟨_, rfl, ?_⟩
      repeat' (first|refine K ?_|(refine Sh.sa hS ?_;clear hS;intro w hS)|(refine K3 ?_;clear hS;intro g w hS hge)|((first|refine GS ?_ ?_|refine VB ?_ ?_)<;>intro hb<;>(try simp only [J1,J2,J3,J4,J5,J6] at hb)<;>(try (exfalso;first|omega|exact hb trivial))))
      refine Sh.again (s.tenants.length - (i + 1)) [(6, .int .i64 (i + 1 : Nat))] ?_
      exact ⟨i + 1, l, rfl, hl0, by omega, rfl, hS.sb⟩
    · replace hS := hS.fo (R := .sl 3 1 (.slice (some ⟨g5, 0, .none⟩) c.cells.length c.cells.length) _)
      refine Z.eff (Z.cl (add_z _ l _ _ _ _ _ _ _ hS hl0) rfl ?_) rfl
      clear hS
      rintro e w ⟨v, l, rfl, hl0, hS⟩
      refine ⟨_, rfl, ?_⟩
      repeat' (first|refine K ?_|(refine Sh.sa hS ?_;clear hS;intro w hS)|(refine K3 ?_;clear hS;intro g w hS hge)|((first|refine GS ?_ ?_|refine VB ?_ ?_)<;>intro hb<;>(try simp only [J1,J2,J3,J4,J5,J6] at hb)<;>(try (exfalso;first|omega|exact hb trivial))))
      replace hS := hS.fo (R := .sl 3 1 (.slice (some ⟨g5, 0, .none⟩) c.cells.length c.cells.length) _)
      refine Z.eff (Z.cl (add_z _ l _ _ _ _ _ _ _ hS hl0) rfl ?_) rfl
      clear hS
      rintro e w ⟨v, l, rfl, hl0, hS⟩
      refine ⟨_, rfl, ?_⟩
      repeat' (first|refine K ?_|(refine Sh.sa hS ?_;clear hS;intro w hS)|(refine K3 ?_;clear hS;intro g w hS hge)|((first|refine GS ?_ ?_|refine VB ?_ ?_)<;>intro hb<;>(try simp only [J1,J2,J3,J4,J5,J6] at hb)<;>(try (exfalso;first|omega|exact hb trivial))))
      refine Sh.again (s.tenants.length - (i + 1)) [(6, .int .i64 (i + 1 : Nat))] ?_
      exact ⟨i + 1, l, rfl, hl0, by omega, rfl, hS.sb⟩
  · repeat' (first|refine K ?_|(refine Sh.sa hS ?_;clear hS;intro w hS)|(refine K3 ?_;clear hS;intro g w hS hge)|((first|refine GS ?_ ?_|refine VB ?_ ?_)<;>intro hb<;>(try simp only [J1,J2,J3,J4,J5,J6] at hb)<;>(try (exfalso;first|omega|exact hb trivial))))
    refine Dnt Tryz.results132 ?_
    refine ⟨l, some ⟨g5, 0, .none⟩, c.cells.length, by rw [hl0]; rfl, hl0, ?_⟩
    rw [hl0]
    exact hS.sb
end Go.Proofs.YtmgpionlfemhdaaGreat
