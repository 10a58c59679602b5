/-
  The sanity check of the waves.
-/
import Derived.Test.YtmgpionlfemhdaaGreatNXh
namespace Go.Proofs.YtmgpionlfemhdaaGreat
open Go.RowKit
set_option linter.unusedSimpArgs false
set_option linter.unusedVariables false
attribute [local irreducible] Res.blk Res.sl Res.all Res.ex Res.pure Res.star

/-- The configuration of the check: two cells in one region, no tenants. -/
def cfgA (c : Cfg) : Cfg := ⟨c.regions, c.zones, [⟨0, 9⟩, ⟨0, 9⟩], [], c.versions, c.replicas, c.observers, 2, c.lease, c.bake⟩
def adA (a : CAd) (g : Nat) : CAd := ⟨a.zA, a.zc, some ⟨g, 0, none⟩, 2, none, 0, a.vA, a.vc, a.rA, a.rc, a.oA, a.oc⟩
theorem cfgA_ok {c : Cfg} (h : c.ok) : (cfgA c).ok := by
  have hz := h.z
  refine ⟨h.r, h.z, ⟨by show (1 : Nat) ≤ 2; omega, by show (2 : Nat) ≤ 16; omega⟩, by show (0 : Nat) ≤ 32; omega, h.v, ⟨by show (1 : Int) ≤ 2; omega, by show (2 : Int) ≤ 16; omega⟩, h.l, h.e, fun x hx => ?_⟩
  simp only [cfgA, List.mem_cons, List.not_mem_nil, or_false, or_self] at hx
  subst hx
  refine ⟨Int.le_refl _, ?_⟩
  show (0 : Int) < c.zones.length
  omega
theorem mkA (c : Cfg) (s : Sta) : mkR (cfgA c) s [1, 0] = ([[0], [1]], 0) := by
  have h1 : mkOk (cfgA c) [1, 0] = true := by simp [mkOk, inC, cfgA]
  have h2 : srt [1, 0] = [0, 1] := by rw [srt_of_perm (l := [1, 0]) (l' := [0, 1]) (List.Perm.swap 0 1 []) (by decide), srt_of_asc (by decide)]
  rw [mkR_ok h1, h2]
  rfl
theorem mkN (c : Cfg) (s : Sta) : mkR (cfgA c) s [] = ([], 0) := by
  rw [mkR_ok (by rfl), srt_of_asc (by decide)]
  rfl
theorem chkA (c : Cfg) (s : Sta) : ChkR (cfgA c) s [[0, 1]] 0 14 := by
  have h : wrongB (cfgA c) s [0, 1] [] true = 14 := by
    rw [wrongB_pass (by decide) (fun j hj => by
      have : j = 0 ∨ j = 1 := by simp at hj; omega
      rcases this with rfl | rfl <;> simp [inC, cfgA])]
    unfold wrongR
    rw [if_pos (by simp)]
  exact ⟨fun j _ h => absurd h (by omega), .inl ⟨by simp, h.symm, by decide⟩⟩
/-- Waves of which each is a block of its own. -/
theorem wo_two {r w : World} {M : List Nat} {F : List Res} {B : Option Addr} {C : Nat} (x y : Wv) (h : Sep r M (.sl 22 1 (.slice B 2 C) ([x, y].map Wv.cells) :: x.res :: y.res :: F) w) : Sep r M (WO B C [x, y] :: F) w := (Sep.all_open (Ls := [_, _, _])).2 h
theorem wo_one {r w : World} {M : List Nat} {F : List Res} {B : Option Addr} {C : Nat} (x : Wv) (h : Sep r M (.sl 22 1 (.slice B 1 C) ([x].map Wv.cells) :: x.res :: F) w) : Sep r M (WO B C [x] :: F) w := (Sep.all_open (Ls := [_, _])).2 h
theorem wv_ok (l : List Wv) : ∀ row, row ∈ l.map Wv.cells → row.length = 1 ∧ ∀ u, u ∈ row → u.oneCell' = true := by
  intro row hr
  obtain ⟨x, _, rfl⟩ := List.mem_map.1 hr
  exact ⟨rfl, by simp [Wv.cells, Value.oneCell']⟩
theorem co_A {r w : World} {M : List Nat} {F : List Res} {c : Cfg} {a : CAd} {g : Nat} (h : Sep r M (CO c a :: .blk g 63 [.int .i64 0, .int .i64 9, .int .i64 0, .int .i64 9] :: F) w) : Sep r M (CO (cfgA c) (adA a g) :: F) w := by
  replace h := Sep.all_open.1 h
  simp only [List.cons_append, List.nil_append] at h
  replace h := Z.nilsl h 93 7 none
  have h2 := mk_sl (sz := 2) (n := 2) (rows := [(⟨0, 9⟩ : Cl), ⟨0, 9⟩].map Cl.cells) (h.sub (L' := .blk g 63 [.int .i64 0, .int .i64 9, .int .i64 0, .int .i64 9] :: .sl 90 1 (.slice a.zA c.zones.length a.zc) (c.zones.map ztC) :: .sl 93 7 (.slice none 0 0) [] :: .sl 95 2 (.slice a.vA c.versions.length a.vc) (c.versions.map Vs.cells) :: F) (by repeat (first | exact Sub.rest | exact Sub.nil | exact .skip .rest | exact .skip (.skip .rest) | exact .skip (.skip (.skip .rest)) | apply Sub.keep | refine Sub.cons (by repeat (first | exact At.here | apply At.next)) ?_ | apply Sub.skip))) rfl (by omega) (by decide) (by intro row hrow; simp at hrow; subst hrow; exact ⟨rfl, by simp [Cl.cells, Value.oneCell']⟩) rfl
  exact (Sep.all_open (Ls := [_, _, _, _])).2 (h2.sub (by repeat (first | exact Sub.rest | exact Sub.nil | exact .skip .rest | exact .skip (.skip .rest) | exact .skip (.skip (.skip .rest)) | apply Sub.keep | refine Sub.cons (by repeat (first | exact At.here | apply At.next)) ?_ | apply Sub.skip)))
set_option maxHeartbeats 4000000 in
theorem awake37_z (r : World) (F : List Res) (w : World) (hS : Sep r [] F w) :
    Calls Tryz.prog 8 #[] w fun e w' => e = .returned (.bool true) ∧ Sep r [] F w' := by
  refine Z.enter Tryz.func8 Tryz.ntmps8 rfl rfl ?_
  repeat' (first|refine K ?_|(refine Sh.sa hS ?_;clear hS;intro w hS)|(refine K3 ?_;clear hS;intro g w hS hge)|((first|refine GS ?_ ?_|refine VB ?_ ?_)<;>intro hb<;>(try simp only [J1,J2,J3,J4,J5,J6] at hb)<;>(try (exfalso;first|omega|exact hb trivial))))
  rename Nat => g9
  replace hS := mk_sl (sz := 1) (n := 1) (rows := [(1 : Int)].map ztC) hS rfl (by omega) (by decide) (zt_ok _) rfl
  refine Z.eff (Z.cl (mconfig_z (some ⟨g9, 0, none⟩) [1] 1 _ _ _ hS (Reads.of_at .here) (by simp)) rfl ?_) rfl
  clear hS
  rintro e w ⟨c, a, rfl, ho, hS⟩
  refine ⟨_, rfl, ?_⟩
  repeat' (first|refine K ?_|(refine Sh.sa hS ?_;clear hS;intro w hS)|(refine K3 ?_;clear hS;intro g w hS hge)|((first|refine GS ?_ ?_|refine VB ?_ ?_)<;>intro hb<;>(try simp only [J1,J2,J3,J4,J5,J6] at hb)<;>(try (exfalso;first|omega|exact hb trivial))))
  rename_i g1 _ _ _ _ _ _
  rename Nat => gk
  replace hS := hS.sub (L' := CO c a :: .blk gk 63 [.int .i64 0, .int .i64 9, .int .i64 0, .int .i64 9] :: .blk g1 30 ((cfgA c).cl (adA a gk)) :: F) (by repeat (first | exact Sub.rest | exact Sub.nil | exact .skip .rest | exact .skip (.skip .rest) | exact .skip (.skip (.skip .rest)) | apply Sub.keep | refine Sub.cons (by repeat (first | exact At.here | apply At.next)) ?_ | apply Sub.skip))
  replace hS := co_A hS
  have hoA := cfgA_ok ho
  have hmk := fun s => mkA c s
  have hmn := fun s => mkN c s
  have hch := fun s => chkA c s
  have hsA : (newS (cfgA c)).ok (cfgA c) := newS_ok hoA.v.1
  refine Z.eff (Z.cl (pnew_z (cfgA c) (adA a gk) _ _ _ hS (Nat.zero_le _) (by show (2 : Nat) ≤ 1000; omega)) rfl ?_) rfl
  clear hS
  rintro e w ⟨b, rfl, hS⟩
  refine ⟨_, rfl, ?_⟩
  generalize newS (cfgA c) = s at *
  repeat' (first|refine K ?_|(refine Sh.sa hS ?_;clear hS;intro w hS)|(refine K3 ?_;clear hS;intro g w hS hge)|((first|refine GS ?_ ?_|refine VB ?_ ?_)<;>intro hb<;>(try simp only [J1,J2,J3,J4,J5,J6] at hb)<;>(try (exfalso;first|omega|exact hb trivial))))
  rename_i g2 _ _ _
  rename Nat => g22
  replace hS := hS.fo (R := .blk g22 _ _)
  replace hS := mk_sl (sz := 1) (n := 2) (rows := [(1 : Int), 0].map ztC) hS rfl (by omega) (by decide) (zt_ok _) rfl
  refine Z.eff (Z.cl (pmake_z (cfgA c) (adA a gk) s b (some ⟨g22, 0, none⟩) [1, 0] 2 _ _ _ hS (CfR.of_co (k := _) (by repeat (first | exact At.here | apply At.next))) hoA hsA (StC.of_so (k := _) (by repeat (first | exact At.here | apply At.next))) (Reads.of_at (e := 3) .here) (by simp)) rfl ?_) rfl
  clear hS
  rintro e w ⟨W, B, C, rfl, hW, hS⟩
  refine ⟨_, rfl, ?_⟩
  rw [hmk] at hW
  rw [hmk]
  repeat' (first|refine K ?_|(refine Sh.sa hS ?_;clear hS;intro w hS)|(refine K3 ?_;clear hS;intro g w hS hge)|((first|refine GS ?_ ?_|refine VB ?_ ?_)<;>intro hb<;>(try simp only [J1,J2,J3,J4,J5,J6] at hb)<;>(try (exfalso;first|omega|exact hb trivial))))
  rename_i g4 _ _
  rename Nat => g5
  replace hS := hS.fo (R := .blk g4 _ _)
  replace hS := mk_sl (sz := 1) (n := 2) (rows := [(0 : Int), 1].map ztC) hS rfl (by omega) (by decide) (zt_ok _) rfl
  replace hS := hS.fo (R := .blk g5 _ _)
  replace hS := mk_sl (sz := 1) (n := 1) (rows := [(⟨[0, 1], some ⟨g4, 0, none⟩, 2⟩ : Wv)].map Wv.cells) hS rfl (by omega) (by decide) (wv_ok _) rfl
  replace hS := wo_one (⟨[0, 1], some ⟨g4, 0, none⟩, 2⟩ : Wv) hS
  refine Z.eff (Z.cl (pcheck_z (cfgA c) (adA a gk) s b (some ⟨g5, 0, none⟩) 1 [⟨[0, 1], some ⟨g4, 0, none⟩, 2⟩] _ _ _ hS (CfR.of_co (k := _) (by repeat (first | exact At.here | apply At.next))) hoA hsA (StC.of_so (k := _) (by repeat (first | exact At.here | apply At.next))) (WvR.of_at .here) (by simp) (by simp)) rfl ?_) rfl
  clear hS
  rintro e w ⟨i, er, rfl, hck, hS⟩
  refine ⟨_, rfl, ?_⟩
  obtain ⟨rfl, rfl⟩ := hck.one (hch s)
  repeat' (first|refine K ?_|(refine Sh.sa hS ?_;clear hS;intro w hS)|(refine K3 ?_;clear hS;intro g w hS hge)|((first|refine GS ?_ ?_|refine VB ?_ ?_)<;>intro hb<;>(try simp only [J1,J2,J3,J4,J5,J6] at hb)<;>(try (exfalso;first|omega|exact hb trivial))))
  replace hS := Z.nilsl hS 3 1 none
  refine Z.eff (Z.cl (pmake_z (cfgA c) (adA a gk) s b none [] 0 _ _ _ hS (CfR.of_co (k := _) (by repeat (first | exact At.here | apply At.next))) hoA hsA (StC.of_so (k := _) (by repeat (first | exact At.here | apply At.next))) (Reads.of_at (e := 3) .here) (by simp)) rfl ?_) rfl
  clear hS
  rintro e w ⟨W3, B3, C3, rfl, hW3, hS⟩
  refine ⟨_, rfl, ?_⟩
  rw [hmn] at hW3
  rw [hmn]
  have hW4 : W3 = [] := List.map_eq_nil_iff.1 hW3
  subst hW4
  repeat' (first|refine K ?_|(refine Sh.sa hS ?_;clear hS;intro w hS)|(refine K3 ?_;clear hS;intro g w hS hge)|((first|refine GS ?_ ?_|refine VB ?_ ?_)<;>intro hb<;>(try simp only [J1,J2,J3,J4,J5,J6] at hb)<;>(try (exfalso;first|omega|exact hb trivial))))
  rename_i g6 _ _ g7 _ _
  rename Nat => g8
  replace hS := hS.fo (R := .blk g6 _ _)
  replace hS := mk_sl (sz := 1) (n := 1) (rows := [(0 : Int)].map ztC) hS rfl (by omega) (by decide) (zt_ok _) rfl
  replace hS := hS.fo (R := .blk g7 _ _)
  replace hS := mk_sl (sz := 1) (n := 1) (rows := [(1 : Int)].map ztC) hS rfl (by omega) (by decide) (zt_ok _) rfl
  replace hS := hS.fo (R := .blk g8 _ _)
  replace hS := mk_sl (sz := 1) (n := 2) (rows := [(⟨[0], some ⟨g6, 0, none⟩, 1⟩ : Wv), ⟨[1], some ⟨g7, 0, none⟩, 1⟩].map Wv.cells) hS rfl (by omega) (by decide) (wv_ok _) rfl
  replace hS := wo_two (⟨[0], some ⟨g6, 0, none⟩, 1⟩ : Wv) (⟨[1], some ⟨g7, 0, none⟩, 1⟩ : Wv) (hS.sub (.keep (.cons (.next .here) .rest)))
  have hWl : W.length = 2 := by
    have := congrArg List.length hW
    simpa using this
  have hWx : ∀ x, x ∈ W → x.l.length ≤ 100000 := fun x hx => by
    have h1 : x.l ∈ W.map Wv.l := List.mem_map.2 ⟨x, hx, rfl⟩
    rw [hW] at h1
    simp at h1
    rcases h1 with h1 | h1 <;> rw [h1] <;> decide
  refine Z.eff (Z.cl (same37_z B (some ⟨g8, 0, none⟩) C 2 W [⟨[0], some ⟨g6, 0, none⟩, 1⟩, ⟨[1], some ⟨g7, 0, none⟩, 1⟩] _ _ _ hS (WvR.of_at (k := _) (by repeat (first | exact At.here | apply At.next))) (WvR.of_at .here) (by omega) (by simp) hWx (by simp)) rfl ?_) rfl
  clear hS
  rintro e w ⟨rfl, hS⟩
  refine ⟨_, rfl, ?_⟩
  rw [hW]
  repeat' (first|refine K ?_|(refine Sh.sa hS ?_;clear hS;intro w hS)|(refine K3 ?_;clear hS;intro g w hS hge)|((first|refine GS ?_ ?_|refine VB ?_ ?_)<;>intro hb<;>(try simp only [J1,J2,J3,J4,J5,J6] at hb)<;>(try (exfalso;first|omega|exact hb trivial))))
  refine Dnt Tryz.results8 ?_
  exact ⟨rfl, hS.sb⟩
end Go.Proofs.YtmgpionlfemhdaaGreat
