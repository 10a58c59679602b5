/-
  Packed worlds.
-/
import Derived.Test.YtmgpionlfemhdaaGreatNUy
namespace Go.Proofs.YtmgpionlfemhdaaGreat
open Go.RowKit
set_option linter.unusedSimpArgs false
set_option linter.unusedVariables false
attribute [local irreducible] Res.blk Res.sl Res.all Res.ex Res.pure Res.star

theorem mem_inReg0 {c : Cfg} (h : 1 ≤ c.cells.length) (h0 : regOf c 0 = 0) : (0 : Int) ∈ inReg c 0 := by
  unfold inReg
  rw [List.mem_map]
  exact ⟨0, List.mem_filter.2 ⟨List.mem_range.2 (by omega), by simpa using h0⟩, rfl⟩
set_option maxRecDepth 8000 in
set_option maxHeartbeats 32000000 in
theorem packed_z (A : Option Addr) (l : List Int) (cap : Nat) (r : World) (F : List Res) (w : World) (hS : Sep r [] F w) (hrd : Reads r F 1 (.slice A l.length cap) (l.map ztC)) (hl : l.length ≤ 1000) :
    Calls Tryz.prog 27 #[.slice A l.length cap] w fun e w' => ∃ (c : Cfg) (a : CAd) (s : Sta) (b : SAd) (out : List En) (oA : Option Addr) (oc : Nat), e = .returned (.tuple #[c.val a, .slice oA out.length oc, s.vc c b]) ∧ c.ok ∧ s.ok c ∧ Sep r [] (CO c a :: SO c s b :: F) w' := by
  refine Z.enter Tryz.func27 Tryz.ntmps27 rfl rfl ?_
  repeat' (first|refine K ?_|(refine Sh.sa hS ?_;clear hS;intro w hS)|(refine K3 ?_;clear hS;intro g w hS hge)|((first|refine GS ?_ ?_|refine VB ?_ ?_)<;>intro hb<;>(try simp only [J1,J2,J3,J4,J5,J6] at hb)<;>(try (exfalso;first|omega|exact hb trivial))))
  rename_i gc _ _
  rename Nat => gs
  refine Z.eff (Z.cl (tnew_z A l.length cap _ _ _ hS) rfl ?_) rfl
  clear hS
  rintro e w ⟨gt, rfl, hS⟩
  refine ⟨_, rfl, ?_⟩
  repeat' (first|refine K ?_|(refine Sh.sa hS ?_;clear hS;intro w hS)|(refine K3 ?_;clear hS;intro g w hS hge)|((first|refine GS ?_ ?_|refine VB ?_ ?_)<;>intro hb<;>(try simp only [J1,J2,J3,J4,J5,J6] at hb)<;>(try (exfalso;first|omega|exact hb trivial))))
  refine Z.eff (Z.cl (pconfig_z gt A l cap _ _ _ hS (by first | exact hrd.app [_, _]) hl) rfl ?_) rfl
  clear hS
  rintro e w ⟨c, a, rfl, ⟨ho, hrg, hr0, htn, hls⟩, hS⟩
  refine ⟨_, rfl, ?_⟩
  repeat' (first|refine K ?_|(refine Sh.sa hS ?_;clear hS;intro w hS)|(refine K3 ?_;clear hS;intro g w hS hge)|((first|refine GS ?_ ?_|refine VB ?_ ?_)<;>intro hb<;>(try simp only [J1,J2,J3,J4,J5,J6] at hb)<;>(try (exfalso;first|omega|exact hb trivial))))
  rename Nat => g6
  refine Z.eff (Z.cl (snew_c c a _ _ _ hS ho) rfl ?_) rfl
  clear hS
  rintro e w ⟨s, b, rfl, hs, hS⟩
  refine ⟨_, rfl, ?_⟩
  repeat' (first|refine K ?_|(refine Sh.sa hS ?_;clear hS;intro w hS)|(refine K3 ?_;clear hS;intro g w hS hge)|((first|refine GS ?_ ?_|refine VB ?_ ?_)<;>intro hb<;>(try simp only [J1,J2,J3,J4,J5,J6] at hb)<;>(try (exfalso;first|omega|exact hb trivial))))
  rename_i g7 _ _ _
  rename Nat => g8
  have hck := ho.k
  have hct := ho.t
  have hlz := ho.l
  have hin : 0 < (inReg c 0).length := List.length_pos_of_mem (mem_inReg0 hck.1 hr0)
  have hin2 : (inReg c 0).length ≤ 16 := by have := inReg_len c 0 c.cells.length; rw [inReg_all] at this; omega
  replace hS := Z.nilsl hS 100 9 none
  replace hS := PSt.of (n := 0) s b [] none 0 hs (by simp) (hS.sub (L' := .blk g7 34 (s.cc c b) :: .blk g8 65 [.slice none 0 0] :: SO c s b :: .sl 100 9 (.slice none 0 0) [] :: .blk g6 30 (c.cl a) :: TpL gt A l.length cap :: CO c a :: .blk gs 34 (Sta.zero.cl SAd.zero) :: .blk gc 30 (Cfg.none.cl CAd.zero) :: F) (by repeat (first | exact Sub.rest | exact Sub.nil | exact .skip .rest | exact .skip (.skip .rest) | exact .skip (.skip (.skip .rest)) | apply Sub.keep | refine Sub.cons (by repeat (first | exact At.here | apply At.next)) ?_ | apply Sub.skip)))
  clear hs
  refine Z.lpS [10, 11, 12, 13, 14, 31, 32, 33, 34, 35, 36, 37, 38, 39, 40, 41, 42, 43, 44, 45, 46, 47, 48, 49, 50, 51, 52, 53, 54, 55, 56, 57, 58, 59, 60, 61, 62, 63, 64, 65, 66, 67, 68, 69, 70, 71, 72, 73, 74, 75, 76, 77, 78, 79, 80, 81, 82, 83, 84, 85, 86, 87, 88, 89, 90, 91, 92, 93, 94, 95, 96, 97, 98, 99, 100, 101, 102, 103, 104, 105, 106, 107, 108, 109, 110, 111, 112, 113, 114, 115, 116, 117, 118] (fun m w z => ∃ i : Nat, z = [(31, .int .i64 i)] ∧ i ≤ c.tenants.length ∧ m = c.tenants.length - i ∧ Sep r [] (PSt g7 g8 c (4 * i) :: .blk g6 30 (c.cl a) :: TpL gt A l.length cap :: CO c a :: .blk gs 34 (Sta.zero.cl SAd.zero) :: .blk gc 30 (Cfg.none.cl CAd.zero) :: F) w) _ [(31, .int .i64 (0 : Nat))] (by repeat (first | exact trivial | refine ⟨rfl, ?_⟩)) ⟨0, rfl, by omega, rfl, hS.sb⟩ ?_
  clear hS
  rintro m f0 w _ ⟨i, rfl, hi, rfl, hS⟩
  by_cases hlt : i < c.tenants.length
  · repeat' (first|refine K ?_|(refine Sh.sa hS ?_;clear hS;intro w hS)|(refine K3 ?_;clear hS;intro g w hS hge)|((first|refine GS ?_ ?_|refine VB ?_ ?_)<;>intro hb<;>(try simp only [J1,J2,J3,J4,J5,J6] at hb)<;>(try (exfalso;first|omega|exact hb trivial))))
    replace hS := hS.fo (R := TpL gt A l.length cap)
    refine Z.eff (Z.cl (next_z gt A l cap c.cells.length _ _ _ hS (by first | exact hrd.app [_, _, _, _, _] | exact hrd.app [_, _, _, _, _, _] | exact hrd.app [_, _, _, _, _, _, _] | exact hrd.app [_, _, _, _, _, _, _, _] | exact hrd.app [_, _, _, _, _, _, _, _, _] | exact hrd.app [_, _, _, _, _, _, _, _, _, _]) hl (by omega) (by omega)) rfl ?_) rfl
    clear hS
    rintro e w ⟨h0, rfl, hh0, hS⟩
    refine ⟨_, rfl, ?_⟩
    repeat' (first|refine Kn ?_|(refine Sh.sa hS ?_;clear hS;intro w hS)|(refine K3 ?_;clear hS;intro g w hS hge)|((first|refine GS ?_ ?_|refine VB ?_ ?_)<;>intro hb<;>(try simp only [J1,J2,J3,J4,J5,J6] at hb)<;>(try (exfalso;first|omega|exact hb trivial))))
    refine Z.thN ?_
    refine Z.seq ?_
    refine Z.cut [11, 39, 40, 41, 42, 43, 44, 45, 46, 47, 48, 49, 50] (fun w z => ∃ h : Int, z = [(11, .int .i64 h)] ∧ Sep r [] (PSt g7 g8 c (4 * i) :: .blk g6 30 (c.cl a) :: TpL gt A l.length cap :: CO c a :: .blk gs 34 (Sta.zero.cl SAd.zero) :: .blk gc 30 (Cfg.none.cl CAd.zero) :: F) w) ?_ ?_
    · repeat' (first|refine K ?_|(refine Sh.sa hS ?_;clear hS;intro w hS)|(refine K3 ?_;clear hS;intro g w hS hge)|((first|refine GS ?_ ?_|refine VB ?_ ?_)<;>intro hb<;>(try simp only [J1,J2,J3,J4,J5,J6] at hb)<;>(try (exfalso;first|omega|exact hb trivial))))
      replace hS := hS.fo (R := TpL gt A l.length cap)
      refine Z.eff (Z.cl (next_z gt A l cap 3 _ _ _ hS (by first | exact hrd.app [_, _, _, _, _] | exact hrd.app [_, _, _, _, _, _] | exact hrd.app [_, _, _, _, _, _, _] | exact hrd.app [_, _, _, _, _, _, _, _] | exact hrd.app [_, _, _, _, _, _, _, _, _] | exact hrd.app [_, _, _, _, _, _, _, _, _, _]) hl (by omega) (by omega)) rfl ?_) rfl
      clear hS
      rintro e w ⟨y, rfl, hy, hS⟩
      refine ⟨_, rfl, ?_⟩
      repeat' (first|refine K ?_|(refine Sh.sa hS ?_;clear hS;intro w hS)|(refine K3 ?_;clear hS;intro g w hS hge)|((first|refine GS ?_ ?_|refine VB ?_ ?_)<;>intro hb<;>(try simp only [J1,J2,J3,J4,J5,J6] at hb)<;>(try (exfalso;first|omega|exact hb trivial))))
      · refine D.startS (Lr := [.blk g6 30 (c.cl a)]) (hS.sb) 10 10 (by kernel_rfl) rfl ?_
        replace hS := hS.drew
        refine Sh.dp 2 4 ?_
        refine Sh.dl 0 5 ?_
        refine Sh.dl 3 13 ?_
        refine D.eff 1 15 rfl D.wantedN (by kernel_rfl) (by kernel_rfl) (fun _ _ h => h) ?_
        refine Z.cl (inreg_z c a 0 _ _ _ hS (CfR.of_co (by repeat (first | exact At.here | apply At.next))) ho) rfl ?_
        clear hS
        rintro e w ⟨A1, c1, rfl, hS⟩
        refine ⟨_, rfl, ?_⟩
        refine ⟨HM.s (hS.sb), ?_⟩
        refine D.eff 4 31 rfl D.wantedN (by kernel_rfl) (by kernel_rfl) (fun _ _ h => h) ?_
        refine Z.cl (inreg_z c a 0 _ _ _ hS (CfR.of_co (by repeat (first | exact At.here | apply At.next))) ho) rfl ?_
        clear hS
        rintro e w ⟨A2, c2, rfl, hS⟩
        refine ⟨_, rfl, ?_⟩
        refine ⟨HM.s (hS.sb), ?_⟩
        refine Sh.dp 5 63 ?_
        refine D.eff 6 127 rfl D.wantedN (by kernel_rfl) (by kernel_rfl) (fun _ _ h => h) ?_
        replace hS := hS.fo (R := TpL gt A l.length cap)
        refine Z.cl (next_z gt A l cap (inReg c 0).length _ _ _ hS (by first | exact hrd.app [_, _, _, _, _] | exact hrd.app [_, _, _, _, _, _] | exact hrd.app [_, _, _, _, _, _, _] | exact hrd.app [_, _, _, _, _, _, _, _] | exact hrd.app [_, _, _, _, _, _, _, _, _] | exact hrd.app [_, _, _, _, _, _, _, _, _, _]) hl (by omega) (by omega)) rfl ?_
        clear hS
        rintro e w ⟨q, rfl, hq, hS⟩
        refine ⟨_, rfl, ?_⟩
        have hql : q.toNat < (inReg c 0).length := by omega
        obtain ⟨gb, o, hAe, _, _⟩ := ((hS.focus (R := .sl 3 1 (.slice A1 (inReg c 0).length c1) ((inReg c 0).map ztC)) (by repeat (first | exact At.here | apply At.next))).slrows .here).mat (by omega) (q := q.toNat) (by simpa using hql)
        subst hAe
        have hra : ∀ W L k, Sep r [] L W → At L k (.sl 3 1 (.slice (some ⟨gb, o, none⟩) (inReg c 0).length c1) ((inReg c 0).map ztC)) → W.rangeAt gb (o + q.toNat * 1) (ztC (inReg c 0)[q.toNat]) := fun W L k hW hA => by
          have h3 := ((hW.focus hA).slrows .here).elem (q := q.toNat) (by omega) (by simpa using hql)
          simpa using h3
        refine ⟨HM.s (hS.sb), ?_⟩
        first | refine D.ixn 7 255 rfl D.wantedN (by kernel_rfl) rfl rfl rfl (by omega) ?_ | refine D.ix 7 255 rfl D.wantedN (by kernel_rfl) rfl rfl rfl (by omega) ?_ | refine D.ia 7 255 rfl D.wantedN (by kernel_rfl) rfl rfl rfl (by omega) ?_
        refine D.eff 8 511 rfl D.wantedN (by kernel_rfl) (by kernel_rfl) (fun _ _ h => h) ?_
        refine Z.ldR rfl (hra w _ _ hS (by repeat (first | exact At.here | apply At.next))) rfl ?_
        refine ⟨HM.s (hS.sb), ?_⟩
        refine Sh.dp 9 1023 ?_
        refine D.done (by kernel_rfl) ?_
        refine Z.cutE [(11, _)] (by repeat (first | with_reducible exact Same.refl | with_reducible exact Same.mix | ((with_reducible refine Same.upd ?_ ?_); · rfl) | ((with_reducible refine Same.cons ?_ ?_); · rfl) | with_reducible refine Same.nil ?_ | ((with_reducible refine Same.mixS ?_ ?_); · rfl))) (by repeat (first | exact trivial | refine ⟨rfl, ?_⟩)) ?_
        exact ⟨_, rfl, hS.sb⟩
      · refine Z.cutE [(11, _)] (by repeat (first | with_reducible exact Same.refl | with_reducible exact Same.mix | ((with_reducible refine Same.upd ?_ ?_); · rfl) | ((with_reducible refine Same.cons ?_ ?_); · rfl) | with_reducible refine Same.nil ?_ | ((with_reducible refine Same.mixS ?_ ?_); · rfl))) (by repeat (first | exact trivial | refine ⟨rfl, ?_⟩)) ?_
        exact ⟨_, rfl, hS.sb⟩
    clear hS
    rintro f0 w _ ⟨h, rfl, hS⟩
    repeat' (first|refine K ?_|(refine Sh.sa hS ?_;clear hS;intro w hS)|(refine K3 ?_;clear hS;intro g w hS hge)|((first|refine GS ?_ ?_|refine VB ?_ ?_)<;>intro hb<;>(try simp only [J1,J2,J3,J4,J5,J6] at hb)<;>(try (exfalso;first|omega|exact hb trivial))))
    replace hS := hS.fo (R := TpL gt A l.length cap)
    refine Z.eff (Z.cl (next_z gt A l cap c.cells.length _ _ _ hS (by first | exact hrd.app [_, _, _, _, _] | exact hrd.app [_, _, _, _, _, _] | exact hrd.app [_, _, _, _, _, _, _] | exact hrd.app [_, _, _, _, _, _, _, _] | exact hrd.app [_, _, _, _, _, _, _, _, _] | exact hrd.app [_, _, _, _, _, _, _, _, _, _]) hl (by omega) (by omega)) rfl ?_) rfl
    clear hS
    rintro e w ⟨k0, rfl, hk0, hS⟩
    refine ⟨_, rfl, ?_⟩
    repeat' (first|refine K ?_|(refine Sh.sa hS ?_;clear hS;intro w hS)|(refine K3 ?_;clear hS;intro g w hS hge)|((first|refine GS ?_ ?_|refine VB ?_ ?_)<;>intro hb<;>(try simp only [J1,J2,J3,J4,J5,J6] at hb)<;>(try (exfalso;first|omega|exact hb trivial))))
    obtain ⟨s, b, out, oA, oc, ⟨hs, hol⟩, hS⟩ := PSt.op (hS.fo (R := PSt g7 g8 c _))
    repeat' (first|refine K ?_|(refine Sh.sa hS ?_;clear hS;intro w hS)|(refine K3 ?_;clear hS;intro g w hS hge)|((first|refine GS ?_ ?_|refine VB ?_ ?_)<;>intro hb<;>(try simp only [J1,J2,J3,J4,J5,J6] at hb)<;>(try (exfalso;first|omega|exact hb trivial))))
    refine Z.eff (Z.cl (entry5_z _ _ _ _ _ _ _ _ hS) rfl ?_) rfl
    clear hS
    rintro e w ⟨rfl, hS⟩
    refine ⟨_, rfl, ?_⟩
    repeat' (first|refine K ?_|(refine Sh.sa hS ?_;clear hS;intro w hS)|(refine K3 ?_;clear hS;intro g w hS hge)|((first|refine GS ?_ ?_|refine VB ?_ ?_)<;>intro hb<;>(try simp only [J1,J2,J3,J4,J5,J6] at hb)<;>(try (exfalso;first|omega|exact hb trivial))))
    replace hS := PSt.of (n := 4 * i) s b out oA oc hs hol (hS.sub (L' := .blk g7 34 (s.cc c b) :: .blk g8 65 [.slice oA out.length oc] :: SO c s b :: .sl 100 9 (.slice oA out.length oc) (out.map En.cells) :: .blk g6 30 (c.cl a) :: TpL gt A l.length cap :: CO c a :: .blk gs 34 (Sta.zero.cl SAd.zero) :: .blk gc 30 (Cfg.none.cl CAd.zero) :: F) (by repeat (first | exact Sub.rest | exact Sub.nil | exact .skip .rest | exact .skip (.skip .rest) | exact .skip (.skip (.skip .rest)) | apply Sub.keep | refine Sub.cons (by repeat (first | exact At.here | apply At.next)) ?_ | apply Sub.skip)))
    refine Z.eff (Z.clf (caps := [.pointer (some ⟨g6, 0, .none⟩), .pointer (some ⟨g7, 0, .none⟩), .pointer (some ⟨g8, 0, .none⟩)]) rfl (try_z g6 g7 g8 (4 * i) c a _ _ _ _ hS (CfR.of_co (by repeat (first | exact At.here | apply At.next))) ho (by omega)) rfl ?_) rfl
    clear hS hs hol
    rintro e w ⟨rfl, hS⟩
    refine ⟨_, rfl, ?_⟩
    obtain ⟨s, b, out, oA, oc, ⟨hs, hol⟩, hS⟩ := PSt.op (hS.fo (R := PSt g7 g8 c _))
    repeat' (first|refine K ?_|(refine Sh.sa hS ?_;clear hS;intro w hS)|(refine K3 ?_;clear hS;intro g w hS hge)|((first|refine GS ?_ ?_|refine VB ?_ ?_)<;>intro hb<;>(try simp only [J1,J2,J3,J4,J5,J6] at hb)<;>(try (exfalso;first|omega|exact hb trivial))))
    refine Z.eff (Z.cl (entry5_z _ _ _ _ _ _ _ _ hS) rfl ?_) rfl
    clear hS
    rintro e w ⟨rfl, hS⟩
    refine ⟨_, rfl, ?_⟩
    repeat' (first|refine K ?_|(refine Sh.sa hS ?_;clear hS;intro w hS)|(refine K3 ?_;clear hS;intro g w hS hge)|((first|refine GS ?_ ?_|refine VB ?_ ?_)<;>intro hb<;>(try simp only [J1,J2,J3,J4,J5,J6] at hb)<;>(try (exfalso;first|omega|exact hb trivial))))
    replace hS := PSt.of (n := 4 * i + 1) s b out oA oc hs hol (hS.sub (L' := .blk g7 34 (s.cc c b) :: .blk g8 65 [.slice oA out.length oc] :: SO c s b :: .sl 100 9 (.slice oA out.length oc) (out.map En.cells) :: .blk g6 30 (c.cl a) :: TpL gt A l.length cap :: CO c a :: .blk gs 34 (Sta.zero.cl SAd.zero) :: .blk gc 30 (Cfg.none.cl CAd.zero) :: F) (by repeat (first | exact Sub.rest | exact Sub.nil | exact .skip .rest | exact .skip (.skip .rest) | exact .skip (.skip (.skip .rest)) | apply Sub.keep | refine Sub.cons (by repeat (first | exact At.here | apply At.next)) ?_ | apply Sub.skip)))
    refine Z.eff (Z.clf (caps := [.pointer (some ⟨g6, 0, .none⟩), .pointer (some ⟨g7, 0, .none⟩), .pointer (some ⟨g8, 0, .none⟩)]) rfl (try_z g6 g7 g8 (4 * i + 1) c a _ _ _ _ hS (CfR.of_co (by repeat (first | exact At.here | apply At.next))) ho (by omega)) rfl ?_) rfl
    clear hS hs hol
    rintro e w ⟨rfl, hS⟩
    refine ⟨_, rfl, ?_⟩
    obtain ⟨s, b, out, oA, oc, ⟨hs, hol⟩, hS⟩ := PSt.op (hS.fo (R := PSt g7 g8 c _))
    repeat' (first|refine K ?_|(refine Sh.sa hS ?_;clear hS;intro w hS)|(refine K3 ?_;clear hS;intro g w hS hge)|((first|refine GS ?_ ?_|refine VB ?_ ?_)<;>intro hb<;>(try simp only [J1,J2,J3,J4,J5,J6] at hb)<;>(try (exfalso;first|omega|exact hb trivial))))
    refine Z.eff (Z.cl (entry5_z _ _ _ _ _ _ _ _ hS) rfl ?_) rfl
    clear hS
    rintro e w ⟨rfl, hS⟩
    refine ⟨_, rfl, ?_⟩
    repeat' (first|refine K ?_|(refine Sh.sa hS ?_;clear hS;intro w hS)|(refine K3 ?_;clear hS;intro g w hS hge)|((first|refine GS ?_ ?_|refine VB ?_ ?_)<;>intro hb<;>(try simp only [J1,J2,J3,J4,J5,J6] at hb)<;>(try (exfalso;first|omega|exact hb trivial))))
    replace hS := PSt.of (n := 4 * i + 2) s b out oA oc hs hol (hS.sub (L' := .blk g7 34 (s.cc c b) :: .blk g8 65 [.slice oA out.length oc] :: SO c s b :: .sl 100 9 (.slice oA out.length oc) (out.map En.cells) :: .blk g6 30 (c.cl a) :: TpL gt A l.length cap :: CO c a :: .blk gs 34 (Sta.zero.cl SAd.zero) :: .blk gc 30 (Cfg.none.cl CAd.zero) :: F) (by repeat (first | exact Sub.rest | exact Sub.nil | exact .skip .rest | exact .skip (.skip .rest) | exact .skip (.skip (.skip .rest)) | apply Sub.keep | refine Sub.cons (by repeat (first | exact At.here | apply At.next)) ?_ | apply Sub.skip)))
    refine Z.eff (Z.clf (caps := [.pointer (some ⟨g6, 0, .none⟩), .pointer (some ⟨g7, 0, .none⟩), .pointer (some ⟨g8, 0, .none⟩)]) rfl (try_z g6 g7 g8 (4 * i + 2) c a _ _ _ _ hS (CfR.of_co (by repeat (first | exact At.here | apply At.next))) ho (by omega)) rfl ?_) rfl
    clear hS hs hol
    rintro e w ⟨rfl, hS⟩
    refine ⟨_, rfl, ?_⟩
    obtain ⟨s, b, out, oA, oc, ⟨hs, hol⟩, hS⟩ := PSt.op (hS.fo (R := PSt g7 g8 c _))
    have hlt2 : i < s.tenants.length := by rw [hs.tl]; exact hlt
    obtain ⟨gb, o, hA, hra⟩ := reads_ts ((StC.of_so (k := _) .here).str hs) [_, _] hS hlt2
    obtain ⟨tA, tc, kA, kc⟩ := b
    simp only at hA
    subst hA
    generalize s.tenants[i] = x at *
    obtain ⟨pl, sh, xh, xs, xn, xt, xe, xw⟩ := x
    cases pl
    · repeat' (first|refine K ?_|(refine Sh.sa hS ?_;clear hS;intro w hS)|(refine K3 ?_;clear hS;intro g w hS hge)|((first|refine GS ?_ ?_|refine VB ?_ ?_)<;>intro hb<;>(try simp only [J1,J2,J3,J4,J5,J6] at hb)<;>(try (exfalso;first|omega|exact hb trivial))))
      replace hS := PSt.of (n := 4 * i + 3) s ⟨some ⟨gb, o, none⟩, tc, kA, kc⟩ out oA oc hs hol (hS.sub (L' := .blk g7 34 (s.cc c ⟨some ⟨gb, o, none⟩, tc, kA, kc⟩) :: .blk g8 65 [.slice oA out.length oc] :: SO c s ⟨some ⟨gb, o, none⟩, tc, kA, kc⟩ :: .sl 100 9 (.slice oA out.length oc) (out.map En.cells) :: .blk g6 30 (c.cl a) :: TpL gt A l.length cap :: CO c a :: .blk gs 34 (Sta.zero.cl SAd.zero) :: .blk gc 30 (Cfg.none.cl CAd.zero) :: F) (by repeat (first | exact Sub.rest | exact Sub.nil | exact .skip .rest | exact .skip (.skip .rest) | exact .skip (.skip (.skip .rest)) | apply Sub.keep | refine Sub.cons (by repeat (first | exact At.here | apply At.next)) ?_ | apply Sub.skip)))
      refine Sh.again (c.tenants.length - (i + 1)) [(31, .int .i64 (i + 1 : Nat))] ?_
      exact ⟨i + 1, rfl, by omega, by omega, (PSt.le (hS.fo (R := PSt g7 g8 c _)) (m := 4 * (i + 1)) (by omega)).sub (by repeat (first | exact Sub.rest | exact Sub.nil | exact .skip .rest | exact .skip (.skip .rest) | exact .skip (.skip (.skip .rest)) | apply Sub.keep | refine Sub.cons (by repeat (first | exact At.here | apply At.next)) ?_ | apply Sub.skip))⟩
    · repeat' (first|refine K ?_|(refine Sh.sa hS ?_;clear hS;intro w hS)|(refine K3 ?_;clear hS;intro g w hS hge)|((first|refine GS ?_ ?_|refine VB ?_ ?_)<;>intro hb<;>(try simp only [J1,J2,J3,J4,J5,J6] at hb)<;>(try (exfalso;first|omega|exact hb trivial))))
      replace hS := hS.fo (R := TpL gt A l.length cap)
      refine Z.eff (Z.cl (next_z gt A l cap 4 _ _ _ hS (by first | exact hrd.app [_, _, _, _, _] | exact hrd.app [_, _, _, _, _, _] | exact hrd.app [_, _, _, _, _, _, _] | exact hrd.app [_, _, _, _, _, _, _, _] | exact hrd.app [_, _, _, _, _, _, _, _, _] | exact hrd.app [_, _, _, _, _, _, _, _, _, _]) hl (by omega) (by omega)) rfl ?_) rfl
      clear hS
      rintro e w ⟨y, rfl, hy, hS⟩
      refine ⟨_, rfl, ?_⟩
      repeat' (first|refine K ?_|(refine Sh.sa hS ?_;clear hS;intro w hS)|(refine K3 ?_;clear hS;intro g w hS hge)|((first|refine GS ?_ ?_|refine VB ?_ ?_)<;>intro hb<;>(try simp only [J1,J2,J3,J4,J5,J6] at hb)<;>(try (exfalso;first|omega|exact hb trivial))))
      · refine Z.eff (Z.cl (entry5_z _ _ _ _ _ _ _ _ hS) rfl ?_) rfl
        clear hS
        rintro e w ⟨rfl, hS⟩
        refine ⟨_, rfl, ?_⟩
        repeat' (first|refine K ?_|(refine Sh.sa hS ?_;clear hS;intro w hS)|(refine K3 ?_;clear hS;intro g w hS hge)|((first|refine GS ?_ ?_|refine VB ?_ ?_)<;>intro hb<;>(try simp only [J1,J2,J3,J4,J5,J6] at hb)<;>(try (exfalso;first|omega|exact hb trivial))))
        rename Nat => ge
        refine D.startS (Lr := [.blk g7 34 (s.cc c ⟨some ⟨gb, o, none⟩, tc, kA, kc⟩), .blk g6 30 (c.cl a)]) (hS.sb) 14 15 (by kernel_rfl) rfl ?_
        replace hS := hS.drew
        refine Sh.dp 0 1 ?_
        refine Sh.dp 2 5 ?_
        refine Sh.dp 4 21 ?_
        refine Sh.dp 5 53 ?_
        refine Sh.dp 9 565 ?_
        refine Sh.dl 1 567 ?_
        refine Sh.dl 3 575 ?_
        refine Sh.dl 6 639 ?_
        refine D.eff 7 767 rfl D.wantedN (by kernel_rfl) (by kernel_rfl) (fun _ _ h => h) ?_
        replace hS := hS.fo (R := TpL gt A l.length cap)
        refine Z.cl (range_z gt A l cap 1 c.lease _ _ _ hS (by first | exact hrd.app [_, _, _, _, _] | exact hrd.app [_, _, _, _, _, _] | exact hrd.app [_, _, _, _, _, _, _] | exact hrd.app [_, _, _, _, _, _, _, _] | exact hrd.app [_, _, _, _, _, _, _, _, _] | exact hrd.app [_, _, _, _, _, _, _, _, _, _]) hl (by omega) (by omega) (by omega)) rfl ?_
        clear hS
        rintro e w ⟨z, rfl, hz, hS⟩
        refine ⟨_, rfl, ?_⟩
        refine ⟨HM.s (hS.sb), ?_⟩
        refine D.sumW 8 1023 rfl D.wantedN (by kernel_rfl) rfl ?_
        refine D.eff 10 2047 rfl D.wantedN (by kernel_rfl) (by kernel_rfl) (fun _ _ h => h) ?_
        refine Z.st hS rfl (by repeat (first | exact At.here | apply At.next)) rfl rfl ?_
        clear hS; intro w hS
        refine ⟨HM.s (hS.sb), ?_⟩
        refine Sh.dp 11 4095 ?_
        refine D.eff 12 8191 rfl D.wantedN (by kernel_rfl) (by kernel_rfl) (fun _ _ h => h) ?_
        refine Z.st hS rfl (by repeat (first | exact At.here | apply At.next)) rfl rfl ?_
        clear hS; intro w hS
        refine ⟨HM.s (hS.sb), ?_⟩
        refine Sh.dp 13 16383 ?_
        refine D.eff 14 32767 rfl D.wantedN (by kernel_rfl) (by kernel_rfl) (fun _ _ h => h) ?_
        refine Z.st hS rfl (by repeat (first | exact At.here | apply At.next)) rfl rfl ?_
        clear hS; intro w hS
        refine ⟨HM.last (by kernel_rfl), ?_⟩
        refine D.done (by kernel_rfl) ?_
        repeat' (first|refine K ?_|(refine Sh.sa hS ?_;clear hS;intro w hS)|(refine K3 ?_;clear hS;intro g w hS hge)|((first|refine GS ?_ ?_|refine VB ?_ ?_)<;>intro hb<;>(try simp only [J1,J2,J3,J4,J5,J6] at hb)<;>(try (exfalso;first|omega|exact hb trivial))))
        replace hS := PSt.of (n := 4 * i + 3) s ⟨some ⟨gb, o, none⟩, tc, kA, kc⟩ out oA oc hs hol (hS.sub (L' := .blk g7 34 (s.cc c ⟨some ⟨gb, o, none⟩, tc, kA, kc⟩) :: .blk g8 65 [.slice oA out.length oc] :: SO c s ⟨some ⟨gb, o, none⟩, tc, kA, kc⟩ :: .sl 100 9 (.slice oA out.length oc) (out.map En.cells) :: .blk g6 30 (c.cl a) :: TpL gt A l.length cap :: CO c a :: .blk gs 34 (Sta.zero.cl SAd.zero) :: .blk gc 30 (Cfg.none.cl CAd.zero) :: F) (by repeat (first | exact Sub.rest | exact Sub.nil | exact .skip .rest | exact .skip (.skip .rest) | exact .skip (.skip (.skip .rest)) | apply Sub.keep | refine Sub.cons (by repeat (first | exact At.here | apply At.next)) ?_ | apply Sub.skip)))
        refine Z.eff (Z.clf (caps := [.pointer (some ⟨g6, 0, .none⟩), .pointer (some ⟨g7, 0, .none⟩), .pointer (some ⟨g8, 0, .none⟩)]) rfl (try_z g6 g7 g8 (4 * i + 3) c a ⟨2, s.tick, (i : Nat), xh, -1, 1, s.tick, IntKind.i64.wrap (s.tick + z), 0⟩ _ _ _ hS (CfR.of_co (by repeat (first | exact At.here | apply At.next))) ho (by omega)) rfl ?_) rfl
        clear hS hs hol
        rintro e w ⟨rfl, hS⟩
        refine ⟨_, rfl, ?_⟩
        repeat' (first|refine K ?_|(refine Sh.sa hS ?_;clear hS;intro w hS)|(refine K3 ?_;clear hS;intro g w hS hge)|((first|refine GS ?_ ?_|refine VB ?_ ?_)<;>intro hb<;>(try simp only [J1,J2,J3,J4,J5,J6] at hb)<;>(try (exfalso;first|omega|exact hb trivial))))
        refine Sh.again (c.tenants.length - (i + 1)) [(31, .int .i64 (i + 1 : Nat))] ?_
        exact ⟨i + 1, rfl, by omega, by omega, (PSt.le (hS.fo (R := PSt g7 g8 c _)) (m := 4 * (i + 1)) (by omega)).sub (by repeat (first | exact Sub.rest | exact Sub.nil | exact .skip .rest | exact .skip (.skip .rest) | exact .skip (.skip (.skip .rest)) | apply Sub.keep | refine Sub.cons (by repeat (first | exact At.here | apply At.next)) ?_ | apply Sub.skip))⟩
      · replace hS := PSt.of (n := 4 * i + 3) s ⟨some ⟨gb, o, none⟩, tc, kA, kc⟩ out oA oc hs hol (hS.sub (L' := .blk g7 34 (s.cc c ⟨some ⟨gb, o, none⟩, tc, kA, kc⟩) :: .blk g8 65 [.slice oA out.length oc] :: SO c s ⟨some ⟨gb, o, none⟩, tc, kA, kc⟩ :: .sl 100 9 (.slice oA out.length oc) (out.map En.cells) :: .blk g6 30 (c.cl a) :: TpL gt A l.length cap :: CO c a :: .blk gs 34 (Sta.zero.cl SAd.zero) :: .blk gc 30 (Cfg.none.cl CAd.zero) :: F) (by repeat (first | exact Sub.rest | exact Sub.nil | exact .skip .rest | exact .skip (.skip .rest) | exact .skip (.skip (.skip .rest)) | apply Sub.keep | refine Sub.cons (by repeat (first | exact At.here | apply At.next)) ?_ | apply Sub.skip)))
        refine Sh.again (c.tenants.length - (i + 1)) [(31, .int .i64 (i + 1 : Nat))] ?_
        exact ⟨i + 1, rfl, by omega, by omega, (PSt.le (hS.fo (R := PSt g7 g8 c _)) (m := 4 * (i + 1)) (by omega)).sub (by repeat (first | exact Sub.rest | exact Sub.nil | exact .skip .rest | exact .skip (.skip .rest) | exact .skip (.skip (.skip .rest)) | apply Sub.keep | refine Sub.cons (by repeat (first | exact At.here | apply At.next)) ?_ | apply Sub.skip))⟩
  have hfin : ∀ w, Sep r [] (PSt g7 g8 c (4 * i) :: .blk g6 30 (c.cl a) :: TpL gt A l.length cap :: CO c a :: .blk gs 34 (Sta.zero.cl SAd.zero) :: .blk gc 30 (Cfg.none.cl CAd.zero) :: F) w → Sep r [] (PSt g7 g8 c (200 + 0) :: .blk g6 30 (c.cl a) :: TpL gt A l.length cap :: CO c a :: .blk gs 34 (Sta.zero.cl SAd.zero) :: .blk gc 30 (Cfg.none.cl CAd.zero) :: F) w := fun w h => PSt.le h (by omega)
  replace hS := hfin _ hS
  clear hfin
  repeat' (first|refine K ?_|(refine Sh.sa hS ?_;clear hS;intro w hS)|(refine K3 ?_;clear hS;intro g w hS hge)|((first|refine GS ?_ ?_|refine VB ?_ ?_)<;>intro hb<;>(try simp only [J1,J2,J3,J4,J5,J6] at hb)<;>(try (exfalso;first|omega|exact hb trivial))))
  clear hlt hi hb
  refine Z.lpS [15, 16, 17, 18, 19, 20, 119, 120, 121, 122, 123, 124, 125, 126, 127, 128, 129, 130, 131, 132, 133, 134, 135, 136, 137, 138, 139, 140, 141, 142, 143, 144, 145, 146, 147, 148, 149, 150, 151, 152, 153, 154, 155, 156, 157, 158, 159, 160, 161, 162, 163, 164, 165, 166, 167, 168, 169, 170, 171, 172, 173, 174, 175, 176, 177, 178, 179, 180, 181, 182, 183, 184, 185, 186, 187, 188, 189, 190, 191, 192, 193, 194, 195, 196, 197, 198, 199, 200, 201, 202, 203, 204, 205, 206, 207, 208, 209, 210, 211, 212, 213, 214, 215, 216, 217, 218, 219, 220, 221, 222, 223, 224, 225, 226, 227, 228, 229, 230, 231, 232, 233, 234, 235, 236, 237, 238, 239, 240, 241, 242, 243, 244, 245, 246, 247, 248, 249, 250, 251, 252, 253, 254, 255, 256, 257, 258, 259, 260, 261, 262, 263, 264, 265, 266] (fun m w z => ∃ k : Nat, z = [(15, .int .i64 k)] ∧ k ≤ 12 ∧ m = 12 - k ∧ Sep r [] (PSt g7 g8 c (200 + k) :: .blk g6 30 (c.cl a) :: TpL gt A l.length cap :: CO c a :: .blk gs 34 (Sta.zero.cl SAd.zero) :: .blk gc 30 (Cfg.none.cl CAd.zero) :: F) w) _ [(15, .int .i64 (0 : Nat))] (by repeat (first | exact trivial | refine ⟨rfl, ?_⟩)) ⟨0, rfl, by omega, rfl, hS.sb⟩ ?_
  clear hS
  rintro m f0 w _ ⟨k, rfl, hk, rfl, hS⟩
  have hend : ∀ w : World, True := fun _ => trivial
  refine Z.seq ?_
  repeat' (first|refine K ?_|(refine Sh.sa hS ?_;clear hS;intro w hS)|(refine K3 ?_;clear hS;intro g w hS hge)|((first|refine GS ?_ ?_|refine VB ?_ ?_)<;>intro hb<;>(try simp only [J1,J2,J3,J4,J5,J6] at hb)<;>(try (exfalso;first|omega|exact hb trivial))))
  · refine Z.eff (Z.cl (more_z gt A l.length cap _ _ _ (hS.fo (R := TpL gt A l.length cap))) rfl ?_) rfl
    clear hS
    rintro e w ⟨mo, rfl, hS⟩
    refine ⟨_, rfl, ?_⟩
    cases mo
    · repeat' (first|refine K ?_|(refine Sh.sa hS ?_;clear hS;intro w hS)|(refine K3 ?_;clear hS;intro g w hS hge)|((first|refine GS ?_ ?_|refine VB ?_ ?_)<;>intro hb<;>(try simp only [J1,J2,J3,J4,J5,J6] at hb)<;>(try (exfalso;first|omega|exact hb trivial))))
      obtain ⟨s, b, out, oA, oc, ⟨hs, hol⟩, hS⟩ := PSt.op (hS.fo (R := PSt g7 g8 c _))
      refine D.startS (Lr := [.blk g7 34 (s.cc c b), .blk g6 30 (c.cl a), .blk g8 65 [.slice oA out.length oc]]) (hS.sb) 5 6 (by kernel_rfl) rfl ?_
      replace hS := hS.drew
      refine Sh.dl 0 1 ?_
      refine Sh.dl 1 3 ?_
      refine Sh.dl 2 7 ?_
      refine D.eff 3 15 rfl D.wantedN (by kernel_rfl) (by kernel_rfl) (fun _ _ h => h) ?_
      refine Z.st hS rfl (by repeat (first | exact At.here | apply At.next)) rfl rfl ?_
      clear hS; intro w hS
      refine ⟨HM.s (hS.sb), ?_⟩
      refine Sh.dp 4 31 ?_
      refine D.eff 5 63 rfl D.wantedN (by kernel_rfl) (by kernel_rfl) (fun _ _ h => h) ?_
      refine Z.st hS rfl (by repeat (first | exact At.here | apply At.next)) rfl rfl ?_
      clear hS; intro w hS
      refine ⟨HM.last (by kernel_rfl), ?_⟩
      refine D.done (by kernel_rfl) ?_
      repeat' (first|refine K ?_|(refine Sh.sa hS ?_;clear hS;intro w hS)|(refine K3 ?_;clear hS;intro g w hS hge)|((first|refine GS ?_ ?_|refine VB ?_ ?_)<;>intro hb<;>(try simp only [J1,J2,J3,J4,J5,J6] at hb)<;>(try (exfalso;first|omega|exact hb trivial))))
      first | refine Z.done hS Tryz.results27 (Z.RV.cell rfl (by repeat (first | exact At.here | apply At.next)) rfl (Z.RV.tmp rfl (Z.RV.cell rfl (by repeat (first | exact At.here | apply At.next)) rfl Z.RV.nil))) ?_ | refine Z.doneN hS Tryz.results27 (Z.RV.cell rfl (by repeat (first | exact At.here | apply At.next)) rfl (Z.RV.tmp rfl (Z.RV.cell rfl (by repeat (first | exact At.here | apply At.next)) rfl Z.RV.nil))) ?_
      exact ⟨c, a, s, b, out, oA, oc, rfl, ho, hs, hS.sb⟩
    · repeat' (first|refine K ?_|(refine Sh.sa hS ?_;clear hS;intro w hS)|(refine K3 ?_;clear hS;intro g w hS hge)|((first|refine GS ?_ ?_|refine VB ?_ ?_)<;>intro hb<;>(try simp only [J1,J2,J3,J4,J5,J6] at hb)<;>(try (exfalso;first|omega|exact hb trivial))))
      obtain ⟨s, b, out, oA, oc, ⟨hs, hol⟩, hS⟩ := PSt.op (hS.fo (R := PSt g7 g8 c _))
      have hct0 : 1 ≤ c.tenants.length := by omega
      refine D.startS (Lr := [.blk g7 34 (s.cc c b), .blk g6 30 (c.cl a)]) (hS.sb) 18 18 (by kernel_rfl) rfl ?_
      replace hS := hS.drew
      refine Sh.dp 0 1 ?_
      refine Sh.dp 1 3 ?_
      refine Sh.dp 5 35 ?_
      refine Sh.dp 6 99 ?_
      refine Sh.dp 10 1123 ?_
      refine Sh.dp 12 5219 ?_
      refine Sh.dl 2 5223 ?_
      refine Sh.dp 3 5231 ?_
      refine Sh.dl 7 5359 ?_
      refine Sh.dp 8 5615 ?_
      refine Sh.dl 11 7663 ?_
      refine D.eff 4 7679 rfl D.wantedN (by kernel_rfl) (by kernel_rfl) (fun _ _ h => h) ?_
      replace hS := hS.fo (R := TpL gt A l.length cap)
      refine Z.cl (next_z gt A l cap c.tenants.length _ _ _ hS (by first | exact hrd.app [_, _, _, _, _] | exact hrd.app [_, _, _, _, _, _] | exact hrd.app [_, _, _, _, _, _, _] | exact hrd.app [_, _, _, _, _, _, _, _] | exact hrd.app [_, _, _, _, _, _, _, _, _] | exact hrd.app [_, _, _, _, _, _, _, _, _, _]) hl (by omega) (by omega)) rfl ?_
      clear hS
      rintro e w ⟨i0, rfl, hi0, hS⟩
      refine ⟨_, rfl, ?_⟩
      refine ⟨HM.s (hS.sb), ?_⟩
      refine D.eff 9 8191 rfl D.wantedN (by kernel_rfl) (by kernel_rfl) (fun _ _ h => h) ?_
      replace hS := hS.fo (R := TpL gt A l.length cap)
      refine Z.cl (next_z gt A l cap c.cells.length _ _ _ hS (by first | exact hrd.app [_, _, _, _, _] | exact hrd.app [_, _, _, _, _, _] | exact hrd.app [_, _, _, _, _, _, _] | exact hrd.app [_, _, _, _, _, _, _, _] | exact hrd.app [_, _, _, _, _, _, _, _, _] | exact hrd.app [_, _, _, _, _, _, _, _, _, _]) hl (by omega) (by omega)) rfl ?_
      clear hS
      rintro e w ⟨k0, rfl, hk0, hS⟩
      refine ⟨_, rfl, ?_⟩
      refine ⟨HM.s (hS.sb), ?_⟩
      refine D.eff 13 16383 rfl D.wantedN (by kernel_rfl) (by kernel_rfl) (fun _ _ h => h) ?_
      replace hS := hS.fo (R := TpL gt A l.length cap)
      refine Z.cl (next_z gt A l cap 2 _ _ _ hS (by first | exact hrd.app [_, _, _, _, _] | exact hrd.app [_, _, _, _, _, _] | exact hrd.app [_, _, _, _, _, _, _] | exact hrd.app [_, _, _, _, _, _, _, _] | exact hrd.app [_, _, _, _, _, _, _, _, _] | exact hrd.app [_, _, _, _, _, _, _, _, _, _]) hl (by omega) (by omega)) rfl ?_
      clear hS
      rintro e w ⟨z, rfl, hz, hS⟩
      refine ⟨_, rfl, ?_⟩
      refine ⟨HM.s (hS.sb), ?_⟩
      refine D.sumW 14 32767 rfl D.wantedN (by kernel_rfl) rfl ?_
      refine Sh.dp 15 65535 ?_
      refine Sh.dp 16 131071 ?_
      refine Sh.dp 17 262143 ?_
      refine D.done (by kernel_rfl) ?_
      generalize IntKind.i64.wrap (s.tick + z) = tk at *
      obtain ⟨i, rfl⟩ := Int.eq_ofNat_of_zero_le hi0.1
      obtain ⟨q, rfl⟩ := Int.eq_ofNat_of_zero_le hk0.1
      have hi2 : i < s.tenants.length := by rw [hs.tl]; omega
      have hq2 : q < s.cells.length := by rw [hs.kl]; omega
      obtain ⟨gb, o, hA, _⟩ := reads_ts ((StC.of_so (k := _) .here).str hs) [] (hS.fo (R := SO c s b)) hi2
      obtain ⟨gk, o2, hA2, _⟩ := reads_ks ((StC.of_so (k := _) .here).str hs) [] (hS.fo (R := SO c s b)) hq2
      obtain ⟨tA, tc, kA, kc⟩ := b
      simp only at hA hA2
      subst hA hA2
      have hat : ∀ (W : World) (L k : List Res), Sep r [] L W → At L k (SO c s (⟨some ⟨gb, o, none⟩, tc, some ⟨gk, o2, none⟩, kc⟩ : SAd)) → W.rangeAt gb (o + i * 12) (s.tenants[i]).cells := fun W L k hW hA => at_ts (L := []) ((StC.of_so hA).str hs) hW rfl hi2
      have hak : ∀ (n : Nat) (hn : n < s.cells.length) (W : World) (L k : List Res), Sep r [] L W → At L k (SO c s (⟨some ⟨gb, o, none⟩, tc, some ⟨gk, o2, none⟩, kc⟩ : SAd)) → W.rangeAt gk (o2 + n * 4) (s.cells[n]).cells := fun n hn W L k hW hA => at_ks (L := []) ((StC.of_so hA).str hs) hW rfl hn
      have hxo : TOk c.cells.length s.tenants[i] := hs.t _ (List.getElem_mem hi2)
      have hxh := hxo.h
      generalize s.tenants[i] = x at *
      repeat' (first|refine K ?_|(refine Sh.sa hS ?_;clear hS;intro w hS)|(refine K3 ?_;clear hS;intro g w hS hge)|((first|refine GS ?_ ?_|refine VB ?_ ?_)<;>intro hb<;>(try simp only [J1,J2,J3,J4,J5,J6] at hb)<;>(try (exfalso;first|omega|exact hb trivial))))
      refine Z.eff (Z.cl (entry5_z _ _ _ _ _ _ _ _ hS) rfl ?_) rfl
      clear hS
      rintro e w ⟨rfl, hS⟩
      refine ⟨_, rfl, ?_⟩
      repeat' (first|refine Kn ?_|(refine Sh.sa hS ?_;clear hS;intro w hS)|(refine K3 ?_;clear hS;intro g w hS hge)|((first|refine GS ?_ ?_|refine VB ?_ ?_)<;>intro hb<;>(try simp only [J1,J2,J3,J4,J5,J6] at hb)<;>(try (exfalso;first|omega|exact hb trivial))))
      refine Z.thN ?_
      refine Z.seq ?_
      rename Nat => ge
      have hbk := ho.e
      refine Z.cut [20, 144, 145, 146, 147, 148, 149, 150, 151, 152, 153, 154, 155, 156, 157, 158, 159, 160, 161, 162, 163, 164, 165, 166, 167, 168, 169, 170, 171, 172, 173, 174, 175, 176, 177, 178, 179, 180, 181, 182, 183, 184, 185, 186, 187, 188, 189, 190, 191, 192, 193, 194, 195, 196, 197, 198, 199, 200, 201, 202, 203, 204, 205, 206, 207, 208, 209, 210, 211, 212, 213, 214, 215, 216, 217, 218, 219, 220, 221, 222, 223, 224, 225, 226, 227, 228, 229, 230, 231, 232, 233, 234, 235, 236, 237, 238, 239, 240, 241, 242, 243, 244, 245, 246, 247, 248, 249, 250, 251, 252, 253, 254, 255, 256, 257, 258, 259, 260, 261, 262, 263] (fun w z => ∃ e : En, z = [] ∧ Sep r [] (.blk ge 100 e.cells :: .blk g7 34 (s.cc c (⟨some ⟨gb, o, none⟩, tc, some ⟨gk, o2, none⟩, kc⟩ : SAd)) :: .blk g8 65 [.slice oA out.length oc] :: SO c s (⟨some ⟨gb, o, none⟩, tc, some ⟨gk, o2, none⟩, kc⟩ : SAd) :: .sl 100 9 (.slice oA out.length oc) (out.map En.cells) :: .blk g6 30 (c.cl a) :: TpL gt A l.length cap :: CO c a :: .blk gs 34 (Sta.zero.cl SAd.zero) :: .blk gc 30 (Cfg.none.cl CAd.zero) :: F) w) ?_ ?_
      · repeat' (first|refine K ?_|(refine Sh.sa hS ?_;clear hS;intro w hS)|(refine K3 ?_;clear hS;intro g w hS hge)|((first|refine GS ?_ ?_|refine VB ?_ ?_)<;>intro hb<;>(try simp only [J1,J2,J3,J4,J5,J6] at hb)<;>(try (exfalso;first|omega|exact hb trivial))))
        replace hS := hS.fo (R := TpL gt A l.length cap)
        refine Z.eff (Z.cl (next_z gt A l cap 10 _ _ _ hS (by first | exact hrd.app [_, _, _, _, _] | exact hrd.app [_, _, _, _, _, _] | exact hrd.app [_, _, _, _, _, _, _] | exact hrd.app [_, _, _, _, _, _, _, _] | exact hrd.app [_, _, _, _, _, _, _, _, _] | exact hrd.app [_, _, _, _, _, _, _, _, _, _]) hl (by omega) (by omega)) rfl ?_) rfl
        clear hS
        rintro e w ⟨y, rfl, hy, hS⟩
        refine ⟨_, rfl, ?_⟩
        repeat' (first|refine Kw ?_|(refine Sh.sa hS ?_;clear hS;intro w hS)|(refine K3 ?_;clear hS;intro g w hS hge)|((first|refine GS ?_ ?_|refine VB ?_ ?_)<;>intro hb<;>(try simp only [J1,J2,J3,J4,J5,J6] at hb)<;>(try (exfalso;first|omega|exact hb trivial))))
        · refine Z.eff (Z.cl (entry5_z _ _ _ _ _ _ _ _ hS) rfl ?_) rfl
          clear hS
          rintro e w ⟨rfl, hS⟩
          refine ⟨_, rfl, ?_⟩
          repeat' (first|refine K ?_|(refine Sh.sa hS ?_;clear hS;intro w hS)|(refine K3 ?_;clear hS;intro g w hS hge)|((first|refine GS ?_ ?_|refine VB ?_ ?_)<;>intro hb<;>(try simp only [J1,J2,J3,J4,J5,J6] at hb)<;>(try (exfalso;first|omega|exact hb trivial))))
          refine Sh.cut [] ?_
          exact ⟨⟨4, tk, i, q, -1, 0, 0, 0, 0⟩, rfl, hS.sb⟩
        · refine Z.eff (Z.cl (entry5_z _ _ _ _ _ _ _ _ hS) rfl ?_) rfl
          clear hS
          rintro e w ⟨rfl, hS⟩
          refine ⟨_, rfl, ?_⟩
          repeat' (first|refine K ?_|(refine Sh.sa hS ?_;clear hS;intro w hS)|(refine K3 ?_;clear hS;intro g w hS hge)|((first|refine GS ?_ ?_|refine VB ?_ ?_)<;>intro hb<;>(try simp only [J1,J2,J3,J4,J5,J6] at hb)<;>(try (exfalso;first|omega|exact hb trivial))))
          refine Sh.cut [] ?_
          exact ⟨⟨6, tk, i, q, -1, 0, 0, 0, 0⟩, rfl, hS.sb⟩
        · refine Z.eff (Z.cl (entry5_z 8 (IntKind.i64.wrap (tk + 2 * c.lease)) i (-1) (-1) _ _ _ hS) rfl ?_) rfl
          clear hS
          rintro e w ⟨rfl, hS⟩
          refine ⟨_, rfl, ?_⟩
          repeat' (first|refine K ?_|(refine Sh.sa hS ?_;clear hS;intro w hS)|(refine K3 ?_;clear hS;intro g w hS hge)|((first|refine GS ?_ ?_|refine VB ?_ ?_)<;>intro hb<;>(try simp only [J1,J2,J3,J4,J5,J6] at hb)<;>(try (exfalso;first|omega|exact hb trivial))))
          refine Sh.cut [] ?_
          exact ⟨⟨8, _, i, -1, -1, 0, 0, 0, 1⟩, rfl, hS.sb⟩
        · replace hS := hS.fo (R := TpL gt A l.length cap)
          refine Z.eff (Z.cl (next_z gt A l cap 3 _ _ _ hS (by first | exact hrd.app [_, _, _, _, _] | exact hrd.app [_, _, _, _, _, _] | exact hrd.app [_, _, _, _, _, _, _] | exact hrd.app [_, _, _, _, _, _, _, _] | exact hrd.app [_, _, _, _, _, _, _, _, _] | exact hrd.app [_, _, _, _, _, _, _, _, _, _]) hl (by omega) (by omega)) rfl ?_) rfl
          clear hS
          rintro e w ⟨u, rfl, hu, hS⟩
          refine ⟨_, rfl, ?_⟩
          repeat' (first|refine K ?_|(refine Sh.sa hS ?_;clear hS;intro w hS)|(refine K3 ?_;clear hS;intro g w hS hge)|((first|refine GS ?_ ?_|refine VB ?_ ?_)<;>intro hb<;>(try simp only [J1,J2,J3,J4,J5,J6] at hb)<;>(try (exfalso;first|omega|exact hb trivial))))
          refine Sh.cut [] ?_
          exact ⟨⟨10, tk, -1, q, -1, 0, 0, 0, u⟩, rfl, hS.sb⟩
        · replace hS := hS.fo (R := TpL gt A l.length cap)
          refine Z.eff (Z.cl (range_z gt A l cap 1 3 _ _ _ hS (by first | exact hrd.app [_, _, _, _, _] | exact hrd.app [_, _, _, _, _, _] | exact hrd.app [_, _, _, _, _, _, _] | exact hrd.app [_, _, _, _, _, _, _, _] | exact hrd.app [_, _, _, _, _, _, _, _, _] | exact hrd.app [_, _, _, _, _, _, _, _, _, _]) hl (by omega) (by omega) (by omega)) rfl ?_) rfl
          clear hS
          rintro e w ⟨u, rfl, hu, hS⟩
          refine ⟨_, rfl, ?_⟩
          repeat' (first|refine K ?_|(refine Sh.sa hS ?_;clear hS;intro w hS)|(refine K3 ?_;clear hS;intro g w hS hge)|((first|refine GS ?_ ?_|refine VB ?_ ?_)<;>intro hb<;>(try simp only [J1,J2,J3,J4,J5,J6] at hb)<;>(try (exfalso;first|omega|exact hb trivial))))
          refine Sh.cut [] ?_
          exact ⟨⟨9, tk, -1, q, -1, 0, 0, 0, u⟩, rfl, hS.sb⟩
        · replace hS := hS.fo (R := TpL gt A l.length cap)
          refine Z.eff (Z.cl (next_z gt A l cap c.regions _ _ _ hS (by first | exact hrd.app [_, _, _, _, _] | exact hrd.app [_, _, _, _, _, _] | exact hrd.app [_, _, _, _, _, _, _] | exact hrd.app [_, _, _, _, _, _, _, _] | exact hrd.app [_, _, _, _, _, _, _, _, _] | exact hrd.app [_, _, _, _, _, _, _, _, _, _]) hl (by omega) (by omega)) rfl ?_) rfl
          clear hS
          rintro e w ⟨u, rfl, hu, hS⟩
          refine ⟨_, rfl, ?_⟩
          repeat' (first|refine K ?_|(refine Sh.sa hS ?_;clear hS;intro w hS)|(refine K3 ?_;clear hS;intro g w hS hge)|((first|refine GS ?_ ?_|refine VB ?_ ?_)<;>intro hb<;>(try simp only [J1,J2,J3,J4,J5,J6] at hb)<;>(try (exfalso;first|omega|exact hb trivial))))
          refine Sh.cut [] ?_
          exact ⟨⟨13, tk, -1, -1, u, 0, 0, 0, 1⟩, rfl, hS.sb⟩
        · have hrx := hat _ _ _ hS (by repeat (first | exact At.here | apply At.next))
          repeat' (first|refine K ?_|(refine Sh.sa hS ?_;clear hS;intro w hS)|(refine K3 ?_;clear hS;intro g w hS hge)|((first|refine GS ?_ ?_|refine VB ?_ ?_)<;>intro hb<;>(try simp only [J1,J2,J3,J4,J5,J6] at hb)<;>(try (exfalso;first|omega|exact hb trivial))))
          refine Z.eff (Z.cl (entry5_z _ _ _ _ _ _ _ _ hS) rfl ?_) rfl
          clear hS
          rintro e w ⟨rfl, hS⟩
          refine ⟨_, rfl, ?_⟩
          repeat' (first|refine K ?_|(refine Sh.sa hS ?_;clear hS;intro w hS)|(refine K3 ?_;clear hS;intro g w hS hge)|((first|refine GS ?_ ?_|refine VB ?_ ?_)<;>intro hb<;>(try simp only [J1,J2,J3,J4,J5,J6] at hb)<;>(try (exfalso;first|omega|exact hb trivial))))
          refine Sh.cut [] ?_
          exact ⟨⟨5, tk, i, _, -1, 0, 0, 0, 0⟩, rfl, hS.sb⟩
        · refine D.startS (Lr := [.blk g7 34 (s.cc c (⟨some ⟨gb, o, none⟩, tc, some ⟨gk, o2, none⟩, kc⟩ : SAd)), .blk g6 30 (c.cl a), SO c s (⟨some ⟨gb, o, none⟩, tc, some ⟨gk, o2, none⟩, kc⟩ : SAd)]) (hS.sb) 21 22 (by kernel_rfl) rfl ?_
          replace hS := hS.drew
          refine Sh.dp 0 1 ?_
          refine Sh.dp 1 3 ?_
          refine Sh.dp 3 11 ?_
          refine Sh.dp 7 139 ?_
          refine Sh.dp 8 395 ?_
          refine Sh.dp 9 907 ?_
          refine Sh.dp 14 17291 ?_
          refine Sh.dl 2 17295 ?_
          first | refine D.ixn 4 17311 rfl D.wantedN (by kernel_rfl) rfl rfl rfl (by omega) ?_ | refine D.ix 4 17311 rfl D.wantedN (by kernel_rfl) rfl rfl rfl (by omega) ?_ | refine D.ia 4 17311 rfl D.wantedN (by kernel_rfl) rfl rfl rfl (by omega) ?_
          refine Sh.dp 5 17343 ?_
          refine D.ldE 6 17407 rfl D.wantedN (by kernel_rfl) rfl (fun W hW => hak q hq2 W _ _ hW (by repeat (first | exact At.here | apply At.next))) rfl ?_
          refine Sh.dl 10 18431 ?_
          first | refine D.sum 11 20479 rfl D.wantedN (by kernel_rfl) rfl (by constructor <;> omega) ?_ | refine D.sumW 11 20479 rfl D.wantedN (by kernel_rfl) rfl ?_
          refine D.eff 12 24575 rfl D.wantedN (by kernel_rfl) (by kernel_rfl) (fun _ _ h => h) ?_
          replace hS := hS.fo (R := TpL gt A l.length cap)
          refine Z.cl (next_z gt A l cap (2 * c.lease) _ _ _ hS (by first | exact hrd.app [_, _, _, _, _] | exact hrd.app [_, _, _, _, _, _] | exact hrd.app [_, _, _, _, _, _, _] | exact hrd.app [_, _, _, _, _, _, _, _] | exact hrd.app [_, _, _, _, _, _, _, _, _] | exact hrd.app [_, _, _, _, _, _, _, _, _, _]) hl (by omega) (by omega)) rfl ?_
          clear hS
          rintro e w ⟨u, rfl, hu, hS⟩
          refine ⟨_, rfl, ?_⟩
          refine ⟨HM.s (hS.sb), ?_⟩
          refine D.sumW 13 32767 rfl D.wantedN (by kernel_rfl) rfl ?_
          refine D.eff 15 65535 rfl D.wantedN (by kernel_rfl) (by kernel_rfl) (fun _ _ h => h) ?_
          refine Z.st hS rfl (by repeat (first | exact At.here | apply At.next)) rfl rfl ?_
          clear hS; intro w hS
          refine ⟨HM.s (hS.sb), ?_⟩
          refine Sh.dp 16 131071 ?_
          refine D.eff 17 262143 rfl D.wantedN (by kernel_rfl) (by kernel_rfl) (fun _ _ h => h) ?_
          refine Z.st hS rfl (by repeat (first | exact At.here | apply At.next)) rfl rfl ?_
          clear hS; intro w hS
          refine ⟨HM.s (hS.sb), ?_⟩
          refine Sh.dp 18 524287 ?_
          refine D.eff 19 1048575 rfl D.wantedN (by kernel_rfl) (by kernel_rfl) (fun _ _ h => h) ?_
          refine Z.st hS rfl (by repeat (first | exact At.here | apply At.next)) rfl rfl ?_
          clear hS; intro w hS
          refine ⟨HM.s (hS.sb), ?_⟩
          refine Sh.dp 20 2097151 ?_
          refine D.eff 21 4194303 rfl D.wantedN (by kernel_rfl) (by kernel_rfl) (fun _ _ h => h) ?_
          refine Z.st hS rfl (by repeat (first | exact At.here | apply At.next)) rfl rfl ?_
          clear hS; intro w hS
          refine ⟨HM.last (by kernel_rfl), ?_⟩
          refine D.done (by kernel_rfl) ?_
          repeat' (first|refine K ?_|(refine Sh.sa hS ?_;clear hS;intro w hS)|(refine K3 ?_;clear hS;intro g w hS hge)|((first|refine GS ?_ ?_|refine VB ?_ ?_)<;>intro hb<;>(try simp only [J1,J2,J3,J4,J5,J6] at hb)<;>(try (exfalso;first|omega|exact hb trivial))))
          refine Sh.cut [] ?_
          exact ⟨⟨11, _, -1, q, -1, 0, 0, 0, _⟩, rfl, hS.sb⟩
        · have hrx := hat _ _ _ hS (by repeat (first | exact At.here | apply At.next))
          repeat' (first|refine K ?_|(refine Sh.sa hS ?_;clear hS;intro w hS)|(refine K3 ?_;clear hS;intro g w hS hge)|((first|refine GS ?_ ?_|refine VB ?_ ?_)<;>intro hb<;>(try simp only [J1,J2,J3,J4,J5,J6] at hb)<;>(try (exfalso;first|omega|exact hb trivial))))
          rename Nat => g20
          refine Z.eff (Z.cl (entry5_z _ _ _ _ _ _ _ _ hS) rfl ?_) rfl
          clear hS
          rintro e w ⟨rfl, hS⟩
          refine ⟨_, rfl, ?_⟩
          repeat' (first|refine K ?_|(refine Sh.sa hS ?_;clear hS;intro w hS)|(refine K3 ?_;clear hS;intro g w hS hge)|((first|refine GS ?_ ?_|refine VB ?_ ?_)<;>intro hb<;>(try simp only [J1,J2,J3,J4,J5,J6] at hb)<;>(try (exfalso;first|omega|exact hb trivial))))
          refine D.startS (Lr := [.blk g20 56 x.cells]) (hS.sb) 11 12 (by kernel_rfl) rfl ?_
          replace hS := hS.drew
          refine Sh.dp 0 1 ?_
          refine Sh.dp 3 9 ?_
          refine Sh.dp 4 25 ?_
          refine Sh.dp 5 57 ?_
          refine Sh.dl 1 59 ?_
          refine D.pl 2 63 rfl D.wantedN (by kernel_rfl) (R.max2 rfl rfl) ?_
          refine Sh.dp 8 319 ?_
          refine Sh.dl 6 383 ?_
          refine D.pl 7 511 rfl D.wantedN (by kernel_rfl) (R.max2 rfl rfl) ?_
          refine D.eff 9 1023 rfl D.wantedN (by kernel_rfl) (by kernel_rfl) (fun _ _ h => h) ?_
          refine Z.st hS rfl (by repeat (first | exact At.here | apply At.next)) rfl rfl ?_
          clear hS; intro w hS
          refine ⟨HM.s (hS.sb), ?_⟩
          refine Sh.dp 10 2047 ?_
          refine D.eff 11 4095 rfl D.wantedN (by kernel_rfl) (by kernel_rfl) (fun _ _ h => h) ?_
          refine Z.st hS rfl (by repeat (first | exact At.here | apply At.next)) rfl rfl ?_
          clear hS; intro w hS
          refine ⟨HM.last (by kernel_rfl), ?_⟩
          refine D.done (by kernel_rfl) ?_
          repeat' (first|refine K ?_|(refine Sh.sa hS ?_;clear hS;intro w hS)|(refine K3 ?_;clear hS;intro g w hS hge)|((first|refine GS ?_ ?_|refine VB ?_ ?_)<;>intro hb<;>(try simp only [J1,J2,J3,J4,J5,J6] at hb)<;>(try (exfalso;first|omega|exact hb trivial))))
          refine D.startS (Lr := [.blk g6 30 (c.cl a), .blk ge 100 _]) (hS.sb) 8 9 (by kernel_rfl) rfl ?_
          replace hS := hS.drew
          refine Sh.dp 0 1 ?_
          refine Sh.dp 2 5 ?_
          refine Sh.dp 3 13 ?_
          refine Sh.dl 1 15 ?_
          refine Sh.dl 4 31 ?_
          refine D.eff 5 63 rfl D.wantedN (by kernel_rfl) (by kernel_rfl) (fun _ _ h => h) ?_
          replace hS := hS.fo (R := TpL gt A l.length cap)
          refine Z.cl (range_z gt A l cap 1 c.lease _ _ _ hS (by first | exact hrd.app [_, _, _, _, _] | exact hrd.app [_, _, _, _, _, _] | exact hrd.app [_, _, _, _, _, _, _] | exact hrd.app [_, _, _, _, _, _, _, _] | exact hrd.app [_, _, _, _, _, _, _, _, _] | exact hrd.app [_, _, _, _, _, _, _, _, _, _]) hl (by omega) (by omega) (by omega)) rfl ?_
          clear hS
          rintro e w ⟨z, rfl, hz, hS⟩
          refine ⟨_, rfl, ?_⟩
          refine ⟨HM.s (hS.sb), ?_⟩
          refine D.sumW 6 127 rfl D.wantedN (by kernel_rfl) rfl ?_
          refine Sh.dp 7 255 ?_
          refine D.eff 8 511 rfl D.wantedN (by kernel_rfl) (by kernel_rfl) (fun _ _ h => h) ?_
          refine Z.st hS rfl (by repeat (first | exact At.here | apply At.next)) rfl rfl ?_
          clear hS; intro w hS
          refine ⟨HM.last (by kernel_rfl), ?_⟩
          refine D.done (by kernel_rfl) ?_
          repeat' (first|refine K ?_|(refine Sh.sa hS ?_;clear hS;intro w hS)|(refine K3 ?_;clear hS;intro g w hS hge)|((first|refine GS ?_ ?_|refine VB ?_ ?_)<;>intro hb<;>(try simp only [J1,J2,J3,J4,J5,J6] at hb)<;>(try (exfalso;first|omega|exact hb trivial))))
          · have hn : x.home.toNat < s.cells.length := by rw [hs.kl]; omega
            have hrk := hak x.home.toNat hn _ _ _ hS (by repeat (first | exact At.here | apply At.next))
            repeat' (first|refine K ?_|(refine Sh.sa hS ?_;clear hS;intro w hS)|(refine K3 ?_;clear hS;intro g w hS hge)|((first|refine GS ?_ ?_|refine VB ?_ ?_)<;>intro hb<;>(try simp only [J1,J2,J3,J4,J5,J6] at hb)<;>(try (exfalso;first|omega|exact hb trivial))))
            refine Sh.cut [] ?_
            exact ⟨⟨2, tk, i, x.home, -1, max 1 x.epoch, max tk x.w.until_, IntKind.i64.wrap (max tk x.w.until_ + z), (s.cells[x.home.toNat]).running⟩, rfl, hS.sb⟩
          · refine Sh.cut [] ?_
            exact ⟨⟨2, tk, i, x.home, -1, max 1 x.epoch, max tk x.w.until_, IntKind.i64.wrap (max tk x.w.until_ + z), 0⟩, rfl, hS.sb⟩
      clear hS hat hak
      rintro f0 w _ ⟨e, rfl, hS⟩
      repeat' (first|refine K ?_|(refine Sh.sa hS ?_;clear hS;intro w hS)|(refine K3 ?_;clear hS;intro g w hS hge)|((first|refine GS ?_ ?_|refine VB ?_ ?_)<;>intro hb<;>(try simp only [J1,J2,J3,J4,J5,J6] at hb)<;>(try (exfalso;first|omega|exact hb trivial))))
      replace hS := PSt.of (n := 200 + k) s (⟨some ⟨gb, o, none⟩, tc, some ⟨gk, o2, none⟩, kc⟩ : SAd) out oA oc hs hol (hS.sub (L' := .blk g7 34 (s.cc c (⟨some ⟨gb, o, none⟩, tc, some ⟨gk, o2, none⟩, kc⟩ : SAd)) :: .blk g8 65 [.slice oA out.length oc] :: SO c s (⟨some ⟨gb, o, none⟩, tc, some ⟨gk, o2, none⟩, kc⟩ : SAd) :: .sl 100 9 (.slice oA out.length oc) (out.map En.cells) :: .blk g6 30 (c.cl a) :: TpL gt A l.length cap :: CO c a :: .blk gs 34 (Sta.zero.cl SAd.zero) :: .blk gc 30 (Cfg.none.cl CAd.zero) :: F) (by repeat (first | exact Sub.rest | exact Sub.nil | exact .skip .rest | exact .skip (.skip .rest) | exact .skip (.skip (.skip .rest)) | apply Sub.keep | refine Sub.cons (by repeat (first | exact At.here | apply At.next)) ?_ | apply Sub.skip)))
      refine Z.eff (Z.clf (caps := [.pointer (some ⟨g6, 0, .none⟩), .pointer (some ⟨g7, 0, .none⟩), .pointer (some ⟨g8, 0, .none⟩)]) rfl (try_z g6 g7 g8 (200 + k) c a e _ _ _ hS (CfR.of_co (by repeat (first | exact At.here | apply At.next))) ho (by omega)) rfl ?_) rfl
      clear hS hs hol
      rintro e w ⟨rfl, hS⟩
      refine ⟨_, rfl, ?_⟩
      repeat' (first|refine K ?_|(refine Sh.sa hS ?_;clear hS;intro w hS)|(refine K3 ?_;clear hS;intro g w hS hge)|((first|refine GS ?_ ?_|refine VB ?_ ?_)<;>intro hb<;>(try simp only [J1,J2,J3,J4,J5,J6] at hb)<;>(try (exfalso;first|omega|exact hb trivial))))
      refine Sh.again (12 - (k + 1)) [(15, .int .i64 (k + 1 : Nat))] ?_
      exact ⟨k + 1, rfl, by omega, by omega, hS.sb⟩
  · obtain ⟨s, b, out, oA, oc, ⟨hs, hol⟩, hS⟩ := PSt.op (hS.fo (R := PSt g7 g8 c _))
    refine D.startS (Lr := [.blk g7 34 (s.cc c b), .blk g6 30 (c.cl a), .blk g8 65 [.slice oA out.length oc]]) (hS.sb) 5 6 (by kernel_rfl) rfl ?_
    replace hS := hS.drew
    refine Sh.dl 0 1 ?_
    refine Sh.dl 1 3 ?_
    refine Sh.dl 2 7 ?_
    refine D.eff 3 15 rfl D.wantedN (by kernel_rfl) (by kernel_rfl) (fun _ _ h => h) ?_
    refine Z.st hS rfl (by repeat (first | exact At.here | apply At.next)) rfl rfl ?_
    clear hS; intro w hS
    refine ⟨HM.s (hS.sb), ?_⟩
    refine Sh.dp 4 31 ?_
    refine D.eff 5 63 rfl D.wantedN (by kernel_rfl) (by kernel_rfl) (fun _ _ h => h) ?_
    refine Z.st hS rfl (by repeat (first | exact At.here | apply At.next)) rfl rfl ?_
    clear hS; intro w hS
    refine ⟨HM.last (by kernel_rfl), ?_⟩
    refine D.done (by kernel_rfl) ?_
    repeat' (first|refine K ?_|(refine Sh.sa hS ?_;clear hS;intro w hS)|(refine K3 ?_;clear hS;intro g w hS hge)|((first|refine GS ?_ ?_|refine VB ?_ ?_)<;>intro hb<;>(try simp only [J1,J2,J3,J4,J5,J6] at hb)<;>(try (exfalso;first|omega|exact hb trivial))))
    first | refine Z.done hS Tryz.results27 (Z.RV.cell rfl (by repeat (first | exact At.here | apply At.next)) rfl (Z.RV.tmp rfl (Z.RV.cell rfl (by repeat (first | exact At.here | apply At.next)) rfl Z.RV.nil))) ?_ | refine Z.doneN hS Tryz.results27 (Z.RV.cell rfl (by repeat (first | exact At.here | apply At.next)) rfl (Z.RV.tmp rfl (Z.RV.cell rfl (by repeat (first | exact At.here | apply At.next)) rfl Z.RV.nil))) ?_
    exact ⟨c, a, s, b, out, oA, oc, rfl, ho, hs, hS.sb⟩
end Go.Proofs.YtmgpionlfemhdaaGreat
