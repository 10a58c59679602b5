/-
  Entries from a tape: about the platform, and all.
-/
import Derived.Test.YtmgpionlfemhdaaGreatNUs
namespace Go.Proofs.YtmgpionlfemhdaaGreat
open Go.RowKit
set_option linter.unusedSimpArgs false
set_option linter.unusedVariables false
attribute [local irreducible] Res.blk Res.sl Res.all Res.ex Res.pure Res.star

set_option maxHeartbeats 8000000 in
theorem platform_z {lo : Int} (gt : Nat) (A : Option Addr) (l : List Int) (cap : Nat) (B : Int) (c : Cfg) (a : CAd) (s : Sta) (b : SAd) (tk : Int) (r : World) (F : List Res) (w : World) (hS : Sep r [] (TpM gt A l.length cap lo B :: F) w) (hrd : Reads r F 1 (.slice A l.length cap) (l.map ztC)) (hl : l.length ≤ 1000) (hB : B ≤ 10000) (hs : s.ok c) (hq : StC r F s c b) (ho : c.ok) :
    Calls Tryz.prog 112 #[.pointer (some ⟨gt, 0, .none⟩), c.val a, s.vc c b, .int .i64 tk] w fun ee w' => ∃ e : En, ee = .returned e.val ∧ Sep r [] (TpM gt A l.length cap lo (B + 20) :: F) w' := by
  have hlb := ho.l
  have hcl := ho.k
  have hvl := ho.v
  have hrl := ho.r
  have hbl := ho.e
  obtain ⟨gk, o2, hA2, _⟩ := reads_ks (hq.str hs) [_] hS (k := 0) (by rw [hs.kl]; omega)
  have hak : ∀ W L (k : Nat) (hk : k < s.cells.length), Sep r [] (L ++ F) W → W.rangeAt gk (o2 + k * 4) (s.cells[k]).cells := fun W L k hk hW => at_ks (hq.str hs) L hW hA2 hk
  obtain ⟨tA, tc, kA, kc⟩ := b
  simp only at hA2
  subst hA2
  refine Z.enter Tryz.func112 Tryz.ntmps112 rfl rfl ?_
  repeat' (first|refine K ?_|(refine Sh.sa hS ?_;clear hS;intro w hS)|(refine K3 ?_;clear hS;intro g w hS hge)|((first|refine GS ?_ ?_|refine VB ?_ ?_)<;>intro hb<;>(try simp only [J1,J2,J3,J4,J5,J6] at hb)<;>(try (exfalso;first|omega|exact hb trivial))))
  rename_i gc _ _ gs _ _
  rename Nat => gr
  refine Z.eff (Z.cl (none_z 16 tk _ _ _ hS) rfl ?_) rfl
  clear hS
  rintro e w ⟨rfl, hS⟩
  refine ⟨_, rfl, ?_⟩
  repeat' (first|refine K ?_|(refine Sh.sa hS ?_;clear hS;intro w hS)|(refine K3 ?_;clear hS;intro g w hS hge)|((first|refine GS ?_ ?_|refine VB ?_ ?_)<;>intro hb<;>(try simp only [J1,J2,J3,J4,J5,J6] at hb)<;>(try (exfalso;first|omega|exact hb trivial))))
  rename Nat => g9
  replace hS := hS.fo (R := TpM gt A l.length cap lo _)
  refine Z.eff (Z.cl (mnext_z gt A l cap _ _ _ _ _ hS (hrd.app [_, _, _, _]) hl (by omega) (by omega) (by omega)) rfl ?_) rfl
  clear hS
  rintro e w ⟨z0, rfl, hz0, hS⟩
  refine ⟨_, rfl, ?_⟩
  obtain ⟨k, rfl⟩ := Int.eq_ofNat_of_zero_le hz0.1
  have hkk : k < s.cells.length := by rw [hs.kl]; omega
  repeat' (first|refine K ?_|(refine Sh.sa hS ?_;clear hS;intro w hS)|(refine K3 ?_;clear hS;intro g w hS hge)|((first|refine GS ?_ ?_|refine VB ?_ ?_)<;>intro hb<;>(try simp only [J1,J2,J3,J4,J5,J6] at hb)<;>(try (exfalso;first|omega|exact hb trivial))))
  have hrk := hak _ [_, _, _, _, _] k hkk hS
  generalize s.cells[k] = y at *
  repeat' (first|refine K ?_|(refine Sh.sa hS ?_;clear hS;intro w hS)|(refine K3 ?_;clear hS;intro g w hS hge)|((first|refine GS ?_ ?_|refine VB ?_ ?_)<;>intro hb<;>(try simp only [J1,J2,J3,J4,J5,J6] at hb)<;>(try (exfalso;first|omega|exact hb trivial))))
  rename Nat => g11
  replace hS := hS.fo (R := TpM gt A l.length cap lo _)
  refine Z.eff (Z.cl (mnext_z gt A l cap _ 12 _ _ _ hS (hrd.app [_, _, _, _, _]) hl (by omega) (by omega) (by omega)) rfl ?_) rfl
  clear hS
  rintro e w ⟨z, rfl, hz, hS⟩
  refine ⟨_, rfl, ?_⟩
  repeat' (first|refine Kw ?_|(refine Sh.sa hS ?_;clear hS;intro w hS)|(refine K3 ?_;clear hS;intro g w hS hge)|((first|refine GS ?_ ?_|refine VB ?_ ?_)<;>intro hb<;>(try simp only [J1,J2,J3,J4,J5,J6] at hb)<;>(try (exfalso;first|omega|exact hb trivial))))
  · replace hS := hS.fo (R := TpM gt A l.length cap lo _)
    refine Z.eff (Z.cl (mrange_z gt A l cap _ 1 3 _ _ _ hS (hrd.app [_, _, _, _, _]) hl (by omega) (by omega) (by omega) (by omega)) rfl ?_) rfl
    clear hS
    rintro e w ⟨z1, rfl, hz1, hS⟩
    refine ⟨_, rfl, ?_⟩
    repeat' (first|refine K ?_|(refine Sh.sa hS ?_;clear hS;intro w hS)|(refine K3 ?_;clear hS;intro g w hS hge)|((first|refine GS ?_ ?_|refine VB ?_ ?_)<;>intro hb<;>(try simp only [J1,J2,J3,J4,J5,J6] at hb)<;>(try (exfalso;first|omega|exact hb trivial))))
    refine Dnc Tryz.results112 ?_
    exact ⟨(⟨9, tk, -1, (k : Int), -1, 0, 0, 0, z1⟩ : En), rfl, ((hS.fo (R := TpM gt A l.length cap lo _)).TpM_le (B' := B + 20) (by omega)).sub (by repeat (first | exact Sub.rest | exact Sub.nil | exact .skip .rest | exact .skip (.skip .rest) | exact .skip (.skip (.skip .rest)) | apply Sub.keep | refine Sub.cons (by repeat (first | exact At.here | apply At.next)) ?_ | apply Sub.skip))⟩
  · refine Dnc Tryz.results112 ?_
    exact ⟨(⟨9, tk, -1, (k : Int), -1, 0, 0, 0, 1⟩ : En), rfl, ((hS.fo (R := TpM gt A l.length cap lo _)).TpM_le (B' := B + 20) (by omega)).sub (by repeat (first | exact Sub.rest | exact Sub.nil | exact .skip .rest | exact .skip (.skip .rest) | exact .skip (.skip (.skip .rest)) | apply Sub.keep | refine Sub.cons (by repeat (first | exact At.here | apply At.next)) ?_ | apply Sub.skip))⟩
  · replace hS := hS.fo (R := TpM gt A l.length cap lo _)
    refine Z.eff (Z.cl (mnext_z gt A l cap _ _ _ _ _ hS (hrd.app [_, _, _, _, _]) hl (by omega) (by omega) (by omega)) rfl ?_) rfl
    clear hS
    rintro e w ⟨z1, rfl, hz1, hS⟩
    refine ⟨_, rfl, ?_⟩
    repeat' (first|refine K ?_|(refine Sh.sa hS ?_;clear hS;intro w hS)|(refine K3 ?_;clear hS;intro g w hS hge)|((first|refine GS ?_ ?_|refine VB ?_ ?_)<;>intro hb<;>(try simp only [J1,J2,J3,J4,J5,J6] at hb)<;>(try (exfalso;first|omega|exact hb trivial))))
    refine Dnc Tryz.results112 ?_
    exact ⟨(⟨10, tk, -1, (k : Int), -1, 0, 0, 0, z1⟩ : En), rfl, ((hS.fo (R := TpM gt A l.length cap lo _)).TpM_le (B' := B + 20) (by omega)).sub (by repeat (first | exact Sub.rest | exact Sub.nil | exact .skip .rest | exact .skip (.skip .rest) | exact .skip (.skip (.skip .rest)) | apply Sub.keep | refine Sub.cons (by repeat (first | exact At.here | apply At.next)) ?_ | apply Sub.skip))⟩
  · replace hS := hS.fo (R := TpM gt A l.length cap lo _)
    refine Z.eff (Z.cl (mnext_z gt A l cap _ _ _ _ _ hS (hrd.app [_, _, _, _, _]) hl (by omega) (by omega) (by omega)) rfl ?_) rfl
    clear hS
    rintro e w ⟨z1, rfl, hz1, hS⟩
    refine ⟨_, rfl, ?_⟩
    repeat' (first|refine K ?_|(refine Sh.sa hS ?_;clear hS;intro w hS)|(refine K3 ?_;clear hS;intro g w hS hge)|((first|refine GS ?_ ?_|refine VB ?_ ?_)<;>intro hb<;>(try simp only [J1,J2,J3,J4,J5,J6] at hb)<;>(try (exfalso;first|omega|exact hb trivial))))
    refine Dnc Tryz.results112 ?_
    exact ⟨(⟨10, tk, -1, (k : Int), -1, 0, 0, 0, z1⟩ : En), rfl, ((hS.fo (R := TpM gt A l.length cap lo _)).TpM_le (B' := B + 20) (by omega)).sub (by repeat (first | exact Sub.rest | exact Sub.nil | exact .skip .rest | exact .skip (.skip .rest) | exact .skip (.skip (.skip .rest)) | apply Sub.keep | refine Sub.cons (by repeat (first | exact At.here | apply At.next)) ?_ | apply Sub.skip))⟩
  · replace hS := hS.fo (R := TpM gt A l.length cap lo _)
    refine Z.eff (Z.cl (mnext_z gt A l cap _ _ _ _ _ hS (hrd.app [_, _, _, _, _]) hl (by omega) (by omega) (by omega)) rfl ?_) rfl
    clear hS
    rintro e w ⟨z1, rfl, hz1, hS⟩
    refine ⟨_, rfl, ?_⟩
    repeat' (first|refine K ?_|(refine Sh.sa hS ?_;clear hS;intro w hS)|(refine K3 ?_;clear hS;intro g w hS hge)|((first|refine GS ?_ ?_|refine VB ?_ ?_)<;>intro hb<;>(try simp only [J1,J2,J3,J4,J5,J6] at hb)<;>(try (exfalso;first|omega|exact hb trivial))))
    refine Dnc Tryz.results112 ?_
    exact ⟨(⟨10, tk, -1, (k : Int), -1, 0, 0, 0, z1⟩ : En), rfl, ((hS.fo (R := TpM gt A l.length cap lo _)).TpM_le (B' := B + 20) (by omega)).sub (by repeat (first | exact Sub.rest | exact Sub.nil | exact .skip .rest | exact .skip (.skip .rest) | exact .skip (.skip (.skip .rest)) | apply Sub.keep | refine Sub.cons (by repeat (first | exact At.here | apply At.next)) ?_ | apply Sub.skip))⟩
  · refine D.startS (Lr := [.blk g11 97 y.cells]) (hS.sb) 8 9 (by kernel_rfl) rfl ?_
    replace hS := hS.drew
    refine Sh.dp 0 1 ?_
    refine Sh.dp 1 3 ?_
    refine Sh.dp 3 11 ?_
    refine Sh.dl 2 15 ?_
    refine D.eff 4 31 rfl D.wantedN (by kernel_rfl) (by kernel_rfl) (fun _ _ h => h) ?_
    refine Z.st hS rfl (by repeat (first | exact At.here | apply At.next)) rfl rfl ?_
    clear hS; intro w hS
    refine ⟨HM.s (hS.sb), ?_⟩
    refine Sh.dp 5 63 ?_
    refine D.eff 6 127 rfl D.wantedN (by kernel_rfl) (by kernel_rfl) (fun _ _ h => h) ?_
    refine Z.st hS rfl (by repeat (first | exact At.here | apply At.next)) rfl rfl ?_
    clear hS; intro w hS
    refine ⟨HM.s (hS.sb), ?_⟩
    refine Sh.dp 7 255 ?_
    refine D.eff 8 511 rfl D.wantedN (by kernel_rfl) (by kernel_rfl) (fun _ _ h => h) ?_
    refine Z.st hS rfl (by repeat (first | exact At.here | apply At.next)) rfl rfl ?_
    clear hS; intro w hS
    refine ⟨HM.last (by kernel_rfl), ?_⟩
    refine D.done (by kernel_rfl) ?_
    repeat' (first|refine K ?_|(refine Sh.sa hS ?_;clear hS;intro w hS)|(refine K3 ?_;clear hS;intro g w hS hge)|((first|refine GS ?_ ?_|refine VB ?_ ?_)<;>intro hb<;>(try simp only [J1,J2,J3,J4,J5,J6] at hb)<;>(try (exfalso;first|omega|exact hb trivial))))
    replace hS := hS.fo (R := TpM gt A l.length cap lo _)
    refine Z.eff (Z.cl (mnext_z gt A l cap _ _ _ _ _ hS (hrd.app [_, _, _, _, _]) hl (by omega) (by omega) (by omega)) rfl ?_) rfl
    clear hS
    rintro e w ⟨z1, rfl, hz1, hS⟩
    refine ⟨_, rfl, ?_⟩
    repeat' (first|refine Kw ?_|(refine Sh.sa hS ?_;clear hS;intro w hS)|(refine K3 ?_;clear hS;intro g w hS hge)|((first|refine GS ?_ ?_|refine VB ?_ ?_)<;>intro hb<;>(try simp only [J1,J2,J3,J4,J5,J6] at hb)<;>(try (exfalso;first|omega|exact hb trivial))))
    refine Dnc Tryz.results112 ?_
    exact ⟨(⟨11, IntKind.i64.wrap (tk + z1), -1, (k : Int), -1, 0, 0, 0, y.wanted⟩ : En), rfl, ((hS.fo (R := TpM gt A l.length cap lo _)).TpM_le (B' := B + 20) (by omega)).sub (by repeat (first | exact Sub.rest | exact Sub.nil | exact .skip .rest | exact .skip (.skip .rest) | exact .skip (.skip (.skip .rest)) | apply Sub.keep | refine Sub.cons (by repeat (first | exact At.here | apply At.next)) ?_ | apply Sub.skip))⟩
  · refine D.startS (Lr := [.blk g11 97 y.cells]) (hS.sb) 8 9 (by kernel_rfl) rfl ?_
    replace hS := hS.drew
    refine Sh.dp 0 1 ?_
    refine Sh.dp 1 3 ?_
    refine Sh.dp 3 11 ?_
    refine Sh.dl 2 15 ?_
    refine D.eff 4 31 rfl D.wantedN (by kernel_rfl) (by kernel_rfl) (fun _ _ h => h) ?_
    refine Z.st hS rfl (by repeat (first | exact At.here | apply At.next)) rfl rfl ?_
    clear hS; intro w hS
    refine ⟨HM.s (hS.sb), ?_⟩
    refine Sh.dp 5 63 ?_
    refine D.eff 6 127 rfl D.wantedN (by kernel_rfl) (by kernel_rfl) (fun _ _ h => h) ?_
    refine Z.st hS rfl (by repeat (first | exact At.here | apply At.next)) rfl rfl ?_
    clear hS; intro w hS
    refine ⟨HM.s (hS.sb), ?_⟩
    refine Sh.dp 7 255 ?_
    refine D.eff 8 511 rfl D.wantedN (by kernel_rfl) (by kernel_rfl) (fun _ _ h => h) ?_
    refine Z.st hS rfl (by repeat (first | exact At.here | apply At.next)) rfl rfl ?_
    clear hS; intro w hS
    refine ⟨HM.last (by kernel_rfl), ?_⟩
    refine D.done (by kernel_rfl) ?_
    repeat' (first|refine K ?_|(refine Sh.sa hS ?_;clear hS;intro w hS)|(refine K3 ?_;clear hS;intro g w hS hge)|((first|refine GS ?_ ?_|refine VB ?_ ?_)<;>intro hb<;>(try simp only [J1,J2,J3,J4,J5,J6] at hb)<;>(try (exfalso;first|omega|exact hb trivial))))
    replace hS := hS.fo (R := TpM gt A l.length cap lo _)
    refine Z.eff (Z.cl (mnext_z gt A l cap _ _ _ _ _ hS (hrd.app [_, _, _, _, _]) hl (by omega) (by omega) (by omega)) rfl ?_) rfl
    clear hS
    rintro e w ⟨z1, rfl, hz1, hS⟩
    refine ⟨_, rfl, ?_⟩
    repeat' (first|refine Kw ?_|(refine Sh.sa hS ?_;clear hS;intro w hS)|(refine K3 ?_;clear hS;intro g w hS hge)|((first|refine GS ?_ ?_|refine VB ?_ ?_)<;>intro hb<;>(try simp only [J1,J2,J3,J4,J5,J6] at hb)<;>(try (exfalso;first|omega|exact hb trivial))))
    refine Dnc Tryz.results112 ?_
    exact ⟨(⟨11, IntKind.i64.wrap (tk + z1), -1, (k : Int), -1, 0, 0, 0, y.wanted⟩ : En), rfl, ((hS.fo (R := TpM gt A l.length cap lo _)).TpM_le (B' := B + 20) (by omega)).sub (by repeat (first | exact Sub.rest | exact Sub.nil | exact .skip .rest | exact .skip (.skip .rest) | exact .skip (.skip (.skip .rest)) | apply Sub.keep | refine Sub.cons (by repeat (first | exact At.here | apply At.next)) ?_ | apply Sub.skip))⟩
  · refine D.startS (Lr := [.blk g11 97 y.cells]) (hS.sb) 8 9 (by kernel_rfl) rfl ?_
    replace hS := hS.drew
    refine Sh.dp 0 1 ?_
    refine Sh.dp 1 3 ?_
    refine Sh.dp 3 11 ?_
    refine Sh.dl 2 15 ?_
    refine D.eff 4 31 rfl D.wantedN (by kernel_rfl) (by kernel_rfl) (fun _ _ h => h) ?_
    refine Z.st hS rfl (by repeat (first | exact At.here | apply At.next)) rfl rfl ?_
    clear hS; intro w hS
    refine ⟨HM.s (hS.sb), ?_⟩
    refine Sh.dp 5 63 ?_
    refine D.eff 6 127 rfl D.wantedN (by kernel_rfl) (by kernel_rfl) (fun _ _ h => h) ?_
    refine Z.st hS rfl (by repeat (first | exact At.here | apply At.next)) rfl rfl ?_
    clear hS; intro w hS
    refine ⟨HM.s (hS.sb), ?_⟩
    refine Sh.dp 7 255 ?_
    refine D.eff 8 511 rfl D.wantedN (by kernel_rfl) (by kernel_rfl) (fun _ _ h => h) ?_
    refine Z.st hS rfl (by repeat (first | exact At.here | apply At.next)) rfl rfl ?_
    clear hS; intro w hS
    refine ⟨HM.last (by kernel_rfl), ?_⟩
    refine D.done (by kernel_rfl) ?_
    repeat' (first|refine K ?_|(refine Sh.sa hS ?_;clear hS;intro w hS)|(refine K3 ?_;clear hS;intro g w hS hge)|((first|refine GS ?_ ?_|refine VB ?_ ?_)<;>intro hb<;>(try simp only [J1,J2,J3,J4,J5,J6] at hb)<;>(try (exfalso;first|omega|exact hb trivial))))
    replace hS := hS.fo (R := TpM gt A l.length cap lo _)
    refine Z.eff (Z.cl (mnext_z gt A l cap _ _ _ _ _ hS (hrd.app [_, _, _, _, _]) hl (by omega) (by omega) (by omega)) rfl ?_) rfl
    clear hS
    rintro e w ⟨z1, rfl, hz1, hS⟩
    refine ⟨_, rfl, ?_⟩
    repeat' (first|refine Kw ?_|(refine Sh.sa hS ?_;clear hS;intro w hS)|(refine K3 ?_;clear hS;intro g w hS hge)|((first|refine GS ?_ ?_|refine VB ?_ ?_)<;>intro hb<;>(try simp only [J1,J2,J3,J4,J5,J6] at hb)<;>(try (exfalso;first|omega|exact hb trivial))))
    refine Dnc Tryz.results112 ?_
    exact ⟨(⟨11, IntKind.i64.wrap (tk + z1), -1, (k : Int), -1, 0, 0, 0, y.wanted⟩ : En), rfl, ((hS.fo (R := TpM gt A l.length cap lo _)).TpM_le (B' := B + 20) (by omega)).sub (by repeat (first | exact Sub.rest | exact Sub.nil | exact .skip .rest | exact .skip (.skip .rest) | exact .skip (.skip (.skip .rest)) | apply Sub.keep | refine Sub.cons (by repeat (first | exact At.here | apply At.next)) ?_ | apply Sub.skip))⟩
  · refine D.startS (Lr := [.blk g11 97 y.cells]) (hS.sb) 5 6 (by kernel_rfl) rfl ?_
    replace hS := hS.drew
    refine Sh.dp 0 1 ?_
    refine Sh.dp 2 5 ?_
    refine Sh.dl 1 7 ?_
    refine D.eff 3 15 rfl D.wantedN (by kernel_rfl) (by kernel_rfl) (fun _ _ h => h) ?_
    refine Z.st hS rfl (by repeat (first | exact At.here | apply At.next)) rfl rfl ?_
    clear hS; intro w hS
    refine ⟨HM.s (hS.sb), ?_⟩
    refine Sh.dp 4 31 ?_
    refine D.eff 5 63 rfl D.wantedN (by kernel_rfl) (by kernel_rfl) (fun _ _ h => h) ?_
    refine Z.st hS rfl (by repeat (first | exact At.here | apply At.next)) rfl rfl ?_
    clear hS; intro w hS
    refine ⟨HM.last (by kernel_rfl), ?_⟩
    refine D.done (by kernel_rfl) ?_
    repeat' (first|refine K ?_|(refine Sh.sa hS ?_;clear hS;intro w hS)|(refine K3 ?_;clear hS;intro g w hS hge)|((first|refine GS ?_ ?_|refine VB ?_ ?_)<;>intro hb<;>(try simp only [J1,J2,J3,J4,J5,J6] at hb)<;>(try (exfalso;first|omega|exact hb trivial))))
    replace hS := hS.fo (R := TpM gt A l.length cap lo _)
    refine Z.eff (Z.cl (mnext_z gt A l cap _ _ _ _ _ hS (hrd.app [_, _, _, _, _]) hl (by omega) (by omega) (by omega)) rfl ?_) rfl
    clear hS
    rintro e w ⟨z1, rfl, hz1, hS⟩
    refine ⟨_, rfl, ?_⟩
    repeat' (first|refine Kw ?_|(refine Sh.sa hS ?_;clear hS;intro w hS)|(refine K3 ?_;clear hS;intro g w hS hge)|((first|refine GS ?_ ?_|refine VB ?_ ?_)<;>intro hb<;>(try simp only [J1,J2,J3,J4,J5,J6] at hb)<;>(try (exfalso;first|omega|exact hb trivial))))
    refine Dnc Tryz.results112 ?_
    exact ⟨(⟨12, IntKind.i64.wrap (tk + z1), -1, -1, -1, 0, 0, 0, y.running⟩ : En), rfl, ((hS.fo (R := TpM gt A l.length cap lo _)).TpM_le (B' := B + 20) (by omega)).sub (by repeat (first | exact Sub.rest | exact Sub.nil | exact .skip .rest | exact .skip (.skip .rest) | exact .skip (.skip (.skip .rest)) | apply Sub.keep | refine Sub.cons (by repeat (first | exact At.here | apply At.next)) ?_ | apply Sub.skip))⟩
  · replace hS := hS.fo (R := TpM gt A l.length cap lo _)
    refine Z.eff (Z.cl (mnext_z gt A l cap _ _ _ _ _ hS (hrd.app [_, _, _, _, _]) hl (by omega) (by omega) (by omega)) rfl ?_) rfl
    clear hS
    rintro e w ⟨z1, rfl, hz1, hS⟩
    refine ⟨_, rfl, ?_⟩
    repeat' (first|refine K ?_|(refine Sh.sa hS ?_;clear hS;intro w hS)|(refine K3 ?_;clear hS;intro g w hS hge)|((first|refine GS ?_ ?_|refine VB ?_ ?_)<;>intro hb<;>(try simp only [J1,J2,J3,J4,J5,J6] at hb)<;>(try (exfalso;first|omega|exact hb trivial))))
    refine Z.eff (Z.cl (has4_z _ _ _ _ _ hS) rfl ?_) rfl
    clear hS
    rintro e w ⟨b1, rfl, hS⟩
    refine ⟨_, rfl, ?_⟩
    repeat' (first|refine K ?_|(refine Sh.sa hS ?_;clear hS;intro w hS)|(refine K3 ?_;clear hS;intro g w hS hge)|((first|refine GS ?_ ?_|refine VB ?_ ?_)<;>intro hb<;>(try simp only [J1,J2,J3,J4,J5,J6] at hb)<;>(try (exfalso;first|omega|exact hb trivial))))
    · refine Dnc Tryz.results112 ?_
      exact ⟨(⟨13, tk, -1, -1, z1, 0, 0, 0, 0⟩ : En), rfl, ((hS.fo (R := TpM gt A l.length cap lo _)).TpM_le (B' := B + 20) (by omega)).sub (by repeat (first | exact Sub.rest | exact Sub.nil | exact .skip .rest | exact .skip (.skip .rest) | exact .skip (.skip (.skip .rest)) | apply Sub.keep | refine Sub.cons (by repeat (first | exact At.here | apply At.next)) ?_ | apply Sub.skip))⟩
    · refine Dnc Tryz.results112 ?_
      exact ⟨(⟨13, tk, -1, -1, z1, 0, 0, 0, 1⟩ : En), rfl, ((hS.fo (R := TpM gt A l.length cap lo _)).TpM_le (B' := B + 20) (by omega)).sub (by repeat (first | exact Sub.rest | exact Sub.nil | exact .skip .rest | exact .skip (.skip .rest) | exact .skip (.skip (.skip .rest)) | apply Sub.keep | refine Sub.cons (by repeat (first | exact At.here | apply At.next)) ?_ | apply Sub.skip))⟩
  · refine Dnc Tryz.results112 ?_
    exact ⟨(⟨15, tk, -1, -1, -1, 0, 0, 0, 0⟩ : En), rfl, ((hS.fo (R := TpM gt A l.length cap lo _)).TpM_le (B' := B + 20) (by omega)).sub (by repeat (first | exact Sub.rest | exact Sub.nil | exact .skip .rest | exact .skip (.skip .rest) | exact .skip (.skip (.skip .rest)) | apply Sub.keep | refine Sub.cons (by repeat (first | exact At.here | apply At.next)) ?_ | apply Sub.skip))⟩
  · refine Dnc Tryz.results112 ?_
    exact ⟨(⟨14, tk, -1, -1, -1, 0, 0, 0, 0⟩ : En), rfl, ((hS.fo (R := TpM gt A l.length cap lo _)).TpM_le (B' := B + 20) (by omega)).sub (by repeat (first | exact Sub.rest | exact Sub.nil | exact .skip .rest | exact .skip (.skip .rest) | exact .skip (.skip (.skip .rest)) | apply Sub.keep | refine Sub.cons (by repeat (first | exact At.here | apply At.next)) ?_ | apply Sub.skip))⟩
  · replace hS := hS.fo (R := TpM gt A l.length cap lo _)
    refine Z.eff (Z.cl (mnext_z gt A l cap _ 100 _ _ _ hS (hrd.app [_, _, _, _, _]) hl (by omega) (by omega) (by omega)) rfl ?_) rfl
    clear hS
    rintro e w ⟨z1, rfl, hz1, hS⟩
    refine ⟨_, rfl, ?_⟩
    repeat' (first|refine K ?_|(refine Sh.sa hS ?_;clear hS;intro w hS)|(refine K3 ?_;clear hS;intro g w hS hge)|((first|refine GS ?_ ?_|refine VB ?_ ?_)<;>intro hb<;>(try simp only [J1,J2,J3,J4,J5,J6] at hb)<;>(try (exfalso;first|omega|exact hb trivial))))
    refine Dnc Tryz.results112 ?_
    exact ⟨(⟨16, tk, -1, -1, -1, 0, 0, 0, z1⟩ : En), rfl, ((hS.fo (R := TpM gt A l.length cap lo _)).TpM_le (B' := B + 20) (by omega)).sub (by repeat (first | exact Sub.rest | exact Sub.nil | exact .skip .rest | exact .skip (.skip .rest) | exact .skip (.skip (.skip .rest)) | apply Sub.keep | refine Sub.cons (by repeat (first | exact At.here | apply At.next)) ?_ | apply Sub.skip))⟩
end Go.Proofs.YtmgpionlfemhdaaGreat
