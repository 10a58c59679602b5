/-
  Entries from a tape: about the platform, and all.
-/
import Derived.Test.YtmgpionlfemhdaaGreatNUt
namespace Go.Proofs.YtmgpionlfemhdaaGreat
open Go.RowKit
set_option linter.unusedSimpArgs false
set_option linter.unusedVariables false
attribute [local irreducible] Res.blk Res.sl Res.all Res.ex Res.pure Res.star

set_option maxHeartbeats 8000000 in
theorem entry_z {lo0 : Int} (gt : Nat) (A : Option Addr) (l : List Int) (cap : Nat) (B : Int) (c : Cfg) (a : CAd) (s : Sta) (b : SAd) (r : World) (F : List Res) (w : World) (hS : Sep r [] (TpM gt A l.length cap lo0 B :: F) w) (hl0 : 0 < l.length) (hrd : Reads r F 1 (.slice A l.length cap) (l.map ztC)) (hl : l.length ≤ 1000) (hB : B ≤ 5000) (hr : CfR r F c a) (hs : s.ok c) (hq : StC r F s c b) (ho : c.ok) :
    Calls Tryz.prog 88 #[.pointer (some ⟨gt, 0, .none⟩), c.val a, s.vc c b] w fun ee w' => ∃ e : En, ee = .returned e.val ∧ Sep r [] (TpM gt A l.length cap (lo0 + 1) (B + 40) :: F) w' := by
  generalize hlo : lo0 + 1 = lo
  obtain ⟨tA, tc, kA, kc⟩ := b
  have htl := ho.t
  refine Z.enter Tryz.func88 Tryz.ntmps88 rfl rfl ?_
  repeat' (first|refine K ?_|(refine Sh.sa hS ?_;clear hS;intro w hS)|(refine K3 ?_;clear hS;intro g w hS hge)|((first|refine GS ?_ ?_|refine VB ?_ ?_)<;>intro hb<;>(try simp only [J1,J2,J3,J4,J5,J6] at hb)<;>(try (exfalso;first|omega|exact hb trivial))))
  rename_i gc _ _ gs _ _
  rename Nat => gr
  refine Z.cut [7, 12, 13, 14, 15, 16] (fun w z => ∃ tk : Int, z = [(7, .int .i64 tk)] ∧ Sep r [] (TpM gt A l.length cap lo (B + 1) :: .blk gr 100 En.zero.cells :: .blk gs 34 (s.cc c (⟨tA, tc, kA, kc⟩ : SAd)) :: .blk gc 30 (c.cl a) :: F) w) ?_ ?_
  · refine D.startS (Lr := [.blk gs 34 (s.cc c (⟨tA, tc, kA, kc⟩ : SAd))]) (hS.sb) 6 6 (by kernel_rfl) rfl ?_
    replace hS := hS.drew
    refine Sh.dp 0 1 ?_
    refine Sh.dp 2 5 ?_
    refine Sh.dl 1 7 ?_
    refine D.eff 3 15 rfl D.wantedN (by kernel_rfl) (by kernel_rfl) (fun _ _ h => h) ?_
    replace hS := hS.fo (R := TpM gt A l.length cap lo0 _)
    refine Z.cl (mnext_up gt A l cap _ 4 _ _ _ hS (hrd.app [_, _, _]) hl (by omega) (by omega) (by omega)) rfl ?_
    clear hS
    rintro e w ⟨z1, lo1, rfl, hz1, hlo1, hS⟩
    refine ⟨_, rfl, ?_⟩
    replace hS := hS.TpM_lo (lo' := lo) (by have := hlo1.2 hl0; omega)
    refine ⟨HM.s (hS.sb), ?_⟩
    refine D.sumW 4 31 rfl D.wantedN (by kernel_rfl) rfl ?_
    refine Sh.dp 5 63 ?_
    refine D.done (by kernel_rfl) ?_
    refine Sh.cut [(7, _)] ?_
    exact ⟨_, rfl, hS.sb⟩
  clear hS
  rintro f0 w _ ⟨tk, rfl, hS⟩
  refine Z.seq ?_
  refine Z.cut [7, 17, 18, 19, 20, 21, 22] (fun w z => ∃ tk : Int, z = [(7, .int .i64 tk)] ∧ Sep r [] (TpM gt A l.length cap lo (B + 2) :: .blk gr 100 En.zero.cells :: .blk gs 34 (s.cc c (⟨tA, tc, kA, kc⟩ : SAd)) :: .blk gc 30 (c.cl a) :: F) w) ?_ ?_
  · repeat' (first|refine Kw ?_|(refine Sh.sa hS ?_;clear hS;intro w hS)|(refine K3 ?_;clear hS;intro g w hS hge)|((first|refine GS ?_ ?_|refine VB ?_ ?_)<;>intro hb<;>(try simp only [J1,J2,J3,J4,J5,J6] at hb)<;>(try (exfalso;first|omega|exact hb trivial))))
    replace hS := hS.fo (R := TpM gt A l.length cap lo _)
    refine Z.eff (Z.cl (myes_z gt A l cap _ 20 _ _ _ hS (hrd.app [_, _, _]) hl (by omega) (by omega) (by omega)) rfl ?_) rfl
    clear hS
    rintro e w ⟨b1, rfl, hS⟩
    refine ⟨_, rfl, ?_⟩
    repeat' (first|refine Kw ?_|(refine Sh.sa hS ?_;clear hS;intro w hS)|(refine K3 ?_;clear hS;intro g w hS hge)|((first|refine GS ?_ ?_|refine VB ?_ ?_)<;>intro hb<;>(try simp only [J1,J2,J3,J4,J5,J6] at hb)<;>(try (exfalso;first|omega|exact hb trivial))))
    · refine Z.cutE [(7, _)] (by repeat (first | with_reducible exact Same.refl | with_reducible exact Same.mix | ((with_reducible refine Same.upd ?_ ?_); · rfl) | ((with_reducible refine Same.cons ?_ ?_); · rfl) | with_reducible refine Same.nil ?_ | ((with_reducible refine Same.mixS ?_ ?_); · rfl))) (by repeat (first | exact trivial | refine ⟨rfl, ?_⟩)) ?_
      exact ⟨_, rfl, ((hS.fo (R := TpM gt A l.length cap lo _)).TpM_le (B' := B + 2) (by omega)).sub (by repeat (first | exact Sub.rest | exact Sub.nil | exact .skip .rest | exact .skip (.skip .rest) | exact .skip (.skip (.skip .rest)) | apply Sub.keep | refine Sub.cons (by repeat (first | exact At.here | apply At.next)) ?_ | apply Sub.skip))⟩
    · refine Z.cutE [(7, _)] (by repeat (first | with_reducible exact Same.refl | with_reducible exact Same.mix | ((with_reducible refine Same.upd ?_ ?_); · rfl) | ((with_reducible refine Same.cons ?_ ?_); · rfl) | with_reducible refine Same.nil ?_ | ((with_reducible refine Same.mixS ?_ ?_); · rfl))) (by repeat (first | exact trivial | refine ⟨rfl, ?_⟩)) ?_
      exact ⟨_, rfl, ((hS.fo (R := TpM gt A l.length cap lo _)).TpM_le (B' := B + 2) (by omega)).sub (by repeat (first | exact Sub.rest | exact Sub.nil | exact .skip .rest | exact .skip (.skip .rest) | exact .skip (.skip (.skip .rest)) | apply Sub.keep | refine Sub.cons (by repeat (first | exact At.here | apply At.next)) ?_ | apply Sub.skip))⟩
  clear hS
  rintro f0 w _ ⟨tk, rfl, hS⟩
  refine Z.seq ?_
  refine Z.seq ?_
  refine Z.cut [23, 24, 25, 26, 27, 28, 29, 30] (fun w z => ∃ b : Bool, z = [(30, .bool b)] ∧ (b = false → c.tenants.length ≠ 0) ∧ Sep r [] (TpM gt A l.length cap lo (B + 3) :: .blk gr 100 En.zero.cells :: .blk gs 34 (s.cc c (⟨tA, tc, kA, kc⟩ : SAd)) :: .blk gc 30 (c.cl a) :: F) w) ?_ ?_
  · repeat' (first|refine K ?_|(refine Sh.sa hS ?_;clear hS;intro w hS)|(refine K3 ?_;clear hS;intro g w hS hge)|((first|refine GS ?_ ?_|refine VB ?_ ?_)<;>intro hb<;>(try simp only [J1,J2,J3,J4,J5,J6] at hb)<;>(try (exfalso;first|omega|exact hb trivial))))
    · refine Sh.cut [(30, _)] ?_
      exact ⟨_, rfl, (fun h => by simp at h), ((hS.fo (R := TpM gt A l.length cap lo _)).TpM_le (B' := B + 3) (by omega)).sub (by repeat (first | exact Sub.rest | exact Sub.nil | exact .skip .rest | exact .skip (.skip .rest) | exact .skip (.skip (.skip .rest)) | apply Sub.keep | refine Sub.cons (by repeat (first | exact At.here | apply At.next)) ?_ | apply Sub.skip))⟩
    · replace hS := hS.fo (R := TpM gt A l.length cap lo _)
      refine Z.eff (Z.cl (myes_z gt A l cap _ 4 _ _ _ hS (hrd.app [_, _, _]) hl (by omega) (by omega) (by omega)) rfl ?_) rfl
      clear hS
      rintro e w ⟨b1, rfl, hS⟩
      refine ⟨_, rfl, ?_⟩
      repeat' (first|refine K ?_|(refine Sh.sa hS ?_;clear hS;intro w hS)|(refine K3 ?_;clear hS;intro g w hS hge)|((first|refine GS ?_ ?_|refine VB ?_ ?_)<;>intro hb<;>(try simp only [J1,J2,J3,J4,J5,J6] at hb)<;>(try (exfalso;first|omega|exact hb trivial))))
      refine Sh.cut [(30, _)] ?_
      exact ⟨_, rfl, (fun _ => by omega), ((hS.fo (R := TpM gt A l.length cap lo _)).TpM_le (B' := B + 3) (by omega)).sub (by repeat (first | exact Sub.rest | exact Sub.nil | exact .skip .rest | exact .skip (.skip .rest) | exact .skip (.skip (.skip .rest)) | apply Sub.keep | refine Sub.cons (by repeat (first | exact At.here | apply At.next)) ?_ | apply Sub.skip))⟩
  clear hS
  rintro f0 w _ ⟨b, rfl, hne, hS⟩
  cases b
  case true =>
    repeat' (first|refine K ?_|(refine Sh.sa hS ?_;clear hS;intro w hS)|(refine K3 ?_;clear hS;intro g w hS hge)|((first|refine GS ?_ ?_|refine VB ?_ ?_)<;>intro hb<;>(try simp only [J1,J2,J3,J4,J5,J6] at hb)<;>(try (exfalso;first|omega|exact hb trivial))))
    replace hS := hS.fo (R := TpM gt A l.length cap lo _)
    refine Z.eff (Z.cl (platform_z gt A l cap _ c a s (⟨tA, tc, kA, kc⟩ : SAd) tk _ _ _ hS (hrd.app [_, _, _]) hl (by omega) hs ⟨hq.t.app [_, _, _], hq.k.app [_, _, _]⟩ ho) rfl ?_) rfl
    clear hS
    rintro e w ⟨e, rfl, hS⟩
    refine ⟨_, rfl, ?_⟩
    repeat' (first|refine K ?_|(refine Sh.sa hS ?_;clear hS;intro w hS)|(refine K3 ?_;clear hS;intro g w hS hge)|((first|refine GS ?_ ?_|refine VB ?_ ?_)<;>intro hb<;>(try simp only [J1,J2,J3,J4,J5,J6] at hb)<;>(try (exfalso;first|omega|exact hb trivial))))
    refine Dnc Tryz.results88 ?_
    exact ⟨e, rfl, ((hS.fo (R := TpM gt A l.length cap lo _)).TpM_le (B' := B + 40) (by omega)).sub (by repeat (first | exact Sub.rest | exact Sub.nil | exact .skip .rest | exact .skip (.skip .rest) | exact .skip (.skip (.skip .rest)) | apply Sub.keep | refine Sub.cons (by repeat (first | exact At.here | apply At.next)) ?_ | apply Sub.skip))⟩
  replace hne := hne rfl
  repeat' (first|refine K ?_|(refine Sh.sa hS ?_;clear hS;intro w hS)|(refine K3 ?_;clear hS;intro g w hS hge)|((first|refine GS ?_ ?_|refine VB ?_ ?_)<;>intro hb<;>(try simp only [J1,J2,J3,J4,J5,J6] at hb)<;>(try (exfalso;first|omega|exact hb trivial))))
  replace hS := hS.fo (R := TpM gt A l.length cap lo _)
  refine Z.eff (Z.cl (mnext_z gt A l cap _ _ _ _ _ hS (hrd.app [_, _, _]) hl (by omega) (by omega) (by omega)) rfl ?_) rfl
  clear hS
  rintro e w ⟨z0, rfl, hz0, hS⟩
  refine ⟨_, rfl, ?_⟩
  obtain ⟨q, rfl⟩ := Int.eq_ofNat_of_zero_le hz0.1
  have hq1 : q < c.tenants.length := by omega
  have hq2 : q < s.tenants.length := by rw [hs.tl]; exact hq1
  obtain ⟨gb, o, hA, hrt⟩ := reads_ts (hq.str hs) [_, _, _, _] hS hq2
  obtain ⟨x, hx⟩ : ∃ x, s.tenants[q]'hq2 = x := ⟨_, rfl⟩
  rw [hx] at hrt
  simp only at hA
  subst hA
  repeat' (first|refine K ?_|(refine Sh.sa hS ?_;clear hS;intro w hS)|(refine K3 ?_;clear hS;intro g w hS hge)|((first|refine GS ?_ ?_|refine VB ?_ ?_)<;>intro hb<;>(try simp only [J1,J2,J3,J4,J5,J6] at hb)<;>(try (exfalso;first|omega|exact hb trivial))))
  · refine Z.eff (Z.cl (none_z 1 tk _ _ _ hS) rfl ?_) rfl
    clear hS
    rintro e w ⟨rfl, hS⟩
    refine ⟨_, rfl, ?_⟩
    repeat' (first|refine K ?_|(refine Sh.sa hS ?_;clear hS;intro w hS)|(refine K3 ?_;clear hS;intro g w hS hge)|((first|refine GS ?_ ?_|refine VB ?_ ?_)<;>intro hb<;>(try simp only [J1,J2,J3,J4,J5,J6] at hb)<;>(try (exfalso;first|omega|exact hb trivial))))
    refine Z.eff (Z.cl (homes_z c a _ _ _ _ hS (hr.app [_, _, _, _, _, _]) ho) rfl ?_) rfl
    clear hS
    rintro e w ⟨p1, v1, c1, rfl, hp1, hS⟩
    refine ⟨_, rfl, ?_⟩
    have hpl1 := hp1.1
    repeat' (first|refine K ?_|(refine Sh.sa hS ?_;clear hS;intro w hS)|(refine K3 ?_;clear hS;intro g w hS hge)|((first|refine GS ?_ ?_|refine VB ?_ ?_)<;>intro hb<;>(try simp only [J1,J2,J3,J4,J5,J6] at hb)<;>(try (exfalso;first|omega|exact hb trivial))))
    replace hS := hS.fo (R := TpM gt A l.length cap lo _)
    refine Z.eff (Z.cl (pick_z gt A l cap _ v1 p1 c1 c.cells.length _ _ _ hS (hrd.app [_, _, _, _, _, _]) hl (by omega) (Reads.of_at (e := 3) (v := .slice v1 p1.length c1) (by repeat (first | exact At.here | apply At.next))) (by omega) hp1.2) rfl ?_) rfl
    clear hS
    rintro e w ⟨y1, rfl, hy1, hS⟩
    refine ⟨_, rfl, ?_⟩
    repeat' (first|refine K ?_|(refine Sh.sa hS ?_;clear hS;intro w hS)|(refine K3 ?_;clear hS;intro g w hS hge)|((first|refine GS ?_ ?_|refine VB ?_ ?_)<;>intro hb<;>(try simp only [J1,J2,J3,J4,J5,J6] at hb)<;>(try (exfalso;first|omega|exact hb trivial))))
    refine Z.eff (Z.cl (standbys_z c a _ _ _ _ _ hS (hr.app [_, _, _, _, _, _, _]) ho) rfl ?_) rfl
    clear hS
    rintro e w ⟨p2, v2, c2, rfl, hp2, hS⟩
    refine ⟨_, rfl, ?_⟩
    have hpl2 := hp2.1
    repeat' (first|refine K ?_|(refine Sh.sa hS ?_;clear hS;intro w hS)|(refine K3 ?_;clear hS;intro g w hS hge)|((first|refine GS ?_ ?_|refine VB ?_ ?_)<;>intro hb<;>(try simp only [J1,J2,J3,J4,J5,J6] at hb)<;>(try (exfalso;first|omega|exact hb trivial))))
    replace hS := hS.fo (R := TpM gt A l.length cap lo _)
    refine Z.eff (Z.cl (pick_z gt A l cap _ v2 p2 c2 c.cells.length _ _ _ hS (hrd.app [_, _, _, _, _, _, _]) hl (by omega) (Reads.of_at (e := 3) (v := .slice v2 p2.length c2) (by repeat (first | exact At.here | apply At.next))) (by omega) hp2.2) rfl ?_) rfl
    clear hS
    rintro e w ⟨y2, rfl, hy2, hS⟩
    refine ⟨_, rfl, ?_⟩
    repeat' (first|refine K ?_|(refine Sh.sa hS ?_;clear hS;intro w hS)|(refine K3 ?_;clear hS;intro g w hS hge)|((first|refine GS ?_ ?_|refine VB ?_ ?_)<;>intro hb<;>(try simp only [J1,J2,J3,J4,J5,J6] at hb)<;>(try (exfalso;first|omega|exact hb trivial))))
    refine Dnc Tryz.results88 ?_
    exact ⟨(⟨1, tk, (q : Int), max 0 y1, y2, 0, 0, 0, 0⟩ : En), rfl, ((hS.fo (R := TpM gt A l.length cap lo _)).TpM_le (B' := B + 40) (by omega)).sub (by repeat (first | exact Sub.rest | exact Sub.nil | exact .skip .rest | exact .skip (.skip .rest) | exact .skip (.skip (.skip .rest)) | apply Sub.keep | refine Sub.cons (by repeat (first | exact At.here | apply At.next)) ?_ | apply Sub.skip))⟩
  · rename x.placed = true => hpl
    rename Nat => g9
    refine Z.eff (Z.cl (none_z 2 tk _ _ _ hS) rfl ?_) rfl
    clear hS
    rintro e w ⟨rfl, hS⟩
    refine ⟨_, rfl, ?_⟩
    repeat' (first|refine K ?_|(refine Sh.sa hS ?_;clear hS;intro w hS)|(refine K3 ?_;clear hS;intro g w hS hge)|((first|refine GS ?_ ?_|refine VB ?_ ?_)<;>intro hb<;>(try simp only [J1,J2,J3,J4,J5,J6] at hb)<;>(try (exfalso;first|omega|exact hb trivial))))
    replace hS := hS.fo (R := TpM gt A l.length cap lo _)
    refine Z.eff (Z.cl (mnext_z gt A l cap _ 12 _ _ _ hS (hrd.app [_, _, _, _, _]) hl (by omega) (by omega) (by omega)) rfl ?_) rfl
    clear hS
    rintro e w ⟨z, rfl, hz, hS⟩
    refine ⟨_, rfl, ?_⟩
    repeat' (first|refine K ?_|(refine Sh.sa hS ?_;clear hS;intro w hS)|(refine K3 ?_;clear hS;intro g w hS hge)|((first|refine GS ?_ ?_|refine VB ?_ ?_)<;>intro hb<;>(try simp only [J1,J2,J3,J4,J5,J6] at hb)<;>(try (exfalso;first|omega|exact hb trivial))))
    · refine D.startS (Lr := [.blk g9 56 x.cells]) (hS.sb) 6 7 (by kernel_rfl) rfl ?_
      replace hS := hS.drew
      refine Sh.dp 0 1 ?_
      refine Sh.dp 3 9 ?_
      refine Sh.dl 1 11 ?_
      refine D.pl 2 15 rfl D.wantedN (by kernel_rfl) (R.max2 rfl rfl) ?_
      refine D.eff 4 31 rfl D.wantedN (by kernel_rfl) (by kernel_rfl) (fun _ _ h => h) ?_
      refine Z.st hS rfl (by repeat (first | exact At.here | apply At.next)) rfl rfl ?_
      clear hS; intro w hS
      refine ⟨HM.s (hS.sb), ?_⟩
      refine Sh.dp 5 63 ?_
      refine D.eff 6 127 rfl D.wantedN (by kernel_rfl) (by kernel_rfl) (fun _ _ h => h) ?_
      refine Z.st hS rfl (by repeat (first | exact At.here | apply At.next)) rfl rfl ?_
      clear hS; intro w hS
      refine ⟨HM.last (by kernel_rfl), ?_⟩
      refine D.done (by kernel_rfl) ?_
      repeat' (first|refine K ?_|(refine Sh.sa hS ?_;clear hS;intro w hS)|(refine K3 ?_;clear hS;intro g w hS hge)|((first|refine GS ?_ ?_|refine VB ?_ ?_)<;>intro hb<;>(try simp only [J1,J2,J3,J4,J5,J6] at hb)<;>(try (exfalso;first|omega|exact hb trivial))))
      refine Dnc Tryz.results88 ?_
      exact ⟨(⟨3, tk, (q : Int), -1, -1, max 1 x.epoch, 0, 0, 0⟩ : En), rfl, ((hS.fo (R := TpM gt A l.length cap lo _)).TpM_le (B' := B + 40) (by omega)).sub (by repeat (first | exact Sub.rest | exact Sub.nil | exact .skip .rest | exact .skip (.skip .rest) | exact .skip (.skip (.skip .rest)) | apply Sub.keep | refine Sub.cons (by repeat (first | exact At.here | apply At.next)) ?_ | apply Sub.skip))⟩
    · refine Z.eff (Z.cl (standbys_z c a _ _ _ _ _ hS (hr.app [_, _, _, _, _, _]) ho) rfl ?_) rfl
      clear hS
      rintro e w ⟨p1, v1, c1, rfl, hp1, hS⟩
      refine ⟨_, rfl, ?_⟩
      have hpl1 := hp1.1
      repeat' (first|refine K ?_|(refine Sh.sa hS ?_;clear hS;intro w hS)|(refine K3 ?_;clear hS;intro g w hS hge)|((first|refine GS ?_ ?_|refine VB ?_ ?_)<;>intro hb<;>(try simp only [J1,J2,J3,J4,J5,J6] at hb)<;>(try (exfalso;first|omega|exact hb trivial))))
      replace hS := hS.fo (R := TpM gt A l.length cap lo _)
      refine Z.eff (Z.cl (pick_z gt A l cap _ v1 p1 c1 c.cells.length _ _ _ hS (hrd.app [_, _, _, _, _, _]) hl (by omega) (Reads.of_at (e := 3) (v := .slice v1 p1.length c1) (by repeat (first | exact At.here | apply At.next))) (by omega) hp1.2) rfl ?_) rfl
      clear hS
      rintro e w ⟨y1, rfl, hy1, hS⟩
      refine ⟨_, rfl, ?_⟩
      repeat' (first|refine K ?_|(refine Sh.sa hS ?_;clear hS;intro w hS)|(refine K3 ?_;clear hS;intro g w hS hge)|((first|refine GS ?_ ?_|refine VB ?_ ?_)<;>intro hb<;>(try simp only [J1,J2,J3,J4,J5,J6] at hb)<;>(try (exfalso;first|omega|exact hb trivial))))
      refine Dnc Tryz.results88 ?_
      exact ⟨(⟨4, tk, (q : Int), y1, -1, 0, 0, 0, 0⟩ : En), rfl, ((hS.fo (R := TpM gt A l.length cap lo _)).TpM_le (B' := B + 40) (by omega)).sub (by repeat (first | exact Sub.rest | exact Sub.nil | exact .skip .rest | exact .skip (.skip .rest) | exact .skip (.skip (.skip .rest)) | apply Sub.keep | refine Sub.cons (by repeat (first | exact At.here | apply At.next)) ?_ | apply Sub.skip))⟩
    · refine D.startS (Lr := [.blk g9 56 x.cells]) (hS.sb) 6 7 (by kernel_rfl) rfl ?_
      replace hS := hS.drew
      refine Sh.dp 0 1 ?_
      refine Sh.dp 3 9 ?_
      refine Sh.dl 1 11 ?_
      refine D.pl 2 15 rfl D.wantedN (by kernel_rfl) (R.max2 rfl rfl) ?_
      refine D.eff 4 31 rfl D.wantedN (by kernel_rfl) (by kernel_rfl) (fun _ _ h => h) ?_
      refine Z.st hS rfl (by repeat (first | exact At.here | apply At.next)) rfl rfl ?_
      clear hS; intro w hS
      refine ⟨HM.s (hS.sb), ?_⟩
      refine Sh.dp 5 63 ?_
      refine D.eff 6 127 rfl D.wantedN (by kernel_rfl) (by kernel_rfl) (fun _ _ h => h) ?_
      refine Z.st hS rfl (by repeat (first | exact At.here | apply At.next)) rfl rfl ?_
      clear hS; intro w hS
      refine ⟨HM.last (by kernel_rfl), ?_⟩
      refine D.done (by kernel_rfl) ?_
      repeat' (first|refine K ?_|(refine Sh.sa hS ?_;clear hS;intro w hS)|(refine K3 ?_;clear hS;intro g w hS hge)|((first|refine GS ?_ ?_|refine VB ?_ ?_)<;>intro hb<;>(try simp only [J1,J2,J3,J4,J5,J6] at hb)<;>(try (exfalso;first|omega|exact hb trivial))))
      refine Dnc Tryz.results88 ?_
      exact ⟨(⟨5, tk, (q : Int), max 0 x.next, -1, 0, 0, 0, 0⟩ : En), rfl, ((hS.fo (R := TpM gt A l.length cap lo _)).TpM_le (B' := B + 40) (by omega)).sub (by repeat (first | exact Sub.rest | exact Sub.nil | exact .skip .rest | exact .skip (.skip .rest) | exact .skip (.skip (.skip .rest)) | apply Sub.keep | refine Sub.cons (by repeat (first | exact At.here | apply At.next)) ?_ | apply Sub.skip))⟩
    · refine Z.eff (Z.cl (homes_z c a _ _ _ _ hS (hr.app [_, _, _, _, _, _]) ho) rfl ?_) rfl
      clear hS
      rintro e w ⟨p1, v1, c1, rfl, hp1, hS⟩
      refine ⟨_, rfl, ?_⟩
      have hpl1 := hp1.1
      repeat' (first|refine K ?_|(refine Sh.sa hS ?_;clear hS;intro w hS)|(refine K3 ?_;clear hS;intro g w hS hge)|((first|refine GS ?_ ?_|refine VB ?_ ?_)<;>intro hb<;>(try simp only [J1,J2,J3,J4,J5,J6] at hb)<;>(try (exfalso;first|omega|exact hb trivial))))
      replace hS := hS.fo (R := TpM gt A l.length cap lo _)
      refine Z.eff (Z.cl (pick_z gt A l cap _ v1 p1 c1 c.cells.length _ _ _ hS (hrd.app [_, _, _, _, _, _]) hl (by omega) (Reads.of_at (e := 3) (v := .slice v1 p1.length c1) (by repeat (first | exact At.here | apply At.next))) (by omega) hp1.2) rfl ?_) rfl
      clear hS
      rintro e w ⟨y1, rfl, hy1, hS⟩
      refine ⟨_, rfl, ?_⟩
      repeat' (first|refine K ?_|(refine Sh.sa hS ?_;clear hS;intro w hS)|(refine K3 ?_;clear hS;intro g w hS hge)|((first|refine GS ?_ ?_|refine VB ?_ ?_)<;>intro hb<;>(try simp only [J1,J2,J3,J4,J5,J6] at hb)<;>(try (exfalso;first|omega|exact hb trivial))))
      refine Dnc Tryz.results88 ?_
      exact ⟨(⟨6, tk, (q : Int), max 0 y1, -1, 0, 0, 0, 0⟩ : En), rfl, ((hS.fo (R := TpM gt A l.length cap lo _)).TpM_le (B' := B + 40) (by omega)).sub (by repeat (first | exact Sub.rest | exact Sub.nil | exact .skip .rest | exact .skip (.skip .rest) | exact .skip (.skip (.skip .rest)) | apply Sub.keep | refine Sub.cons (by repeat (first | exact At.here | apply At.next)) ?_ | apply Sub.skip))⟩
    · refine Dnc Tryz.results88 ?_
      exact ⟨(⟨7, tk, (q : Int), -1, -1, 0, 0, 0, 0⟩ : En), rfl, ((hS.fo (R := TpM gt A l.length cap lo _)).TpM_le (B' := B + 40) (by omega)).sub (by repeat (first | exact Sub.rest | exact Sub.nil | exact .skip .rest | exact .skip (.skip .rest) | exact .skip (.skip (.skip .rest)) | apply Sub.keep | refine Sub.cons (by repeat (first | exact At.here | apply At.next)) ?_ | apply Sub.skip))⟩
    · refine Dnc Tryz.results88 ?_
      exact ⟨(⟨8, tk, (q : Int), -1, -1, 0, 0, 0, 0⟩ : En), rfl, ((hS.fo (R := TpM gt A l.length cap lo _)).TpM_le (B' := B + 40) (by omega)).sub (by repeat (first | exact Sub.rest | exact Sub.nil | exact .skip .rest | exact .skip (.skip .rest) | exact .skip (.skip (.skip .rest)) | apply Sub.keep | refine Sub.cons (by repeat (first | exact At.here | apply At.next)) ?_ | apply Sub.skip))⟩
    · refine Dnc Tryz.results88 ?_
      exact ⟨(⟨8, tk, (q : Int), -1, -1, 0, 0, 0, 1⟩ : En), rfl, ((hS.fo (R := TpM gt A l.length cap lo _)).TpM_le (B' := B + 40) (by omega)).sub (by repeat (first | exact Sub.rest | exact Sub.nil | exact .skip .rest | exact .skip (.skip .rest) | exact .skip (.skip (.skip .rest)) | apply Sub.keep | refine Sub.cons (by repeat (first | exact At.here | apply At.next)) ?_ | apply Sub.skip))⟩
    · replace hS := hS.fo (R := TpM gt A l.length cap lo _)
      refine Z.eff (Z.cl (mgrant_z gt A l cap _ c a s _ q 2 tk (-1) (-1) 0 0 0 0 _ _ _ hS (hrd.app [_, _, _, _, _]) hl (by omega) (hr.app [_, _, _, _, _]) hs ⟨hq.t.app [_, _, _, _, _], hq.k.app [_, _, _, _, _]⟩ ho hq1 (fun _ => by rw [hx]; exact hpl)) rfl ?_) rfl
      clear hS
      rintro e w ⟨e, rfl, hS⟩
      refine ⟨_, rfl, ?_⟩
      repeat' (first|refine K ?_|(refine Sh.sa hS ?_;clear hS;intro w hS)|(refine K3 ?_;clear hS;intro g w hS hge)|((first|refine GS ?_ ?_|refine VB ?_ ?_)<;>intro hb<;>(try simp only [J1,J2,J3,J4,J5,J6] at hb)<;>(try (exfalso;first|omega|exact hb trivial))))
      refine Dnc Tryz.results88 ?_
      exact ⟨e, rfl, ((hS.fo (R := TpM gt A l.length cap lo _)).TpM_le (B' := B + 40) (by omega)).sub (by repeat (first | exact Sub.rest | exact Sub.nil | exact .skip .rest | exact .skip (.skip .rest) | exact .skip (.skip (.skip .rest)) | apply Sub.keep | refine Sub.cons (by repeat (first | exact At.here | apply At.next)) ?_ | apply Sub.skip))⟩
end Go.Proofs.YtmgpionlfemhdaaGreat
