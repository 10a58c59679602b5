/-
  The sum of a manifest, of the program's and of the reference's; which manifests are light.
-/
import Derived.Test.YtiabhlogadboeaaGreatNHoW
import Derived.Test.YtiabhlogadboeaaGreatNHoA
namespace Go.Proofs.YtiabhlogadboeaaGreat
open Go.RowKit
set_option linter.unusedSimpArgs false
set_option linter.unusedVariables false
attribute [local irreducible] Res.blk Res.sl Res.all Res.ex Res.pure Res.star

set_option maxHeartbeats 4000000 in
theorem wjoin_z (m : Mf) (hm : m.ok) (vk vi vs : Value) (g T : Nat) (r : World) (F : List Res) (w : World) (hS : Sep r [] (.blk g T [.iface 3 (.int .i64 m.tenant), .iface 3 (.int .i64 m.length), .iface 3 (.int .i64 m.epoch), .iface 33 vk, .iface 22 vi, .iface 22 vs] :: F) w) (hk : Reads r F 1 vk (m.keys.map kC)) (hi : Reads r F 1 vi (m.items.map intC)) (hs : Reads r F 1 vs (m.sessions.map intC)) :
    Calls Tryz.prog 59 #[.slice (some ⟨g, 0, none⟩) 6 6] w fun e w' => ∃ A c, e = .returned (.slice A (mfL m).length c) ∧ Sep r [] (.sl 5 1 (.slice A (mfL m).length c) ((mfL m).map byC) :: .blk g T [.iface 3 (.int .i64 m.tenant), .iface 3 (.int .i64 m.length), .iface 3 (.int .i64 m.epoch), .iface 33 vk, .iface 22 vi, .iface 22 vs] :: F) w' := by
  obtain ⟨Ak, ck, rfl, _⟩ := (hk [_] w hS).mform
  obtain ⟨Ai, ci, rfl, _⟩ := (hi [_] w hS).mform
  obtain ⟨As, cs, rfl, _⟩ := (hs [_] w hS).mform
  have p1 := putL_len hm.t
  have p2 := putL_len hm.l
  have p3 := putL_len hm.e
  have hkn := hm.kn
  have p4 := putL_len (n := (m.keys.length : Int)) (len_ok (by omega))
  refine Z.enter Tryz.func59 Tryz.ntmps59 rfl rfl ?_
  repeat' (first|refine K ?_|(refine Sh.sa hS ?_;clear hS;intro w hS)|(refine K3 ?_;clear hS;intro g w hS hge)|((first|refine GS ?_ ?_|refine VB ?_ ?_)<;>intro hb<;>(try simp only [J1,J2,J3,J4,J5,J6] at hb)<;>(try (exfalso;first|omega|exact hb trivial))))
  replace hS := Z.nilsl hS 5 1 none
  refine Z.unr 6 ?_
  repeat' (first|refine K ?_|(refine Sh.sa hS ?_;clear hS;intro w hS)|(refine K3 ?_;clear hS;intro g w hS hge)|((first|refine GS ?_ ?_|refine VB ?_ ?_)<;>intro hb<;>(try simp only [J1,J2,J3,J4,J5,J6] at hb)<;>(try (exfalso;first|omega|exact hb trivial))))
  refine Z.eff (Z.cl (wint_z [] (.slice none 0 0) m.tenant hm.t _ _ _ hS (Reads.of_at (e := 5) (v := .slice none 0 0) .here) (by simp)) rfl ?_) rfl
  clear hS
  rintro e w ⟨A1, c1, rfl, hS⟩
  refine ⟨_, rfl, ?_⟩
  replace hS := hS.sub (L' := .sl 5 1 (.slice A1 ([] ++ putL m.tenant).length c1) _ :: .blk g T [.iface 3 (.int .i64 m.tenant), .iface 3 (.int .i64 m.length), .iface 3 (.int .i64 m.epoch), .iface 33 (.slice Ak m.keys.length ck), .iface 22 (.slice Ai m.items.length ci), .iface 22 (.slice As m.sessions.length cs)] :: F) (by repeat (first | exact Sub.rest | exact Sub.nil | exact .skip .rest | exact .skip (.skip .rest) | exact .skip (.skip (.skip .rest)) | apply Sub.keep | refine Sub.cons (by repeat (first | exact At.here | apply At.next)) ?_ | apply Sub.skip))
  rw [List.nil_append] at hS ⊢
  repeat' (first|refine K ?_|(refine Sh.sa hS ?_;clear hS;intro w hS)|(refine K3 ?_;clear hS;intro g w hS hge)|((first|refine GS ?_ ?_|refine VB ?_ ?_)<;>intro hb<;>(try simp only [J1,J2,J3,J4,J5,J6] at hb)<;>(try (exfalso;first|omega|exact hb trivial))))
  refine Z.eff (Z.cl (wint_z (putL m.tenant) (.slice A1 _ c1) m.length hm.l _ _ _ hS (Reads.of_at (e := 5) .here) (by omega)) rfl ?_) rfl
  clear hS
  rintro e w ⟨A2, c2, rfl, hS⟩
  refine ⟨_, rfl, ?_⟩
  replace hS := hS.sub (L' := .sl 5 1 (.slice A2 (putL m.tenant ++ putL m.length).length c2) _ :: .blk g T [.iface 3 (.int .i64 m.tenant), .iface 3 (.int .i64 m.length), .iface 3 (.int .i64 m.epoch), .iface 33 (.slice Ak m.keys.length ck), .iface 22 (.slice Ai m.items.length ci), .iface 22 (.slice As m.sessions.length cs)] :: F) (by repeat (first | exact Sub.rest | exact Sub.nil | exact .skip .rest | exact .skip (.skip .rest) | exact .skip (.skip (.skip .rest)) | apply Sub.keep | refine Sub.cons (by repeat (first | exact At.here | apply At.next)) ?_ | apply Sub.skip))
  repeat' (first|refine K ?_|(refine Sh.sa hS ?_;clear hS;intro w hS)|(refine K3 ?_;clear hS;intro g w hS hge)|((first|refine GS ?_ ?_|refine VB ?_ ?_)<;>intro hb<;>(try simp only [J1,J2,J3,J4,J5,J6] at hb)<;>(try (exfalso;first|omega|exact hb trivial))))
  refine Z.eff (Z.cl (wint_z (putL m.tenant ++ putL m.length) (.slice A2 _ c2) m.epoch hm.e _ _ _ hS (Reads.of_at (e := 5) .here) (by rw [List.length_append]; omega)) rfl ?_) rfl
  clear hS
  rintro e w ⟨A3, c3, rfl, hS⟩
  refine ⟨_, rfl, ?_⟩
  replace hS := hS.sub (L' := .sl 5 1 (.slice A3 (putL m.tenant ++ putL m.length ++ putL m.epoch).length c3) _ :: .blk g T [.iface 3 (.int .i64 m.tenant), .iface 3 (.int .i64 m.length), .iface 3 (.int .i64 m.epoch), .iface 33 (.slice Ak m.keys.length ck), .iface 22 (.slice Ai m.items.length ci), .iface 22 (.slice As m.sessions.length cs)] :: F) (by repeat (first | exact Sub.rest | exact Sub.nil | exact .skip .rest | exact .skip (.skip .rest) | exact .skip (.skip (.skip .rest)) | apply Sub.keep | refine Sub.cons (by repeat (first | exact At.here | apply At.next)) ?_ | apply Sub.skip))
  obtain ⟨l3, hl3⟩ : ∃ l3, l3 = putL m.tenant ++ putL m.length ++ putL m.epoch := ⟨_, rfl⟩
  have hl3n : l3.length ≤ 30 := by rw [hl3, List.length_append, List.length_append]; omega
  rw [← hl3] at hS ⊢
  repeat' (first|refine K ?_|(refine Sh.sa hS ?_;clear hS;intro w hS)|(refine K3 ?_;clear hS;intro g w hS hge)|((first|refine GS ?_ ?_|refine VB ?_ ?_)<;>intro hb<;>(try simp only [J1,J2,J3,J4,J5,J6] at hb)<;>(try (exfalso;first|omega|exact hb trivial))))
  refine Z.eff (Z.cl (wint_z l3 (.slice A3 _ c3) m.keys.length (len_ok (by omega)) _ _ _ hS (Reads.of_at (e := 5) .here) (by omega)) rfl ?_) rfl
  clear hS
  rintro e w ⟨A4, c4, rfl, hS⟩
  refine ⟨_, rfl, ?_⟩
  repeat' (first|refine K ?_|(refine Sh.sa hS ?_;clear hS;intro w hS)|(refine K3 ?_;clear hS;intro g w hS hge)|((first|refine GS ?_ ?_|refine VB ?_ ?_)<;>intro hb<;>(try simp only [J1,J2,J3,J4,J5,J6] at hb)<;>(try (exfalso;first|omega|exact hb trivial))))
  refine Z.lpS [3, 10, 39, 40, 41, 42, 43, 44, 45, 46] (fun q w s => ∃ (i : Nat) (l' : List Int) (A : Option Addr) (c : Nat), s = [(3, .slice A l'.length c), (39, .int .i64 i)] ∧ i ≤ m.keys.length ∧ l' = (l3 ++ putL m.keys.length) ++ (m.keys.take i).flatMap txtL ∧ q = m.keys.length - i ∧ Sep r [] (.sl 5 1 (.slice A l'.length c) (l'.map byC) :: .blk g T [.iface 3 (.int .i64 m.tenant), .iface 3 (.int .i64 m.length), .iface 3 (.int .i64 m.epoch), .iface 33 (.slice Ak m.keys.length ck), .iface 22 (.slice Ai m.items.length ci), .iface 22 (.slice As m.sessions.length cs)] :: F) w) _ [(3, .slice A4 (l3 ++ putL m.keys.length).length c4), (39, .int .i64 (0 : Nat))] (by repeat (first | exact trivial | refine ⟨rfl, ?_⟩)) ⟨0, l3 ++ putL m.keys.length, A4, c4, rfl, by omega, by simp, rfl, hS.sb⟩ ?_
  clear hS
  rintro q f0 w _ ⟨i, l', A, c, rfl, hile, hl', rfl, hS⟩
  have hln : l'.length ≤ 512000 := by
    have h1 := flatT_len (l := m.keys.take i) fun x hx => hm.k x (List.mem_of_mem_take hx)
    rw [List.length_take] at h1
    rw [hl', List.length_append, List.length_append]
    omega
  by_cases hlt : i < m.keys.length
  · obtain ⟨gb, o, rfl, _, hra⟩ := (hk [_, _] w hS).mat (by omega) (q := i) hlt
    have hks := hm.k m.keys[i] (by simp)
    repeat' (first|refine K ?_|(refine Sh.sa hS ?_;clear hS;intro w hS)|(refine K3 ?_;clear hS;intro g w hS hge)|((first|refine GS ?_ ?_|refine VB ?_ ?_)<;>intro hb<;>(try simp only [J1,J2,J3,J4,J5,J6] at hb)<;>(try (exfalso;first|omega|exact hb trivial))))
    refine Z.eff (Z.cl (wtext_z l' (.slice A _ c) m.keys[i] (by omega) _ _ _ hS (Reads.of_at (e := 5) .here) (by omega)) rfl ?_) rfl
    clear hS
    rintro e w ⟨A', c', rfl, hS⟩
    refine ⟨_, rfl, ?_⟩
    repeat' (first|refine K ?_|(refine Sh.sa hS ?_;clear hS;intro w hS)|(refine K3 ?_;clear hS;intro g w hS hge)|((first|refine GS ?_ ?_|refine VB ?_ ?_)<;>intro hb<;>(try simp only [J1,J2,J3,J4,J5,J6] at hb)<;>(try (exfalso;first|omega|exact hb trivial))))
    refine Sh.again (m.keys.length - (i + 1)) [(3, .slice A' (l' ++ txtL m.keys[i]).length c'), (39, .int .i64 (i + 1 : Nat))] ?_
    exact ⟨i + 1, _, A', c', rfl, by omega, by rw [hl', List.append_assoc, flatM_take txtL m.keys hlt], rfl, hS.sb⟩
  · have hi0 : i = m.keys.length := by omega
    have e4 : l' = l3 ++ txtsL m.keys := by rw [hl', hi0, List.take_length]; unfold txtsL; rw [List.append_assoc]
    clear hl'
    repeat' (first|refine K ?_|(refine Sh.sa hS ?_;clear hS;intro w hS)|(refine K3 ?_;clear hS;intro g w hS hge)|((first|refine GS ?_ ?_|refine VB ?_ ?_)<;>intro hb<;>(try simp only [J1,J2,J3,J4,J5,J6] at hb)<;>(try (exfalso;first|omega|exact hb trivial))))
    refine Z.eff (Z.cl (wints_z l' (.slice A _ c) m.items (.slice Ai _ ci) _ _ _ hS (Reads.of_at (e := 5) .here) ((hi.cons _).cons _) (by omega) hm.jn hm.j) rfl ?_) rfl
    clear hS
    rintro e w ⟨A5, c5, rfl, hS⟩
    refine ⟨_, rfl, ?_⟩
    replace hS := hS.sub (L' := .sl 5 1 (.slice A5 (l' ++ intsL m.items).length c5) _ :: .blk g T [.iface 3 (.int .i64 m.tenant), .iface 3 (.int .i64 m.length), .iface 3 (.int .i64 m.epoch), .iface 33 (.slice Ak m.keys.length ck), .iface 22 (.slice Ai m.items.length ci), .iface 22 (.slice As m.sessions.length cs)] :: F) (by repeat (first | exact Sub.rest | exact Sub.nil | exact .skip .rest | exact .skip (.skip .rest) | exact .skip (.skip (.skip .rest)) | apply Sub.keep | refine Sub.cons (by repeat (first | exact At.here | apply At.next)) ?_ | apply Sub.skip))
    have h5 := intsL_len hm.jn hm.j
    repeat' (first|refine K ?_|(refine Sh.sa hS ?_;clear hS;intro w hS)|(refine K3 ?_;clear hS;intro g w hS hge)|((first|refine GS ?_ ?_|refine VB ?_ ?_)<;>intro hb<;>(try simp only [J1,J2,J3,J4,J5,J6] at hb)<;>(try (exfalso;first|omega|exact hb trivial))))
    refine Z.eff (Z.cl (wints_z (l' ++ intsL m.items) (.slice A5 _ c5) m.sessions (.slice As _ cs) _ _ _ hS (Reads.of_at (e := 5) .here) ((hs.cons _).cons _) (by rw [List.length_append]; omega) hm.sn hm.s) rfl ?_) rfl
    clear hS
    rintro e w ⟨A6, c6, rfl, hS⟩
    refine ⟨_, rfl, ?_⟩
    repeat' (first|refine K ?_|(refine Sh.sa hS ?_;clear hS;intro w hS)|(refine K3 ?_;clear hS;intro g w hS hge)|((first|refine GS ?_ ?_|refine VB ?_ ?_)<;>intro hb<;>(try simp only [J1,J2,J3,J4,J5,J6] at hb)<;>(try (exfalso;first|omega|exact hb trivial))))
    refine Dnt Tryz.results59 ?_
    have e6 : l' ++ intsL m.items ++ intsL m.sessions = mfL m := by rw [e4, hl3]; unfold mfL; simp only [List.append_assoc]
    rw [e6] at hS ⊢
    exact ⟨A6, c6, rfl, hS.sb⟩
set_option maxHeartbeats 1000000 in
theorem psum_z (m : Mf) (hm : m.ok) (vk vi vs : Value) (key : Int) (r : World) (F : List Res) (w : World) (hS : Sep r [] F w) (hk : Reads r F 1 vk (m.keys.map kC)) (hi : Reads r F 1 vi (m.items.map intC)) (hs : Reads r F 1 vs (m.sessions.map intC)) :
    Calls Tryz.prog 24 #[m.val vk vi vs, .int .i64 key] w fun e w' => e = .returned (.int .u64 (sumF key (mfL m))) ∧ Sep r [] F w' := by
  obtain ⟨Ak, ck, rfl, _⟩ := (hk [] w hS).mform
  obtain ⟨Ai, ci, rfl, _⟩ := (hi [] w hS).mform
  obtain ⟨As, cs, rfl, _⟩ := (hs [] w hS).mform
  have hlen := mfL_len hm
  refine Z.enter Tryz.func24 Tryz.ntmps24 rfl rfl ?_
  repeat' (first|refine K ?_|(refine Sh.sa hS ?_;clear hS;intro w hS)|(refine K3 ?_;clear hS;intro g w hS hge)|((first|refine GS ?_ ?_|refine VB ?_ ?_)<;>intro hb<;>(try simp only [J1,J2,J3,J4,J5,J6] at hb)<;>(try (exfalso;first|omega|exact hb trivial))))
  refine Z.eff (Z.cl (wjoin_z m hm _ _ _ _ _ _ _ _ hS (hk.cons _) (hi.cons _) (hs.cons _)) rfl ?_) rfl
  clear hS
  rintro e w ⟨A, c, rfl, hS⟩
  refine ⟨_, rfl, ?_⟩
  repeat' (first|refine K ?_|(refine Sh.sa hS ?_;clear hS;intro w hS)|(refine K3 ?_;clear hS;intro g w hS hge)|((first|refine GS ?_ ?_|refine VB ?_ ?_)<;>intro hb<;>(try simp only [J1,J2,J3,J4,J5,J6] at hb)<;>(try (exfalso;first|omega|exact hb trivial))))
  refine Z.eff (Z.cl (dsum_z key (mfL m) (.slice A _ c) _ _ _ hS (Reads.of_at (e := 5) .here) (mfL_ok m) (by omega)) rfl ?_) rfl
  clear hS
  rintro e w ⟨rfl, hS⟩
  refine ⟨_, rfl, ?_⟩
  repeat' (first|refine K ?_|(refine Sh.sa hS ?_;clear hS;intro w hS)|(refine K3 ?_;clear hS;intro g w hS hge)|((first|refine GS ?_ ?_|refine VB ?_ ?_)<;>intro hb<;>(try simp only [J1,J2,J3,J4,J5,J6] at hb)<;>(try (exfalso;first|omega|exact hb trivial))))
  refine Dnt Tryz.results24 ?_
  exact ⟨rfl, hS.sb⟩
set_option maxHeartbeats 4000000 in
theorem rsum_z (m : Mf) (hm : m.ok) (vk vi vs : Value) (key : Int) (r : World) (F : List Res) (w : World) (hS : Sep r [] F w) (hk : Reads r F 1 vk (m.keys.map kC)) (hi : Reads r F 1 vi (m.items.map intC)) (hs : Reads r F 1 vs (m.sessions.map intC)) :
    Calls Tryz.prog 61 #[m.val vk vi vs, .int .i64 key] w fun e w' => e = .returned (.int .u64 (sumF key (mfL m))) ∧ Sep r [] F w' := by
  obtain ⟨Ak, ck, rfl, _⟩ := (hk [] w hS).mform
  obtain ⟨Ai, ci, rfl, _⟩ := (hi [] w hS).mform
  obtain ⟨As, cs, rfl, _⟩ := (hs [] w hS).mform
  have hlen := mfL_len hm
  have p1 := putL_len hm.t
  have p2 := putL_len hm.l
  have p3 := putL_len hm.e
  have hkn := hm.kn
  have hjn := hm.jn
  have hsn := hm.sn
  have p4 := putL_len (n := (m.keys.length : Int)) (len_ok (by omega))
  have p5 := putL_len (n := (m.items.length : Int)) (len_ok (by omega))
  have p6 := putL_len (n := (m.sessions.length : Int)) (len_ok (by omega))
  refine Z.enter Tryz.func61 Tryz.ntmps61 rfl rfl ?_
  repeat' (first|refine K ?_|(refine Sh.sa hS ?_;clear hS;intro w hS)|(refine K3 ?_;clear hS;intro g w hS hge)|((first|refine GS ?_ ?_|refine VB ?_ ?_)<;>intro hb<;>(try simp only [J1,J2,J3,J4,J5,J6] at hb)<;>(try (exfalso;first|omega|exact hb trivial))))
  rename Nat => gq
  replace hS := Z.nilsl hS 5 1 none
  refine Z.unr 4 ?_
  repeat' (first|refine K ?_|(refine Sh.sa hS ?_;clear hS;intro w hS)|(refine K3 ?_;clear hS;intro g w hS hge)|((first|refine GS ?_ ?_|refine VB ?_ ?_)<;>intro hb<;>(try simp only [J1,J2,J3,J4,J5,J6] at hb)<;>(try (exfalso;first|omega|exact hb trivial))))
  refine Z.eff (Z.cl (rint_z [] (.slice none 0 0) m.tenant hm.t _ _ _ hS (Reads.of_at (e := 5) (v := .slice none 0 0) .here) (by simp)) rfl ?_) rfl
  clear hS
  rintro e w ⟨A1, c1, rfl, hS⟩
  refine ⟨_, rfl, ?_⟩
  rw [List.nil_append] at hS ⊢
  repeat' (first|refine K ?_|(refine Sh.sa hS ?_;clear hS;intro w hS)|(refine K3 ?_;clear hS;intro g w hS hge)|((first|refine GS ?_ ?_|refine VB ?_ ?_)<;>intro hb<;>(try simp only [J1,J2,J3,J4,J5,J6] at hb)<;>(try (exfalso;first|omega|exact hb trivial))))
  refine Z.eff (Z.cl (rint_z (putL m.tenant) (.slice A1 _ c1) m.length hm.l _ _ _ hS (Reads.of_at (e := 5) .here) (by omega)) rfl ?_) rfl
  clear hS
  rintro e w ⟨A2, c2, rfl, hS⟩
  refine ⟨_, rfl, ?_⟩
  repeat' (first|refine K ?_|(refine Sh.sa hS ?_;clear hS;intro w hS)|(refine K3 ?_;clear hS;intro g w hS hge)|((first|refine GS ?_ ?_|refine VB ?_ ?_)<;>intro hb<;>(try simp only [J1,J2,J3,J4,J5,J6] at hb)<;>(try (exfalso;first|omega|exact hb trivial))))
  refine Z.eff (Z.cl (rint_z (putL m.tenant ++ putL m.length) (.slice A2 _ c2) m.epoch hm.e _ _ _ hS (Reads.of_at (e := 5) .here) (by rw [List.length_append]; omega)) rfl ?_) rfl
  clear hS
  rintro e w ⟨A3, c3, rfl, hS⟩
  refine ⟨_, rfl, ?_⟩
  obtain ⟨l3, hl3⟩ : ∃ l3, l3 = putL m.tenant ++ putL m.length ++ putL m.epoch := ⟨_, rfl⟩
  have hl3n : l3.length ≤ 30 := by rw [hl3, List.length_append, List.length_append]; omega
  rw [← hl3] at hS ⊢
  repeat' (first|refine K ?_|(refine Sh.sa hS ?_;clear hS;intro w hS)|(refine K3 ?_;clear hS;intro g w hS hge)|((first|refine GS ?_ ?_|refine VB ?_ ?_)<;>intro hb<;>(try simp only [J1,J2,J3,J4,J5,J6] at hb)<;>(try (exfalso;first|omega|exact hb trivial))))
  refine Z.eff (Z.cl (rint_z l3 (.slice A3 _ c3) m.keys.length (len_ok (by omega)) _ _ _ hS (Reads.of_at (e := 5) .here) (by omega)) rfl ?_) rfl
  clear hS
  rintro e w ⟨A4, c4, rfl, hS⟩
  refine ⟨_, rfl, ?_⟩
  repeat' (first|refine K ?_|(refine Sh.sa hS ?_;clear hS;intro w hS)|(refine K3 ?_;clear hS;intro g w hS hge)|((first|refine GS ?_ ?_|refine VB ?_ ?_)<;>intro hb<;>(try simp only [J1,J2,J3,J4,J5,J6] at hb)<;>(try (exfalso;first|omega|exact hb trivial))))
  replace hS := hS.sub (L' := .sl 5 1 (.slice A4 (l3 ++ putL m.keys.length).length c4) ((l3 ++ putL m.keys.length).map byC) :: .blk g 36 (m.cells (.slice Ak m.keys.length ck) (.slice Ai m.items.length ci) (.slice As m.sessions.length cs)) :: F) (by repeat (first | exact Sub.rest | exact Sub.nil | exact .skip .rest | exact .skip (.skip .rest) | exact .skip (.skip (.skip .rest)) | apply Sub.keep | refine Sub.cons (by repeat (first | exact At.here | apply At.next)) ?_ | apply Sub.skip))
  refine Z.lpS [5, 9, 36, 37, 38, 39, 40, 41, 42, 43] (fun q w s => ∃ (i : Nat) (l' : List Int) (A : Option Addr) (c : Nat), s = [(5, .slice A l'.length c), (36, .int .i64 i)] ∧ i ≤ m.keys.length ∧ l' = (l3 ++ putL m.keys.length) ++ (m.keys.take i).flatMap txtL ∧ q = m.keys.length - i ∧ Sep r [] (.sl 5 1 (.slice A l'.length c) (l'.map byC) :: .blk g 36 (m.cells (.slice Ak m.keys.length ck) (.slice Ai m.items.length ci) (.slice As m.sessions.length cs)) :: F) w) _ [(5, .slice A4 (l3 ++ putL m.keys.length).length c4), (36, .int .i64 (0 : Nat))] (by repeat (first | exact trivial | refine ⟨rfl, ?_⟩)) ⟨0, l3 ++ putL m.keys.length, A4, c4, rfl, by omega, by simp, rfl, hS⟩ ?_
  clear hS
  rintro q f0 w _ ⟨i, l', A, c, rfl, hile, hl', rfl, hS⟩
  have hln : l'.length ≤ 512000 := by
    have h1 := flatT_len (l := m.keys.take i) fun x hx => hm.k x (List.mem_of_mem_take hx)
    rw [List.length_take] at h1
    rw [hl', List.length_append, List.length_append]
    omega
  by_cases hlt : i < m.keys.length
  · obtain ⟨gb, o, rfl, _, hra⟩ := (hk [_, _] w hS).mat (by omega) (q := i) hlt
    have hks := hm.k m.keys[i] (by simp)
    repeat' (first|refine K ?_|(refine Sh.sa hS ?_;clear hS;intro w hS)|(refine K3 ?_;clear hS;intro g w hS hge)|((first|refine GS ?_ ?_|refine VB ?_ ?_)<;>intro hb<;>(try simp only [J1,J2,J3,J4,J5,J6] at hb)<;>(try (exfalso;first|omega|exact hb trivial))))
    refine Z.eff (Z.cl (rtext_z l' (.slice A _ c) m.keys[i] (by omega) _ _ _ hS (Reads.of_at (e := 5) .here) (by omega)) rfl ?_) rfl
    clear hS
    rintro e w ⟨A', c', rfl, hS⟩
    refine ⟨_, rfl, ?_⟩
    repeat' (first|refine K ?_|(refine Sh.sa hS ?_;clear hS;intro w hS)|(refine K3 ?_;clear hS;intro g w hS hge)|((first|refine GS ?_ ?_|refine VB ?_ ?_)<;>intro hb<;>(try simp only [J1,J2,J3,J4,J5,J6] at hb)<;>(try (exfalso;first|omega|exact hb trivial))))
    refine Sh.again (m.keys.length - (i + 1)) [(5, .slice A' (l' ++ txtL m.keys[i]).length c'), (36, .int .i64 (i + 1 : Nat))] ?_
    exact ⟨i + 1, _, A', c', rfl, by omega, by rw [hl', List.append_assoc, flatM_take txtL m.keys hlt], rfl, hS.sb⟩
  · have hi0 : i = m.keys.length := by omega
    have e4 : l' = l3 ++ txtsL m.keys := by rw [hl', hi0, List.take_length]; unfold txtsL; rw [List.append_assoc]
    clear hl' hlt
    repeat' (first|refine K ?_|(refine Sh.sa hS ?_;clear hS;intro w hS)|(refine K3 ?_;clear hS;intro g w hS hge)|((first|refine GS ?_ ?_|refine VB ?_ ?_)<;>intro hb<;>(try simp only [J1,J2,J3,J4,J5,J6] at hb)<;>(try (exfalso;first|omega|exact hb trivial))))
    rename Nat => gp
    refine Z.unr 2 ?_
    repeat' (first|refine K ?_|(refine Sh.sa hS ?_;clear hS;intro w hS)|(refine K3 ?_;clear hS;intro g w hS hge)|((first|refine GS ?_ ?_|refine VB ?_ ?_)<;>intro hb<;>(try simp only [J1,J2,J3,J4,J5,J6] at hb)<;>(try (exfalso;first|omega|exact hb trivial))))
    refine Z.eff (Z.cl (rint_z l' (.slice A _ c) m.items.length (len_ok (by omega)) _ _ _ hS (Reads.of_at (e := 5) (v := .slice A _ c) (by repeat (first | exact At.here | apply At.next))) (by omega)) rfl ?_) rfl
    clear hS
    rintro e w ⟨A5, c5, rfl, hS⟩
    refine ⟨_, rfl, ?_⟩
    repeat' (first|refine K ?_|(refine Sh.sa hS ?_;clear hS;intro w hS)|(refine K3 ?_;clear hS;intro g w hS hge)|((first|refine GS ?_ ?_|refine VB ?_ ?_)<;>intro hb<;>(try simp only [J1,J2,J3,J4,J5,J6] at hb)<;>(try (exfalso;first|omega|exact hb trivial))))
    replace hS := hS.sub (L' := .sl 5 1 (.slice A5 (l' ++ putL m.items.length).length c5) ((l' ++ putL m.items.length).map byC) :: .blk gp 22 [.slice Ai m.items.length ci, .slice As m.sessions.length cs] :: .blk g 36 (m.cells (.slice Ak m.keys.length ck) (.slice Ai m.items.length ci) (.slice As m.sessions.length cs)) :: F) (by repeat (first | exact Sub.rest | exact Sub.nil | exact .skip .rest | exact .skip (.skip .rest) | exact .skip (.skip (.skip .rest)) | apply Sub.keep | refine Sub.cons (by repeat (first | exact At.here | apply At.next)) ?_ | apply Sub.skip))
    refine Z.lpS [5, 13, 60, 61, 62, 63, 64, 65, 66, 67] (fun q w s => ∃ (i : Nat) (l2 : List Int) (A : Option Addr) (c : Nat), s = [(5, .slice A l2.length c), (60, .int .i64 i)] ∧ i ≤ m.items.length ∧ l2 = (l' ++ putL m.items.length) ++ (m.items.take i).flatMap putL ∧ q = m.items.length - i ∧ Sep r [] (.sl 5 1 (.slice A l2.length c) (l2.map byC) :: .blk gp 22 [.slice Ai m.items.length ci, .slice As m.sessions.length cs] :: .blk g 36 (m.cells (.slice Ak m.keys.length ck) (.slice Ai m.items.length ci) (.slice As m.sessions.length cs)) :: F) w) _ [(5, .slice A5 (l' ++ putL m.items.length).length c5), (60, .int .i64 (0 : Nat))] (by repeat (first | exact trivial | refine ⟨rfl, ?_⟩)) ⟨0, l' ++ putL m.items.length, A5, c5, rfl, by omega, by simp, rfl, hS⟩ ?_
    clear hS
    rintro q f0 w _ ⟨j, l2, A, c, rfl, hjle, hl2, rfl, hS⟩
    have hln2 : l2.length ≤ 530000 := by
      have h1 := flatI_len (l := m.items.take j) fun x hx => hm.j x (List.mem_of_mem_take hx)
      rw [List.length_take] at h1
      rw [hl2, List.length_append, List.length_append]
      omega
    by_cases hlt : j < m.items.length
    · obtain ⟨gb, o, rfl, _, hra⟩ := (hi [_, _, _] w hS).mat (by omega) (q := j) hlt
      repeat' (first|refine K ?_|(refine Sh.sa hS ?_;clear hS;intro w hS)|(refine K3 ?_;clear hS;intro g w hS hge)|((first|refine GS ?_ ?_|refine VB ?_ ?_)<;>intro hb<;>(try simp only [J1,J2,J3,J4,J5,J6] at hb)<;>(try (exfalso;first|omega|exact hb trivial))))
      refine Z.eff (Z.cl (rint_z l2 (.slice A _ c) m.items[j] (hm.j _ (by simp)) _ _ _ hS (Reads.of_at (e := 5) .here) (by omega)) rfl ?_) rfl
      clear hS
      rintro e w ⟨A', c', rfl, hS⟩
      refine ⟨_, rfl, ?_⟩
      repeat' (first|refine K ?_|(refine Sh.sa hS ?_;clear hS;intro w hS)|(refine K3 ?_;clear hS;intro g w hS hge)|((first|refine GS ?_ ?_|refine VB ?_ ?_)<;>intro hb<;>(try simp only [J1,J2,J3,J4,J5,J6] at hb)<;>(try (exfalso;first|omega|exact hb trivial))))
      refine Sh.again (m.items.length - (j + 1)) [(5, .slice A' (l2 ++ putL m.items[j]).length c'), (60, .int .i64 (j + 1 : Nat))] ?_
      exact ⟨j + 1, _, A', c', rfl, by omega, by rw [hl2, List.append_assoc, flatM_take putL m.items hlt], rfl, hS.sb⟩
    · have hj0 : j = m.items.length := by omega
      have e5 : l2 = l' ++ intsL m.items := by rw [hl2, hj0, List.take_length]; unfold intsL; rw [List.append_assoc]
      clear hl2 hlt
      repeat' (first|refine K ?_|(refine Sh.sa hS ?_;clear hS;intro w hS)|(refine K3 ?_;clear hS;intro g w hS hge)|((first|refine GS ?_ ?_|refine VB ?_ ?_)<;>intro hb<;>(try simp only [J1,J2,J3,J4,J5,J6] at hb)<;>(try (exfalso;first|omega|exact hb trivial))))
      refine Z.eff (Z.cl (rint_z l2 (.slice A _ c) m.sessions.length (len_ok (by omega)) _ _ _ hS (Reads.of_at (e := 5) (v := .slice A _ c) (by repeat (first | exact At.here | apply At.next))) (by omega)) rfl ?_) rfl
      clear hS
      rintro e w ⟨A6, c6, rfl, hS⟩
      refine ⟨_, rfl, ?_⟩
      repeat' (first|refine K ?_|(refine Sh.sa hS ?_;clear hS;intro w hS)|(refine K3 ?_;clear hS;intro g w hS hge)|((first|refine GS ?_ ?_|refine VB ?_ ?_)<;>intro hb<;>(try simp only [J1,J2,J3,J4,J5,J6] at hb)<;>(try (exfalso;first|omega|exact hb trivial))))
      replace hS := hS.sub (L' := .sl 5 1 (.slice A6 (l2 ++ putL m.sessions.length).length c6) ((l2 ++ putL m.sessions.length).map byC) :: .blk g 36 (m.cells (.slice Ak m.keys.length ck) (.slice Ai m.items.length ci) (.slice As m.sessions.length cs)) :: F) (by repeat (first | exact Sub.rest | exact Sub.nil | exact .skip .rest | exact .skip (.skip .rest) | exact .skip (.skip (.skip .rest)) | apply Sub.keep | refine Sub.cons (by repeat (first | exact At.here | apply At.next)) ?_ | apply Sub.skip))
      refine Z.lpS [5, 13, 60, 61, 62, 63, 64, 65, 66, 67] (fun q w s => ∃ (i : Nat) (l4 : List Int) (A : Option Addr) (c : Nat), s = [(5, .slice A l4.length c), (60, .int .i64 i)] ∧ i ≤ m.sessions.length ∧ l4 = (l2 ++ putL m.sessions.length) ++ (m.sessions.take i).flatMap putL ∧ q = m.sessions.length - i ∧ Sep r [] (.sl 5 1 (.slice A l4.length c) (l4.map byC) :: .blk g 36 (m.cells (.slice Ak m.keys.length ck) (.slice Ai m.items.length ci) (.slice As m.sessions.length cs)) :: F) w) _ [(5, .slice A6 (l2 ++ putL m.sessions.length).length c6), (60, .int .i64 (0 : Nat))] (by repeat (first | exact trivial | refine ⟨rfl, ?_⟩)) ⟨0, l2 ++ putL m.sessions.length, A6, c6, rfl, by omega, by simp, rfl, hS⟩ ?_
      clear hS
      rintro q f0 w _ ⟨k, l4, A, c, rfl, hkle, hl4, rfl, hS⟩
      have hln4 : l4.length ≤ 550000 := by
        have h1 := flatI_len (l := m.sessions.take k) fun x hx => hm.s x (List.mem_of_mem_take hx)
        rw [List.length_take] at h1
        rw [hl4, List.length_append, List.length_append]
        omega
      by_cases hlt : k < m.sessions.length
      · obtain ⟨gb, o, rfl, _, hra⟩ := (hs [_, _] w hS).mat (by omega) (q := k) hlt
        repeat' (first|refine K ?_|(refine Sh.sa hS ?_;clear hS;intro w hS)|(refine K3 ?_;clear hS;intro g w hS hge)|((first|refine GS ?_ ?_|refine VB ?_ ?_)<;>intro hb<;>(try simp only [J1,J2,J3,J4,J5,J6] at hb)<;>(try (exfalso;first|omega|exact hb trivial))))
        refine Z.eff (Z.cl (rint_z l4 (.slice A _ c) m.sessions[k] (hm.s _ (by simp)) _ _ _ hS (Reads.of_at (e := 5) .here) (by omega)) rfl ?_) rfl
        clear hS
        rintro e w ⟨A', c', rfl, hS⟩
        refine ⟨_, rfl, ?_⟩
        repeat' (first|refine K ?_|(refine Sh.sa hS ?_;clear hS;intro w hS)|(refine K3 ?_;clear hS;intro g w hS hge)|((first|refine GS ?_ ?_|refine VB ?_ ?_)<;>intro hb<;>(try simp only [J1,J2,J3,J4,J5,J6] at hb)<;>(try (exfalso;first|omega|exact hb trivial))))
        refine Sh.again (m.sessions.length - (k + 1)) [(5, .slice A' (l4 ++ putL m.sessions[k]).length c'), (60, .int .i64 (k + 1 : Nat))] ?_
        exact ⟨k + 1, _, A', c', rfl, by omega, by rw [hl4, List.append_assoc, flatM_take putL m.sessions hlt], rfl, hS.sb⟩
      · have hk0 : k = m.sessions.length := by omega
        have e6 : l4 = mfL m := by rw [hl4, hk0, List.take_length, e5, e4, hl3]; unfold mfL intsL; simp only [List.append_assoc]
        clear hl4 hlt
        subst e6
        repeat' (first|refine K ?_|(refine Sh.sa hS ?_;clear hS;intro w hS)|(refine K3 ?_;clear hS;intro g w hS hge)|((first|refine GS ?_ ?_|refine VB ?_ ?_)<;>intro hb<;>(try simp only [J1,J2,J3,J4,J5,J6] at hb)<;>(try (exfalso;first|omega|exact hb trivial))))
        refine Z.eff (Z.cl (esum_z key (mfL m) (.slice A _ c) _ _ _ hS (Reads.of_at (e := 5) .here) (mfL_ok m) (by omega)) rfl ?_) rfl
        clear hS
        rintro e w ⟨rfl, hS⟩
        refine ⟨_, rfl, ?_⟩
        repeat' (first|refine K ?_|(refine Sh.sa hS ?_;clear hS;intro w hS)|(refine K3 ?_;clear hS;intro g w hS hge)|((first|refine GS ?_ ?_|refine VB ?_ ?_)<;>intro hb<;>(try simp only [J1,J2,J3,J4,J5,J6] at hb)<;>(try (exfalso;first|omega|exact hb trivial))))
        refine Dnt Tryz.results61 ?_
        exact ⟨rfl, hS.sb⟩
def lightP (m : Mf) : Prop := m.keys.length ≤ 40 ∧ (∀ k, k ∈ m.keys → k.size ≤ 100) ∧ m.items.length ≤ 40 ∧ m.sessions.length ≤ 40
set_option maxHeartbeats 1000000 in
theorem light_z (m : Mf) (vk : Value) (A2 A3 : Option Addr) (c2 c3 : Nat) (r : World) (F : List Res) (w : World) (hS : Sep r [] F w) (hk : Reads r F 1 vk (m.keys.map kC)) :
    Calls Tryz.prog 18 #[m.val vk (.slice A2 m.items.length c2) (.slice A3 m.sessions.length c3)] w fun e w' => ∃ b, e = .returned (.bool b) ∧ (b = true → lightP m) ∧ Sep r [] F w' := by
  obtain ⟨Ak, ck, rfl, _⟩ := (hk [] w hS).mform
  refine Z.enter Tryz.func18 Tryz.ntmps18 rfl rfl ?_
  repeat' (first|refine K ?_|(refine Sh.sa hS ?_;clear hS;intro w hS)|(refine K3 ?_;clear hS;intro g w hS hge)|((first|refine GS ?_ ?_|refine VB ?_ ?_)<;>intro hb<;>(try simp only [J1,J2,J3,J4,J5,J6] at hb)<;>(try (exfalso;first|omega|exact hb trivial))))
  rename Nat => gm
  refine Z.lpS [2, 3, 4, 5, 6, 7, 8, 9, 10, 11, 12, 13, 14, 15, 16, 17, 18, 19, 20, 21, 22, 23] (fun q w s => ∃ i : Nat, s = [(3, .int .i64 i)] ∧ i ≤ m.keys.length ∧ (∀ k, k ∈ m.keys.take i → k.size ≤ 100) ∧ q = m.keys.length - i ∧ Sep r [] (.blk gm 36 (m.cells (.slice Ak m.keys.length ck) (.slice A2 m.items.length c2) (.slice A3 m.sessions.length c3)) :: F) w) _ [(3, .int .i64 (0 : Nat))] (by repeat (first | exact trivial | refine ⟨rfl, ?_⟩)) ⟨0, rfl, by omega, by simp, rfl, hS⟩ ?_
  clear hS
  rintro q f0 w _ ⟨i, rfl, hile, hall, rfl, hS⟩
  by_cases hlt : i < m.keys.length ∧ m.keys.length ≤ 40
  · obtain ⟨hlt, h40⟩ := hlt
    obtain ⟨gb, o, rfl, _, hra⟩ := (hk [_] w hS).mat (by omega) (q := i) hlt
    repeat' (first|refine K ?_|(refine Sh.sa hS ?_;clear hS;intro w hS)|(refine K3 ?_;clear hS;intro g w hS hge)|((first|refine GS ?_ ?_|refine VB ?_ ?_)<;>intro hb<;>(try simp only [J1,J2,J3,J4,J5,J6] at hb)<;>(try (exfalso;first|omega|exact hb trivial))))
    · refine Dnt Tryz.results18 ?_
      exact ⟨false, rfl, by simp, hS.sb⟩
    · refine Sh.again (m.keys.length - (i + 1)) [(3, .int .i64 (i + 1 : Nat))] ?_
      refine ⟨i + 1, rfl, by omega, fun k hk => ?_, rfl, hS⟩
      rw [List.take_succ_eq_append_getElem hlt] at hk
      rcases List.mem_append.1 hk with hk | hk
      · exact hall k hk
      · rw [List.mem_singleton] at hk
        subst hk
        omega
  · repeat' (first|refine K ?_|(refine Sh.sa hS ?_;clear hS;intro w hS)|(refine K3 ?_;clear hS;intro g w hS hge)|((first|refine GS ?_ ?_|refine VB ?_ ?_)<;>intro hb<;>(try simp only [J1,J2,J3,J4,J5,J6] at hb)<;>(try (exfalso;first|omega|exact hb trivial))))
    all_goals
      refine Dnt Tryz.results18 ?_
      refine ⟨_, rfl, ?_, hS.sb⟩
      first
        | (intro hh; cases hh; done)
        | (intro hh
           simp at hh
           have hi0 : i = m.keys.length := by omega
           rw [hi0, List.take_length] at hall
           exact ⟨by omega, hall, by omega, by omega⟩)
end Go.Proofs.YtiabhlogadboeaaGreat
