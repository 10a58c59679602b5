/-
  New states and copies of states; a store of a window into a tenant.
-/
import Derived.Test.YtmgpionlfemhdaaGreatNUf
namespace Go.Proofs.YtmgpionlfemhdaaGreat
open Go.RowKit
set_option linter.unusedSimpArgs false
set_option linter.unusedVariables false
attribute [local irreducible] Res.blk Res.sl Res.all Res.ex Res.pure Res.star

set_option maxHeartbeats 4000000 in
theorem snew_z (c : Cfg) (a : CAd) (r : World) (F : List Res) (w : World) (hS : Sep r [] F w) (ho : c.ok) :
    Calls Tryz.prog 57 #[c.val a] w fun e w' => ∃ (s' : Sta) (b' : SAd), e = .returned (s'.val b') ∧ s'.ok c ∧ Sep r [] (.sl 56 12 (.slice b'.tA s'.tenants.length b'.tc) (s'.tenants.map TS.cells) :: .sl 97 4 (.slice b'.kA s'.cells.length b'.kc) (s'.cells.map CS.cells) :: F) w' := by
  have h1 := ho.t
  have h2 := ho.k
  have h3 := ho.v
  refine Z.enter Tryz.func57 Tryz.ntmps57 rfl rfl ?_
  repeat' (first|refine K ?_|(refine Sh.sa hS ?_;clear hS;intro w hS)|(refine K3 ?_;clear hS;intro g w hS hge)|((first|refine GS ?_ ?_|refine VB ?_ ?_)<;>intro hb<;>(try simp only [J1,J2,J3,J4,J5,J6] at hb)<;>(try (exfalso;first|omega|exact hb trivial))))
  rename Nat => g3
  rename_i gc _ _ _ _ _
  replace hS := Z.nilsl hS 56 12 none
  refine Z.lpS [4, 7, 8, 9, 10, 11, 12, 13, 14, 15, 16, 17, 18, 19, 20] (fun m w z => ∃ (i : Nat) (ts : List TS) (A : Option Addr) (ca : Nat), z = [(4, .int .i64 i)] ∧ (ts.length = i ∧ ∀ x, x ∈ ts → TOk c.cells.length x) ∧ i ≤ c.tenants.length ∧ m = c.tenants.length - i ∧ Sep r [] (.sl 56 12 (.slice A ts.length ca) (ts.map TS.cells) :: .blk g3 34 ((⟨0, 0, ts, [], 1, 0, 0, 0⟩ : Sta).cl ⟨A, ca, none, 0⟩) :: .blk g 34 (Sta.zero.cl SAd.zero) :: .blk gc 30 (c.cl a) :: F) w) _ [(4, .int .i64 (0 : Nat))] (by repeat (first | exact trivial | refine ⟨rfl, ?_⟩)) ⟨0, [], none, 0, rfl, ⟨rfl, by simp⟩, by omega, rfl, hS⟩ ?_
  clear hS
  rintro m f0 w _ ⟨i, ts, A, ca, rfl, ⟨hti, hts⟩, hi, rfl, hS⟩
  by_cases hlt : i < c.tenants.length
  · repeat' (first|refine K ?_|(refine Sh.sa hS ?_;clear hS;intro w hS)|(refine K3 ?_;clear hS;intro g w hS hge)|((first|refine GS ?_ ?_|refine VB ?_ ?_)<;>intro hb<;>(try simp only [J1,J2,J3,J4,J5,J6] at hb)<;>(try (exfalso;first|omega|exact hb trivial))))
    refine Z.eff (Z.apm (l' := [TS.fresh]) hS rfl rfl rfl (by repeat (first | exact At.here | apply At.next)) (hS.lit1 (by repeat (first | exact At.here | apply At.next)) rfl rfl) (by (try simp only [maxLen, List.length_take, List.length_drop, List.length_append, List.length_cons, List.length_nil, List.length_map]); omega) (by (try simp only [maxLen, List.length_take, List.length_drop, List.length_append, List.length_cons, List.length_nil, List.length_map]); omega) ?_) rfl
    clear hS; intro A' ca' w hS
    rw [← List.length_append] at hS ⊢
    repeat' (first|refine K ?_|(refine Sh.sa hS ?_;clear hS;intro w hS)|(refine K3 ?_;clear hS;intro g w hS hge)|((first|refine GS ?_ ?_|refine VB ?_ ?_)<;>intro hb<;>(try simp only [J1,J2,J3,J4,J5,J6] at hb)<;>(try (exfalso;first|omega|exact hb trivial))))
    refine Sh.again (c.tenants.length - (i + 1)) [(4, .int .i64 (i + 1 : Nat))] ?_
    refine ⟨i + 1, ts ++ [TS.fresh], A', ca', rfl, ⟨by simp; omega, fun x hx => ?_⟩, by omega, rfl, hS.sb⟩
    rcases List.mem_append.1 hx with hx | hx
    · exact hts x hx
    · rw [List.mem_singleton] at hx
      subst hx
      exact TS.fresh_ok _
  have hie : ts.length = c.tenants.length := by omega
  repeat' (first|refine K ?_|(refine Sh.sa hS ?_;clear hS;intro w hS)|(refine K3 ?_;clear hS;intro g w hS hge)|((first|refine GS ?_ ?_|refine VB ?_ ?_)<;>intro hb<;>(try simp only [J1,J2,J3,J4,J5,J6] at hb)<;>(try (exfalso;first|omega|exact hb trivial))))
  replace hS := Z.nilsl hS 97 4 none
  refine Z.lpS [5, 21, 22, 23, 24, 25, 26, 27, 28, 29, 30, 31, 32, 33] (fun m w z => ∃ (i : Nat) (ks : List CS) (B : Option Addr) (cb : Nat), z = [(5, .int .i64 i)] ∧ (ks.length = i ∧ ∀ x, x ∈ ks → KOk c.versions.length x) ∧ i ≤ c.cells.length ∧ m = c.cells.length - i ∧ Sep r [] (.sl 97 4 (.slice B ks.length cb) (ks.map CS.cells) :: .sl 56 12 (.slice A ts.length ca) (ts.map TS.cells) :: .blk g3 34 ((⟨0, 0, ts, ks, 1, 0, 0, 0⟩ : Sta).cl ⟨A, ca, B, cb⟩) :: .blk g 34 (Sta.zero.cl SAd.zero) :: .blk gc 30 (c.cl a) :: F) w) _ [(5, .int .i64 (0 : Nat))] (by repeat (first | exact trivial | refine ⟨rfl, ?_⟩)) ⟨0, [], none, 0, rfl, ⟨rfl, by simp⟩, by omega, rfl, hS⟩ ?_
  clear hS
  rintro m f0 w _ ⟨i, ks, B, cb, rfl, ⟨hki, hks⟩, hi, rfl, hS⟩
  by_cases hlt : i < c.cells.length
  · repeat' (first|refine K ?_|(refine Sh.sa hS ?_;clear hS;intro w hS)|(refine K3 ?_;clear hS;intro g w hS hge)|((first|refine GS ?_ ?_|refine VB ?_ ?_)<;>intro hb<;>(try simp only [J1,J2,J3,J4,J5,J6] at hb)<;>(try (exfalso;first|omega|exact hb trivial))))
    refine Z.eff (Z.apm (l' := [(⟨1, 0, 0, 0⟩ : CS)]) hS rfl rfl rfl (by repeat (first | exact At.here | apply At.next)) (hS.lit1 (by repeat (first | exact At.here | apply At.next)) rfl rfl) (by (try simp only [maxLen, List.length_take, List.length_drop, List.length_append, List.length_cons, List.length_nil, List.length_map]); omega) (by (try simp only [maxLen, List.length_take, List.length_drop, List.length_append, List.length_cons, List.length_nil, List.length_map]); omega) ?_) rfl
    clear hS; intro B' cb' w hS
    rw [← List.length_append] at hS ⊢
    repeat' (first|refine K ?_|(refine Sh.sa hS ?_;clear hS;intro w hS)|(refine K3 ?_;clear hS;intro g w hS hge)|((first|refine GS ?_ ?_|refine VB ?_ ?_)<;>intro hb<;>(try simp only [J1,J2,J3,J4,J5,J6] at hb)<;>(try (exfalso;first|omega|exact hb trivial))))
    refine Sh.again (c.cells.length - (i + 1)) [(5, .int .i64 (i + 1 : Nat))] ?_
    refine ⟨i + 1, ks ++ [⟨1, 0, 0, 0⟩], B', cb', rfl, ⟨by simp; omega, fun x hx => ?_⟩, by omega, rfl, hS.sb⟩
    rcases List.mem_append.1 hx with hx | hx
    · exact hks x hx
    · rw [List.mem_singleton] at hx
      subst hx
      exact ⟨⟨by show (0 : Int) ≤ 0; omega, by show (0 : Int) < _; omega⟩, ⟨by show (0 : Int) ≤ 0; omega, by show (0 : Int) < _; omega⟩⟩
  repeat' (first|refine K ?_|(refine Sh.sa hS ?_;clear hS;intro w hS)|(refine K3 ?_;clear hS;intro g w hS hge)|((first|refine GS ?_ ?_|refine VB ?_ ?_)<;>intro hb<;>(try simp only [J1,J2,J3,J4,J5,J6] at hb)<;>(try (exfalso;first|omega|exact hb trivial))))
  refine Dnc Tryz.results57 ?_
  exact ⟨⟨0, 0, ts, ks, 1, 0, 0, 0⟩, ⟨A, ca, B, cb⟩, rfl, ⟨hie, by show ks.length = _; omega, hts, hks⟩, hS.sb⟩
set_option maxHeartbeats 1000000 in
theorem copied_z (s : Sta) (b : SAd) (r : World) (F : List Res) (w : World) (hS : Sep r [] F w) (hs : StR r F s b) (h1 : s.tenants.length ≤ 32) (h2 : s.cells.length ≤ 16) :
    Calls Tryz.prog 73 #[s.val b] w fun e w' => ∃ (b' : SAd), e = .returned (s.val b') ∧ Sep r [] (.sl 56 12 (.slice b'.tA s.tenants.length b'.tc) (s.tenants.map TS.cells) :: .sl 97 4 (.slice b'.kA s.cells.length b'.kc) (s.cells.map CS.cells) :: F) w' := by
  refine Z.enter Tryz.func73 Tryz.ntmps73 rfl rfl ?_
  repeat' (first|refine K ?_|(refine Sh.sa hS ?_;clear hS;intro w hS)|(refine K3 ?_;clear hS;intro g w hS hge)|((first|refine GS ?_ ?_|refine VB ?_ ?_)<;>intro hb<;>(try simp only [J1,J2,J3,J4,J5,J6] at hb)<;>(try (exfalso;first|omega|exact hb trivial))))
  refine Z.eff (Z.ap0m (fc := TS.cells) hS rfl rfl rfl (hs.t [_, _, _] _ hS) (by (try simp only [maxLen, List.length_take, List.length_drop, List.length_append, List.length_cons, List.length_nil, List.length_map]); omega) (by (try simp only [maxLen, List.length_take, List.length_drop, List.length_append, List.length_cons, List.length_nil, List.length_map]); omega) ?_) rfl
  clear hS; intro A' ca' w hS
  repeat' (first|refine K ?_|(refine Sh.sa hS ?_;clear hS;intro w hS)|(refine K3 ?_;clear hS;intro g w hS hge)|((first|refine GS ?_ ?_|refine VB ?_ ?_)<;>intro hb<;>(try simp only [J1,J2,J3,J4,J5,J6] at hb)<;>(try (exfalso;first|omega|exact hb trivial))))
  refine Z.eff (Z.ap0m (fc := CS.cells) hS rfl rfl rfl (hs.k [_, _, _, _, _] _ hS) (by (try simp only [maxLen, List.length_take, List.length_drop, List.length_append, List.length_cons, List.length_nil, List.length_map]); omega) (by (try simp only [maxLen, List.length_take, List.length_drop, List.length_append, List.length_cons, List.length_nil, List.length_map]); omega) ?_) rfl
  clear hS; intro B' cb' w hS
  repeat' (first|refine K ?_|(refine Sh.sa hS ?_;clear hS;intro w hS)|(refine K3 ?_;clear hS;intro g w hS hge)|((first|refine GS ?_ ?_|refine VB ?_ ?_)<;>intro hb<;>(try simp only [J1,J2,J3,J4,J5,J6] at hb)<;>(try (exfalso;first|omega|exact hb trivial))))
  refine Dnc Tryz.results73 ?_
  exact ⟨⟨A', ca', B', cb'⟩, rfl, hS.sb⟩
end Go.Proofs.YtmgpionlfemhdaaGreat
