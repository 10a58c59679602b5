/-
  What the log's entries make of a state: grants.
-/
import Derived.Test.YtmgpionlfemhdaaGreatNUl
namespace Go.Proofs.YtmgpionlfemhdaaGreat
open Go.RowKit
set_option linter.unusedSimpArgs false
set_option linter.unusedVariables false
attribute [local irreducible] Res.blk Res.sl Res.all Res.ex Res.pure Res.star


set_option maxHeartbeats 8000000 in
theorem granted_z (c : Cfg) (s : Sta) (gt tc gk kc q : Nat) (k : Nat) (kd tk ot ep fr un nn : Int) (r : World) (F : List Res) (w : World) (hS : Sep r [] (.sl 56 12 (.slice (some ⟨gt, 0, none⟩) c.tenants.length tc) (s.tenants.map TS.cells) :: .sl 97 4 (.slice (some ⟨gk, 0, none⟩) c.cells.length kc) (s.cells.map CS.cells) :: F) w) (hs : s.ok c) (hq : q < c.tenants.length) (a : CAd) (hk : k < c.cells.length) :
    Calls Tryz.prog 108 #[c.val a, s.vc c (⟨some ⟨gt, 0, none⟩, tc, some ⟨gk, 0, none⟩, kc⟩ : SAd), ((⟨kd, tk, (q : Nat), (k : Nat), ot, ep, fr, un, nn⟩ : En)).val] w fun ee w' => ∃ er : Int, ee = .returned (.int .i64 er) ∧ Sep r [] (.sl 56 12 (.slice (some ⟨gt, 0, none⟩) c.tenants.length tc) (s.tenants.map TS.cells) :: .sl 97 4 (.slice (some ⟨gk, 0, none⟩) c.cells.length kc) (s.cells.map CS.cells) :: F) w' := by
  have hq2 : q < s.tenants.length := by rw [hs.tl]; exact hq
  obtain ⟨x, hx⟩ : ∃ x, s.tenants[q]'hq2 = x := ⟨_, rfl⟩
  have hxo : TOk c.cells.length x := by rw [← hx]; exact hs.t _ (List.getElem_mem hq2)
  have hk2 : k < s.cells.length := by rw [hs.kl]; exact hk
  obtain ⟨y, hy⟩ : ∃ y, s.cells[k]'hk2 = y := ⟨_, rfl⟩
  refine Z.enter Tryz.func108 Tryz.ntmps108 rfl rfl ?_
  repeat' (first|refine K ?_|(refine Sh.sa hS ?_;clear hS;intro w hS)|(refine K3 ?_;clear hS;intro g w hS hge)|((first|refine GS ?_ ?_|refine VB ?_ ?_)<;>intro hb<;>(try simp only [J1,J2,J3,J4,J5,J6] at hb)<;>(try (exfalso;first|omega|exact hb trivial))))
  rename_i gc _ _ gs _ _
  rename Nat => ge
  have hrt := row_at (fc := TS.cells) hS (e := 56) (sz := 12) (g := gt) (by repeat (first | exact At.here | apply At.next)) (by omega) hq2 hx
  repeat' (first|refine K ?_|(refine Sh.sa hS ?_;clear hS;intro w hS)|(refine K3 ?_;clear hS;intro g w hS hge)|((first|refine GS ?_ ?_|refine VB ?_ ?_)<;>intro hb<;>(try simp only [J1,J2,J3,J4,J5,J6] at hb)<;>(try (exfalso;first|omega|exact hb trivial))))
  rename Nat => g7
  have hrk := row_at (fc := CS.cells) hS (e := 97) (sz := 4) (g := gk) (by repeat (first | exact At.here | apply At.next)) (by omega) hk2 hy
  repeat' (first|refine Kn ?_|(refine Sh.sa hS ?_;clear hS;intro w hS)|(refine K3 ?_;clear hS;intro g w hS hge)|((first|refine GS ?_ ?_|refine VB ?_ ?_)<;>intro hb<;>(try simp only [J1,J2,J3,J4,J5,J6] at hb)<;>(try (exfalso;first|omega|exact hb trivial))))
  rename Nat => g8
  refine Z.thN ?_
  repeat' (first|refine Kn ?_|(refine Sh.sa hS ?_;clear hS;intro w hS)|(refine K3 ?_;clear hS;intro g w hS hge)|((first|refine GS ?_ ?_|refine VB ?_ ?_)<;>intro hb<;>(try simp only [J1,J2,J3,J4,J5,J6] at hb)<;>(try (exfalso;first|omega|exact hb trivial))))
  refine Z.thN ?_
  refine Z.seq ?_
  refine Z.block ?_
  refine Z.seq ?_
  refine Z.cut [27, 28, 29, 30, 31, 32, 33, 34, 35, 36, 37, 38, 39] (fun w z => ∃ b : Bool, z = [(27, .bool b)] ∧ Sep r [] (.blk g8 97 y.cells :: .blk g7 56 x.cells :: .blk ge 100 ((⟨kd, tk, (q : Nat), (k : Nat), ot, ep, fr, un, nn⟩ : En)).cells :: .blk gs 34 (s.cc c (⟨some ⟨gt, 0, none⟩, tc, some ⟨gk, 0, none⟩, kc⟩ : SAd)) :: .blk gc 30 (c.cl a) :: .sl 56 12 (.slice (some ⟨gt, 0, none⟩) c.tenants.length tc) (s.tenants.map TS.cells) :: .sl 97 4 (.slice (some ⟨gk, 0, none⟩) c.cells.length kc) (s.cells.map CS.cells) :: F) w) ?_ ?_
  · repeat' (first|refine Kw ?_|(refine Sh.sa hS ?_;clear hS;intro w hS)|(refine K3 ?_;clear hS;intro g w hS hge)|((first|refine GS ?_ ?_|refine VB ?_ ?_)<;>intro hb<;>(try simp only [J1,J2,J3,J4,J5,J6] at hb)<;>(try (exfalso;first|omega|exact hb trivial))))
    all_goals
      refine Sh.cut [(27, _)] ?_
      exact ⟨_, rfl, hS.sb⟩
  clear hS
  rintro f0 w _ ⟨b, rfl, hS⟩
  cases b
  case true =>
    repeat' (first|refine K ?_|(refine Sh.sa hS ?_;clear hS;intro w hS)|(refine K3 ?_;clear hS;intro g w hS hge)|((first|refine GS ?_ ?_|refine VB ?_ ?_)<;>intro hb<;>(try simp only [J1,J2,J3,J4,J5,J6] at hb)<;>(try (exfalso;first|omega|exact hb trivial))))
    refine Dnt Tryz.results108 ?_
    exact ⟨_, rfl, hS.sb⟩
  refine Z.brF rfl ?_
  refine Z.seq ?_
  refine Z.cut [40, 41, 42, 43, 44, 45, 46, 47, 48, 49, 50, 51, 52, 53, 54, 55, 56, 57, 58, 59, 60, 61, 62, 63, 64, 65, 66, 67, 68] (fun w z => ∃ b : Bool, z = [(40, .bool b)] ∧ Sep r [] (.blk g8 97 y.cells :: .blk g7 56 x.cells :: .blk ge 100 ((⟨kd, tk, (q : Nat), (k : Nat), ot, ep, fr, un, nn⟩ : En)).cells :: .blk gs 34 (s.cc c (⟨some ⟨gt, 0, none⟩, tc, some ⟨gk, 0, none⟩, kc⟩ : SAd)) :: .blk gc 30 (c.cl a) :: .sl 56 12 (.slice (some ⟨gt, 0, none⟩) c.tenants.length tc) (s.tenants.map TS.cells) :: .sl 97 4 (.slice (some ⟨gk, 0, none⟩) c.cells.length kc) (s.cells.map CS.cells) :: F) w) ?_ ?_
  · repeat' (first|refine Kw ?_|(refine Sh.sa hS ?_;clear hS;intro w hS)|(refine K3 ?_;clear hS;intro g w hS hge)|((first|refine GS ?_ ?_|refine VB ?_ ?_)<;>intro hb<;>(try simp only [J1,J2,J3,J4,J5,J6] at hb)<;>(try (exfalso;first|omega|exact hb trivial))))
    all_goals
      refine Sh.cut [(40, _)] ?_
      exact ⟨_, rfl, hS.sb⟩
  clear hS
  rintro f0 w _ ⟨b, rfl, hS⟩
  cases b
  case true =>
    repeat' (first|refine K ?_|(refine Sh.sa hS ?_;clear hS;intro w hS)|(refine K3 ?_;clear hS;intro g w hS hge)|((first|refine GS ?_ ?_|refine VB ?_ ?_)<;>intro hb<;>(try simp only [J1,J2,J3,J4,J5,J6] at hb)<;>(try (exfalso;first|omega|exact hb trivial))))
    refine Dnt Tryz.results108 ?_
    exact ⟨_, rfl, hS.sb⟩
  refine Z.brF rfl ?_
  refine Z.seq ?_
  refine Z.cut [69, 70, 71, 72, 73, 74, 75, 76, 77, 78, 79, 80, 81] (fun w z => ∃ b : Bool, z = [(69, .bool b)] ∧ Sep r [] (.blk g8 97 y.cells :: .blk g7 56 x.cells :: .blk ge 100 ((⟨kd, tk, (q : Nat), (k : Nat), ot, ep, fr, un, nn⟩ : En)).cells :: .blk gs 34 (s.cc c (⟨some ⟨gt, 0, none⟩, tc, some ⟨gk, 0, none⟩, kc⟩ : SAd)) :: .blk gc 30 (c.cl a) :: .sl 56 12 (.slice (some ⟨gt, 0, none⟩) c.tenants.length tc) (s.tenants.map TS.cells) :: .sl 97 4 (.slice (some ⟨gk, 0, none⟩) c.cells.length kc) (s.cells.map CS.cells) :: F) w) ?_ ?_
  · repeat' (first|refine Kw ?_|(refine Sh.sa hS ?_;clear hS;intro w hS)|(refine K3 ?_;clear hS;intro g w hS hge)|((first|refine GS ?_ ?_|refine VB ?_ ?_)<;>intro hb<;>(try simp only [J1,J2,J3,J4,J5,J6] at hb)<;>(try (exfalso;first|omega|exact hb trivial))))
    all_goals
      refine Sh.cut [(69, _)] ?_
      exact ⟨_, rfl, hS.sb⟩
  clear hS
  rintro f0 w _ ⟨b, rfl, hS⟩
  cases b
  case true =>
    repeat' (first|refine K ?_|(refine Sh.sa hS ?_;clear hS;intro w hS)|(refine K3 ?_;clear hS;intro g w hS hge)|((first|refine GS ?_ ?_|refine VB ?_ ?_)<;>intro hb<;>(try simp only [J1,J2,J3,J4,J5,J6] at hb)<;>(try (exfalso;first|omega|exact hb trivial))))
    refine Dnt Tryz.results108 ?_
    exact ⟨_, rfl, hS.sb⟩
  refine Z.brF rfl ?_
  refine Z.seq ?_
  refine Z.cut [82, 83, 84, 85, 86, 87, 88, 89, 90, 91, 92, 93, 94, 95, 96, 97, 98, 99, 100, 101, 102, 103, 104, 105, 106, 107, 108, 109, 110, 111, 112, 113, 114, 115, 116, 117, 118, 119, 120, 121, 122] (fun w z => ∃ b : Bool, z = [(82, .bool b)] ∧ Sep r [] (.blk g8 97 y.cells :: .blk g7 56 x.cells :: .blk ge 100 ((⟨kd, tk, (q : Nat), (k : Nat), ot, ep, fr, un, nn⟩ : En)).cells :: .blk gs 34 (s.cc c (⟨some ⟨gt, 0, none⟩, tc, some ⟨gk, 0, none⟩, kc⟩ : SAd)) :: .blk gc 30 (c.cl a) :: .sl 56 12 (.slice (some ⟨gt, 0, none⟩) c.tenants.length tc) (s.tenants.map TS.cells) :: .sl 97 4 (.slice (some ⟨gk, 0, none⟩) c.cells.length kc) (s.cells.map CS.cells) :: F) w) ?_ ?_
  · repeat' (first|refine Kw ?_|(refine Sh.sa hS ?_;clear hS;intro w hS)|(refine K3 ?_;clear hS;intro g w hS hge)|((first|refine GS ?_ ?_|refine VB ?_ ?_)<;>intro hb<;>(try simp only [J1,J2,J3,J4,J5,J6] at hb)<;>(try (exfalso;first|omega|exact hb trivial))))
    all_goals
      refine Sh.cut [(82, _)] ?_
      exact ⟨_, rfl, hS.sb⟩
  clear hS
  rintro f0 w _ ⟨b, rfl, hS⟩
  cases b
  case true =>
    repeat' (first|refine K ?_|(refine Sh.sa hS ?_;clear hS;intro w hS)|(refine K3 ?_;clear hS;intro g w hS hge)|((first|refine GS ?_ ?_|refine VB ?_ ?_)<;>intro hb<;>(try simp only [J1,J2,J3,J4,J5,J6] at hb)<;>(try (exfalso;first|omega|exact hb trivial))))
    refine Dnt Tryz.results108 ?_
    exact ⟨_, rfl, hS.sb⟩
  refine Z.brF rfl ?_
  refine Z.seq ?_
  refine Z.cut [123, 124, 125, 126, 127, 128, 129, 130, 131, 132, 133] (fun w z => ∃ b : Bool, z = [(123, .bool b)] ∧ Sep r [] (.blk g8 97 y.cells :: .blk g7 56 x.cells :: .blk ge 100 ((⟨kd, tk, (q : Nat), (k : Nat), ot, ep, fr, un, nn⟩ : En)).cells :: .blk gs 34 (s.cc c (⟨some ⟨gt, 0, none⟩, tc, some ⟨gk, 0, none⟩, kc⟩ : SAd)) :: .blk gc 30 (c.cl a) :: .sl 56 12 (.slice (some ⟨gt, 0, none⟩) c.tenants.length tc) (s.tenants.map TS.cells) :: .sl 97 4 (.slice (some ⟨gk, 0, none⟩) c.cells.length kc) (s.cells.map CS.cells) :: F) w) ?_ ?_
  · repeat' (first|refine Kw ?_|(refine Sh.sa hS ?_;clear hS;intro w hS)|(refine K3 ?_;clear hS;intro g w hS hge)|((first|refine GS ?_ ?_|refine VB ?_ ?_)<;>intro hb<;>(try simp only [J1,J2,J3,J4,J5,J6] at hb)<;>(try (exfalso;first|omega|exact hb trivial))))
    all_goals
      refine Sh.cut [(123, _)] ?_
      exact ⟨_, rfl, hS.sb⟩
  clear hS
  rintro f0 w _ ⟨b, rfl, hS⟩
  cases b
  case true =>
    repeat' (first|refine K ?_|(refine Sh.sa hS ?_;clear hS;intro w hS)|(refine K3 ?_;clear hS;intro g w hS hge)|((first|refine GS ?_ ?_|refine VB ?_ ?_)<;>intro hb<;>(try simp only [J1,J2,J3,J4,J5,J6] at hb)<;>(try (exfalso;first|omega|exact hb trivial))))
    refine Dnt Tryz.results108 ?_
    exact ⟨_, rfl, hS.sb⟩
  repeat' (first|refine K ?_|(refine Sh.sa hS ?_;clear hS;intro w hS)|(refine K3 ?_;clear hS;intro g w hS hge)|((first|refine GS ?_ ?_|refine VB ?_ ?_)<;>intro hb<;>(try simp only [J1,J2,J3,J4,J5,J6] at hb)<;>(try (exfalso;first|omega|exact hb trivial))))
  refine Dnt Tryz.results108 ?_
  exact ⟨_, rfl, hS.sb⟩
end Go.Proofs.YtmgpionlfemhdaaGreat
