/-
  The helpers of the law's statements: worlds, some cells, made waves, the sanity check.
-/
import Derived.Test.YtmgpionlfemhdaaGreatNUz
import Derived.Test.YtmgpionlfemhdaaGreatNXc
import Derived.Test.YtmgpionlfemhdaaGreatNXd
import Derived.Test.YtmgpionlfemhdaaGreatNXf
import Derived.Test.YtmgpionlfemhdaaGreatNXg
namespace Go.Proofs.YtmgpionlfemhdaaGreat
open Go.RowKit
set_option linter.unusedSimpArgs false
set_option linter.unusedVariables false
attribute [local irreducible] Res.blk Res.sl Res.all Res.ex Res.pure Res.star

def someL (c : Cfg) (l : List Int) : List Int := sortS (l.map fun x => modN x c.cells.length)
theorem someL_in {c : Cfg} (ho : c.ok) {l : List Int} {x : Int} (h : x ∈ someL c l) : inC c x = true := by
  unfold someL at h
  rw [sortS_mem] at h
  obtain ⟨y, _, rfl⟩ := List.mem_map.1 h
  have hk := ho.k
  have := modN_bd y c.cells.length (by omega)
  unfold inC
  rw [decide_eq_true_eq]
  exact this
theorem someL_len (c : Cfg) (l : List Int) : (someL c l).length ≤ l.length := by
  have h := insS_len
  suffices h2 : ∀ (l a : List Int), a.Pairwise (· < ·) → (l.foldl insS a).length ≤ a.length + l.length by
    have := h2 (l.map fun x => modN x c.cells.length) [] (by simp)
    simpa [someL, sortS] using this
  intro l
  induction l with
  | nil => intro a _; simp
  | cons k l ih =>
    intro a ha
    have h1 := ih (insS a k) (insS_asc ha k)
    have h2 := h a ha k
    simp only [List.foldl_cons, List.length_cons]
    omega
set_option maxHeartbeats 1000000 in
theorem some_z (c : Cfg) (a : CAd) (A : Option Addr) (l : List Int) (cap : Nat) (r : World) (F : List Res) (w : World) (hS : Sep r [] F w) (ho : c.ok) (hrd : Reads r F 1 (.slice A l.length cap) (l.map ztC)) (hl : l.length ≤ 1000) :
    Calls Tryz.prog 13 #[c.val a, .slice A l.length cap] w fun e w' => ∃ A' c', e = .returned (.slice A' (someL c l).length c') ∧ Sep r [] (.sl 3 1 (.slice A' (someL c l).length c') ((someL c l).map ztC) :: F) w' := by
  have hk := ho.k
  refine Z.enter Tryz.func13 Tryz.ntmps13 rfl rfl ?_
  repeat' (first|refine K ?_|(refine Sh.sa hS ?_;clear hS;intro w hS)|(refine K3 ?_;clear hS;intro g w hS hge)|((first|refine GS ?_ ?_|refine VB ?_ ?_)<;>intro hb<;>(try simp only [J1,J2,J3,J4,J5,J6] at hb)<;>(try (exfalso;first|omega|exact hb trivial))))
  rename Nat => gc
  replace hS := Z.nilsl hS 3 1 none
  refine Z.lpS [5, 7, 10, 11, 12, 13, 14, 15, 16, 17, 18, 19, 20, 21, 22] (fun m w z => ∃ (i : Nat) (o : List Int) (A2 : Option Addr) (c2 : Nat), z = [(5, .slice A2 o.length c2), (10, .int .i64 i)] ∧ i ≤ l.length ∧ o.length = i ∧ o = (l.take i).map (fun x => modN x c.cells.length) ∧ m = l.length - i ∧ Sep r [] (.sl 3 1 (.slice A2 o.length c2) (o.map ztC) :: .blk gc 30 (c.cl a) :: F) w) _ [(5, .slice none 0 0), (10, .int .i64 (0 : Nat))] (by repeat (first | exact trivial | refine ⟨rfl, ?_⟩)) ⟨0, [], none, 0, rfl, by omega, rfl, by simp, rfl, hS.sb⟩ ?_
  clear hS
  rintro m f0 w _ ⟨i, o, A2, c2, rfl, hi, hol, ho2, rfl, hS⟩
  by_cases hlt : i < l.length
  · obtain ⟨gb, ob, hAe, hra⟩ := int_get hrd [_, _] hS hlt
    subst hAe
    have hsx : (l.take (i + 1)).map (fun x => modN x c.cells.length) = o ++ [modN l[i] c.cells.length] := by rw [List.take_succ_eq_append_getElem hlt, List.map_append, ← ho2]; rfl
    generalize l[i] = x at *
    repeat' (first|refine K ?_|(refine Sh.sa hS ?_;clear hS;intro w hS)|(refine K3 ?_;clear hS;intro g w hS hge)|((first|refine GS ?_ ?_|refine VB ?_ ?_)<;>intro hb<;>(try simp only [J1,J2,J3,J4,J5,J6] at hb)<;>(try (exfalso;first|omega|exact hb trivial))))
    clear hra
    refine Z.eff (Z.cl (modS_z x c.cells.length _ _ _ hS (by omega) (by omega)) rfl ?_) rfl
    clear hS
    rintro e w ⟨rfl, hS⟩
    refine ⟨_, rfl, ?_⟩
    repeat' (first|refine K ?_|(refine Sh.sa hS ?_;clear hS;intro w hS)|(refine K3 ?_;clear hS;intro g w hS hge)|((first|refine GS ?_ ?_|refine VB ?_ ?_)<;>intro hb<;>(try simp only [J1,J2,J3,J4,J5,J6] at hb)<;>(try (exfalso;first|omega|exact hb trivial))))
    refine Z.eff (Z.apm (l' := [modN x c.cells.length]) hS rfl rfl rfl (by repeat (first | exact At.here | apply At.next)) (hS.lit1 (by repeat (first | exact At.here | apply At.next)) rfl rfl) (by (try simp only [maxLen, List.length_take, List.length_drop, List.length_append, List.length_cons, List.length_nil, List.length_map]); omega) (by (try simp only [maxLen, List.length_take, List.length_drop, List.length_append, List.length_cons, List.length_nil, List.length_map]); omega) ?_) rfl
    clear hS; intro A3 c3 w hS
    rw [← List.length_append] at hS ⊢
    repeat' (first|refine K ?_|(refine Sh.sa hS ?_;clear hS;intro w hS)|(refine K3 ?_;clear hS;intro g w hS hge)|((first|refine GS ?_ ?_|refine VB ?_ ?_)<;>intro hb<;>(try simp only [J1,J2,J3,J4,J5,J6] at hb)<;>(try (exfalso;first|omega|exact hb trivial))))
    refine Sh.again (l.length - (i + 1)) [(5, _), (10, .int .i64 (i + 1 : Nat))] ?_
    exact ⟨i + 1, o ++ [modN x c.cells.length], A3, c3, rfl, by omega, by simp; omega, hsx.symm, rfl, hS.sb⟩
  · have hi2 : i = l.length := by omega
    rw [List.take_of_length_le (by omega)] at ho2
    repeat' (first|refine K ?_|(refine Sh.sa hS ?_;clear hS;intro w hS)|(refine K3 ?_;clear hS;intro g w hS hge)|((first|refine GS ?_ ?_|refine VB ?_ ?_)<;>intro hb<;>(try simp only [J1,J2,J3,J4,J5,J6] at hb)<;>(try (exfalso;first|omega|exact hb trivial))))
    refine Z.eff (Z.cl (sorted37_z A2 o c2 _ _ _ hS (Reads.of_at (e := 3) (v := .slice A2 o.length c2) (by repeat (first | exact At.here | apply At.next))) (by omega)) rfl ?_) rfl
    clear hS
    rintro e w ⟨A3, c3, rfl, hS⟩
    refine ⟨_, rfl, ?_⟩
    repeat' (first|refine K ?_|(refine Sh.sa hS ?_;clear hS;intro w hS)|(refine K3 ?_;clear hS;intro g w hS hge)|((first|refine GS ?_ ?_|refine VB ?_ ?_)<;>intro hb<;>(try simp only [J1,J2,J3,J4,J5,J6] at hb)<;>(try (exfalso;first|omega|exact hb trivial))))
    refine Dnt Tryz.results13 ?_
    rw [ho2] at hS ⊢
    exact ⟨A3, c3, rfl, hS.sb⟩
set_option maxHeartbeats 1000000 in
theorem w0_z (A : Option Addr) (l : List Int) (cap : Nat) (r : World) (F : List Res) (w : World) (hS : Sep r [] F w) (hrd : Reads r F 1 (.slice A l.length cap) (l.map ztC)) (hl : l.length ≤ 1000) :
    Calls Tryz.prog 21 #[.slice A l.length cap] w fun e w' => ∃ k : Int, e = .returned (.int .i64 k) ∧ Sep r [] F w' := by
  refine Z.enter Tryz.func21 Tryz.ntmps21 rfl rfl ?_
  repeat' (first|refine K ?_|(refine Sh.sa hS ?_;clear hS;intro w hS)|(refine K3 ?_;clear hS;intro g w hS hge)|((first|refine GS ?_ ?_|refine VB ?_ ?_)<;>intro hb<;>(try simp only [J1,J2,J3,J4,J5,J6] at hb)<;>(try (exfalso;first|omega|exact hb trivial))))
  refine Z.lpS [2, 3, 4, 6, 7, 8, 9, 10, 11, 12, 13, 14, 15, 16, 17, 18, 19, 20, 21, 22, 23, 24, 25, 26] (fun m w z => ∃ (i : Nat), z = [(3, .int .i64 i)] ∧ i ≤ 20 ∧ m = 20 - i ∧ Sep r [] F w) _ [(3, .int .i64 (0 : Nat))] (by repeat (first | exact trivial | refine ⟨rfl, ?_⟩)) ⟨0, rfl, by omega, rfl, hS⟩ ?_
  clear hS
  rintro m f0 w _ ⟨i, rfl, hi, rfl, hS⟩
  by_cases hlt : i < 20
  · repeat' (first|refine K ?_|(refine Sh.sa hS ?_;clear hS;intro w hS)|(refine K3 ?_;clear hS;intro g w hS hge)|((first|refine GS ?_ ?_|refine VB ?_ ?_)<;>intro hb<;>(try simp only [J1,J2,J3,J4,J5,J6] at hb)<;>(try (exfalso;first|omega|exact hb trivial))))
    refine Z.lpS [4, 6, 13, 14, 15, 16, 17, 18, 19, 20, 21, 22, 23] (fun m w z => ∃ (j : Nat) (b : Bool), z = [(4, .bool b), (13, .int .i64 j)] ∧ j ≤ l.length ∧ m = l.length - j ∧ Sep r [] F w) _ [(4, .bool false), (13, .int .i64 (0 : Nat))] (by repeat (first | exact trivial | refine ⟨rfl, ?_⟩)) ⟨0, false, rfl, by omega, rfl, hS⟩ ?_
    clear hS
    rintro m f1 w _ ⟨j, b, rfl, hj, rfl, hS⟩
    by_cases hjl : j < l.length
    · obtain ⟨gb, ob, hAe, hra⟩ := int_get hrd [] hS hjl
      subst hAe
      generalize l[j] = x at *
      cases b
      · repeat' (first|refine K ?_|(refine Sh.sa hS ?_;clear hS;intro w hS)|(refine K3 ?_;clear hS;intro g w hS hge)|((first|refine GS ?_ ?_|refine VB ?_ ?_)<;>intro hb<;>(try simp only [J1,J2,J3,J4,J5,J6] at hb)<;>(try (exfalso;first|omega|exact hb trivial))))
        refine Sh.again (l.length - (j + 1)) [(4, _), (13, .int .i64 (j + 1 : Nat))] ?_
        exact ⟨j + 1, _, rfl, by omega, rfl, hS⟩
      · repeat' (first|refine K ?_|(refine Sh.sa hS ?_;clear hS;intro w hS)|(refine K3 ?_;clear hS;intro g w hS hge)|((first|refine GS ?_ ?_|refine VB ?_ ?_)<;>intro hb<;>(try simp only [J1,J2,J3,J4,J5,J6] at hb)<;>(try (exfalso;first|omega|exact hb trivial))))
        refine Sh.again (l.length - (j + 1)) [(4, _), (13, .int .i64 (j + 1 : Nat))] ?_
        exact ⟨j + 1, _, rfl, by omega, rfl, hS⟩
    · cases b
      · repeat' (first|refine K ?_|(refine Sh.sa hS ?_;clear hS;intro w hS)|(refine K3 ?_;clear hS;intro g w hS hge)|((first|refine GS ?_ ?_|refine VB ?_ ?_)<;>intro hb<;>(try simp only [J1,J2,J3,J4,J5,J6] at hb)<;>(try (exfalso;first|omega|exact hb trivial))))
        refine Dnt Tryz.results21 ?_
        exact ⟨_, rfl, hS⟩
      · repeat' (first|refine K ?_|(refine Sh.sa hS ?_;clear hS;intro w hS)|(refine K3 ?_;clear hS;intro g w hS hge)|((first|refine GS ?_ ?_|refine VB ?_ ?_)<;>intro hb<;>(try simp only [J1,J2,J3,J4,J5,J6] at hb)<;>(try (exfalso;first|omega|exact hb trivial))))
        refine Sh.again (20 - (i + 1)) [(3, .int .i64 (i + 1 : Nat))] ?_
        exact ⟨i + 1, rfl, by omega, rfl, hS⟩
  · repeat' (first|refine K ?_|(refine Sh.sa hS ?_;clear hS;intro w hS)|(refine K3 ?_;clear hS;intro g w hS hge)|((first|refine GS ?_ ?_|refine VB ?_ ?_)<;>intro hb<;>(try simp only [J1,J2,J3,J4,J5,J6] at hb)<;>(try (exfalso;first|omega|exact hb trivial))))
    refine Dnt Tryz.results21 ?_
    exact ⟨_, rfl, hS⟩
set_option maxHeartbeats 2000000 in
theorem worlds_z (A : Option Addr) (l : List Int) (cap : Nat) (A2 : Option Addr) (l2 : List Int) (cap2 : Nat) (pk : Bool) (r : World) (F : List Res) (w : World) (hS : Sep r [] F w) (hrd : Reads r F 1 (.slice A l.length cap) (l.map ztC)) (hrd2 : Reads r F 1 (.slice A2 l2.length cap2) (l2.map ztC)) (hl : l.length ≤ 1000) (hl2 : l2.length ≤ 1000) :
    Calls Tryz.prog 10 #[.slice A l.length cap, .slice A2 l2.length cap2, .bool pk] w fun e w' => ∃ (c : Cfg) (a : CAd) (s : Sta) (b : SAd), e = .returned (.tuple #[c.val a, s.vc c b]) ∧ c.ok ∧ s.ok c ∧ Sep r [] (CO c a :: SO c s b :: F) w' := by
  refine Z.enter Tryz.func10 Tryz.ntmps10 rfl rfl ?_
  cases pk
  · repeat' (first|refine K ?_|(refine Sh.sa hS ?_;clear hS;intro w hS)|(refine K3 ?_;clear hS;intro g w hS hge)|((first|refine GS ?_ ?_|refine VB ?_ ?_)<;>intro hb<;>(try simp only [J1,J2,J3,J4,J5,J6] at hb)<;>(try (exfalso;first|omega|exact hb trivial))))
    rename_i g6 _ _
    rename Nat => g7
    refine Z.eff (Z.cl (mconfig_z A l cap _ _ _ hS (hrd.app [_, _]) (by omega)) rfl ?_) rfl
    clear hS
    rintro e w ⟨c, a, rfl, ho, hS⟩
    refine ⟨_, rfl, ?_⟩
    repeat' (first|refine K ?_|(refine Sh.sa hS ?_;clear hS;intro w hS)|(refine K3 ?_;clear hS;intro g w hS hge)|((first|refine GS ?_ ?_|refine VB ?_ ?_)<;>intro hb<;>(try simp only [J1,J2,J3,J4,J5,J6] at hb)<;>(try (exfalso;first|omega|exact hb trivial))))
    rename Nat => g11
    refine D.startS (Lr := [.blk g11 30 (c.cl a)]) (hS.sb) 5 6 (by kernel_rfl) rfl ?_
    replace hS := hS.drew
    refine Sh.dp 1 2 ?_
    refine Sh.dl 0 3 ?_
    refine Sh.dl 2 7 ?_
    refine D.eff 3 15 rfl D.wantedN (by kernel_rfl) (by kernel_rfl) (fun _ _ h => h) ?_
    refine Z.cl (mstate_z A2 l2 cap2 c a 40 _ _ _ hS (hrd2.app [_, _, _, _]) (by omega) (CfR.of_co (by repeat (first | exact At.here | apply At.next))) ho (by omega)) rfl ?_
    clear hS
    rintro e w ⟨s, b, rfl, hs, hS⟩
    refine ⟨_, rfl, ?_⟩
    refine ⟨HM.s (hS.sb), ?_⟩
    refine D.eff 4 31 rfl D.wantedN (by kernel_rfl) (by kernel_rfl) (fun _ _ h => h) ?_
    refine Z.st hS rfl (by repeat (first | exact At.here | apply At.next)) rfl rfl ?_
    clear hS; intro w hS
    refine ⟨HM.s (hS.sb), ?_⟩
    refine D.eff 5 63 rfl D.wantedN (by kernel_rfl) (by kernel_rfl) (fun _ _ h => h) ?_
    refine Z.st hS rfl (by repeat (first | exact At.here | apply At.next)) rfl rfl ?_
    clear hS; intro w hS
    refine ⟨HM.last (by kernel_rfl), ?_⟩
    refine D.done (by kernel_rfl) ?_
    repeat' (first|refine K ?_|(refine Sh.sa hS ?_;clear hS;intro w hS)|(refine K3 ?_;clear hS;intro g w hS hge)|((first|refine GS ?_ ?_|refine VB ?_ ?_)<;>intro hb<;>(try simp only [J1,J2,J3,J4,J5,J6] at hb)<;>(try (exfalso;first|omega|exact hb trivial))))
    first | refine Z.done hS Tryz.results10 (Z.RV.cell rfl (by repeat (first | exact At.here | apply At.next)) rfl (Z.RV.cell rfl (by repeat (first | exact At.here | apply At.next)) rfl Z.RV.nil)) ?_ | refine Z.doneN hS Tryz.results10 (Z.RV.cell rfl (by repeat (first | exact At.here | apply At.next)) rfl (Z.RV.cell rfl (by repeat (first | exact At.here | apply At.next)) rfl Z.RV.nil)) ?_
    exact ⟨c, a, s, b, rfl, ho, hs, hS.sb⟩
  · repeat' (first|refine K ?_|(refine Sh.sa hS ?_;clear hS;intro w hS)|(refine K3 ?_;clear hS;intro g w hS hge)|((first|refine GS ?_ ?_|refine VB ?_ ?_)<;>intro hb<;>(try simp only [J1,J2,J3,J4,J5,J6] at hb)<;>(try (exfalso;first|omega|exact hb trivial))))
    rename_i g6 _ _
    rename Nat => g7
    refine Z.eff (Z.cl (packed_z A l cap _ _ _ hS (hrd.app [_, _]) (by omega)) rfl ?_) rfl
    clear hS
    rintro e w ⟨c, a, s, b, out, oA, oc, rfl, ho, hs, hS⟩
    refine ⟨_, rfl, ?_⟩
    repeat' (first|refine K ?_|(refine Sh.sa hS ?_;clear hS;intro w hS)|(refine K3 ?_;clear hS;intro g w hS hge)|((first|refine GS ?_ ?_|refine VB ?_ ?_)<;>intro hb<;>(try simp only [J1,J2,J3,J4,J5,J6] at hb)<;>(try (exfalso;first|omega|exact hb trivial))))
    rename_i g8 _ _ _ _
    rename Nat => g10
    refine D.startS (Lr := [.blk g8 30 (c.cl a), .blk g10 34 (s.cc c b)]) (hS.sb) 3 4 (by kernel_rfl) rfl ?_
    replace hS := hS.drew
    refine Sh.dl 0 1 ?_
    refine Sh.dl 1 3 ?_
    refine D.eff 2 7 rfl D.wantedN (by kernel_rfl) (by kernel_rfl) (fun _ _ h => h) ?_
    refine Z.st hS rfl (by repeat (first | exact At.here | apply At.next)) rfl rfl ?_
    clear hS; intro w hS
    refine ⟨HM.s (hS.sb), ?_⟩
    refine D.eff 3 15 rfl D.wantedN (by kernel_rfl) (by kernel_rfl) (fun _ _ h => h) ?_
    refine Z.st hS rfl (by repeat (first | exact At.here | apply At.next)) rfl rfl ?_
    clear hS; intro w hS
    refine ⟨HM.last (by kernel_rfl), ?_⟩
    refine D.done (by kernel_rfl) ?_
    repeat' (first|refine K ?_|(refine Sh.sa hS ?_;clear hS;intro w hS)|(refine K3 ?_;clear hS;intro g w hS hge)|((first|refine GS ?_ ?_|refine VB ?_ ?_)<;>intro hb<;>(try simp only [J1,J2,J3,J4,J5,J6] at hb)<;>(try (exfalso;first|omega|exact hb trivial))))
    first | refine Z.done hS Tryz.results10 (Z.RV.cell rfl (by repeat (first | exact At.here | apply At.next)) rfl (Z.RV.cell rfl (by repeat (first | exact At.here | apply At.next)) rfl Z.RV.nil)) ?_ | refine Z.doneN hS Tryz.results10 (Z.RV.cell rfl (by repeat (first | exact At.here | apply At.next)) rfl (Z.RV.cell rfl (by repeat (first | exact At.here | apply At.next)) rfl Z.RV.nil)) ?_
    exact ⟨c, a, s, b, rfl, ho, hs, hS.sb⟩
set_option maxHeartbeats 2000000 in
theorem made_z (c : Cfg) (a : CAd) (A : Option Addr) (l : List Int) (cap : Nat) (r : World) (F : List Res) (w : World) (hS : Sep r [] F w) (ho : c.ok) (hrd : Reads r F 1 (.slice A l.length cap) (l.map ztC)) (hl : l.length ≤ 1000) :
    Calls Tryz.prog 18 #[c.val a, .slice A l.length cap] w fun e w' => ∃ (W : List Wv) (B : Option Addr) (C : Nat), e = .returned (.slice B W.length C) ∧ W.length ≤ 6 ∧ (∀ x, x ∈ W → x.l.length ≤ 3) ∧ Sep r [] (WO B C W :: F) w' := by
  have hk := ho.k
  refine Z.enter Tryz.func18 Tryz.ntmps18 rfl rfl ?_
  repeat' (first|refine K ?_|(refine Sh.sa hS ?_;clear hS;intro w hS)|(refine K3 ?_;clear hS;intro g w hS hge)|((first|refine GS ?_ ?_|refine VB ?_ ?_)<;>intro hb<;>(try simp only [J1,J2,J3,J4,J5,J6] at hb)<;>(try (exfalso;first|omega|exact hb trivial))))
  rename Nat => gc
  refine Z.eff (Z.cl (tnew_z A l.length cap _ _ _ hS) rfl ?_) rfl
  clear hS
  rintro e w ⟨gt, rfl, hS⟩
  refine ⟨_, rfl, ?_⟩
  repeat' (first|refine K ?_|(refine Sh.sa hS ?_;clear hS;intro w hS)|(refine K3 ?_;clear hS;intro g w hS hge)|((first|refine GS ?_ ?_|refine VB ?_ ?_)<;>intro hb<;>(try simp only [J1,J2,J3,J4,J5,J6] at hb)<;>(try (exfalso;first|omega|exact hb trivial))))
  replace hS := WO.nil hS none
  refine Z.lpS [6, 7, 8, 11, 12, 13, 14, 15, 16, 17, 18, 19, 20, 21, 22, 23, 24, 25, 26, 27, 28, 29, 30, 31, 32, 33, 34, 35] (fun m w z => ∃ (W : List Wv) (B : Option Addr) (C : Nat), z = [(6, .slice B W.length C)] ∧ W.length ≤ 6 ∧ (∀ x, x ∈ W → x.l.length ≤ 3) ∧ m = 6 - W.length ∧ Sep r [] (WO B C W :: TpL gt A l.length cap :: .blk gc 30 (c.cl a) :: F) w) _ [(6, .slice none 0 0)] (by repeat (first | exact trivial | refine ⟨rfl, ?_⟩)) ⟨[], none, 0, rfl, by simp, by simp, rfl, hS.sb⟩ ?_
  clear hS
  rintro m f0 w _ ⟨W, B, C, rfl, hWl, hWx, rfl, hS⟩
  repeat' (first|refine K ?_|(refine Sh.sa hS ?_;clear hS;intro w hS)|(refine K3 ?_;clear hS;intro g w hS hge)|((first|refine GS ?_ ?_|refine VB ?_ ?_)<;>intro hb<;>(try simp only [J1,J2,J3,J4,J5,J6] at hb)<;>(try (exfalso;first|omega|exact hb trivial))))
  replace hS := hS.fo (R := TpL gt A l.length cap)
  refine Z.eff (Z.cl (more_z gt A l.length cap _ _ _ hS) rfl ?_) rfl
  clear hS
  rintro e w ⟨mo, rfl, hS⟩
  refine ⟨_, rfl, ?_⟩
  by_cases hlt : W.length < 6
  · cases mo
    · repeat' (first|refine K ?_|(refine Sh.sa hS ?_;clear hS;intro w hS)|(refine K3 ?_;clear hS;intro g w hS hge)|((first|refine GS ?_ ?_|refine VB ?_ ?_)<;>intro hb<;>(try simp only [J1,J2,J3,J4,J5,J6] at hb)<;>(try (exfalso;first|omega|exact hb trivial))))
      refine Dnt Tryz.results18 ?_
      exact ⟨W, B, C, rfl, hWl, hWx, hS.sb⟩
    repeat' (first|refine K ?_|(refine Sh.sa hS ?_;clear hS;intro w hS)|(refine K3 ?_;clear hS;intro g w hS hge)|((first|refine GS ?_ ?_|refine VB ?_ ?_)<;>intro hb<;>(try simp only [J1,J2,J3,J4,J5,J6] at hb)<;>(try (exfalso;first|omega|exact hb trivial))))
    replace hS := hS.fo (R := TpL gt A l.length cap)
    refine Z.eff (Z.cl (next_z gt A l cap 4 _ _ _ hS (hrd.app [_, _]) hl (by omega) (by omega)) rfl ?_) rfl
    clear hS
    rintro e w ⟨y, rfl, hy, hS⟩
    refine ⟨_, rfl, ?_⟩
    repeat' (first|refine K ?_|(refine Sh.sa hS ?_;clear hS;intro w hS)|(refine K3 ?_;clear hS;intro g w hS hge)|((first|refine GS ?_ ?_|refine VB ?_ ?_)<;>intro hb<;>(try simp only [J1,J2,J3,J4,J5,J6] at hb)<;>(try (exfalso;first|omega|exact hb trivial))))
    replace hS := Z.nilsl hS 3 1 none
    refine Z.lpS [7, 8, 20, 21, 22, 23, 24, 25, 26, 27, 28, 29, 30, 31] (fun m w z => ∃ (y : Int) (o : List Int) (A2 : Option Addr) (c2 : Nat), z = [(7, .slice A2 o.length c2), (8, .int .i64 y)] ∧ 0 ≤ y ∧ o.length + y ≤ 3 ∧ m = y.toNat ∧ Sep r [] (.sl 3 1 (.slice A2 o.length c2) (o.map ztC) :: WO B C W :: TpL gt A l.length cap :: .blk gc 30 (c.cl a) :: F) w) _ [(7, .slice none 0 0), (8, .int .i64 y)] (by repeat (first | exact trivial | refine ⟨rfl, ?_⟩)) ⟨y, [], none, 0, rfl, by omega, by simp; omega, rfl, hS.sb⟩ ?_
    clear hS
    rintro m f1 w _ ⟨y, o, A2, c2, rfl, hy0, hoy, rfl, hS⟩
    by_cases hyp : 0 < y
    · repeat' (first|refine K ?_|(refine Sh.sa hS ?_;clear hS;intro w hS)|(refine K3 ?_;clear hS;intro g w hS hge)|((first|refine GS ?_ ?_|refine VB ?_ ?_)<;>intro hb<;>(try simp only [J1,J2,J3,J4,J5,J6] at hb)<;>(try (exfalso;first|omega|exact hb trivial))))
      replace hS := hS.fo (R := TpL gt A l.length cap)
      refine Z.eff (Z.cl (range_z gt A l cap 0 c.cells.length _ _ _ hS (hrd.app [_, _, _]) hl (by omega) (by omega) (by omega)) rfl ?_) rfl
      clear hS
      rintro e w ⟨k, rfl, hk, hS⟩
      refine ⟨_, rfl, ?_⟩
      repeat' (first|refine K ?_|(refine Sh.sa hS ?_;clear hS;intro w hS)|(refine K3 ?_;clear hS;intro g w hS hge)|((first|refine GS ?_ ?_|refine VB ?_ ?_)<;>intro hb<;>(try simp only [J1,J2,J3,J4,J5,J6] at hb)<;>(try (exfalso;first|omega|exact hb trivial))))
      refine Z.eff (Z.apm (l' := [k]) hS rfl rfl rfl (by repeat (first | exact At.here | apply At.next)) (hS.lit1 (by repeat (first | exact At.here | apply At.next)) rfl rfl) (by (try simp only [maxLen, List.length_take, List.length_drop, List.length_append, List.length_cons, List.length_nil, List.length_map]); omega) (by (try simp only [maxLen, List.length_take, List.length_drop, List.length_append, List.length_cons, List.length_nil, List.length_map]); omega) ?_) rfl
      clear hS; intro A3 c3 w hS
      rw [← List.length_append] at hS ⊢
      repeat' (first|refine K ?_|(refine Sh.sa hS ?_;clear hS;intro w hS)|(refine K3 ?_;clear hS;intro g w hS hge)|((first|refine GS ?_ ?_|refine VB ?_ ?_)<;>intro hb<;>(try simp only [J1,J2,J3,J4,J5,J6] at hb)<;>(try (exfalso;first|omega|exact hb trivial))))
      refine Sh.again ((y - 1).toNat) [(7, _), (8, .int .i64 (y - 1))] ?_
      exact ⟨y - 1, o ++ [k], A3, c3, rfl, by omega, by simp; omega, by omega, hS.sb⟩
    · repeat' (first|refine K ?_|(refine Sh.sa hS ?_;clear hS;intro w hS)|(refine K3 ?_;clear hS;intro g w hS hge)|((first|refine GS ?_ ?_|refine VB ?_ ?_)<;>intro hb<;>(try simp only [J1,J2,J3,J4,J5,J6] at hb)<;>(try (exfalso;first|omega|exact hb trivial))))
      rename Nat => g2
      replace hS := hS.fo (R := .sl 3 1 (.slice A2 o.length c2) _)
      replace hS := hS.fo (R := .blk g2 _ _)
      replace hS := WO.op (hS.fo (R := WO B C W))
      refine Z.eff (Z.apm (fc := Wv.cells) (l := W) (l' := [(⟨o, A2, c2⟩ : Wv)]) hS rfl rfl rfl .here (hS.lit1 (.next (at_app _ .here)) rfl rfl) (by (try simp only [maxLen, List.length_take, List.length_drop, List.length_append, List.length_cons, List.length_nil, List.length_map]); omega) (by (try simp only [maxLen, List.length_take, List.length_drop, List.length_append, List.length_cons, List.length_nil, List.length_map]); omega) ?_) rfl
      clear hS; intro B2 C2 w hS
      rw [← List.length_append] at hS ⊢
      replace hS := WO.snoc (⟨o, A2, c2⟩ : Wv) (hS.sub (.cons (.next (at_app _ (.next .here))) .rest)) rfl
      repeat' (first|refine K ?_|(refine Sh.sa hS ?_;clear hS;intro w hS)|(refine K3 ?_;clear hS;intro g w hS hge)|((first|refine GS ?_ ?_|refine VB ?_ ?_)<;>intro hb<;>(try simp only [J1,J2,J3,J4,J5,J6] at hb)<;>(try (exfalso;first|omega|exact hb trivial))))
      refine Sh.again (6 - (W.length + 1)) [(6, _)] ?_
      refine ⟨W ++ [⟨o, A2, c2⟩], B2, C2, rfl, by simp; omega, fun x hx => ?_, by simp, hS.sb⟩
      rcases List.mem_append.1 hx with hx | hx
      · exact hWx x hx
      · rw [List.mem_singleton] at hx
        subst hx
        show o.length ≤ 3
        omega
  · cases mo
    · repeat' (first|refine K ?_|(refine Sh.sa hS ?_;clear hS;intro w hS)|(refine K3 ?_;clear hS;intro g w hS hge)|((first|refine GS ?_ ?_|refine VB ?_ ?_)<;>intro hb<;>(try simp only [J1,J2,J3,J4,J5,J6] at hb)<;>(try (exfalso;first|omega|exact hb trivial))))
      refine Dnt Tryz.results18 ?_
      exact ⟨W, B, C, rfl, hWl, hWx, hS.sb⟩
    · repeat' (first|refine K ?_|(refine Sh.sa hS ?_;clear hS;intro w hS)|(refine K3 ?_;clear hS;intro g w hS hge)|((first|refine GS ?_ ?_|refine VB ?_ ?_)<;>intro hb<;>(try simp only [J1,J2,J3,J4,J5,J6] at hb)<;>(try (exfalso;first|omega|exact hb trivial))))
      refine Dnt Tryz.results18 ?_
      exact ⟨W, B, C, rfl, hWl, hWx, hS.sb⟩
end Go.Proofs.YtmgpionlfemhdaaGreat
