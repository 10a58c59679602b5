/-
  Small questions about states; new states; copies.
-/
import Derived.Test.YtmgpionlfemhdaaGreatNUe
namespace Go.Proofs.YtmgpionlfemhdaaGreat
open Go.RowKit
set_option linter.unusedSimpArgs false
set_option linter.unusedVariables false
attribute [local irreducible] Res.blk Res.sl Res.all Res.ex Res.pure Res.star

set_option maxHeartbeats 4000000 in
theorem over_z (c : Cfg) (a : CAd) (s : Sta) (b : SAd) (r : World) (F : List Res) (w : World) (hS : Sep r [] F w) (hr : CfR r F c a) (hs : StR r F s b) (ho : c.ok) (hl : s.tenants.length = c.tenants.length) :
    Calls Tryz.prog 129 #[c.val a, s.val b] w fun e w' => ∃ (A : Option Addr) (n cap : Nat), e = .returned (.slice A n cap) ∧ Sep r [] F w' := by
  have hk := ho.k
  refine Z.enter Tryz.func129 Tryz.ntmps129 rfl rfl ?_
  repeat' (first|refine K ?_|(refine Sh.sa hS ?_;clear hS;intro w hS)|(refine K3 ?_;clear hS;intro g w hS hge)|((first|refine GS ?_ ?_|refine VB ?_ ?_)<;>intro hb<;>(try simp only [J1,J2,J3,J4,J5,J6] at hb)<;>(try (exfalso;first|omega|exact hb trivial))))
  rename Nat => g3
  refine Z.eff (Z.cl (booked_z c a s b _ _ _ hS (hr.app [_, _]) (hs.app [_, _]) ho hl) rfl ?_) rfl
  clear hS
  rintro e w ⟨l, A, cap, rfl, hl0, hS⟩
  refine ⟨_, rfl, ?_⟩
  repeat' (first|refine K ?_|(refine Sh.sa hS ?_;clear hS;intro w hS)|(refine K3 ?_;clear hS;intro g w hS hge)|((first|refine GS ?_ ?_|refine VB ?_ ?_)<;>intro hb<;>(try simp only [J1,J2,J3,J4,J5,J6] at hb)<;>(try (exfalso;first|omega|exact hb trivial))))
  replace hS := Z.nilsl hS 3 1 none
  refine Z.lpS [5, 7, 11, 12, 13, 14, 15, 16, 17, 18, 19, 20, 21, 22, 23, 24, 25, 26, 27, 28, 29, 30, 31] (fun m w z => ∃ (i : Nat) (o : List Int) (Ao : Option Addr) (co : Nat), z = [(5, .slice Ao o.length co), (7, .int .i64 i)] ∧ o.length ≤ i ∧ i ≤ l.length ∧ m = l.length - i ∧ Sep r [] (.sl 3 1 (.slice Ao o.length co) (o.map ztC) :: .sl 3 1 (.slice A l.length cap) (l.map ztC) :: .blk g3 34 (s.cl b) :: .blk g 30 (c.cl a) :: F) w) _ [(5, .slice none 0 0), (7, .int .i64 (0 : Nat))] (by repeat (first | exact trivial | refine ⟨rfl, ?_⟩)) ⟨0, [], none, 0, rfl, by simp, by omega, rfl, hS⟩ ?_
  clear hS
  rintro m f0 w _ ⟨i, o, Ao, co, rfl, hio, hi, rfl, hS⟩
  by_cases hlt : i < l.length
  · have hlt2 : i < c.cells.length := by omega
    obtain ⟨gb, o1, hA, _, _⟩ := (hS.slrows (e := 3) (v := .slice A l.length cap) (by repeat (first | exact At.here | apply At.next))).mat (by omega) (q := i) (by simpa using hlt)
    subst hA
    obtain ⟨gc, o2, hA2, _⟩ := reads_kn hr [_, _, _, _] hS hlt2
    have hra1 : ∀ W, Sep r [] (.sl 3 1 (.slice Ao o.length co) (o.map ztC) :: .sl 3 1 (.slice (some ⟨gb, o1, none⟩) l.length cap) (l.map ztC) :: .blk g3 34 (s.cl b) :: .blk g 30 (c.cl a) :: F) W → W.rangeAt gb (o1 + i * 1) (ztC l[i]) := fun W hW => by
      have h3 := (hW.slrows (e := 3) (v := .slice (some ⟨gb, o1, none⟩) l.length cap) (by repeat (first | exact At.here | apply At.next))).elem (q := i) (by omega) (by simpa using hlt)
      simpa using h3
    have hra2 : ∀ W, Sep r [] (.sl 3 1 (.slice Ao o.length co) (o.map ztC) :: .sl 3 1 (.slice (some ⟨gb, o1, none⟩) l.length cap) (l.map ztC) :: .blk g3 34 (s.cl b) :: .blk g 30 (c.cl a) :: F) W → W.rangeAt gc (o2 + i * 2) (c.cells[i]).cells := fun W hW => at_kn hr [_, _, _, _] hW hA2 hlt2
    generalize l[i] = y at *
    generalize c.cells[i] = d at *
    obtain ⟨zA, zc, kA, kc, tA, tc, vA, vc, rA, rc, oA, oc⟩ := a
    simp only at hA2
    subst hA2
    repeat' (first|refine K ?_|(refine Sh.sa hS ?_;clear hS;intro w hS)|(refine K3 ?_;clear hS;intro g w hS hge)|((first|refine GS ?_ ?_|refine VB ?_ ?_)<;>intro hb<;>(try simp only [J1,J2,J3,J4,J5,J6] at hb)<;>(try (exfalso;first|omega|exact hb trivial))))
    refine D.startS hS 11 11 (by kernel_rfl) rfl ?_
    replace hS := hS.drew
    refine Sh.dp 0 1 ?_
    refine Sh.dp 1 3 ?_
    first | refine D.ixn 2 7 rfl D.wantedN (by kernel_rfl) rfl rfl rfl (by omega) ?_ | refine D.ix 2 7 rfl D.wantedN (by kernel_rfl) rfl rfl rfl (by omega) ?_ | refine D.ia 2 7 rfl D.wantedN (by kernel_rfl) rfl rfl rfl (by omega) ?_
    refine Sh.dp 4 23 ?_
    refine Sh.dp 6 87 ?_
    refine D.ldR 3 95 rfl D.wantedN (by kernel_rfl) rfl hra1 rfl ?_
    refine Sh.dl 5 127 ?_
    first | refine D.ixn 7 255 rfl D.wantedN (by kernel_rfl) rfl rfl rfl (by omega) ?_ | refine D.ix 7 255 rfl D.wantedN (by kernel_rfl) rfl rfl rfl (by omega) ?_ | refine D.ia 7 255 rfl D.wantedN (by kernel_rfl) rfl rfl rfl (by omega) ?_
    refine Sh.dp 8 511 ?_
    refine D.ldE 9 1023 rfl D.wantedN (by kernel_rfl) rfl hra2 rfl ?_
    refine Sh.dp 10 2047 ?_
    refine D.done (by kernel_rfl) ?_
    repeat' (first|refine K ?_|(refine Sh.sa hS ?_;clear hS;intro w hS)|(refine K3 ?_;clear hS;intro g w hS hge)|((first|refine GS ?_ ?_|refine VB ?_ ?_)<;>intro hb<;>(try simp only [J1,J2,J3,J4,J5,J6] at hb)<;>(try (exfalso;first|omega|exact hb trivial))))
    · refine Z.eff (Z.apm (l' := [(i : Int)]) hS rfl rfl rfl (by repeat (first | exact At.here | apply At.next)) (hS.lit1 (by repeat (first | exact At.here | apply At.next)) rfl rfl) (by (try simp only [maxLen, List.length_take, List.length_drop, List.length_append, List.length_cons, List.length_nil, List.length_map]); omega) (by (try simp only [maxLen, List.length_take, List.length_drop, List.length_append, List.length_cons, List.length_nil, List.length_map]); omega) ?_) rfl
      clear hS; intro A' cap' w hS
      rw [← List.length_append] at hS ⊢
      repeat' (first|refine K ?_|(refine Sh.sa hS ?_;clear hS;intro w hS)|(refine K3 ?_;clear hS;intro g w hS hge)|((first|refine GS ?_ ?_|refine VB ?_ ?_)<;>intro hb<;>(try simp only [J1,J2,J3,J4,J5,J6] at hb)<;>(try (exfalso;first|omega|exact hb trivial))))
      refine Sh.again (l.length - (i + 1)) [(5, _), (7, .int .i64 (i + 1 : Nat))] ?_
      exact ⟨i + 1, o ++ [(i : Int)], A', cap', rfl, by simp; omega, by omega, rfl, hS.sb⟩
    · refine Sh.again (l.length - (i + 1)) [(5, _), (7, .int .i64 (i + 1 : Nat))] ?_
      exact ⟨i + 1, o, Ao, co, rfl, by omega, by omega, rfl, hS.sb⟩
  · repeat' (first|refine K ?_|(refine Sh.sa hS ?_;clear hS;intro w hS)|(refine K3 ?_;clear hS;intro g w hS hge)|((first|refine GS ?_ ?_|refine VB ?_ ?_)<;>intro hb<;>(try simp only [J1,J2,J3,J4,J5,J6] at hb)<;>(try (exfalso;first|omega|exact hb trivial))))
    refine Dnt Tryz.results129 ?_
    exact ⟨_, _, _, rfl, hS.sb⟩
theorem proven_z (s : Sta) (b : SAd) (v : Int) (r : World) (F : List Res) (w : World) (hS : Sep r [] F w) :
    Calls Tryz.prog 111 #[s.val b, .int .i64 v] w fun e w' => ∃ q, e = .returned (.bool q) ∧ Sep r [] F w' := by
  refine Z.enter Tryz.func111 Tryz.ntmps111 rfl rfl ?_
  repeat' (first|refine K ?_|(refine Sh.sa hS ?_;clear hS;intro w hS)|(refine K3 ?_;clear hS;intro g w hS hge)|((first|refine GS ?_ ?_|refine VB ?_ ?_)<;>intro hb<;>(try simp only [J1,J2,J3,J4,J5,J6] at hb)<;>(try (exfalso;first|omega|exact hb trivial))))
  refine Z.eff (Z.cl (has4_z _ _ _ _ _ hS) rfl ?_) rfl
  clear hS
  rintro e w ⟨q, rfl, hS⟩
  refine ⟨_, rfl, ?_⟩
  repeat' (first|refine K ?_|(refine Sh.sa hS ?_;clear hS;intro w hS)|(refine K3 ?_;clear hS;intro g w hS hge)|((first|refine GS ?_ ?_|refine VB ?_ ?_)<;>intro hb<;>(try simp only [J1,J2,J3,J4,J5,J6] at hb)<;>(try (exfalso;first|omega|exact hb trivial))))
  refine Dnt Tryz.results111 ?_
  exact ⟨q, rfl, hS.sb⟩
set_option maxHeartbeats 1000000 in
theorem open_z (s : Sta) (b : SAd) (k : Nat) (r : World) (F : List Res) (w : World) (hS : Sep r [] F w) (hs : StR r F s b) (hk : k < s.cells.length) :
    Calls Tryz.prog 110 #[s.val b, .int .i64 k] w fun e w' => ∃ q, e = .returned (.bool q) ∧ Sep r [] F w' := by
  refine Z.enter Tryz.func110 Tryz.ntmps110 rfl rfl ?_
  repeat' (first|refine K ?_|(refine Sh.sa hS ?_;clear hS;intro w hS)|(refine K3 ?_;clear hS;intro g w hS hge)|((first|refine GS ?_ ?_|refine VB ?_ ?_)<;>intro hb<;>(try simp only [J1,J2,J3,J4,J5,J6] at hb)<;>(try (exfalso;first|omega|exact hb trivial))))
  obtain ⟨gb, o, hA, _⟩ := reads_ks hs [_] hS hk
  have hra : ∀ W, Sep r [] (.blk g 34 (s.cl b) :: F) W → W.rangeAt gb (o + k * 4) (s.cells[k]).cells := fun W hW => at_ks hs [_] hW hA hk
  generalize s.cells[k] = y at *
  obtain ⟨sA, sc, qA, qc⟩ := b
  simp only at hA
  subst hA
  refine D.startS hS 21 21 (by kernel_rfl) rfl ?_
  replace hS := hS.drew
  refine Sh.dp 1 2 ?_
  refine Sh.dp 3 10 ?_
  refine Sh.dl 0 11 ?_
  refine Sh.dl 2 15 ?_
  first | refine D.ixn 4 31 rfl D.wantedN (by kernel_rfl) rfl rfl rfl (by omega) ?_ | refine D.ix 4 31 rfl D.wantedN (by kernel_rfl) rfl rfl rfl (by omega) ?_ | refine D.ia 4 31 rfl D.wantedN (by kernel_rfl) rfl rfl rfl (by omega) ?_
  refine Sh.dp 5 63 ?_
  refine D.ldE 6 127 rfl D.wantedN (by kernel_rfl) rfl hra rfl ?_
  refine D.eff 7 255 rfl D.wantedN (by kernel_rfl) (by kernel_rfl) (fun _ _ h => h) ?_
  refine Z.cl (proven_z s _ _ _ _ _ hS) rfl ?_
  clear hS
  rintro e w ⟨q, rfl, hS⟩
  refine ⟨_, rfl, ?_⟩
  refine ⟨HM.s (hS.sb), ?_⟩
  refine Sh.dp 8 511 ?_
  refine Sh.dp 9 1023 ?_
  refine D.slot 14 rfl (fun hb => ?_) (fun hb => ?_)
  · (try simp only [decide_eq_true_eq, decide_eq_false_iff_not, Bool.not_eq_true', Bool.not_eq_false', Int.not_lt, Int.not_le] at hb)
    refine D.skF 10 2047 rfl (by kernel_rfl) rfl rfl ?_
    refine D.skF 11 4095 rfl (by kernel_rfl) rfl rfl ?_
    refine D.skF 12 8191 rfl (by kernel_rfl) rfl rfl ?_
    refine D.skF 13 16383 rfl (by kernel_rfl) rfl rfl ?_
    refine D.skF 14 32767 rfl (by kernel_rfl) rfl rfl ?_
    refine D.skF 15 65535 rfl (by kernel_rfl) rfl rfl ?_
    refine D.skF 16 131071 rfl (by kernel_rfl) rfl rfl ?_
    refine D.skF 17 262143 rfl (by kernel_rfl) rfl rfl ?_
    refine D.skF 18 524287 rfl (by kernel_rfl) rfl rfl ?_
    refine Sh.dp 19 1048575 ?_
    refine Sh.dp 20 2097151 ?_
    refine D.done (by kernel_rfl) ?_
    repeat' (first|refine K ?_|(refine Sh.sa hS ?_;clear hS;intro w hS)|(refine K3 ?_;clear hS;intro g w hS hge)|((first|refine GS ?_ ?_|refine VB ?_ ?_)<;>intro hb<;>(try simp only [J1,J2,J3,J4,J5,J6] at hb)<;>(try (exfalso;first|omega|exact hb trivial))))
    refine Dnt Tryz.results110 ?_
    exact ⟨_, rfl, hS.sb⟩
  · (try simp only [decide_eq_true_eq, decide_eq_false_iff_not, Bool.not_eq_true', Bool.not_eq_false', Int.not_lt, Int.not_le] at hb)
    refine Sh.dp 11 3071 ?_
    refine Sh.dp 13 11263 ?_
    refine Sh.dl 10 12287 ?_
    refine Sh.dl 12 16383 ?_
    first | refine D.ixn 14 32767 rfl (D.wantedT rfl rfl) (by kernel_rfl) rfl rfl rfl (by omega) ?_ | refine D.ix 14 32767 rfl (D.wantedT rfl rfl) (by kernel_rfl) rfl rfl rfl (by omega) ?_ | refine D.ia 14 32767 rfl (D.wantedT rfl rfl) (by kernel_rfl) rfl rfl rfl (by omega) ?_
    refine Sh.dp 15 65535 ?_
    refine D.ldE 16 131071 rfl (D.wantedT rfl rfl) (by kernel_rfl) rfl hra rfl ?_
    refine D.eff 17 262143 rfl (D.wantedT rfl rfl) (by kernel_rfl) (by kernel_rfl) (fun _ _ h => h) ?_
    refine WE.guard ?_
    refine Z.cl (proven_z s _ _ _ _ _ hS) rfl ?_
    clear hS
    rintro e w ⟨q2, rfl, hS⟩
    refine ⟨_, rfl, ?_⟩
    refine ⟨HM.s (hS.sb), ?_⟩
    refine Sh.dp 18 524287 ?_
    refine Sh.dp 19 1048575 ?_
    refine Sh.dp 20 2097151 ?_
    refine D.done (by kernel_rfl) ?_
    repeat' (first|refine K ?_|(refine Sh.sa hS ?_;clear hS;intro w hS)|(refine K3 ?_;clear hS;intro g w hS hge)|((first|refine GS ?_ ?_|refine VB ?_ ?_)<;>intro hb<;>(try simp only [J1,J2,J3,J4,J5,J6] at hb)<;>(try (exfalso;first|omega|exact hb trivial))))
    refine Dnt Tryz.results110 ?_
    exact ⟨_, rfl, hS.sb⟩
theorem frozen_z (c : Cfg) (a : CAd) (s : Sta) (b : SAd) (k : Int) (r : World) (F : List Res) (w : World) (hS : Sep r [] F w) (hr : CfR r F c a) (ho : c.ok) :
    Calls Tryz.prog 104 #[c.val a, s.val b, .int .i64 k] w fun e w' => ∃ q, e = .returned (.bool q) ∧ Sep r [] F w' := by
  refine Z.enter Tryz.func104 Tryz.ntmps104 rfl rfl ?_
  repeat' (first|refine K ?_|(refine Sh.sa hS ?_;clear hS;intro w hS)|(refine K3 ?_;clear hS;intro g w hS hge)|((first|refine GS ?_ ?_|refine VB ?_ ?_)<;>intro hb<;>(try simp only [J1,J2,J3,J4,J5,J6] at hb)<;>(try (exfalso;first|omega|exact hb trivial))))
  rename Nat => g3
  refine D.startS (Lr := [.blk g3 34 (s.cl b), .blk g 30 (c.cl a)]) (hS.sb) 7 7 (by kernel_rfl) rfl ?_
  replace hS := hS.drew
  refine Sh.dp 0 1 ?_
  refine Sh.dp 3 9 ?_
  refine Sh.dl 1 11 ?_
  refine Sh.dl 2 15 ?_
  refine D.eff 4 31 rfl D.wantedN (by kernel_rfl) (by kernel_rfl) (fun _ _ h => h) ?_
  refine Z.cl (rregion_z c a k _ _ _ hS (hr.app [_, _]) ho) rfl ?_
  clear hS
  rintro e w ⟨rfl, hS⟩
  refine ⟨_, rfl, ?_⟩
  refine ⟨HM.s (hS.sb), ?_⟩
  refine D.eff 5 63 rfl D.wantedN (by kernel_rfl) (by kernel_rfl) (fun _ _ h => h) ?_
  refine Z.cl (has4_z _ _ _ _ _ hS) rfl ?_
  clear hS
  rintro e w ⟨q, rfl, hS⟩
  refine ⟨_, rfl, ?_⟩
  refine ⟨HM.s (hS.sb), ?_⟩
  refine Sh.dp 6 127 ?_
  refine D.done (by kernel_rfl) ?_
  repeat' (first|refine K ?_|(refine Sh.sa hS ?_;clear hS;intro w hS)|(refine K3 ?_;clear hS;intro g w hS hge)|((first|refine GS ?_ ?_|refine VB ?_ ?_)<;>intro hb<;>(try simp only [J1,J2,J3,J4,J5,J6] at hb)<;>(try (exfalso;first|omega|exact hb trivial))))
  refine Dnt Tryz.results104 ?_
  exact ⟨q, rfl, hS.sb⟩
theorem together_z (c : Cfg) (a : CAd) (i k : Int) (r : World) (F : List Res) (w : World) (hS : Sep r [] F w) (hr : CfR r F c a) (ho : c.ok) :
    Calls Tryz.prog 106 #[c.val a, .int .i64 i, .int .i64 k] w fun e w' => ∃ q, e = .returned (.bool q) ∧ Sep r [] F w' := by
  refine Z.enter Tryz.func106 Tryz.ntmps106 rfl rfl ?_
  repeat' (first|refine K ?_|(refine Sh.sa hS ?_;clear hS;intro w hS)|(refine K3 ?_;clear hS;intro g w hS hge)|((first|refine GS ?_ ?_|refine VB ?_ ?_)<;>intro hb<;>(try simp only [J1,J2,J3,J4,J5,J6] at hb)<;>(try (exfalso;first|omega|exact hb trivial))))
  · refine Z.eff (Z.cl (apart_z c a i k _ _ _ hS (hr.cons _) ho) rfl ?_) rfl
    clear hS
    rintro e w ⟨q, rfl, hS⟩
    refine ⟨_, rfl, ?_⟩
    repeat' (first|refine K ?_|(refine Sh.sa hS ?_;clear hS;intro w hS)|(refine K3 ?_;clear hS;intro g w hS hge)|((first|refine GS ?_ ?_|refine VB ?_ ?_)<;>intro hb<;>(try simp only [J1,J2,J3,J4,J5,J6] at hb)<;>(try (exfalso;first|omega|exact hb trivial))))
    refine Dnt Tryz.results106 ?_
    exact ⟨_, rfl, hS.sb⟩
  · refine Dnt Tryz.results106 ?_
    exact ⟨_, rfl, hS.sb⟩
  · refine Dnt Tryz.results106 ?_
    exact ⟨_, rfl, hS.sb⟩
def Sta.zero : Sta := ⟨0, 0, [], [], 0, 0, 0, 0⟩
def SAd.zero : SAd := ⟨none, 0, none, 0⟩
def noV (er : Int) : Value := .tuple #[Sta.zero.val SAd.zero, .int .i64 er]
def yesV (s : Sta) (b : SAd) : Value := .tuple #[s.val b, .int .i64 0]
theorem no_z (er : Int) (r : World) (F : List Res) (w : World) (hS : Sep r [] F w) :
    Calls Tryz.prog 72 #[.int .i64 er] w fun e w' => e = .returned (noV er) ∧ Sep r [] F w' := by
  refine Z.enter Tryz.func72 Tryz.ntmps72 rfl rfl ?_
  repeat' (first|refine K ?_|(refine Sh.sa hS ?_;clear hS;intro w hS)|(refine K3 ?_;clear hS;intro g w hS hge)|((first|refine GS ?_ ?_|refine VB ?_ ?_)<;>intro hb<;>(try simp only [J1,J2,J3,J4,J5,J6] at hb)<;>(try (exfalso;first|omega|exact hb trivial))))
  first | refine Z.done hS Tryz.results72 (Z.RV.cell rfl (by repeat (first | exact At.here | apply At.next)) rfl (Z.RV.tmp rfl Z.RV.nil)) ?_ | refine Z.doneN hS Tryz.results72 (Z.RV.cell rfl (by repeat (first | exact At.here | apply At.next)) rfl (Z.RV.tmp rfl Z.RV.nil)) ?_
  exact ⟨rfl, hS.sb⟩
theorem fit_z (c : Cfg) (a : CAd) (s : Sta) (b : SAd) (r : World) (F : List Res) (w : World) (hS : Sep r [] F w) (hr : CfR r F c a) (hs : StR r F s b) (ho : c.ok) (hl : s.tenants.length = c.tenants.length) :
    Calls Tryz.prog 107 #[c.val a, s.val b] w fun e w' => (e = .returned (noV 10) ∨ e = .returned (yesV s b)) ∧ Sep r [] F w' := by
  refine Z.enter Tryz.func107 Tryz.ntmps107 rfl rfl ?_
  repeat' (first|refine K ?_|(refine Sh.sa hS ?_;clear hS;intro w hS)|(refine K3 ?_;clear hS;intro g w hS hge)|((first|refine GS ?_ ?_|refine VB ?_ ?_)<;>intro hb<;>(try simp only [J1,J2,J3,J4,J5,J6] at hb)<;>(try (exfalso;first|omega|exact hb trivial))))
  refine Z.eff (Z.cl (over_z c a s b _ _ _ hS (hr.app [_, _, _]) (hs.app [_, _, _]) ho hl) rfl ?_) rfl
  clear hS
  rintro e w ⟨A, n, cap, rfl, hS⟩
  refine ⟨_, rfl, ?_⟩
  repeat' (first|refine K ?_|(refine Sh.sa hS ?_;clear hS;intro w hS)|(refine K3 ?_;clear hS;intro g w hS hge)|((first|refine GS ?_ ?_|refine VB ?_ ?_)<;>intro hb<;>(try simp only [J1,J2,J3,J4,J5,J6] at hb)<;>(try (exfalso;first|omega|exact hb trivial))))
  · first | refine Z.done hS Tryz.results107 (Z.RV.cell rfl (by repeat (first | exact At.here | apply At.next)) rfl (Z.RV.tmp rfl Z.RV.nil)) ?_ | refine Z.doneN hS Tryz.results107 (Z.RV.cell rfl (by repeat (first | exact At.here | apply At.next)) rfl (Z.RV.tmp rfl Z.RV.nil)) ?_
    exact ⟨.inl rfl, hS.sb⟩
  · first | refine Z.done hS Tryz.results107 (Z.RV.cell rfl (by repeat (first | exact At.here | apply At.next)) rfl (Z.RV.tmp rfl Z.RV.nil)) ?_ | refine Z.doneN hS Tryz.results107 (Z.RV.cell rfl (by repeat (first | exact At.here | apply At.next)) rfl (Z.RV.tmp rfl Z.RV.nil)) ?_
    exact ⟨.inr rfl, hS.sb⟩
end Go.Proofs.YtmgpionlfemhdaaGreat
