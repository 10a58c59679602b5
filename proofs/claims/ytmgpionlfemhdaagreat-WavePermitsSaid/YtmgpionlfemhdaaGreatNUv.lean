/-
  States of logs: Fold, Log, State.
-/
import Derived.Test.YtmgpionlfemhdaaGreatNUu
namespace Go.Proofs.YtmgpionlfemhdaaGreat
open Go.RowKit
set_option linter.unusedSimpArgs false
set_option linter.unusedVariables false
attribute [local irreducible] Res.blk Res.sl Res.all Res.ex Res.pure Res.star

/-- The lists of a state. -/
def SO (c : Cfg) (s : Sta) (b : SAd) : Res := .all [.sl 56 12 (.slice b.tA c.tenants.length b.tc) (s.tenants.map TS.cells), .sl 97 4 (.slice b.kA c.cells.length b.kc) (s.cells.map CS.cells)]
theorem StC.of_so {r : World} {F k : List Res} {c : Cfg} {s : Sta} {b : SAd} (h : At F k (SO c s b)) : StC r F s c b :=
  ⟨fun L _ hW => (Sep.all_open.1 (hW.focus (at_app L h))).slrows .here, fun L _ hW => (Sep.all_open.1 (hW.focus (at_app L h))).slrows (.next .here)⟩
def Cfg.none : Cfg := ⟨0, [], [], [], [], [], [], 0, 0, 0⟩
/-- Apply, with one form of what it returns. -/
theorem apply_u (c : Cfg) (a : CAd) (s : Sta) (b : SAd) (e : En) (r : World) (F : List Res) (w : World) (hS : Sep r [] F w) (hr : CfR r F c a) (hs0 : s.ok c) (hq : StC r F s c b) (ho : c.ok) :
    Calls Tryz.prog 59 #[c.val a, s.vc c b, e.val] w fun ee w' => ∃ (cz : Cfg) (s' : Sta) (b' : SAd) (er : Int) (X : Res), ee = .returned (.tuple #[s'.vc cz b', .int .i64 er]) ∧ (er = 0 → cz = c ∧ s'.ok c ∧ X = SO c s' b') ∧ Sep r [] (X :: F) w' := by
  refine (apply_z c a s b e r F w hS hr hs0 hq ho).mono ?_
  rintro ee w' (⟨er, he, h1, h2⟩ | ⟨s', b', h1, h2, h3⟩)
  · exact ⟨Cfg.none, Sta.zero, SAd.zero, er, .pure True, h1, fun h => absurd h he, Sep.pure_open.2 ⟨trivial, h2⟩⟩
  · exact ⟨c, s', b', 0, SO c s' b', h1, fun _ => ⟨rfl, h2, rfl⟩, Sep.all_open.2 h3⟩
theorem snew_c (c : Cfg) (a : CAd) (r : World) (F : List Res) (w : World) (hS : Sep r [] F w) (ho : c.ok) :
    Calls Tryz.prog 57 #[c.val a] w fun e w' => ∃ (s' : Sta) (b' : SAd), e = .returned (s'.vc c b') ∧ s'.ok c ∧ Sep r [] (SO c s' b' :: F) w' := by
  refine (snew_z c a r F w hS ho).mono ?_
  rintro e w' ⟨s', b', h1, h2, h3⟩
  rw [h2.vc] at h1
  rw [h2.tl, h2.kl] at h3
  exact ⟨s', b', h1, h2, Sep.all_open.2 h3⟩
set_option maxHeartbeats 4000000 in
theorem sfold_z (c : Cfg) (a : CAd) (le : List En) (eA : Option Addr) (ec : Nat) (r : World) (F : List Res) (w : World) (hS : Sep r [] F w) (hr : CfR r F c a) (ho : c.ok) (hle : Reads r F 9 (.slice eA le.length ec) (le.map En.cells)) (hll : le.length ≤ 100000) :
    Calls Tryz.prog 62 #[c.val a, .slice eA le.length ec] w fun ee w' => ∃ (s : Sta) (b : SAd) (n er : Int), ee = .returned (.tuple #[s.vc c b, .int .i64 n, .int .i64 er]) ∧ s.ok c ∧ Sep r [] (SO c s b :: F) w' := by
  refine Z.enter Tryz.func62 Tryz.ntmps62 rfl rfl ?_
  repeat' (first|refine K ?_|(refine Sh.sa hS ?_;clear hS;intro w hS)|(refine K3 ?_;clear hS;intro g w hS hge)|((first|refine GS ?_ ?_|refine VB ?_ ?_)<;>intro hb<;>(try simp only [J1,J2,J3,J4,J5,J6] at hb)<;>(try (exfalso;first|omega|exact hb trivial))))
  rename Nat => gr
  refine Z.eff (Z.cl (snew_c c a _ _ _ hS ho) rfl ?_) rfl
  clear hS
  rintro e w ⟨s, b, rfl, hs, hS⟩
  refine ⟨_, rfl, ?_⟩
  repeat' (first|refine K ?_|(refine Sh.sa hS ?_;clear hS;intro w hS)|(refine K3 ?_;clear hS;intro g w hS hge)|((first|refine GS ?_ ?_|refine VB ?_ ?_)<;>intro hb<;>(try simp only [J1,J2,J3,J4,J5,J6] at hb)<;>(try (exfalso;first|omega|exact hb trivial))))
  rename Nat => g7
  refine Z.lpS [5, 6, 8, 9, 10, 13, 14, 15, 16, 17, 18, 19, 20, 21, 22, 23, 24, 25, 26, 27, 28, 29, 30, 31, 32, 33, 34] (fun m w z => ∃ (i : Nat) (s : Sta) (b : SAd), z = [(8, .int .i64 i)] ∧ s.ok c ∧ i ≤ le.length ∧ m = le.length - i ∧ Sep r [] (.blk g7 34 (s.cc c b) :: SO c s b :: .blk gr 34 (Sta.zero.cl SAd.zero) :: .blk g 30 (c.cl a) :: F) w) _ [(8, .int .i64 (0 : Nat))] (by repeat (first | exact trivial | refine ⟨rfl, ?_⟩)) ⟨0, s, b, rfl, hs, by omega, rfl, hS.sb⟩ ?_
  clear hS hs
  rintro m f0 w _ ⟨i, s, b, rfl, hs, hi, rfl, hS⟩
  by_cases hlt : i < le.length
  · obtain ⟨gb, o, hAe, _, _⟩ := (hle [_, _, _, _] w hS).mat (by omega) (q := i) (by simpa using hlt)
    subst hAe
    have hra : ∀ W, Sep r [] (.blk g7 34 (s.cc c b) :: SO c s b :: .blk gr 34 (Sta.zero.cl SAd.zero) :: .blk g 30 (c.cl a) :: F) W → W.rangeAt gb (o + i * 9) (le[i]).cells := fun W hW => by
      have h3 := (hle [_, _, _, _] W hW).elem (q := i) (by omega) (by simpa using hlt)
      simpa using h3
    generalize le[i] = e at *
    repeat' (first|refine K ?_|(refine Sh.sa hS ?_;clear hS;intro w hS)|(refine K3 ?_;clear hS;intro g w hS hge)|((first|refine GS ?_ ?_|refine VB ?_ ?_)<;>intro hb<;>(try simp only [J1,J2,J3,J4,J5,J6] at hb)<;>(try (exfalso;first|omega|exact hb trivial))))
    refine Z.cut [9, 10, 19, 20, 21, 22, 23, 24, 25, 26, 27, 28] (fun w z => ∃ (g9 : Nat) (cz : Cfg) (s2 : Sta) (b2 : SAd) (er : Int) (X : Res), z = [(9, .pointer (some ⟨g9, 0, .none⟩)), (10, .int .i64 er)] ∧ (er = 0 → cz = c ∧ s2.ok c ∧ X = SO c s2 b2) ∧ Sep r [] (.blk g9 34 (s2.cc cz b2) :: X :: .blk g7 34 (s.cc c b) :: SO c s b :: .blk gr 34 (Sta.zero.cl SAd.zero) :: .blk g 30 (c.cl a) :: F) w) ?_ ?_
    · refine D.startS hS 11 13 (by kernel_rfl) rfl ?_
      replace hS := hS.drew
      refine Sh.dp 2 4 ?_
      refine Sh.dp 3 12 ?_
      first | refine D.ixn 4 28 rfl D.wantedN (by kernel_rfl) rfl rfl rfl (by omega) ?_ | refine D.ix 4 28 rfl D.wantedN (by kernel_rfl) rfl rfl rfl (by omega) ?_ | refine D.ia 4 28 rfl D.wantedN (by kernel_rfl) rfl rfl rfl (by omega) ?_
      refine Sh.dl 0 29 ?_
      refine Sh.dl 1 31 ?_
      refine D.ldR 5 63 rfl D.wantedN (by kernel_rfl) rfl hra rfl ?_
      refine D.each [6, 10] (by kernel_rfl) rfl ?_
      refine D.econs 6 127 rfl D.wantedN (by kernel_rfl) (fun _ _ h => h) ?_ ?_
      · refine Z.cl (apply_u c a s b e _ _ _ hS (by first | exact hr.app [_, _] | exact hr.app [_, _, _] | exact hr.app [_, _, _, _] | exact hr.app [_, _, _, _, _]) hs (StC.of_so (by repeat (first | exact At.here | apply At.next))) ho) rfl ?_
        clear hS
        rintro e w ⟨cz, s2, b2, er, X, rfl, hX, hS⟩
        refine ⟨_, rfl, ?_⟩
        refine ⟨HM.s (hS.sb), ?_⟩
        refine Sh.dp 7 255 ?_
        refine Sh.dp 8 511 ?_
        refine Sh.dp 9 1023 ?_
        refine D.eff 10 2047 rfl D.wantedN (by kernel_rfl) (by kernel_rfl) (fun _ _ h => h) ?_
        refine Z.al hS ?_
        clear hS; intro g w hS hge
        refine ⟨HM.s (hS.sb), ?_⟩
        refine D.eff 11 4095 rfl D.wantedN (by kernel_rfl) (by kernel_rfl) (fun _ _ h => h) ?_
        refine Z.st hS rfl (by repeat (first | exact At.here | apply At.next)) rfl rfl ?_
        clear hS; intro w hS
        refine ⟨HM.last (by kernel_rfl), ?_⟩
        refine Sh.dp 12 8191 ?_
        refine D.done (by kernel_rfl) ?_
        refine Sh.cut [(9, _), (10, _)] ?_
        exact ⟨_, cz, s2, b2, er, X, rfl, hX, hS.sb⟩
      refine D.econs 10 1087 rfl D.wantedN (by kernel_rfl) (fun _ _ h => h) ?_ ?_
      · refine Z.al hS ?_
        clear hS; intro g w hS hge
        refine ⟨HM.s (hS.sb), ?_⟩
        refine D.eff 6 1151 rfl D.wantedN (by kernel_rfl) (by kernel_rfl) (fun _ _ h => h) ?_
        refine Z.cl (apply_u c a s b e _ _ _ hS (by first | exact hr.app [_, _] | exact hr.app [_, _, _] | exact hr.app [_, _, _, _] | exact hr.app [_, _, _, _, _]) hs (StC.of_so (by repeat (first | exact At.here | apply At.next))) ho) rfl ?_
        clear hS
        rintro e w ⟨cz, s2, b2, er, X, rfl, hX, hS⟩
        refine ⟨_, rfl, ?_⟩
        refine ⟨HM.s (hS.sb), ?_⟩
        refine Sh.dp 7 1279 ?_
        refine Sh.dp 8 1535 ?_
        refine Sh.dp 9 2047 ?_
        refine D.eff 11 4095 rfl D.wantedN (by kernel_rfl) (by kernel_rfl) (fun _ _ h => h) ?_
        refine Z.st hS rfl (by repeat (first | exact At.here | apply At.next)) rfl rfl ?_
        clear hS; intro w hS
        refine ⟨HM.last (by kernel_rfl), ?_⟩
        refine Sh.dp 12 8191 ?_
        refine D.done (by kernel_rfl) ?_
        refine Sh.cut [(9, _), (10, _)] ?_
        exact ⟨_, cz, s2, b2, er, X, rfl, hX, hS.sb⟩
      exact D.enil
    clear hS hra
    rintro f0 w _ ⟨g9, cz, s2, b2, er, X, rfl, hX, hS⟩
    repeat' (first|refine K ?_|(refine Sh.sa hS ?_;clear hS;intro w hS)|(refine K3 ?_;clear hS;intro g w hS hge)|((first|refine GS ?_ ?_|refine VB ?_ ?_)<;>intro hb<;>(try simp only [J1,J2,J3,J4,J5,J6] at hb)<;>(try (exfalso;first|omega|exact hb trivial))))
    · first | refine Z.done hS Tryz.results62 (Z.RV.cell rfl (by repeat (first | exact At.here | apply At.next)) rfl (Z.RV.tmp rfl (Z.RV.tmp rfl Z.RV.nil))) ?_ | refine Z.doneN hS Tryz.results62 (Z.RV.cell rfl (by repeat (first | exact At.here | apply At.next)) rfl (Z.RV.tmp rfl (Z.RV.tmp rfl Z.RV.nil))) ?_
      exact ⟨s, b, _, _, rfl, hs, hS.sb⟩
    · obtain ⟨rfl, hs2, rfl⟩ := hX hb
      refine Sh.again (le.length - (i + 1)) [(8, .int .i64 (i + 1 : Nat))] ?_
      exact ⟨i + 1, s2, b2, rfl, hs2, by omega, rfl, hS.sb⟩
  · repeat' (first|refine K ?_|(refine Sh.sa hS ?_;clear hS;intro w hS)|(refine K3 ?_;clear hS;intro g w hS hge)|((first|refine GS ?_ ?_|refine VB ?_ ?_)<;>intro hb<;>(try simp only [J1,J2,J3,J4,J5,J6] at hb)<;>(try (exfalso;first|omega|exact hb trivial))))
    first | refine Z.done hS Tryz.results62 (Z.RV.cell rfl (by repeat (first | exact At.here | apply At.next)) rfl (Z.RV.tmp rfl (Z.RV.tmp rfl Z.RV.nil))) ?_ | refine Z.doneN hS Tryz.results62 (Z.RV.cell rfl (by repeat (first | exact At.here | apply At.next)) rfl (Z.RV.tmp rfl (Z.RV.tmp rfl Z.RV.nil))) ?_
    exact ⟨s, b, _, _, rfl, hs, hS.sb⟩
set_option maxHeartbeats 4000000 in
theorem log_z (A : Option Addr) (l : List Int) (cap : Nat) (c : Cfg) (a : CAd) (n : Int) (r : World) (F : List Res) (w : World) (hS : Sep r [] F w) (hrd : Reads r F 1 (.slice A l.length cap) (l.map ztC)) (hl : l.length ≤ 1000) (hr : CfR r F c a) (ho : c.ok) (hn : n ≤ 1000) :
    Calls Tryz.prog 63 #[.slice A l.length cap, c.val a, .int .i64 n] w fun ee w' => ∃ (out : List En) (oA : Option Addr) (oc : Nat), ee = .returned (.slice oA out.length oc) ∧ out.length ≤ 1000 ∧ Sep r [] (.sl 100 9 (.slice oA out.length oc) (out.map En.cells) :: F) w' := by
  refine Z.enter Tryz.func63 Tryz.ntmps63 rfl rfl ?_
  repeat' (first|refine K ?_|(refine Sh.sa hS ?_;clear hS;intro w hS)|(refine K3 ?_;clear hS;intro g w hS hge)|((first|refine GS ?_ ?_|refine VB ?_ ?_)<;>intro hb<;>(try simp only [J1,J2,J3,J4,J5,J6] at hb)<;>(try (exfalso;first|omega|exact hb trivial))))
  refine Z.eff (Z.cl (mnew_z A l.length cap _ _ _ hS) rfl ?_) rfl
  clear hS
  rintro e w ⟨gt, rfl, hS⟩
  refine ⟨_, rfl, ?_⟩
  repeat' (first|refine K ?_|(refine Sh.sa hS ?_;clear hS;intro w hS)|(refine K3 ?_;clear hS;intro g w hS hge)|((first|refine GS ?_ ?_|refine VB ?_ ?_)<;>intro hb<;>(try simp only [J1,J2,J3,J4,J5,J6] at hb)<;>(try (exfalso;first|omega|exact hb trivial))))
  refine Z.eff (Z.cl (snew_c c a _ _ _ hS ho) rfl ?_) rfl
  clear hS
  rintro e w ⟨s, b, rfl, hs, hS⟩
  refine ⟨_, rfl, ?_⟩
  repeat' (first|refine K ?_|(refine Sh.sa hS ?_;clear hS;intro w hS)|(refine K3 ?_;clear hS;intro g w hS hge)|((first|refine GS ?_ ?_|refine VB ?_ ?_)<;>intro hb<;>(try simp only [J1,J2,J3,J4,J5,J6] at hb)<;>(try (exfalso;first|omega|exact hb trivial))))
  rename Nat => g8
  replace hS := (Sep.TpM_le (B' := l.length + 40) (hS.fo (R := TpM gt A l.length cap 0 _)) (by omega))
  replace hS := Z.nilsl hS 100 9 none
  refine Z.lpS [9, 10, 11, 12, 17, 18, 19, 20, 21, 22, 23, 24, 25, 26, 27, 28, 29, 30, 31, 32, 33, 34, 35, 36, 37, 38, 39, 40, 41, 42] (fun m w z => ∃ (lo : Int) (s : Sta) (b : SAd) (out : List En) (oA : Option Addr) (oc : Nat), z = [(9, .slice oA out.length oc)] ∧ s.ok c ∧ 0 ≤ lo ∧ out.length ≤ 1000 ∧ m = (l.length - lo).toNat ∧ Sep r [] (TpM gt A l.length cap lo (l.length + 40) :: .blk g8 34 (s.cc c b) :: SO c s b :: .sl 100 9 (.slice oA out.length oc) (out.map En.cells) :: .blk g 30 (c.cl a) :: F) w) _ [(9, .slice none 0 0)] (by repeat (first | exact trivial | refine ⟨rfl, ?_⟩)) ⟨0, s, b, [], none, 0, rfl, hs, by omega, by simp, rfl, hS.sb⟩ ?_
  clear hS hs
  rintro m f0 w _ ⟨lo, s, b, out, oA, oc, rfl, hs, hlo, hol, rfl, hS⟩
  repeat' (first|refine K ?_|(refine Sh.sa hS ?_;clear hS;intro w hS)|(refine K3 ?_;clear hS;intro g w hS hge)|((first|refine GS ?_ ?_|refine VB ?_ ?_)<;>intro hb<;>(try simp only [J1,J2,J3,J4,J5,J6] at hb)<;>(try (exfalso;first|omega|exact hb trivial))))
  · refine Z.eff (Z.cl (mmore_z gt A l.length cap _ _ _ _ hS) rfl ?_) rfl
    clear hS
    rintro e w ⟨b1, rfl, hb1⟩
    refine ⟨_, rfl, ?_⟩
    rcases hb1 with ⟨rfl, hlt, hS⟩ | ⟨rfl, hS⟩
    · repeat' (first|refine K ?_|(refine Sh.sa hS ?_;clear hS;intro w hS)|(refine K3 ?_;clear hS;intro g w hS hge)|((first|refine GS ?_ ?_|refine VB ?_ ?_)<;>intro hb<;>(try simp only [J1,J2,J3,J4,J5,J6] at hb)<;>(try (exfalso;first|omega|exact hb trivial))))
      refine Z.eff (Z.cl (entry_z gt A l cap _ c a s b _ _ _ hS (by omega) (hrd.app [_, _, _, _]) hl (by omega) (hr.app [_, _, _, _]) hs (StC.of_so (by repeat (first | exact At.here | apply At.next))) ho) rfl ?_) rfl
      clear hS
      rintro e w ⟨e, rfl, hS⟩
      refine ⟨_, rfl, ?_⟩
      repeat' (first|refine K ?_|(refine Sh.sa hS ?_;clear hS;intro w hS)|(refine K3 ?_;clear hS;intro g w hS hge)|((first|refine GS ?_ ?_|refine VB ?_ ?_)<;>intro hb<;>(try simp only [J1,J2,J3,J4,J5,J6] at hb)<;>(try (exfalso;first|omega|exact hb trivial))))
      rename Nat => g10
      refine Z.eff (Z.cl (apply_u c a s b e _ _ _ hS (hr.app [_, _, _, _, _, _]) hs (StC.of_so (by repeat (first | exact At.here | apply At.next))) ho) rfl ?_) rfl
      clear hS
      rintro e w ⟨cz, s2, b2, er, X, rfl, hX, hS⟩
      refine ⟨_, rfl, ?_⟩
      repeat' (first|refine K ?_|(refine Sh.sa hS ?_;clear hS;intro w hS)|(refine K3 ?_;clear hS;intro g w hS hge)|((first|refine GS ?_ ?_|refine VB ?_ ?_)<;>intro hb<;>(try simp only [J1,J2,J3,J4,J5,J6] at hb)<;>(try (exfalso;first|omega|exact hb trivial))))
      · obtain ⟨rfl, hs2, rfl⟩ := hX hb
        refine Z.eff (Z.apm (l' := [e]) hS rfl rfl rfl (by repeat (first | exact At.here | apply At.next)) (hS.lit1 (by repeat (first | exact At.here | apply At.next)) rfl rfl) (by (try simp only [maxLen, List.length_take, List.length_drop, List.length_append, List.length_cons, List.length_nil, List.length_map]); omega) (by (try simp only [maxLen, List.length_take, List.length_drop, List.length_append, List.length_cons, List.length_nil, List.length_map]); omega) ?_) rfl
        clear hS; intro A' ca' w hS
        rw [← List.length_append] at hS ⊢
        repeat' (first|refine K ?_|(refine Sh.sa hS ?_;clear hS;intro w hS)|(refine K3 ?_;clear hS;intro g w hS hge)|((first|refine GS ?_ ?_|refine VB ?_ ?_)<;>intro hb<;>(try simp only [J1,J2,J3,J4,J5,J6] at hb)<;>(try (exfalso;first|omega|exact hb trivial))))
        refine Sh.again ((l.length - (lo + 1)).toNat) [(9, _)] ?_
        exact ⟨lo + 1, s2, b2, out ++ [e], A', ca', rfl, hs2, by omega, by simp; omega, rfl, hS.sb⟩
      · refine Sh.again ((l.length - (lo + 1)).toNat) [(9, _)] ?_
        exact ⟨lo + 1, s, b, out, oA, oc, rfl, hs, by omega, hol, rfl, hS.sb⟩
    · repeat' (first|refine K ?_|(refine Sh.sa hS ?_;clear hS;intro w hS)|(refine K3 ?_;clear hS;intro g w hS hge)|((first|refine GS ?_ ?_|refine VB ?_ ?_)<;>intro hb<;>(try simp only [J1,J2,J3,J4,J5,J6] at hb)<;>(try (exfalso;first|omega|exact hb trivial))))
      refine Dnt Tryz.results63 ?_
      exact ⟨out, oA, oc, rfl, hol, hS.sb⟩
  · refine Dnt Tryz.results63 ?_
    exact ⟨out, oA, oc, rfl, hol, hS.sb⟩
set_option maxHeartbeats 2000000 in
theorem mstate_z (A : Option Addr) (l : List Int) (cap : Nat) (c : Cfg) (a : CAd) (n : Int) (r : World) (F : List Res) (w : World) (hS : Sep r [] F w) (hrd : Reads r F 1 (.slice A l.length cap) (l.map ztC)) (hl : l.length ≤ 1000) (hr : CfR r F c a) (ho : c.ok) (hn : n ≤ 1000) :
    Calls Tryz.prog 28 #[.slice A l.length cap, c.val a, .int .i64 n] w fun ee w' => ∃ (s : Sta) (b : SAd), ee = .returned (s.vc c b) ∧ s.ok c ∧ Sep r [] (SO c s b :: F) w' := by
  refine Z.enter Tryz.func28 Tryz.ntmps28 rfl rfl ?_
  repeat' (first|refine K ?_|(refine Sh.sa hS ?_;clear hS;intro w hS)|(refine K3 ?_;clear hS;intro g w hS hge)|((first|refine GS ?_ ?_|refine VB ?_ ?_)<;>intro hb<;>(try simp only [J1,J2,J3,J4,J5,J6] at hb)<;>(try (exfalso;first|omega|exact hb trivial))))
  rename Nat => gr
  refine Z.cut [7, 8, 9, 10, 11, 12, 13, 14, 15, 16, 17, 18, 19] (fun w z => ∃ (g7 : Nat) (s : Sta) (b : SAd) (n er : Int), z = [(7, .pointer (some ⟨g7, 0, .none⟩)), (8, .int .i64 n), (9, .int .i64 er)] ∧ s.ok c ∧ Sep r [] (.blk g7 34 (s.cc c b) :: SO c s b :: .blk gr 34 (Sta.zero.cl SAd.zero) :: F) w) ?_ ?_
  · refine D.startS (Lr := [.blk g 30 (c.cl a)]) (hS.sb) 11 14 (by kernel_rfl) rfl ?_
    replace hS := hS.drew
    refine Sh.dp 1 2 ?_
    refine Sh.dp 3 10 ?_
    refine Sh.dl 0 11 ?_
    refine Sh.dl 2 15 ?_
    refine D.each [4, 10] (by kernel_rfl) rfl ?_
    refine D.econs 4 31 rfl D.wantedN (by kernel_rfl) (fun _ _ h => h) ?_ ?_
    · refine Z.cl (log_z A l cap c a n _ _ _ hS (by first | exact hrd.app [_, _] | exact hrd.app [_, _, _] | exact hrd.app [_, _, _, _] | exact hrd.app [_, _, _, _, _]) hl (by first | exact hr.app [_, _] | exact hr.app [_, _, _] | exact hr.app [_, _, _, _] | exact hr.app [_, _, _, _, _]) ho hn) rfl ?_
      clear hS
      rintro e w ⟨out, oA, oc, rfl, hol, hS⟩
      refine ⟨_, rfl, ?_⟩
      refine ⟨HM.s (hS.sb), ?_⟩
      refine D.each [5, 10] (by kernel_rfl) rfl ?_
      refine D.econs 5 63 rfl D.wantedN (by kernel_rfl) (fun _ _ h => h) ?_ ?_
      · refine Z.cl (sfold_z c a out _ _ _ _ _ hS (by first | exact hr.app [_, _] | exact hr.app [_, _, _] | exact hr.app [_, _, _, _] | exact hr.app [_, _, _, _, _]) ho (Reads.of_at (e := 100) (v := .slice oA out.length oc) (by repeat (first | exact At.here | apply At.next))) (by omega)) rfl ?_
        clear hS
        rintro e w ⟨s, b, n2, er, rfl, hs, hS⟩
        refine ⟨_, rfl, ?_⟩
        refine ⟨HM.s (hS.sb), ?_⟩
        refine Sh.dp 6 127 ?_
        refine Sh.dp 7 255 ?_
        refine Sh.dp 8 511 ?_
        refine Sh.dp 9 1023 ?_
        refine D.eff 10 2047 rfl D.wantedN (by kernel_rfl) (by kernel_rfl) (fun _ _ h => h) ?_
        refine Z.al hS ?_
        clear hS; intro g w hS hge
        refine ⟨HM.s (hS.sb), ?_⟩
        refine D.eff 11 4095 rfl D.wantedN (by kernel_rfl) (by kernel_rfl) (fun _ _ h => h) ?_
        refine Z.st hS rfl (by repeat (first | exact At.here | apply At.next)) rfl rfl ?_
        clear hS; intro w hS
        refine ⟨HM.last (by kernel_rfl), ?_⟩
        refine Sh.dp 12 8191 ?_
        refine Sh.dp 13 16383 ?_
        refine D.done (by kernel_rfl) ?_
        refine Sh.cut [(7, _), (8, _), (9, _)] ?_
        exact ⟨_, s, b, n2, er, rfl, hs, hS.sb⟩
      refine D.econs 10 1055 rfl D.wantedN (by kernel_rfl) (fun _ _ h => h) ?_ ?_
      · refine Z.al hS ?_
        clear hS; intro g w hS hge
        refine ⟨HM.s (hS.sb), ?_⟩
        refine D.eff 5 1087 rfl D.wantedN (by kernel_rfl) (by kernel_rfl) (fun _ _ h => h) ?_
        refine Z.cl (sfold_z c a out _ _ _ _ _ hS (by first | exact hr.app [_, _] | exact hr.app [_, _, _] | exact hr.app [_, _, _, _] | exact hr.app [_, _, _, _, _]) ho (Reads.of_at (e := 100) (v := .slice oA out.length oc) (by repeat (first | exact At.here | apply At.next))) (by omega)) rfl ?_
        clear hS
        rintro e w ⟨s, b, n2, er, rfl, hs, hS⟩
        refine ⟨_, rfl, ?_⟩
        refine ⟨HM.s (hS.sb), ?_⟩
        refine Sh.dp 6 1151 ?_
        refine Sh.dp 7 1279 ?_
        refine Sh.dp 8 1535 ?_
        refine Sh.dp 9 2047 ?_
        refine D.eff 11 4095 rfl D.wantedN (by kernel_rfl) (by kernel_rfl) (fun _ _ h => h) ?_
        refine Z.st hS rfl (by repeat (first | exact At.here | apply At.next)) rfl rfl ?_
        clear hS; intro w hS
        refine ⟨HM.last (by kernel_rfl), ?_⟩
        refine Sh.dp 12 8191 ?_
        refine Sh.dp 13 16383 ?_
        refine D.done (by kernel_rfl) ?_
        refine Sh.cut [(7, _), (8, _), (9, _)] ?_
        exact ⟨_, s, b, n2, er, rfl, hs, hS.sb⟩
      exact D.enil
    refine D.econs 10 1039 rfl D.wantedN (by kernel_rfl) (fun _ _ h => h) ?_ ?_
    · refine Z.al hS ?_
      clear hS; intro g w hS hge
      refine ⟨HM.s (hS.sb), ?_⟩
      refine D.eff 4 1055 rfl D.wantedN (by kernel_rfl) (by kernel_rfl) (fun _ _ h => h) ?_
      refine Z.cl (log_z A l cap c a n _ _ _ hS (by first | exact hrd.app [_, _] | exact hrd.app [_, _, _] | exact hrd.app [_, _, _, _] | exact hrd.app [_, _, _, _, _]) hl (by first | exact hr.app [_, _] | exact hr.app [_, _, _] | exact hr.app [_, _, _, _] | exact hr.app [_, _, _, _, _]) ho hn) rfl ?_
      clear hS
      rintro e w ⟨out, oA, oc, rfl, hol, hS⟩
      refine ⟨_, rfl, ?_⟩
      refine ⟨HM.s (hS.sb), ?_⟩
      refine D.eff 5 1087 rfl D.wantedN (by kernel_rfl) (by kernel_rfl) (fun _ _ h => h) ?_
      refine Z.cl (sfold_z c a out _ _ _ _ _ hS (by first | exact hr.app [_, _] | exact hr.app [_, _, _] | exact hr.app [_, _, _, _] | exact hr.app [_, _, _, _, _]) ho (Reads.of_at (e := 100) (v := .slice oA out.length oc) (by repeat (first | exact At.here | apply At.next))) (by omega)) rfl ?_
      clear hS
      rintro e w ⟨s, b, n2, er, rfl, hs, hS⟩
      refine ⟨_, rfl, ?_⟩
      refine ⟨HM.s (hS.sb), ?_⟩
      refine Sh.dp 6 1151 ?_
      refine Sh.dp 7 1279 ?_
      refine Sh.dp 8 1535 ?_
      refine Sh.dp 9 2047 ?_
      refine D.eff 11 4095 rfl D.wantedN (by kernel_rfl) (by kernel_rfl) (fun _ _ h => h) ?_
      refine Z.st hS rfl (by repeat (first | exact At.here | apply At.next)) rfl rfl ?_
      clear hS; intro w hS
      refine ⟨HM.last (by kernel_rfl), ?_⟩
      refine Sh.dp 12 8191 ?_
      refine Sh.dp 13 16383 ?_
      refine D.done (by kernel_rfl) ?_
      refine Sh.cut [(7, _), (8, _), (9, _)] ?_
      exact ⟨_, s, b, n2, er, rfl, hs, hS.sb⟩
    exact D.enil
  clear hS
  rintro f0 w _ ⟨g7, s, b, n2, er, rfl, hs, hS⟩
  repeat' (first|refine K ?_|(refine Sh.sa hS ?_;clear hS;intro w hS)|(refine K3 ?_;clear hS;intro g w hS hge)|((first|refine GS ?_ ?_|refine VB ?_ ?_)<;>intro hb<;>(try simp only [J1,J2,J3,J4,J5,J6] at hb)<;>(try (exfalso;first|omega|exact hb trivial))))
  refine Dnc Tryz.results28 ?_
  exact ⟨s, b, rfl, hs, hS.sb⟩
end Go.Proofs.YtmgpionlfemhdaaGreat
