/-
  What the log's entries make of a state: those that look at one tenant alone.
-/
import Derived.Test.YtmgpionlfemhdaaGreatNUh
namespace Go.Proofs.YtmgpionlfemhdaaGreat
open Go.RowKit
set_option linter.unusedSimpArgs false
set_option linter.unusedVariables false
attribute [local irreducible] Res.blk Res.sl Res.all Res.ex Res.pure Res.star


set_option maxHeartbeats 2000000 in
theorem abandon_z (c : Cfg) (s : Sta) (gt tc gk kc q : Nat) (kd tk ce ot ep fr un nn : Int) (r : World) (F : List Res) (w : World) (hS : Sep r [] (.sl 56 12 (.slice (some ⟨gt, 0, none⟩) c.tenants.length tc) (s.tenants.map TS.cells) :: .sl 97 4 (.slice (some ⟨gk, 0, none⟩) c.cells.length kc) (s.cells.map CS.cells) :: F) w) (hs : s.ok c) (hq : q < c.tenants.length) :
    Calls Tryz.prog 80 #[s.vc c (⟨some ⟨gt, 0, none⟩, tc, some ⟨gk, 0, none⟩, kc⟩ : SAd), (⟨kd, tk, (q : Nat), ce, ot, ep, fr, un, nn⟩ : En).val] w fun ee w' => (∃ er : Int, er ≠ 0 ∧ ee = .returned (noV er) ∧ Sep r [] F w') ∨ ∃ (s' : Sta) (b' : SAd), ee = .returned (yesC s' c b') ∧ s'.ok c ∧ Sep r [] (.sl 56 12 (.slice b'.tA c.tenants.length b'.tc) (s'.tenants.map TS.cells) :: .sl 97 4 (.slice b'.kA c.cells.length b'.kc) (s'.cells.map CS.cells) :: F) w' := by
  have hq2 : q < s.tenants.length := by rw [hs.tl]; exact hq
  obtain ⟨x, hx⟩ : ∃ x, s.tenants[q]'hq2 = x := ⟨_, rfl⟩
  have hxo : TOk c.cells.length x := by rw [← hx]; exact hs.t _ (List.getElem_mem hq2)
  refine Z.enter Tryz.func80 Tryz.ntmps80 rfl rfl ?_
  repeat' (first|refine K ?_|(refine Sh.sa hS ?_;clear hS;intro w hS)|(refine K3 ?_;clear hS;intro g w hS hge)|((first|refine GS ?_ ?_|refine VB ?_ ?_)<;>intro hb<;>(try simp only [J1,J2,J3,J4,J5,J6] at hb)<;>(try (exfalso;first|omega|exact hb trivial))))
  have hrt := row_at (fc := TS.cells) hS (e := 56) (sz := 12) (g := gt) (by repeat (first | exact At.here | apply At.next)) (by omega) hq2 hx
  repeat' (first|refine K ?_|(refine Sh.sa hS ?_;clear hS;intro w hS)|(refine K3 ?_;clear hS;intro g w hS hge)|((first|refine GS ?_ ?_|refine VB ?_ ?_)<;>intro hb<;>(try simp only [J1,J2,J3,J4,J5,J6] at hb)<;>(try (exfalso;first|omega|exact hb trivial))))
  · refine Z.eff (Z.cl (no_z 4 _ _ _ hS) rfl ?_) rfl
    clear hS
    rintro e w ⟨rfl, hS⟩
    refine ⟨_, rfl, ?_⟩
    repeat' (first|refine K ?_|(refine Sh.sa hS ?_;clear hS;intro w hS)|(refine K3 ?_;clear hS;intro g w hS hge)|((first|refine GS ?_ ?_|refine VB ?_ ?_)<;>intro hb<;>(try simp only [J1,J2,J3,J4,J5,J6] at hb)<;>(try (exfalso;first|omega|exact hb trivial))))
    first | refine Z.done hS Tryz.results80 (Z.RV.cell rfl (by repeat (first | exact At.here | apply At.next)) rfl (Z.RV.tmp rfl Z.RV.nil)) ?_ | refine Z.doneN hS Tryz.results80 (Z.RV.cell rfl (by repeat (first | exact At.here | apply At.next)) rfl (Z.RV.tmp rfl Z.RV.nil)) ?_
    exact .inl ⟨4, by decide, rfl, hS.sb⟩
  · refine Z.eff (Z.cl (no_z 4 _ _ _ hS) rfl ?_) rfl
    clear hS
    rintro e w ⟨rfl, hS⟩
    refine ⟨_, rfl, ?_⟩
    repeat' (first|refine K ?_|(refine Sh.sa hS ?_;clear hS;intro w hS)|(refine K3 ?_;clear hS;intro g w hS hge)|((first|refine GS ?_ ?_|refine VB ?_ ?_)<;>intro hb<;>(try simp only [J1,J2,J3,J4,J5,J6] at hb)<;>(try (exfalso;first|omega|exact hb trivial))))
    first | refine Z.done hS Tryz.results80 (Z.RV.cell rfl (by repeat (first | exact At.here | apply At.next)) rfl (Z.RV.tmp rfl Z.RV.nil)) ?_ | refine Z.doneN hS Tryz.results80 (Z.RV.cell rfl (by repeat (first | exact At.here | apply At.next)) rfl (Z.RV.tmp rfl Z.RV.nil)) ?_
    exact .inl ⟨4, by decide, rfl, hS.sb⟩
  · rw [set_self hq2 hx] at hS
    refine Z.eff (Z.stT (y0 := x) (j := 5) ({ x with target := -1 } : TS) hS rfl (by repeat (first | exact At.here | apply At.next)) hq2 rfl rfl rfl (by omega) rfl ?_) rfl
    clear hS; intro w hS
    repeat' (first|refine K ?_|(refine Sh.sa hS ?_;clear hS;intro w hS)|(refine K3 ?_;clear hS;intro g w hS hge)|((first|refine GS ?_ ?_|refine VB ?_ ?_)<;>intro hb<;>(try simp only [J1,J2,J3,J4,J5,J6] at hb)<;>(try (exfalso;first|omega|exact hb trivial))))
    first | refine Z.done hS Tryz.results80 (Z.RV.cell rfl (by repeat (first | exact At.here | apply At.next)) rfl (Z.RV.tmp rfl Z.RV.nil)) ?_ | refine Z.doneN hS Tryz.results80 (Z.RV.cell rfl (by repeat (first | exact At.here | apply At.next)) rfl (Z.RV.tmp rfl Z.RV.nil)) ?_
    exact .inr ⟨{ s with tenants := s.tenants.set q { x with target := -1 } }, (⟨some ⟨gt, 0, none⟩, tc, some ⟨gk, 0, none⟩, kc⟩ : SAd), rfl, hs.setT hxo.abandon q, hS.sb⟩
def Wi.val (x : Wi) : Value := .agg [Value.int .i64 x.cell, .int .i64 x.epoch, .int .i64 x.version, .int .i64 x.from_, .int .i64 x.until_].toArray
theorem cutw_z (x : Wi) (t : Int) (r : World) (F : List Res) (w : World) (hS : Sep r [] F w) :
    Calls Tryz.prog 109 #[x.val, .int .i64 t] w fun e w' => ∃ y : Wi, e = .returned y.val ∧ Sep r [] F w' := by
  refine Z.enter Tryz.func109 Tryz.ntmps109 rfl rfl ?_
  repeat' (first|refine K ?_|(refine Sh.sa hS ?_;clear hS;intro w hS)|(refine K3 ?_;clear hS;intro g w hS hge)|((first|refine GS ?_ ?_|refine VB ?_ ?_)<;>intro hb<;>(try simp only [J1,J2,J3,J4,J5,J6] at hb)<;>(try (exfalso;first|omega|exact hb trivial))))
  refine Z.sumW rfl ?_
  repeat' (first|refine K ?_|(refine Sh.sa hS ?_;clear hS;intro w hS)|(refine K3 ?_;clear hS;intro g w hS hge)|((first|refine GS ?_ ?_|refine VB ?_ ?_)<;>intro hb<;>(try simp only [J1,J2,J3,J4,J5,J6] at hb)<;>(try (exfalso;first|omega|exact hb trivial))))
  refine Dnc Tryz.results109 ?_
  exact ⟨⟨x.cell, x.epoch, x.version, min x.from_ (min x.until_ (IntKind.i64.wrap (t + 1))), min x.until_ (IntKind.i64.wrap (t + 1))⟩, rfl, hS.sb⟩
set_option maxHeartbeats 2000000 in
theorem cut_z (c : Cfg) (s : Sta) (gt tc gk kc q : Nat) (kd tk ce ot ep fr un nn : Int) (r : World) (F : List Res) (w : World) (hS : Sep r [] (.sl 56 12 (.slice (some ⟨gt, 0, none⟩) c.tenants.length tc) (s.tenants.map TS.cells) :: .sl 97 4 (.slice (some ⟨gk, 0, none⟩) c.cells.length kc) (s.cells.map CS.cells) :: F) w) (hs : s.ok c) (hq : q < c.tenants.length) :
    Calls Tryz.prog 76 #[s.vc c (⟨some ⟨gt, 0, none⟩, tc, some ⟨gk, 0, none⟩, kc⟩ : SAd), (⟨kd, tk, (q : Nat), ce, ot, ep, fr, un, nn⟩ : En).val] w fun ee w' => (∃ er : Int, er ≠ 0 ∧ ee = .returned (noV er) ∧ Sep r [] F w') ∨ ∃ (s' : Sta) (b' : SAd), ee = .returned (yesC s' c b') ∧ s'.ok c ∧ Sep r [] (.sl 56 12 (.slice b'.tA c.tenants.length b'.tc) (s'.tenants.map TS.cells) :: .sl 97 4 (.slice b'.kA c.cells.length b'.kc) (s'.cells.map CS.cells) :: F) w' := by
  have hq2 : q < s.tenants.length := by rw [hs.tl]; exact hq
  obtain ⟨x, hx⟩ : ∃ x, s.tenants[q]'hq2 = x := ⟨_, rfl⟩
  have hxo : TOk c.cells.length x := by rw [← hx]; exact hs.t _ (List.getElem_mem hq2)
  refine Z.enter Tryz.func76 Tryz.ntmps76 rfl rfl ?_
  repeat' (first|refine K ?_|(refine Sh.sa hS ?_;clear hS;intro w hS)|(refine K3 ?_;clear hS;intro g w hS hge)|((first|refine GS ?_ ?_|refine VB ?_ ?_)<;>intro hb<;>(try simp only [J1,J2,J3,J4,J5,J6] at hb)<;>(try (exfalso;first|omega|exact hb trivial))))
  have hrt := row_at (fc := TS.cells) hS (e := 56) (sz := 12) (g := gt) (by repeat (first | exact At.here | apply At.next)) (by omega) hq2 hx
  repeat' (first|refine K ?_|(refine Sh.sa hS ?_;clear hS;intro w hS)|(refine K3 ?_;clear hS;intro g w hS hge)|((first|refine GS ?_ ?_|refine VB ?_ ?_)<;>intro hb<;>(try simp only [J1,J2,J3,J4,J5,J6] at hb)<;>(try (exfalso;first|omega|exact hb trivial))))
  · refine Z.eff (Z.cl (no_z 4 _ _ _ hS) rfl ?_) rfl
    clear hS
    rintro e w ⟨rfl, hS⟩
    refine ⟨_, rfl, ?_⟩
    repeat' (first|refine K ?_|(refine Sh.sa hS ?_;clear hS;intro w hS)|(refine K3 ?_;clear hS;intro g w hS hge)|((first|refine GS ?_ ?_|refine VB ?_ ?_)<;>intro hb<;>(try simp only [J1,J2,J3,J4,J5,J6] at hb)<;>(try (exfalso;first|omega|exact hb trivial))))
    first | refine Z.done hS Tryz.results76 (Z.RV.cell rfl (by repeat (first | exact At.here | apply At.next)) rfl (Z.RV.tmp rfl Z.RV.nil)) ?_ | refine Z.doneN hS Tryz.results76 (Z.RV.cell rfl (by repeat (first | exact At.here | apply At.next)) rfl (Z.RV.tmp rfl Z.RV.nil)) ?_
    exact .inl ⟨4, by decide, rfl, hS.sb⟩
  refine D.startS hS 8 8 (by kernel_rfl) rfl ?_
  replace hS := hS.drew
  refine Sh.dp 0 1 ?_
  refine Sh.dp 2 5 ?_
  refine Sh.dp 3 13 ?_
  refine Sh.dp 4 29 ?_
  refine Sh.dl 1 31 ?_
  refine D.ldE 5 63 rfl D.wantedN (by kernel_rfl) rfl (fun W hW => row_at (fc := TS.cells) (e := 56) (sz := 12) (g := gt) hW (by repeat (first | exact At.here | apply At.next)) (by omega) hq2 hx) rfl ?_
  first | refine D.pr 6 127 rfl D.wantedN (by kernel_rfl) rfl ?_ | refine D.pl 6 127 rfl D.wantedN (by kernel_rfl) (R.nea rfl rfl rfl rfl) ?_
  refine Sh.dp 7 255 ?_
  refine D.done (by kernel_rfl) ?_
  repeat' (first|refine K ?_|(refine Sh.sa hS ?_;clear hS;intro w hS)|(refine K3 ?_;clear hS;intro g w hS hge)|((first|refine GS ?_ ?_|refine VB ?_ ?_)<;>intro hb<;>(try simp only [J1,J2,J3,J4,J5,J6] at hb)<;>(try (exfalso;first|omega|exact hb trivial))))
  · refine Z.eff (Z.cl (no_z 7 _ _ _ hS) rfl ?_) rfl
    clear hS
    rintro e w ⟨rfl, hS⟩
    refine ⟨_, rfl, ?_⟩
    repeat' (first|refine K ?_|(refine Sh.sa hS ?_;clear hS;intro w hS)|(refine K3 ?_;clear hS;intro g w hS hge)|((first|refine GS ?_ ?_|refine VB ?_ ?_)<;>intro hb<;>(try simp only [J1,J2,J3,J4,J5,J6] at hb)<;>(try (exfalso;first|omega|exact hb trivial))))
    first | refine Z.done hS Tryz.results76 (Z.RV.cell rfl (by repeat (first | exact At.here | apply At.next)) rfl (Z.RV.tmp rfl Z.RV.nil)) ?_ | refine Z.doneN hS Tryz.results76 (Z.RV.cell rfl (by repeat (first | exact At.here | apply At.next)) rfl (Z.RV.tmp rfl Z.RV.nil)) ?_
    exact .inl ⟨7, by decide, rfl, hS.sb⟩
  refine D.startS hS 10 11 (by kernel_rfl) rfl ?_
  replace hS := hS.drew
  refine Sh.dp 0 1 ?_
  refine Sh.dp 1 3 ?_
  refine Sh.dp 2 7 ?_
  refine Sh.dp 3 15 ?_
  refine Sh.dp 5 47 ?_
  refine D.ldE 4 63 rfl D.wantedN (by kernel_rfl) rfl (fun W hW => row_at (fc := TS.cells) (e := 56) (sz := 12) (g := gt) hW (by repeat (first | exact At.here | apply At.next)) (by omega) hq2 hx) rfl ?_
  refine Sh.dl 6 127 ?_
  refine D.eff 7 255 rfl D.wantedN (by kernel_rfl) (by kernel_rfl) (fun _ _ h => h) ?_
  refine Z.cl (cutw_z x.w _ _ _ _ hS) rfl ?_
  clear hS
  rintro e w ⟨y, rfl, hS⟩
  refine ⟨_, rfl, ?_⟩
  refine ⟨HM.s (hS.sb), ?_⟩
  refine Sh.dp 8 511 ?_
  refine Sh.dp 9 1023 ?_
  refine D.eff 10 2047 rfl D.wantedN (by kernel_rfl) (by kernel_rfl) (fun _ _ h => h) ?_
  rw [set_self hq2 hx] at hS
  refine Z.stTw (y0 := x) ({ x with epoch := x.epoch, w := y } : TS) hS rfl (by repeat (first | exact At.here | apply At.next)) hq2 rfl rfl rfl rfl rfl ?_
  clear hS; intro w hS
  refine ⟨HM.last (by kernel_rfl), ?_⟩
  refine D.done (by kernel_rfl) ?_
  repeat' (first|refine K ?_|(refine Sh.sa hS ?_;clear hS;intro w hS)|(refine K3 ?_;clear hS;intro g w hS hge)|((first|refine GS ?_ ?_|refine VB ?_ ?_)<;>intro hb<;>(try simp only [J1,J2,J3,J4,J5,J6] at hb)<;>(try (exfalso;first|omega|exact hb trivial))))
  first | refine Z.done hS Tryz.results76 (Z.RV.cell rfl (by repeat (first | exact At.here | apply At.next)) rfl (Z.RV.tmp rfl Z.RV.nil)) ?_ | refine Z.doneN hS Tryz.results76 (Z.RV.cell rfl (by repeat (first | exact At.here | apply At.next)) rfl (Z.RV.tmp rfl Z.RV.nil)) ?_
  exact .inr ⟨{ s with tenants := s.tenants.set q { x with epoch := x.epoch, w := y } }, (⟨some ⟨gt, 0, none⟩, tc, some ⟨gk, 0, none⟩, kc⟩ : SAd), rfl, hs.setT (hxo.window y x.epoch) q, hS.sb⟩
set_option maxHeartbeats 2000000 in
theorem ready_z (c : Cfg) (s : Sta) (gt tc gk kc q : Nat) (k : Nat) (kd tk ot ep fr un nn : Int) (r : World) (F : List Res) (w : World) (hS : Sep r [] (.sl 56 12 (.slice (some ⟨gt, 0, none⟩) c.tenants.length tc) (s.tenants.map TS.cells) :: .sl 97 4 (.slice (some ⟨gk, 0, none⟩) c.cells.length kc) (s.cells.map CS.cells) :: F) w) (hs : s.ok c) (hq : q < c.tenants.length) (hk : k < c.cells.length) :
    Calls Tryz.prog 78 #[s.vc c (⟨some ⟨gt, 0, none⟩, tc, some ⟨gk, 0, none⟩, kc⟩ : SAd), (⟨kd, tk, (q : Nat), (k : Nat), ot, ep, fr, un, nn⟩ : En).val] w fun ee w' => (∃ er : Int, er ≠ 0 ∧ ee = .returned (noV er) ∧ Sep r [] F w') ∨ ∃ (s' : Sta) (b' : SAd), ee = .returned (yesC s' c b') ∧ s'.ok c ∧ Sep r [] (.sl 56 12 (.slice b'.tA c.tenants.length b'.tc) (s'.tenants.map TS.cells) :: .sl 97 4 (.slice b'.kA c.cells.length b'.kc) (s'.cells.map CS.cells) :: F) w' := by
  have hq2 : q < s.tenants.length := by rw [hs.tl]; exact hq
  obtain ⟨x, hx⟩ : ∃ x, s.tenants[q]'hq2 = x := ⟨_, rfl⟩
  have hxo : TOk c.cells.length x := by rw [← hx]; exact hs.t _ (List.getElem_mem hq2)
  have hk2 : k < s.cells.length := by rw [hs.kl]; exact hk
  obtain ⟨y, hy⟩ : ∃ y, s.cells[k]'hk2 = y := ⟨_, rfl⟩
  refine Z.enter Tryz.func78 Tryz.ntmps78 rfl rfl ?_
  repeat' (first|refine K ?_|(refine Sh.sa hS ?_;clear hS;intro w hS)|(refine K3 ?_;clear hS;intro g w hS hge)|((first|refine GS ?_ ?_|refine VB ?_ ?_)<;>intro hb<;>(try simp only [J1,J2,J3,J4,J5,J6] at hb)<;>(try (exfalso;first|omega|exact hb trivial))))
  have hrt := row_at (fc := TS.cells) hS (e := 56) (sz := 12) (g := gt) (by repeat (first | exact At.here | apply At.next)) (by omega) hq2 hx
  repeat' (first|refine K ?_|(refine Sh.sa hS ?_;clear hS;intro w hS)|(refine K3 ?_;clear hS;intro g w hS hge)|((first|refine GS ?_ ?_|refine VB ?_ ?_)<;>intro hb<;>(try simp only [J1,J2,J3,J4,J5,J6] at hb)<;>(try (exfalso;first|omega|exact hb trivial))))
  · refine Z.eff (Z.cl (no_z 4 _ _ _ hS) rfl ?_) rfl
    clear hS
    rintro e w ⟨rfl, hS⟩
    refine ⟨_, rfl, ?_⟩
    repeat' (first|refine K ?_|(refine Sh.sa hS ?_;clear hS;intro w hS)|(refine K3 ?_;clear hS;intro g w hS hge)|((first|refine GS ?_ ?_|refine VB ?_ ?_)<;>intro hb<;>(try simp only [J1,J2,J3,J4,J5,J6] at hb)<;>(try (exfalso;first|omega|exact hb trivial))))
    first | refine Z.done hS Tryz.results78 (Z.RV.cell rfl (by repeat (first | exact At.here | apply At.next)) rfl (Z.RV.tmp rfl Z.RV.nil)) ?_ | refine Z.doneN hS Tryz.results78 (Z.RV.cell rfl (by repeat (first | exact At.here | apply At.next)) rfl (Z.RV.tmp rfl Z.RV.nil)) ?_
    exact .inl ⟨4, by decide, rfl, hS.sb⟩
  rename x.placed = true => hp
  refine D.startS hS 8 8 (by kernel_rfl) rfl ?_
  replace hS := hS.drew
  refine Sh.dp 0 1 ?_
  refine Sh.dp 2 5 ?_
  refine Sh.dp 3 13 ?_
  refine Sh.dp 4 29 ?_
  refine Sh.dl 1 31 ?_
  refine D.ldE 5 63 rfl D.wantedN (by kernel_rfl) rfl (fun W hW => row_at (fc := TS.cells) (e := 56) (sz := 12) (g := gt) hW (by repeat (first | exact At.here | apply At.next)) (by omega) hq2 hx) rfl ?_
  first | refine D.pr 6 127 rfl D.wantedN (by kernel_rfl) rfl ?_ | refine D.pl 6 127 rfl D.wantedN (by kernel_rfl) (R.nea rfl rfl rfl rfl) ?_
  refine Sh.dp 7 255 ?_
  refine D.done (by kernel_rfl) ?_
  repeat' (first|refine K ?_|(refine Sh.sa hS ?_;clear hS;intro w hS)|(refine K3 ?_;clear hS;intro g w hS hge)|((first|refine GS ?_ ?_|refine VB ?_ ?_)<;>intro hb<;>(try simp only [J1,J2,J3,J4,J5,J6] at hb)<;>(try (exfalso;first|omega|exact hb trivial))))
  · refine Z.eff (Z.cl (no_z 5 _ _ _ hS) rfl ?_) rfl
    clear hS
    rintro e w ⟨rfl, hS⟩
    refine ⟨_, rfl, ?_⟩
    repeat' (first|refine K ?_|(refine Sh.sa hS ?_;clear hS;intro w hS)|(refine K3 ?_;clear hS;intro g w hS hge)|((first|refine GS ?_ ?_|refine VB ?_ ?_)<;>intro hb<;>(try simp only [J1,J2,J3,J4,J5,J6] at hb)<;>(try (exfalso;first|omega|exact hb trivial))))
    first | refine Z.done hS Tryz.results78 (Z.RV.cell rfl (by repeat (first | exact At.here | apply At.next)) rfl (Z.RV.tmp rfl Z.RV.nil)) ?_ | refine Z.doneN hS Tryz.results78 (Z.RV.cell rfl (by repeat (first | exact At.here | apply At.next)) rfl (Z.RV.tmp rfl Z.RV.nil)) ?_
    exact .inl ⟨5, by decide, rfl, hS.sb⟩
  rename (k : Int) = x.next => hkn
  have hrk := row_at (fc := CS.cells) hS (e := 97) (sz := 4) (g := gk) (by repeat (first | exact At.here | apply At.next)) (by omega) hk2 hy
  repeat' (first|refine K ?_|(refine Sh.sa hS ?_;clear hS;intro w hS)|(refine K3 ?_;clear hS;intro g w hS hge)|((first|refine GS ?_ ?_|refine VB ?_ ?_)<;>intro hb<;>(try simp only [J1,J2,J3,J4,J5,J6] at hb)<;>(try (exfalso;first|omega|exact hb trivial))))
  · refine Z.eff (Z.cl (no_z 6 _ _ _ hS) rfl ?_) rfl
    clear hS
    rintro e w ⟨rfl, hS⟩
    refine ⟨_, rfl, ?_⟩
    repeat' (first|refine K ?_|(refine Sh.sa hS ?_;clear hS;intro w hS)|(refine K3 ?_;clear hS;intro g w hS hge)|((first|refine GS ?_ ?_|refine VB ?_ ?_)<;>intro hb<;>(try simp only [J1,J2,J3,J4,J5,J6] at hb)<;>(try (exfalso;first|omega|exact hb trivial))))
    first | refine Z.done hS Tryz.results78 (Z.RV.cell rfl (by repeat (first | exact At.here | apply At.next)) rfl (Z.RV.tmp rfl Z.RV.nil)) ?_ | refine Z.doneN hS Tryz.results78 (Z.RV.cell rfl (by repeat (first | exact At.here | apply At.next)) rfl (Z.RV.tmp rfl Z.RV.nil)) ?_
    exact .inl ⟨6, by decide, rfl, hS.sb⟩
  rw [set_self hq2 hx] at hS
  refine Z.eff (Z.stT (y0 := x) (j := 3) ({ x with standby := (k : Int) } : TS) hS rfl (by repeat (first | exact At.here | apply At.next)) hq2 rfl rfl rfl (by omega) rfl ?_) rfl
  clear hS; intro w hS
  repeat' (first|refine K ?_|(refine Sh.sa hS ?_;clear hS;intro w hS)|(refine K3 ?_;clear hS;intro g w hS hge)|((first|refine GS ?_ ?_|refine VB ?_ ?_)<;>intro hb<;>(try simp only [J1,J2,J3,J4,J5,J6] at hb)<;>(try (exfalso;first|omega|exact hb trivial))))
  refine Z.eff (Z.stT (y0 := { x with standby := (k : Int) }) (j := 4) ({ x with standby := (k : Int), next := -1 } : TS) hS rfl (by repeat (first | exact At.here | apply At.next)) hq2 rfl rfl rfl (by omega) rfl ?_) rfl
  clear hS; intro w hS
  repeat' (first|refine K ?_|(refine Sh.sa hS ?_;clear hS;intro w hS)|(refine K3 ?_;clear hS;intro g w hS hge)|((first|refine GS ?_ ?_|refine VB ?_ ?_)<;>intro hb<;>(try simp only [J1,J2,J3,J4,J5,J6] at hb)<;>(try (exfalso;first|omega|exact hb trivial))))
  first | refine Z.done hS Tryz.results78 (Z.RV.cell rfl (by repeat (first | exact At.here | apply At.next)) rfl (Z.RV.tmp rfl Z.RV.nil)) ?_ | refine Z.doneN hS Tryz.results78 (Z.RV.cell rfl (by repeat (first | exact At.here | apply At.next)) rfl (Z.RV.tmp rfl Z.RV.nil)) ?_
  exact .inr ⟨{ s with tenants := s.tenants.set q { x with standby := (k : Int), next := -1 } }, (⟨some ⟨gt, 0, none⟩, tc, some ⟨gk, 0, none⟩, kc⟩ : SAd), rfl, hs.setT (by have h := hxo.ready hp (by omega); rw [← hkn] at h; exact h) q, hS.sb⟩
end Go.Proofs.YtmgpionlfemhdaaGreat
