/-
  What the log's entries make of a state: places, grants.
-/
import Derived.Test.YtmgpionlfemhdaaGreatNUk
namespace Go.Proofs.YtmgpionlfemhdaaGreat
open Go.RowKit
set_option linter.unusedSimpArgs false
set_option linter.unusedVariables false
attribute [local irreducible] Res.blk Res.sl Res.all Res.ex Res.pure Res.star


set_option maxHeartbeats 4000000 in
theorem place_z (c : Cfg) (s : Sta) (gt tc gk kc q : Nat) (k o : Nat) (kd tk ep fr un nn : Int) (r : World) (F : List Res) (w : World) (hS : Sep r [] (.sl 56 12 (.slice (some ⟨gt, 0, none⟩) c.tenants.length tc) (s.tenants.map TS.cells) :: .sl 97 4 (.slice (some ⟨gk, 0, none⟩) c.cells.length kc) (s.cells.map CS.cells) :: F) w) (hs : s.ok c) (hq : q < c.tenants.length) (a : CAd) (hr : CfR r F c a) (ho : c.ok) (hk : k < c.cells.length) (hok : o < c.cells.length) (hne : (o : Int) ≠ k) :
    Calls Tryz.prog 74 #[c.val a, s.vc c (⟨some ⟨gt, 0, none⟩, tc, some ⟨gk, 0, none⟩, kc⟩ : SAd), ((⟨kd, tk, (q : Nat), (k : Nat), (o : Nat), ep, fr, un, nn⟩ : En)).val] w fun ee w' => (∃ er : Int, er ≠ 0 ∧ ee = .returned (noV er) ∧ Sep r [] F w') ∨ ∃ (s' : Sta) (b' : SAd), ee = .returned (yesC s' c b') ∧ s'.ok c ∧ Sep r [] (.sl 56 12 (.slice b'.tA c.tenants.length b'.tc) (s'.tenants.map TS.cells) :: .sl 97 4 (.slice b'.kA c.cells.length b'.kc) (s'.cells.map CS.cells) :: F) w' := by
  have hq2 : q < s.tenants.length := by rw [hs.tl]; exact hq
  obtain ⟨x, hx⟩ : ∃ x, s.tenants[q]'hq2 = x := ⟨_, rfl⟩
  have hxo : TOk c.cells.length x := by rw [← hx]; exact hs.t _ (List.getElem_mem hq2)
  have hk2 : k < s.cells.length := by rw [hs.kl]; exact hk
  obtain ⟨y, hy⟩ : ∃ y, s.cells[k]'hk2 = y := ⟨_, rfl⟩
  have ho2 : o < s.cells.length := by rw [hs.kl]; exact hok
  obtain ⟨z, hz⟩ : ∃ z, s.cells[o]'ho2 = z := ⟨_, rfl⟩
  refine Z.enter Tryz.func74 Tryz.ntmps74 rfl rfl ?_
  repeat' (first|refine K ?_|(refine Sh.sa hS ?_;clear hS;intro w hS)|(refine K3 ?_;clear hS;intro g w hS hge)|((first|refine GS ?_ ?_|refine VB ?_ ?_)<;>intro hb<;>(try simp only [J1,J2,J3,J4,J5,J6] at hb)<;>(try (exfalso;first|omega|exact hb trivial))))
  rename_i gc _ _ gs _ _ ge _ _
  have hrt := row_at (fc := TS.cells) hS (e := 56) (sz := 12) (g := gt) (by repeat (first | exact At.here | apply At.next)) (by omega) hq2 hx
  have hrk := row_at (fc := CS.cells) hS (e := 97) (sz := 4) (g := gk) (by repeat (first | exact At.here | apply At.next)) (by omega) hk2 hy
  have hro := row_at (fc := CS.cells) hS (e := 97) (sz := 4) (g := gk) (by repeat (first | exact At.here | apply At.next)) (by omega) ho2 hz
  repeat' (first|refine K ?_|(refine Sh.sa hS ?_;clear hS;intro w hS)|(refine K3 ?_;clear hS;intro g w hS hge)|((first|refine GS ?_ ?_|refine VB ?_ ?_)<;>intro hb<;>(try simp only [J1,J2,J3,J4,J5,J6] at hb)<;>(try (exfalso;first|omega|exact hb trivial)))|(refine Z.eff (Z.cl (no_z _ _ _ _ hS) rfl ?_) rfl;clear hS;rintro e w ⟨rfl, hS⟩;refine ⟨_, rfl, ?_⟩))
  · first | refine Z.done hS Tryz.results74 (Z.RV.cell rfl (by repeat (first | exact At.here | apply At.next)) rfl (Z.RV.tmp rfl Z.RV.nil)) ?_ | refine Z.doneN hS Tryz.results74 (Z.RV.cell rfl (by repeat (first | exact At.here | apply At.next)) rfl (Z.RV.tmp rfl Z.RV.nil)) ?_
    refine .inl ⟨_, ?_, rfl, hS.sb⟩
    decide
  · first | refine Z.done hS Tryz.results74 (Z.RV.cell rfl (by repeat (first | exact At.here | apply At.next)) rfl (Z.RV.tmp rfl Z.RV.nil)) ?_ | refine Z.doneN hS Tryz.results74 (Z.RV.cell rfl (by repeat (first | exact At.here | apply At.next)) rfl (Z.RV.tmp rfl Z.RV.nil)) ?_
    refine .inl ⟨_, ?_, rfl, hS.sb⟩
    decide
  · first | refine Z.done hS Tryz.results74 (Z.RV.cell rfl (by repeat (first | exact At.here | apply At.next)) rfl (Z.RV.tmp rfl Z.RV.nil)) ?_ | refine Z.doneN hS Tryz.results74 (Z.RV.cell rfl (by repeat (first | exact At.here | apply At.next)) rfl (Z.RV.tmp rfl Z.RV.nil)) ?_
    refine .inl ⟨_, ?_, rfl, hS.sb⟩
    decide
  rename x.placed = false => hp
  refine Z.eff (Z.cl (frozen_c c a s _ _ _ _ _ hS (hr.app [_, _, _, _, _, _]) ho hs) rfl ?_) rfl
  clear hS
  rintro e w ⟨b1, rfl, hS⟩
  refine ⟨_, rfl, ?_⟩
  cases b1
  case true =>
    repeat' (first|refine K ?_|(refine Sh.sa hS ?_;clear hS;intro w hS)|(refine K3 ?_;clear hS;intro g w hS hge)|((first|refine GS ?_ ?_|refine VB ?_ ?_)<;>intro hb<;>(try simp only [J1,J2,J3,J4,J5,J6] at hb)<;>(try (exfalso;first|omega|exact hb trivial)))|(refine Z.eff (Z.cl (no_z _ _ _ _ hS) rfl ?_) rfl;clear hS;rintro e w ⟨rfl, hS⟩;refine ⟨_, rfl, ?_⟩))
    first | refine Z.done hS Tryz.results74 (Z.RV.cell rfl (by repeat (first | exact At.here | apply At.next)) rfl (Z.RV.tmp rfl Z.RV.nil)) ?_ | refine Z.doneN hS Tryz.results74 (Z.RV.cell rfl (by repeat (first | exact At.here | apply At.next)) rfl (Z.RV.tmp rfl Z.RV.nil)) ?_
    refine .inl ⟨_, ?_, rfl, hS.sb⟩
    decide
  repeat' (first|refine K ?_|(refine Sh.sa hS ?_;clear hS;intro w hS)|(refine K3 ?_;clear hS;intro g w hS hge)|((first|refine GS ?_ ?_|refine VB ?_ ?_)<;>intro hb<;>(try simp only [J1,J2,J3,J4,J5,J6] at hb)<;>(try (exfalso;first|omega|exact hb trivial))))
  refine Z.eff (Z.cl (frozen_c c a s _ _ _ _ _ hS (hr.app [_, _, _, _, _, _]) ho hs) rfl ?_) rfl
  clear hS
  rintro e w ⟨b1, rfl, hS⟩
  refine ⟨_, rfl, ?_⟩
  cases b1
  case true =>
    repeat' (first|refine K ?_|(refine Sh.sa hS ?_;clear hS;intro w hS)|(refine K3 ?_;clear hS;intro g w hS hge)|((first|refine GS ?_ ?_|refine VB ?_ ?_)<;>intro hb<;>(try simp only [J1,J2,J3,J4,J5,J6] at hb)<;>(try (exfalso;first|omega|exact hb trivial)))|(refine Z.eff (Z.cl (no_z _ _ _ _ hS) rfl ?_) rfl;clear hS;rintro e w ⟨rfl, hS⟩;refine ⟨_, rfl, ?_⟩))
    first | refine Z.done hS Tryz.results74 (Z.RV.cell rfl (by repeat (first | exact At.here | apply At.next)) rfl (Z.RV.tmp rfl Z.RV.nil)) ?_ | refine Z.doneN hS Tryz.results74 (Z.RV.cell rfl (by repeat (first | exact At.here | apply At.next)) rfl (Z.RV.tmp rfl Z.RV.nil)) ?_
    refine .inl ⟨_, ?_, rfl, hS.sb⟩
    decide
  repeat' (first|refine K ?_|(refine Sh.sa hS ?_;clear hS;intro w hS)|(refine K3 ?_;clear hS;intro g w hS hge)|((first|refine GS ?_ ?_|refine VB ?_ ?_)<;>intro hb<;>(try simp only [J1,J2,J3,J4,J5,J6] at hb)<;>(try (exfalso;first|omega|exact hb trivial))))
  refine Z.eff (Z.cl (may_z c a _ _ _ _ _ hS (hr.app [_, _, _, _, _, _]) ho) rfl ?_) rfl
  clear hS
  rintro e w ⟨b1, rfl, hS⟩
  refine ⟨_, rfl, ?_⟩
  cases b1
  case false =>
    repeat' (first|refine K ?_|(refine Sh.sa hS ?_;clear hS;intro w hS)|(refine K3 ?_;clear hS;intro g w hS hge)|((first|refine GS ?_ ?_|refine VB ?_ ?_)<;>intro hb<;>(try simp only [J1,J2,J3,J4,J5,J6] at hb)<;>(try (exfalso;first|omega|exact hb trivial)))|(refine Z.eff (Z.cl (no_z _ _ _ _ hS) rfl ?_) rfl;clear hS;rintro e w ⟨rfl, hS⟩;refine ⟨_, rfl, ?_⟩))
    first | refine Z.done hS Tryz.results74 (Z.RV.cell rfl (by repeat (first | exact At.here | apply At.next)) rfl (Z.RV.tmp rfl Z.RV.nil)) ?_ | refine Z.doneN hS Tryz.results74 (Z.RV.cell rfl (by repeat (first | exact At.here | apply At.next)) rfl (Z.RV.tmp rfl Z.RV.nil)) ?_
    refine .inl ⟨_, ?_, rfl, hS.sb⟩
    decide
  repeat' (first|refine K ?_|(refine Sh.sa hS ?_;clear hS;intro w hS)|(refine K3 ?_;clear hS;intro g w hS hge)|((first|refine GS ?_ ?_|refine VB ?_ ?_)<;>intro hb<;>(try simp only [J1,J2,J3,J4,J5,J6] at hb)<;>(try (exfalso;first|omega|exact hb trivial))))
  refine Z.eff (Z.cl (may_z c a _ _ _ _ _ hS (hr.app [_, _, _, _, _, _]) ho) rfl ?_) rfl
  clear hS
  rintro e w ⟨b1, rfl, hS⟩
  refine ⟨_, rfl, ?_⟩
  cases b1
  case false =>
    repeat' (first|refine K ?_|(refine Sh.sa hS ?_;clear hS;intro w hS)|(refine K3 ?_;clear hS;intro g w hS hge)|((first|refine GS ?_ ?_|refine VB ?_ ?_)<;>intro hb<;>(try simp only [J1,J2,J3,J4,J5,J6] at hb)<;>(try (exfalso;first|omega|exact hb trivial)))|(refine Z.eff (Z.cl (no_z _ _ _ _ hS) rfl ?_) rfl;clear hS;rintro e w ⟨rfl, hS⟩;refine ⟨_, rfl, ?_⟩))
    first | refine Z.done hS Tryz.results74 (Z.RV.cell rfl (by repeat (first | exact At.here | apply At.next)) rfl (Z.RV.tmp rfl Z.RV.nil)) ?_ | refine Z.doneN hS Tryz.results74 (Z.RV.cell rfl (by repeat (first | exact At.here | apply At.next)) rfl (Z.RV.tmp rfl Z.RV.nil)) ?_
    refine .inl ⟨_, ?_, rfl, hS.sb⟩
    decide
  repeat' (first|refine K ?_|(refine Sh.sa hS ?_;clear hS;intro w hS)|(refine K3 ?_;clear hS;intro g w hS hge)|((first|refine GS ?_ ?_|refine VB ?_ ?_)<;>intro hb<;>(try simp only [J1,J2,J3,J4,J5,J6] at hb)<;>(try (exfalso;first|omega|exact hb trivial))))
  refine Z.eff (Z.cl (together_z c a _ _ _ _ _ hS (hr.app [_, _, _, _, _, _]) ho) rfl ?_) rfl
  clear hS
  rintro e w ⟨b1, rfl, hS⟩
  refine ⟨_, rfl, ?_⟩
  cases b1
  case true =>
    repeat' (first|refine K ?_|(refine Sh.sa hS ?_;clear hS;intro w hS)|(refine K3 ?_;clear hS;intro g w hS hge)|((first|refine GS ?_ ?_|refine VB ?_ ?_)<;>intro hb<;>(try simp only [J1,J2,J3,J4,J5,J6] at hb)<;>(try (exfalso;first|omega|exact hb trivial)))|(refine Z.eff (Z.cl (no_z _ _ _ _ hS) rfl ?_) rfl;clear hS;rintro e w ⟨rfl, hS⟩;refine ⟨_, rfl, ?_⟩))
    first | refine Z.done hS Tryz.results74 (Z.RV.cell rfl (by repeat (first | exact At.here | apply At.next)) rfl (Z.RV.tmp rfl Z.RV.nil)) ?_ | refine Z.doneN hS Tryz.results74 (Z.RV.cell rfl (by repeat (first | exact At.here | apply At.next)) rfl (Z.RV.tmp rfl Z.RV.nil)) ?_
    refine .inl ⟨_, ?_, rfl, hS.sb⟩
    decide
  repeat' (first|refine K ?_|(refine Sh.sa hS ?_;clear hS;intro w hS)|(refine K3 ?_;clear hS;intro g w hS hge)|((first|refine GS ?_ ?_|refine VB ?_ ?_)<;>intro hb<;>(try simp only [J1,J2,J3,J4,J5,J6] at hb)<;>(try (exfalso;first|omega|exact hb trivial))))
  refine D.startS (Lr := [.blk ge 100 ((⟨kd, tk, (q : Nat), (k : Nat), (o : Nat), ep, fr, un, nn⟩ : En)).cells]) (hS.sb) 15 16 (by kernel_rfl) rfl ?_
  replace hS := hS.drew
  refine Sh.dp 0 1 ?_
  refine Sh.dp 1 3 ?_
  refine Sh.dp 2 7 ?_
  refine Sh.dp 3 15 ?_
  refine Sh.dp 5 47 ?_
  refine Sh.dp 7 175 ?_
  refine Sh.dp 8 431 ?_
  refine Sh.dl 4 447 ?_
  refine Sh.dl 6 511 ?_
  refine D.eff 9 1023 rfl D.wantedN (by kernel_rfl) (by kernel_rfl) (fun _ _ h => h) ?_
  rw [set_self hq2 hx] at hS
  refine Z.stT (y0 := x) (j := 0) ({ x with placed := true } : TS) hS rfl (by repeat (first | exact At.here | apply At.next)) hq2 rfl rfl rfl (by omega) rfl ?_
  clear hS; intro w hS
  refine ⟨HM.s (hS.sb), ?_⟩
  refine Sh.dp 10 2047 ?_
  refine Sh.dp 11 4095 ?_
  refine D.eff 12 8191 rfl D.wantedN (by kernel_rfl) (by kernel_rfl) (fun _ _ h => h) ?_
  refine Z.stT (y0 := { x with placed := true }) (j := 2) ({ x with placed := true, home := (k : Int) } : TS) hS rfl (by repeat (first | exact At.here | apply At.next)) hq2 rfl rfl rfl (by omega) rfl ?_
  clear hS; intro w hS
  refine ⟨HM.s (hS.sb), ?_⟩
  refine Sh.dp 13 16383 ?_
  refine Sh.dp 14 32767 ?_
  refine D.eff 15 65535 rfl D.wantedN (by kernel_rfl) (by kernel_rfl) (fun _ _ h => h) ?_
  refine Z.stT (y0 := { x with placed := true, home := (k : Int) }) (j := 3) ({ x with placed := true, home := (k : Int), standby := (o : Int) } : TS) hS rfl (by repeat (first | exact At.here | apply At.next)) hq2 rfl rfl rfl (by omega) rfl ?_
  clear hS; intro w hS
  refine ⟨HM.last (by kernel_rfl), ?_⟩
  refine D.done (by kernel_rfl) ?_
  have hs' : (({ s with tenants := s.tenants.set q { x with placed := true, home := (k : Int), standby := (o : Int) } } : Sta)).ok c := hs.setT (hxo.place hp (k := (k : Int)) (o := (o : Int)) ⟨by omega, by omega⟩ ⟨by omega, by omega⟩ hne) q
  repeat' (first|refine K ?_|(refine Sh.sa hS ?_;clear hS;intro w hS)|(refine K3 ?_;clear hS;intro g w hS hge)|((first|refine GS ?_ ?_|refine VB ?_ ?_)<;>intro hb<;>(try simp only [J1,J2,J3,J4,J5,J6] at hb)<;>(try (exfalso;first|omega|exact hb trivial))))
  refine Z.eff (Z.cl (fit_c c a (({ s with tenants := s.tenants.set q { x with placed := true, home := (k : Int), standby := (o : Int) } } : Sta)) (⟨some ⟨gt, 0, none⟩, tc, some ⟨gk, 0, none⟩, kc⟩ : SAd) _ _ _ hS (hr.app [_, _, _, _, _, _]) ho hs' ⟨Reads.of_at (e := 56) (v := .slice (some ⟨gt, 0, none⟩) c.tenants.length tc) (by repeat (first | exact At.here | apply At.next)), Reads.of_at (e := 97) (v := .slice (some ⟨gk, 0, none⟩) c.cells.length kc) (by repeat (first | exact At.here | apply At.next))⟩) rfl ?_) rfl
  clear hS
  rintro e w ⟨v, rfl, hv, hS⟩
  refine ⟨_, rfl, ?_⟩
  rcases hv with rfl | rfl
  · repeat' (first|refine K ?_|(refine Sh.sa hS ?_;clear hS;intro w hS)|(refine K3 ?_;clear hS;intro g w hS hge)|((first|refine GS ?_ ?_|refine VB ?_ ?_)<;>intro hb<;>(try simp only [J1,J2,J3,J4,J5,J6] at hb)<;>(try (exfalso;first|omega|exact hb trivial))))
    first | refine Z.done hS Tryz.results74 (Z.RV.cell rfl (by repeat (first | exact At.here | apply At.next)) rfl (Z.RV.tmp rfl Z.RV.nil)) ?_ | refine Z.doneN hS Tryz.results74 (Z.RV.cell rfl (by repeat (first | exact At.here | apply At.next)) rfl (Z.RV.tmp rfl Z.RV.nil)) ?_
    exact .inl ⟨10, by decide, rfl, hS.sb⟩
  · repeat' (first|refine K ?_|(refine Sh.sa hS ?_;clear hS;intro w hS)|(refine K3 ?_;clear hS;intro g w hS hge)|((first|refine GS ?_ ?_|refine VB ?_ ?_)<;>intro hb<;>(try simp only [J1,J2,J3,J4,J5,J6] at hb)<;>(try (exfalso;first|omega|exact hb trivial))))
    first | refine Z.done hS Tryz.results74 (Z.RV.cell rfl (by repeat (first | exact At.here | apply At.next)) rfl (Z.RV.tmp rfl Z.RV.nil)) ?_ | refine Z.doneN hS Tryz.results74 (Z.RV.cell rfl (by repeat (first | exact At.here | apply At.next)) rfl (Z.RV.tmp rfl Z.RV.nil)) ?_
    exact .inr ⟨({ s with tenants := s.tenants.set q { x with placed := true, home := (k : Int), standby := (o : Int) } } : Sta), (⟨some ⟨gt, 0, none⟩, tc, some ⟨gk, 0, none⟩, kc⟩ : SAd), rfl, hs', hS.sb⟩
set_option maxHeartbeats 4000000 in
theorem place0_z (c : Cfg) (s : Sta) (gt tc gk kc q : Nat) (k : Nat) (kd tk ep fr un nn : Int) (r : World) (F : List Res) (w : World) (hS : Sep r [] (.sl 56 12 (.slice (some ⟨gt, 0, none⟩) c.tenants.length tc) (s.tenants.map TS.cells) :: .sl 97 4 (.slice (some ⟨gk, 0, none⟩) c.cells.length kc) (s.cells.map CS.cells) :: F) w) (hs : s.ok c) (hq : q < c.tenants.length) (a : CAd) (hr : CfR r F c a) (ho : c.ok) (hk : k < c.cells.length) :
    Calls Tryz.prog 74 #[c.val a, s.vc c (⟨some ⟨gt, 0, none⟩, tc, some ⟨gk, 0, none⟩, kc⟩ : SAd), ((⟨kd, tk, (q : Nat), (k : Nat), -1, ep, fr, un, nn⟩ : En)).val] w fun ee w' => (∃ er : Int, er ≠ 0 ∧ ee = .returned (noV er) ∧ Sep r [] F w') ∨ ∃ (s' : Sta) (b' : SAd), ee = .returned (yesC s' c b') ∧ s'.ok c ∧ Sep r [] (.sl 56 12 (.slice b'.tA c.tenants.length b'.tc) (s'.tenants.map TS.cells) :: .sl 97 4 (.slice b'.kA c.cells.length b'.kc) (s'.cells.map CS.cells) :: F) w' := by
  have hq2 : q < s.tenants.length := by rw [hs.tl]; exact hq
  obtain ⟨x, hx⟩ : ∃ x, s.tenants[q]'hq2 = x := ⟨_, rfl⟩
  have hxo : TOk c.cells.length x := by rw [← hx]; exact hs.t _ (List.getElem_mem hq2)
  have hk2 : k < s.cells.length := by rw [hs.kl]; exact hk
  obtain ⟨y, hy⟩ : ∃ y, s.cells[k]'hk2 = y := ⟨_, rfl⟩
  refine Z.enter Tryz.func74 Tryz.ntmps74 rfl rfl ?_
  repeat' (first|refine K ?_|(refine Sh.sa hS ?_;clear hS;intro w hS)|(refine K3 ?_;clear hS;intro g w hS hge)|((first|refine GS ?_ ?_|refine VB ?_ ?_)<;>intro hb<;>(try simp only [J1,J2,J3,J4,J5,J6] at hb)<;>(try (exfalso;first|omega|exact hb trivial))))
  rename_i gc _ _ gs _ _ ge _ _
  have hrt := row_at (fc := TS.cells) hS (e := 56) (sz := 12) (g := gt) (by repeat (first | exact At.here | apply At.next)) (by omega) hq2 hx
  have hrk := row_at (fc := CS.cells) hS (e := 97) (sz := 4) (g := gk) (by repeat (first | exact At.here | apply At.next)) (by omega) hk2 hy
  repeat' (first|refine K ?_|(refine Sh.sa hS ?_;clear hS;intro w hS)|(refine K3 ?_;clear hS;intro g w hS hge)|((first|refine GS ?_ ?_|refine VB ?_ ?_)<;>intro hb<;>(try simp only [J1,J2,J3,J4,J5,J6] at hb)<;>(try (exfalso;first|omega|exact hb trivial)))|(refine Z.eff (Z.cl (no_z _ _ _ _ hS) rfl ?_) rfl;clear hS;rintro e w ⟨rfl, hS⟩;refine ⟨_, rfl, ?_⟩))
  · first | refine Z.done hS Tryz.results74 (Z.RV.cell rfl (by repeat (first | exact At.here | apply At.next)) rfl (Z.RV.tmp rfl Z.RV.nil)) ?_ | refine Z.doneN hS Tryz.results74 (Z.RV.cell rfl (by repeat (first | exact At.here | apply At.next)) rfl (Z.RV.tmp rfl Z.RV.nil)) ?_
    refine .inl ⟨_, ?_, rfl, hS.sb⟩
    decide
  · first | refine Z.done hS Tryz.results74 (Z.RV.cell rfl (by repeat (first | exact At.here | apply At.next)) rfl (Z.RV.tmp rfl Z.RV.nil)) ?_ | refine Z.doneN hS Tryz.results74 (Z.RV.cell rfl (by repeat (first | exact At.here | apply At.next)) rfl (Z.RV.tmp rfl Z.RV.nil)) ?_
    refine .inl ⟨_, ?_, rfl, hS.sb⟩
    decide
  rename x.placed = false => hp
  refine Z.eff (Z.cl (frozen_c c a s _ _ _ _ _ hS (hr.app [_, _, _, _, _, _]) ho hs) rfl ?_) rfl
  clear hS
  rintro e w ⟨b1, rfl, hS⟩
  refine ⟨_, rfl, ?_⟩
  cases b1
  case true =>
    repeat' (first|refine K ?_|(refine Sh.sa hS ?_;clear hS;intro w hS)|(refine K3 ?_;clear hS;intro g w hS hge)|((first|refine GS ?_ ?_|refine VB ?_ ?_)<;>intro hb<;>(try simp only [J1,J2,J3,J4,J5,J6] at hb)<;>(try (exfalso;first|omega|exact hb trivial)))|(refine Z.eff (Z.cl (no_z _ _ _ _ hS) rfl ?_) rfl;clear hS;rintro e w ⟨rfl, hS⟩;refine ⟨_, rfl, ?_⟩))
    first | refine Z.done hS Tryz.results74 (Z.RV.cell rfl (by repeat (first | exact At.here | apply At.next)) rfl (Z.RV.tmp rfl Z.RV.nil)) ?_ | refine Z.doneN hS Tryz.results74 (Z.RV.cell rfl (by repeat (first | exact At.here | apply At.next)) rfl (Z.RV.tmp rfl Z.RV.nil)) ?_
    refine .inl ⟨_, ?_, rfl, hS.sb⟩
    decide
  repeat' (first|refine K ?_|(refine Sh.sa hS ?_;clear hS;intro w hS)|(refine K3 ?_;clear hS;intro g w hS hge)|((first|refine GS ?_ ?_|refine VB ?_ ?_)<;>intro hb<;>(try simp only [J1,J2,J3,J4,J5,J6] at hb)<;>(try (exfalso;first|omega|exact hb trivial))))
  refine Z.eff (Z.cl (may_z c a _ _ _ _ _ hS (hr.app [_, _, _, _, _, _]) ho) rfl ?_) rfl
  clear hS
  rintro e w ⟨b1, rfl, hS⟩
  refine ⟨_, rfl, ?_⟩
  cases b1
  case false =>
    repeat' (first|refine K ?_|(refine Sh.sa hS ?_;clear hS;intro w hS)|(refine K3 ?_;clear hS;intro g w hS hge)|((first|refine GS ?_ ?_|refine VB ?_ ?_)<;>intro hb<;>(try simp only [J1,J2,J3,J4,J5,J6] at hb)<;>(try (exfalso;first|omega|exact hb trivial)))|(refine Z.eff (Z.cl (no_z _ _ _ _ hS) rfl ?_) rfl;clear hS;rintro e w ⟨rfl, hS⟩;refine ⟨_, rfl, ?_⟩))
    first | refine Z.done hS Tryz.results74 (Z.RV.cell rfl (by repeat (first | exact At.here | apply At.next)) rfl (Z.RV.tmp rfl Z.RV.nil)) ?_ | refine Z.doneN hS Tryz.results74 (Z.RV.cell rfl (by repeat (first | exact At.here | apply At.next)) rfl (Z.RV.tmp rfl Z.RV.nil)) ?_
    refine .inl ⟨_, ?_, rfl, hS.sb⟩
    decide
  repeat' (first|refine K ?_|(refine Sh.sa hS ?_;clear hS;intro w hS)|(refine K3 ?_;clear hS;intro g w hS hge)|((first|refine GS ?_ ?_|refine VB ?_ ?_)<;>intro hb<;>(try simp only [J1,J2,J3,J4,J5,J6] at hb)<;>(try (exfalso;first|omega|exact hb trivial))))
  refine D.startS (Lr := [.blk ge 100 ((⟨kd, tk, (q : Nat), (k : Nat), -1, ep, fr, un, nn⟩ : En)).cells]) (hS.sb) 15 16 (by kernel_rfl) rfl ?_
  replace hS := hS.drew
  refine Sh.dp 0 1 ?_
  refine Sh.dp 1 3 ?_
  refine Sh.dp 2 7 ?_
  refine Sh.dp 3 15 ?_
  refine Sh.dp 5 47 ?_
  refine Sh.dp 7 175 ?_
  refine Sh.dp 8 431 ?_
  refine Sh.dl 4 447 ?_
  refine Sh.dl 6 511 ?_
  refine D.eff 9 1023 rfl D.wantedN (by kernel_rfl) (by kernel_rfl) (fun _ _ h => h) ?_
  rw [set_self hq2 hx] at hS
  refine Z.stT (y0 := x) (j := 0) ({ x with placed := true } : TS) hS rfl (by repeat (first | exact At.here | apply At.next)) hq2 rfl rfl rfl (by omega) rfl ?_
  clear hS; intro w hS
  refine ⟨HM.s (hS.sb), ?_⟩
  refine Sh.dp 10 2047 ?_
  refine Sh.dp 11 4095 ?_
  refine D.eff 12 8191 rfl D.wantedN (by kernel_rfl) (by kernel_rfl) (fun _ _ h => h) ?_
  refine Z.stT (y0 := { x with placed := true }) (j := 2) ({ x with placed := true, home := (k : Int) } : TS) hS rfl (by repeat (first | exact At.here | apply At.next)) hq2 rfl rfl rfl (by omega) rfl ?_
  clear hS; intro w hS
  refine ⟨HM.s (hS.sb), ?_⟩
  refine Sh.dp 13 16383 ?_
  refine Sh.dp 14 32767 ?_
  refine D.eff 15 65535 rfl D.wantedN (by kernel_rfl) (by kernel_rfl) (fun _ _ h => h) ?_
  refine Z.stT (y0 := { x with placed := true, home := (k : Int) }) (j := 3) ({ x with placed := true, home := (k : Int), standby := -1 } : TS) hS rfl (by repeat (first | exact At.here | apply At.next)) hq2 rfl rfl rfl (by omega) rfl ?_
  clear hS; intro w hS
  refine ⟨HM.last (by kernel_rfl), ?_⟩
  refine D.done (by kernel_rfl) ?_
  have hs' : (({ s with tenants := s.tenants.set q { x with placed := true, home := (k : Int), standby := -1 } } : Sta)).ok c := hs.setT (hxo.place hp (k := (k : Int)) (o := -1) ⟨by omega, by omega⟩ ⟨by omega, by omega⟩ (by omega)) q
  repeat' (first|refine K ?_|(refine Sh.sa hS ?_;clear hS;intro w hS)|(refine K3 ?_;clear hS;intro g w hS hge)|((first|refine GS ?_ ?_|refine VB ?_ ?_)<;>intro hb<;>(try simp only [J1,J2,J3,J4,J5,J6] at hb)<;>(try (exfalso;first|omega|exact hb trivial))))
  refine Z.eff (Z.cl (fit_c c a (({ s with tenants := s.tenants.set q { x with placed := true, home := (k : Int), standby := -1 } } : Sta)) (⟨some ⟨gt, 0, none⟩, tc, some ⟨gk, 0, none⟩, kc⟩ : SAd) _ _ _ hS (hr.app [_, _, _, _, _, _]) ho hs' ⟨Reads.of_at (e := 56) (v := .slice (some ⟨gt, 0, none⟩) c.tenants.length tc) (by repeat (first | exact At.here | apply At.next)), Reads.of_at (e := 97) (v := .slice (some ⟨gk, 0, none⟩) c.cells.length kc) (by repeat (first | exact At.here | apply At.next))⟩) rfl ?_) rfl
  clear hS
  rintro e w ⟨v, rfl, hv, hS⟩
  refine ⟨_, rfl, ?_⟩
  rcases hv with rfl | rfl
  · repeat' (first|refine K ?_|(refine Sh.sa hS ?_;clear hS;intro w hS)|(refine K3 ?_;clear hS;intro g w hS hge)|((first|refine GS ?_ ?_|refine VB ?_ ?_)<;>intro hb<;>(try simp only [J1,J2,J3,J4,J5,J6] at hb)<;>(try (exfalso;first|omega|exact hb trivial))))
    first | refine Z.done hS Tryz.results74 (Z.RV.cell rfl (by repeat (first | exact At.here | apply At.next)) rfl (Z.RV.tmp rfl Z.RV.nil)) ?_ | refine Z.doneN hS Tryz.results74 (Z.RV.cell rfl (by repeat (first | exact At.here | apply At.next)) rfl (Z.RV.tmp rfl Z.RV.nil)) ?_
    exact .inl ⟨10, by decide, rfl, hS.sb⟩
  · repeat' (first|refine K ?_|(refine Sh.sa hS ?_;clear hS;intro w hS)|(refine K3 ?_;clear hS;intro g w hS hge)|((first|refine GS ?_ ?_|refine VB ?_ ?_)<;>intro hb<;>(try simp only [J1,J2,J3,J4,J5,J6] at hb)<;>(try (exfalso;first|omega|exact hb trivial))))
    first | refine Z.done hS Tryz.results74 (Z.RV.cell rfl (by repeat (first | exact At.here | apply At.next)) rfl (Z.RV.tmp rfl Z.RV.nil)) ?_ | refine Z.doneN hS Tryz.results74 (Z.RV.cell rfl (by repeat (first | exact At.here | apply At.next)) rfl (Z.RV.tmp rfl Z.RV.nil)) ?_
    exact .inr ⟨({ s with tenants := s.tenants.set q { x with placed := true, home := (k : Int), standby := -1 } } : Sta), (⟨some ⟨gt, 0, none⟩, tc, some ⟨gk, 0, none⟩, kc⟩ : SAd), rfl, hs', hS.sb⟩
end Go.Proofs.YtmgpionlfemhdaaGreat
