import Derived.Test.YtfmnjbhncnldmaaGreatR26
import Derived.Test.YtfmnjbhncnldmaaGreatR31
set_option linter.unusedSimpArgs false
set_option linter.unusedVariables false
namespace Go.Proofs.YtfmnjbhncnldmaaGreat
open Go.RowKit
attribute [local irreducible] Res.blk Res.sl Res.all Res.ex Res.pure Res.star
def En.ints (e : En) : List Int := [e.kind, e.tick, e.tenant, e.cell, e.other, e.epoch, e.from_, e.until_, e.n]
theorem En.i64.all {e : En} (h : e.i64) : ∀ x, x ∈ e.ints → i64ok x := by
  obtain ⟨h1, h2, h3, h4, h5, h6, h7, h8, h9⟩ := h
  intro x hx
  simp only [En.ints, List.mem_cons, List.not_mem_nil, or_false] at hx
  rcases hx with rfl | rfl | rfl | rfl | rfl | rfl | rfl | rfl | rfl <;> assumption
theorem ent_row (e : En) : ∀ i : Nat, i < 9 → partL false ((i : Int).toNat * 1) 1 e.cells = some (.int .i64 (e.ints.getD i 0))
  | 0, _ => rfl
  | 1, _ => rfl
  | 2, _ => rfl
  | 3, _ => rfl
  | 4, _ => rfl
  | 5, _ => rfl
  | 6, _ => rfl
  | 7, _ => rfl
  | 8, _ => rfl
theorem En.i64.at {e : En} (h : e.i64) (i : Nat) (hi : i < 9) : i64ok (e.ints.getD i 0) := by
  have hl : i < e.ints.length := hi
  rw [List.getD_eq_getElem?_getD, List.getElem?_eq_getElem hl]
  exact h.all _ (List.getElem_mem hl)
set_option maxHeartbeats 2000000 in
theorem ebytes_z (e : En) (he : e.i64) (r : World) (F : List Res) (w : World) (hS : Sep r [] F w) :
    Calls Tryz.prog 365 #[e.val] w fun x w' => ∃ (o : List Int) (A2 : Option Addr) (c2 : Nat), x = .returned (.slice A2 o.length c2) ∧ (bOk o ∧ o.length ≤ 90) ∧ Sep r [] (.sl 5 1 (.slice A2 o.length c2) (o.map byC) :: F) w' := by
  refine Z.enter Tryz.func365 Tryz.ntmps365 rfl rfl ?_
  repeat' (first|refine K ?_|(refine Sh.sa hS ?_;clear hS;intro w hS)|(refine K3 ?_;clear hS;intro g w hS hge)|((first|refine GS ?_ ?_|refine VB ?_ ?_)<;>intro hb<;>(try simp only [JJ] at hb)<;>(try exact JX)))
  replace hS := Z.nilsl hS 5 1 none
  refine Z.lpS [3, 5, 25, 26, 27, 28, 29, 30, 31] (fun m w z => ∃ (i : Nat) (o : List Int) (A2 : Option Addr) (c2 : Nat), z = [(3, .slice A2 o.length c2), (25, .int .i64 i)] ∧ i ≤ 9 ∧ bOk o ∧ o.length ≤ 10 * i ∧ m = 9 - i ∧ Sep r [] (.sl 5 1 (.slice A2 o.length c2) (o.map byC) :: F) w) _ [(3, .slice none 0 0), (25, .int .i64 (0 : Nat))] (by repeat (first | exact trivial | refine ⟨rfl, ?_⟩)) ⟨0, [], none, 0, rfl, by omega, bOk.nil, by simp, rfl, hS.sb⟩ ?_
  clear hS
  rintro m f0 w _ ⟨i, o, A2, c2, rfl, hi0, hob, hol, rfl, hS⟩
  by_cases hlt : i < 9
  · have hrow := ent_row e i hlt
    have hx := he.at i hlt
    generalize e.ints.getD i 0 = x at *
    repeat' (first|refine K ?_|(refine Sh.sa hS ?_;clear hS;intro w hS)|(refine K3 ?_;clear hS;intro g w hS hge)|((first|refine GS ?_ ?_|refine VB ?_ ?_)<;>intro hb<;>(try simp only [JJ] at hb)<;>(try exact JX)))
    refine Z.pl (R.ixv rfl rfl rfl (by omega) hrow) ?_
    repeat' (first|refine K ?_|(refine Sh.sa hS ?_;clear hS;intro w hS)|(refine K3 ?_;clear hS;intro g w hS hge)|((first|refine GS ?_ ?_|refine VB ?_ ?_)<;>intro hb<;>(try simp only [JJ] at hb)<;>(try exact JX)))
    refine Z.eff (Z.cl (wint_z o (.slice A2 o.length c2) x hx _ _ _ hS (Reads.of_at (e := 5) (v := .slice A2 o.length c2) AtF) (by omega)) rfl ?_) rfl
    clear hS
    rintro e w ⟨A3, c3, rfl, hS⟩
    refine ⟨_, rfl, ?_⟩
    have hpl := putL_len hx
    repeat' (first|refine K ?_|(refine Sh.sa hS ?_;clear hS;intro w hS)|(refine K3 ?_;clear hS;intro g w hS hge)|((first|refine GS ?_ ?_|refine VB ?_ ?_)<;>intro hb<;>(try simp only [JJ] at hb)<;>(try exact JX)))
    refine Sh.again (9 - (i + 1)) [(3, _), (25, .int .i64 (i + 1 : Nat))] ?_
    exact ⟨i + 1, o ++ putL x, A3, c3, rfl, by omega, hob.app (putL_ok x), by simp; omega, rfl, hS.sb⟩
  · repeat' (first|refine K ?_|(refine Sh.sa hS ?_;clear hS;intro w hS)|(refine K3 ?_;clear hS;intro g w hS hge)|((first|refine GS ?_ ?_|refine VB ?_ ?_)<;>intro hb<;>(try simp only [JJ] at hb)<;>(try exact JX)))
    refine Dnt Tryz.results365 ?_
    exact ⟨o, A2, c2, rfl, ⟨hob, by omega⟩, hS⟩
set_option maxHeartbeats 2000000 in
theorem jadd_z (gj n : Nat) (t v : Int) (log : List Lg) (tm : Int) (e : En) (r : World) (F : List Res) (w : World) (hS : Sep r [] (JN gj t v log n :: F) w) (h1 : 1 ≤ tm ∧ tm ≤ 1073741824) (h2 : shapeP e = true) (h3 : tm ≤ t) (h4 : (lgAt log (log.length - 1)).term ≤ tm) (h5 : log.length < 4096) :
    Calls Tryz.prog 362 #[.pointer (some ⟨gj, 0, none⟩), .int .i64 tm, e.val] w fun x w' => x = .returned (.int .i64 0) ∧ Sep r [] (JN gj t v (log ++ [⟨tm, e⟩]) n :: F) w' := by
  refine Z.enter Tryz.func362 Tryz.ntmps362 rfl rfl ?_
  repeat' (first|refine K ?_|(refine Sh.sa hS ?_;clear hS;intro w hS)|(refine K3 ?_;clear hS;intro g w hS hge)|((first|refine GS ?_ ?_|refine VB ?_ ?_)<;>intro hb<;>(try simp only [JJ] at hb)<;>(try exact JX)))
  refine Z.eff (Z.cl (eshape_z e _ _ _ hS) rfl ?_) rfl
  clear hS
  rintro e w ⟨rfl, hS⟩
  refine ⟨_, rfl, ?_⟩
  rw [h2]
  obtain ⟨gd, A, c, hS⟩ := JN.op (hS.fo (R := JN gj t v log n))
  repeat' (first|refine K ?_|(refine Sh.sa hS ?_;clear hS;intro w hS)|(refine K3 ?_;clear hS;intro g w hS hge)|((first|refine GS ?_ ?_|refine VB ?_ ?_)<;>intro hb<;>(try simp only [JJ] at hb)<;>(try exact JX)))
  refine Z.eff (Z.cl (jtat_z gj n t v log (log.length - 1) _ _ _ (JN.of gd A c (hS.sb))) rfl ?_) rfl
  clear hS
  rintro e w ⟨rfl, hS⟩
  refine ⟨_, rfl, ?_⟩
  obtain ⟨gd, A, c, hS⟩ := JN.op (hS.fo (R := JN gj t v log n))
  repeat' (first|refine K ?_|(refine Sh.sa hS ?_;clear hS;intro w hS)|(refine K3 ?_;clear hS;intro g w hS hge)|((first|refine GS ?_ ?_|refine VB ?_ ?_)<;>intro hb<;>(try simp only [JJ] at hb)<;>(try exact JX)))
  refine D.startS (Lr := [.blk gj 390 [.pointer (some ⟨gd, 0, none⟩), .int .i64 t, .int .i64 v, .slice A log.length c], .blk g 63 e.cells]) (hS.sb) 12 13 (by kernel_rfl) rfl ?_
  replace hS := hS.drew
  refine Sh.dp 0 1 ?_
  refine Sh.dp 1 3 ?_
  refine Sh.dp 2 7 ?_
  refine Sh.dp 3 15 ?_
  refine Sh.dp 5 47 ?_
  refine Sh.dl 4 63 ?_
  refine Sh.dl 6 127 ?_
  first | refine D.bu 7 255 rfl D.wantedN (by kernel_rfl) rfl rfl ?_ | refine D.buA 7 255 rfl D.wantedN (by kernel_rfl) rfl rfl ?_
  refine D.eff 8 511 rfl D.wantedN (by kernel_rfl) (by kernel_rfl) (fun _ _ h => h) ?_
  refine Z.bs hS rfl rfl rfl ?_
  clear hS; intro g w hS hge
  refine ⟨HM.s (hS.sb), ?_⟩
  refine D.eff 9 1023 rfl D.wantedN (by kernel_rfl) (by kernel_rfl) (fun _ _ h => h) ?_
  refine Z.apm (fc := Lg.cells) (l' := [(⟨tm, e⟩ : Lg)]) hS rfl rfl rfl AtF (hS.lit1 AtF rfl rfl) (by (try simp only [maxLen, List.length_take, List.length_drop, List.length_append, List.length_cons, List.length_nil, List.length_map]); omega) (by (try simp only [maxLen, List.length_take, List.length_drop, List.length_append, List.length_cons, List.length_nil, List.length_map]); omega) ?_
  clear hS; intro A3 c3 w hS
  rw [← List.length_append] at hS ⊢
  refine ⟨HM.s (hS.sb), ?_⟩
  refine Sh.dp 10 2047 ?_
  refine Sh.dp 11 4095 ?_
  refine D.eff 12 8191 rfl D.wantedN (by kernel_rfl) (by kernel_rfl) (fun _ _ h => h) ?_
  refine Z.st hS rfl AtF rfl rfl ?_
  clear hS; intro w hS
  refine ⟨HM.last (by kernel_rfl), ?_⟩
  refine D.done (by kernel_rfl) ?_
  repeat' (first|refine K ?_|(refine Sh.sa hS ?_;clear hS;intro w hS)|(refine K3 ?_;clear hS;intro g w hS hge)|((first|refine GS ?_ ?_|refine VB ?_ ?_)<;>intro hb<;>(try simp only [JJ] at hb)<;>(try exact JX)))
  refine Dnt Tryz.results362 ?_
  exact ⟨rfl, JN.of gd _ _ (hS.sb)⟩
set_option maxHeartbeats 2000000 in
theorem jappend_z (gj n : Nat) (t v : Int) (log : List Lg) (tm : Int) (e : En) (he : e.i64) (r : World) (F : List Res) (w : World) (hS : Sep r [] (JN gj t v log n :: F) w) (h1 : 1 ≤ tm ∧ tm ≤ 1073741824) (h2 : shapeP e = true) (h3 : tm ≤ t) (h4 : (lgAt log (log.length - 1)).term ≤ tm) (h5 : log.length < 4096) (hn : n ≤ 1000000000) :
    Calls Tryz.prog 300 #[.pointer (some ⟨gj, 0, none⟩), .int .i64 tm, e.val] w fun x w' => x = .returned (.int .i64 0) ∧ Sep r [] (JN gj t v (log ++ [⟨tm, e⟩]) (n + 128) :: F) w' := by
  refine Z.enter Tryz.func300 Tryz.ntmps300 rfl rfl ?_
  repeat' (first|refine K ?_|(refine Sh.sa hS ?_;clear hS;intro w hS)|(refine K3 ?_;clear hS;intro g w hS hge)|((first|refine GS ?_ ?_|refine VB ?_ ?_)<;>intro hb<;>(try simp only [JJ] at hb)<;>(try exact JX)))
  refine Z.eff (Z.cl (jadd_z gj n t v log tm e _ _ _ (hS.fo (R := JN gj t v log n)) h1 h2 h3 h4 h5) rfl ?_) rfl
  clear hS
  rintro e w ⟨rfl, hS⟩
  refine ⟨_, rfl, ?_⟩
  repeat' (first|refine K ?_|(refine Sh.sa hS ?_;clear hS;intro w hS)|(refine K3 ?_;clear hS;intro g w hS hge)|((first|refine GS ?_ ?_|refine VB ?_ ?_)<;>intro hb<;>(try simp only [JJ] at hb)<;>(try exact JX)))
  refine D.startS (Lr := [.blk g 63 e.cells]) (hS.sb) 8 8 (by kernel_rfl) rfl ?_
  replace hS := hS.drew
  refine Sh.dp 0 1 ?_
  refine Sh.dp 1 3 ?_
  refine Sh.dl 4 19 ?_
  refine D.eff 2 23 rfl D.wantedN (by kernel_rfl) (by kernel_rfl) (fun _ _ h => h) ?_
  refine Z.bs hS rfl rfl rfl ?_
  clear hS; intro gb w hS hge
  refine ⟨HM.s (hS.sb), ?_⟩
  refine D.eff 3 31 rfl D.wantedN (by kernel_rfl) (by kernel_rfl) (fun _ _ h => h) ?_
  replace hS := hS.focus (R := .blk gb _ _) AtF
  replace hS := mk_sl (sz := 1) (n := 2) (rows := [2, tm].map ztC) hS rfl (by omega) (by decide) (by intro row hrow; simp at hrow; rcases hrow with rfl | rfl <;> exact ⟨rfl, by simp [ztC, Value.oneCell']⟩) rfl
  refine Z.cl (jints_z [2, tm] (some ⟨gb, 0, none⟩) 2 _ _ _ hS (Reads.of_at (e := 3) .here) (by simp) (by intro x hx; simp at hx; rcases hx with rfl | rfl <;> exact i64_tick (by omega))) rfl ?_
  clear hS
  rintro e w ⟨o, A2, c2, rfl, ⟨hob, hol⟩, hS⟩
  refine ⟨_, rfl, ?_⟩
  simp only [List.length_cons, List.length_nil] at hol
  refine ⟨HM.s (hS.sb), ?_⟩
  refine D.eff 5 63 rfl D.wantedN (by kernel_rfl) (by kernel_rfl) (fun _ _ h => h) ?_
  refine Z.cl (ebytes_z e he _ _ _ hS) rfl ?_
  clear hS
  rintro e w ⟨o2, A3, c3, rfl, ⟨hob2, hol2⟩, hS⟩
  refine ⟨_, rfl, ?_⟩
  refine ⟨HM.s (hS.sb), ?_⟩
  refine D.eff 6 127 rfl D.wantedN (by kernel_rfl) (by kernel_rfl) (fun _ _ h => h) ?_
  refine Z.apm (l' := o2) hS rfl rfl rfl AtF (hS.slrows AtF) (by (try simp only [maxLen, List.length_take, List.length_drop, List.length_append, List.length_cons, List.length_nil, List.length_map]); omega) (by (try simp only [maxLen, List.length_take, List.length_drop, List.length_append, List.length_cons, List.length_nil, List.length_map]); omega) ?_
  clear hS; intro A4 c4 w hS
  rw [← List.length_append] at hS ⊢
  refine ⟨HM.s (hS.sb), ?_⟩
  refine D.eff 7 255 rfl D.wantedN (by kernel_rfl) (by kernel_rfl) (fun _ _ h => h) ?_
  refine Z.cl (jwrite_z gj n t v (log ++ [⟨tm, e⟩]) (o ++ o2) _ _ _ _ (hS.fo (R := JN gj t v (log ++ [⟨tm, e⟩]) n)) (Reads.of_at (e := 5) AtF) (hob.app hob2) (by simp only [List.length_append]; omega) hn) rfl ?_
  clear hS
  rintro e w ⟨rfl, hS⟩
  refine ⟨_, rfl, ?_⟩
  refine ⟨HM.s (hS.sb), ?_⟩
  refine D.done (by kernel_rfl) ?_
  repeat' (first|refine K ?_|(refine Sh.sa hS ?_;clear hS;intro w hS)|(refine K3 ?_;clear hS;intro g w hS hge)|((first|refine GS ?_ ?_|refine VB ?_ ?_)<;>intro hb<;>(try simp only [JJ] at hb)<;>(try exact JX)))
  refine Dnt Tryz.results300 ?_
  refine ⟨rfl, (JN.le (m := n + 128) hS ?_).sub SuF⟩
  simp only [List.length_append]
  omega
end Go.Proofs.YtfmnjbhncnldmaaGreat
