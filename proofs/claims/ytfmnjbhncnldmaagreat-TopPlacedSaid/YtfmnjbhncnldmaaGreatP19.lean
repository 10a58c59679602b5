import Derived.Test.YtfmnjbhncnldmaaGreatP13
import Derived.Test.YtfmnjbhncnldmaaGreatP18
set_option linter.unusedSimpArgs false
set_option linter.unusedVariables false
namespace Go.Proofs.YtfmnjbhncnldmaaGreat
open Go.RowKit
attribute [local irreducible] Res.blk Res.sl Res.all Res.ex Res.pure Res.star
def newS (c : Cfg) : Sta := ⟨0, 0, List.replicate c.tenants.length TS.fresh, List.replicate c.cells.length ⟨1, 0, 0, 0⟩, 1, 0, 0, 0⟩
theorem newS_ok {c : Cfg} (hv : 1 ≤ c.versions.length) : (newS c).ok c := by
  refine ⟨by simp [newS], by simp [newS], fun x hx => ?_, fun x hx => ?_⟩
  · have := List.eq_of_mem_replicate hx
    subst this
    exact TS.fresh_ok _
  · have := List.eq_of_mem_replicate hx
    subst this
    exact ⟨⟨by show (0 : Int) ≤ 0; omega, by show (0 : Int) < _; omega⟩, ⟨by show (0 : Int) ≤ 0; omega, by show (0 : Int) < _; omega⟩⟩
theorem zerosL_gen {α : Type} (fc : α → List Value) (z : α) (n : Nat) : Z.zerosL (fc z) n = ((List.replicate n z).map fc).flatten := by
  induction n with
  | zero => rfl
  | succ n ih => rw [List.replicate_succ, List.map_cons, List.flatten_cons, ← ih]; rfl
def TS.zero : TS := ⟨false, false, 0, 0, 0, 0, 0, ⟨0, 0, 0, 0, 0⟩⟩
theorem ts_ok12 (l : List TS) : ∀ row, row ∈ l.map TS.cells → row.length = 12 ∧ ∀ u, u ∈ row → u.oneCell' = true := by
  intro row hr
  obtain ⟨x, _, rfl⟩ := List.mem_map.1 hr
  exact ⟨rfl, by simp [TS.cells, Value.oneCell']⟩
theorem cs_ok4 (l : List CS) : ∀ row, row ∈ l.map CS.cells → row.length = 4 ∧ ∀ u, u ∈ row → u.oneCell' = true := by
  intro row hr
  obtain ⟨x, _, rfl⟩ := List.mem_map.1 hr
  exact ⟨rfl, by simp [CS.cells, Value.oneCell']⟩
theorem mk_zero {α : Type} {r w : World} {M : List Nat} {F : List Res} {g e sz n : Nat} (fc : α → List Value) (z : α) (h : Sep r M (.blk g e (Z.zerosL (fc z) n) :: F) w) (hm : n ≤ maxLen) (hok : ∀ l : List α, ∀ row, row ∈ l.map fc → row.length = sz ∧ ∀ u, u ∈ row → u.oneCell' = true) :
    Sep r M (.sl e sz (.slice (some ⟨g, 0, none⟩) n n) ((List.replicate n z).map fc) :: F) w := by
  rcases Nat.eq_zero_or_pos n with rfl | hp
  · exact Z.nilsl h.tail e sz _
  · exact mk_sl h (by simp) hp hm (hok _) (zerosL_gen fc z n)
set_option maxHeartbeats 4000000 in
theorem sanew_z (c : Cfg) (a : CAd) (r : World) (F : List Res) (w : World) (hS : Sep r [] F w) (h1 : c.tenants.length ≤ 1000) (h2 : c.cells.length ≤ 1000) :
    Calls Tryz.prog 29 #[c.val a] w fun e w' => ∃ (b' : SAd), e = .returned ((newS c).vc c b') ∧ Sep r [] (SO c (newS c) b' :: F) w' := by
  refine Z.enter Tryz.func29 Tryz.ntmps29 rfl rfl ?_
  repeat' (first|refine K ?_|(refine Sh.sa hS ?_;clear hS;intro w hS)|(refine K3 ?_;clear hS;intro g w hS hge)|(refine KB ?_ ?_<;>intro hb<;>(try simp only [JJ] at hb)<;>(try exact JX))|fail)
  rename_i gc _ _
  rename Nat => gr
  refine Z.cut [3, 6, 7, 8, 9, 10, 11, 12, 13, 14] (fun w z => ∃ g1 g2 g3 : Nat, z = [(3, .pointer (some ⟨g3, 0, none⟩))] ∧ Sep r [] (.blk g2 186 (Z.zerosL (⟨0, 0, 0, 0⟩ : CS).cells c.cells.length) :: .blk g1 183 (Z.zerosL TS.zero.cells c.tenants.length) :: .blk g3 69 ((newS c).cc c ⟨some ⟨g1, 0, none⟩, c.tenants.length, some ⟨g2, 0, none⟩, c.cells.length⟩) :: .blk gr 69 (Sta.zero.cl SAd.zero) :: F) w) ?_ ?_
  · refine D.startS hS 10 11 (by kernel_rfl) rfl ?_
    replace hS := hS.drew
    refine Sh.dp 0 1 ?_
    refine Sh.dp 4 17 ?_
    refine Sh.dl 1 19 ?_
    refine Sh.dp 2 23 ?_
    refine Sh.dl 5 55 ?_
    refine Sh.dp 6 119 ?_
    refine D.each [3, 7, 9] (by kernel_rfl) rfl ?_
    refine D.econs 3 127 rfl D.wantedN (by kernel_rfl) (fun _ _ h => h) ?_ ?_
    · refine Z.mks (l := c.tenants.length) (c := c.tenants.length) hS rfl rfl rfl (Nat.le_refl _) (by show 88 * c.tenants.length ≤ 281474976710656; omega) (by unfold maxLen; omega) ?_
      clear hS; intro g1 w hS hge1
      refine HMs ?_
      refine D.each [7, 9] (by kernel_rfl) rfl ?_
      refine D.econs 7 255 rfl D.wantedN (by kernel_rfl) (fun _ _ h => h) ?_ ?_
      · refine Z.mks (l := c.cells.length) (c := c.cells.length) hS rfl rfl rfl (Nat.le_refl _) (by show 32 * c.cells.length ≤ 281474976710656; omega) (by unfold maxLen; omega) ?_
        clear hS; intro g2 w hS hge2
        refine HMs ?_
        first | refine D.bu 8 511 rfl D.wantedN (by kernel_rfl) rfl rfl ?_ | refine D.buA 8 511 rfl D.wantedN (by kernel_rfl) rfl rfl ?_
        refine D.ef 9 1023 ?_
        refine Z.al hS ?_
        clear hS; intro g3 w hS hge3
        refine HMs ?_
        refine D.ef 10 2047 ?_
        refine Z.st hS rfl AtF rfl rfl ?_
        clear hS; intro w hS
        refine ⟨HM.last (by kernel_rfl), ?_⟩
        refine D.done (by kernel_rfl) ?_
        refine Sh.cut [(3, _)] ?_
        exact ⟨g1, g2, g3, rfl, hS.sb⟩
      refine D.econs 9 639 rfl D.wantedN (by kernel_rfl) (fun _ _ h => h) ?_ ?_
      · refine Z.al hS ?_
        clear hS; intro g3 w hS hge3
        refine HMs ?_
        refine D.ef 7 767 ?_
        refine Z.mks (l := c.cells.length) (c := c.cells.length) hS rfl rfl rfl (Nat.le_refl _) (by show 32 * c.cells.length ≤ 281474976710656; omega) (by unfold maxLen; omega) ?_
        clear hS; intro g2 w hS hge2
        refine HMs ?_
        first | refine D.bu 8 1023 rfl D.wantedN (by kernel_rfl) rfl rfl ?_ | refine D.buA 8 1023 rfl D.wantedN (by kernel_rfl) rfl rfl ?_
        refine D.ef 10 2047 ?_
        refine Z.st hS rfl AtF rfl rfl ?_
        clear hS; intro w hS
        refine ⟨HM.last (by kernel_rfl), ?_⟩
        refine D.done (by kernel_rfl) ?_
        refine Sh.cut [(3, _)] ?_
        exact ⟨g1, g2, g3, rfl, hS.sb⟩
      exact D.enil
    refine D.econs 7 247 rfl D.wantedN (by kernel_rfl) (fun _ _ h => h) ?_ ?_
    · refine Z.mks (l := c.cells.length) (c := c.cells.length) hS rfl rfl rfl (Nat.le_refl _) (by show 32 * c.cells.length ≤ 281474976710656; omega) (by unfold maxLen; omega) ?_
      clear hS; intro g2 w hS hge2
      refine HMs ?_
      refine D.each [3, 9] (by kernel_rfl) rfl ?_
      refine D.econs 3 255 rfl D.wantedN (by kernel_rfl) (fun _ _ h => h) ?_ ?_
      · refine Z.mks (l := c.tenants.length) (c := c.tenants.length) hS rfl rfl rfl (Nat.le_refl _) (by show 88 * c.tenants.length ≤ 281474976710656; omega) (by unfold maxLen; omega) ?_
        clear hS; intro g1 w hS hge1
        refine HMs ?_
        first | refine D.bu 8 511 rfl D.wantedN (by kernel_rfl) rfl rfl ?_ | refine D.buA 8 511 rfl D.wantedN (by kernel_rfl) rfl rfl ?_
        refine D.ef 9 1023 ?_
        refine Z.al hS ?_
        clear hS; intro g3 w hS hge3
        refine HMs ?_
        refine D.ef 10 2047 ?_
        refine Z.st hS rfl AtF rfl rfl ?_
        clear hS; intro w hS
        refine ⟨HM.last (by kernel_rfl), ?_⟩
        refine D.done (by kernel_rfl) ?_
        refine Sh.cut [(3, _)] ?_
        exact ⟨g1, g2, g3, rfl, hS.sb⟩
      refine D.econs 9 759 rfl D.wantedN (by kernel_rfl) (fun _ _ h => h) ?_ ?_
      · refine Z.al hS ?_
        clear hS; intro g3 w hS hge3
        refine HMs ?_
        refine D.ef 3 767 ?_
        refine Z.mks (l := c.tenants.length) (c := c.tenants.length) hS rfl rfl rfl (Nat.le_refl _) (by show 88 * c.tenants.length ≤ 281474976710656; omega) (by unfold maxLen; omega) ?_
        clear hS; intro g1 w hS hge1
        refine HMs ?_
        first | refine D.bu 8 1023 rfl D.wantedN (by kernel_rfl) rfl rfl ?_ | refine D.buA 8 1023 rfl D.wantedN (by kernel_rfl) rfl rfl ?_
        refine D.ef 10 2047 ?_
        refine Z.st hS rfl AtF rfl rfl ?_
        clear hS; intro w hS
        refine ⟨HM.last (by kernel_rfl), ?_⟩
        refine D.done (by kernel_rfl) ?_
        refine Sh.cut [(3, _)] ?_
        exact ⟨g1, g2, g3, rfl, hS.sb⟩
      exact D.enil
    refine D.econs 9 631 rfl D.wantedN (by kernel_rfl) (fun _ _ h => h) ?_ ?_
    · refine Z.al hS ?_
      clear hS; intro g3 w hS hge3
      refine HMs ?_
      refine D.each [3, 7] (by kernel_rfl) rfl ?_
      refine D.econs 3 639 rfl D.wantedN (by kernel_rfl) (fun _ _ h => h) ?_ ?_
      · refine Z.mks (l := c.tenants.length) (c := c.tenants.length) hS rfl rfl rfl (Nat.le_refl _) (by show 88 * c.tenants.length ≤ 281474976710656; omega) (by unfold maxLen; omega) ?_
        clear hS; intro g1 w hS hge1
        refine HMs ?_
        refine D.ef 7 767 ?_
        refine Z.mks (l := c.cells.length) (c := c.cells.length) hS rfl rfl rfl (Nat.le_refl _) (by show 32 * c.cells.length ≤ 281474976710656; omega) (by unfold maxLen; omega) ?_
        clear hS; intro g2 w hS hge2
        refine HMs ?_
        first | refine D.bu 8 1023 rfl D.wantedN (by kernel_rfl) rfl rfl ?_ | refine D.buA 8 1023 rfl D.wantedN (by kernel_rfl) rfl rfl ?_
        refine D.ef 10 2047 ?_
        refine Z.st hS rfl AtF rfl rfl ?_
        clear hS; intro w hS
        refine ⟨HM.last (by kernel_rfl), ?_⟩
        refine D.done (by kernel_rfl) ?_
        refine Sh.cut [(3, _)] ?_
        exact ⟨g1, g2, g3, rfl, hS.sb⟩
      refine D.econs 7 759 rfl D.wantedN (by kernel_rfl) (fun _ _ h => h) ?_ ?_
      · refine Z.mks (l := c.cells.length) (c := c.cells.length) hS rfl rfl rfl (Nat.le_refl _) (by show 32 * c.cells.length ≤ 281474976710656; omega) (by unfold maxLen; omega) ?_
        clear hS; intro g2 w hS hge2
        refine HMs ?_
        refine D.ef 3 767 ?_
        refine Z.mks (l := c.tenants.length) (c := c.tenants.length) hS rfl rfl rfl (Nat.le_refl _) (by show 88 * c.tenants.length ≤ 281474976710656; omega) (by unfold maxLen; omega) ?_
        clear hS; intro g1 w hS hge1
        refine HMs ?_
        first | refine D.bu 8 1023 rfl D.wantedN (by kernel_rfl) rfl rfl ?_ | refine D.buA 8 1023 rfl D.wantedN (by kernel_rfl) rfl rfl ?_
        refine D.ef 10 2047 ?_
        refine Z.st hS rfl AtF rfl rfl ?_
        clear hS; intro w hS
        refine ⟨HM.last (by kernel_rfl), ?_⟩
        refine D.done (by kernel_rfl) ?_
        refine Sh.cut [(3, _)] ?_
        exact ⟨g1, g2, g3, rfl, hS.sb⟩
      exact D.enil
    exact D.enil
  clear hS
  rintro f0 w _ ⟨g1, g2, g3, rfl, hS⟩
  replace hS := mk_zero (e := 186) (sz := 4) CS.cells ⟨0, 0, 0, 0⟩ hS (by unfold maxLen; omega) cs_ok4
  replace hS := hS.fo (R := .blk g1 _ _)
  replace hS := mk_zero (e := 183) (sz := 12) TS.cells TS.zero hS (by unfold maxLen; omega) ts_ok12
  repeat' (first|refine K ?_|(refine Sh.sa hS ?_;clear hS;intro w hS)|(refine K3 ?_;clear hS;intro g w hS hge)|(refine KB ?_ ?_<;>intro hb<;>(try simp only [JJ] at hb)<;>(try exact JX))|fail)
  refine Z.lpS [4, 18, 19, 20, 21, 22, 23, 24, 25, 26, 27] (fun m w z => ∃ (i : Nat) (ts : List TS), z = [(18, .int .i64 i)] ∧ ts.length = c.tenants.length ∧ (∀ j (hj : j < ts.length), j < i → ts[j] = TS.fresh) ∧ i ≤ c.tenants.length ∧ m = c.tenants.length - i ∧ Sep r [] (.sl 183 12 (.slice (some ⟨g1, 0, none⟩) c.tenants.length c.tenants.length) (ts.map TS.cells) :: .sl 186 4 (.slice (some ⟨g2, 0, none⟩) c.cells.length c.cells.length) ((List.replicate c.cells.length (⟨0, 0, 0, 0⟩ : CS)).map CS.cells) :: .blk g3 69 ((newS c).cc c ⟨some ⟨g1, 0, none⟩, c.tenants.length, some ⟨g2, 0, none⟩, c.cells.length⟩) :: .blk gr 69 (Sta.zero.cl SAd.zero) :: F) w) _ [(18, .int .i64 (0 : Nat))] TrF ⟨0, List.replicate c.tenants.length TS.zero, rfl, by simp, fun j _ h => absurd h (by omega), by omega, rfl, hS⟩ ?_
  clear hS
  rintro m f1 w _ ⟨i, ts, rfl, htl, hts, hi, rfl, hS⟩
  by_cases hlt : i < c.tenants.length
  · repeat' (first|refine K ?_|(refine Sh.sa hS ?_;clear hS;intro w hS)|(refine K3 ?_;clear hS;intro g w hS hge)|(refine KB ?_ ?_<;>intro hb<;>(try simp only [JJ] at hb)<;>(try exact JX))|fail)
    refine Z.eff (Z.stEm TS.fresh hS rfl AtF (by omega) rfl rfl rfl rfl ?_) rfl
    clear hS; intro w hS
    repeat' (first|refine K ?_|(refine Sh.sa hS ?_;clear hS;intro w hS)|(refine K3 ?_;clear hS;intro g w hS hge)|(refine KB ?_ ?_<;>intro hb<;>(try simp only [JJ] at hb)<;>(try exact JX))|fail)
    refine Sh.again (c.tenants.length - (i + 1)) [(18, .int .i64 (i + 1 : Nat))] ?_
    refine ⟨i + 1, ts.set i TS.fresh, rfl, by simp [htl], fun j hj hji => ?_, by omega, rfl, hS.sb⟩
    rw [List.getElem_set]
    split
    · rfl
    · exact hts j (by simpa using hj) (by omega)
  have hte : ts = List.replicate c.tenants.length TS.fresh := List.eq_replicate_iff.2 ⟨htl, fun x hx => by
    obtain ⟨j, hj, rfl⟩ := List.mem_iff_getElem.1 hx
    exact hts j hj (by omega)⟩
  subst hte
  repeat' (first|refine K ?_|(refine Sh.sa hS ?_;clear hS;intro w hS)|(refine K3 ?_;clear hS;intro g w hS hge)|(refine KB ?_ ?_<;>intro hb<;>(try simp only [JJ] at hb)<;>(try exact JX))|fail)
  clear hts htl
  refine Z.lpS [5, 31, 32, 33, 34, 35, 36, 37, 38, 39] (fun m w z => ∃ (i : Nat) (ks : List CS), z = [(31, .int .i64 i)] ∧ ks.length = c.cells.length ∧ (∀ j (hj : j < ks.length), ks[j] = if j < i then (⟨1, 0, 0, 0⟩ : CS) else ⟨0, 0, 0, 0⟩) ∧ i ≤ c.cells.length ∧ m = c.cells.length - i ∧ Sep r [] (.sl 186 4 (.slice (some ⟨g2, 0, none⟩) c.cells.length c.cells.length) (ks.map CS.cells) :: .sl 183 12 (.slice (some ⟨g1, 0, none⟩) c.tenants.length c.tenants.length) ((List.replicate c.tenants.length TS.fresh).map TS.cells) :: .blk g3 69 ((newS c).cc c ⟨some ⟨g1, 0, none⟩, c.tenants.length, some ⟨g2, 0, none⟩, c.cells.length⟩) :: .blk gr 69 (Sta.zero.cl SAd.zero) :: F) w) _ [(31, .int .i64 (0 : Nat))] TrF ⟨0, List.replicate c.cells.length ⟨0, 0, 0, 0⟩, rfl, by simp, fun j hj => by simp, by omega, rfl, hS.sb⟩ ?_
  clear hS
  rintro m f1 w _ ⟨i, ks, rfl, hkl, hks, hi, rfl, hS⟩
  by_cases hlt : i < c.cells.length
  · have hik : i < ks.length := by omega
    have hki := hks i hik
    rw [if_neg (by omega)] at hki
    repeat' (first|refine K ?_|(refine Sh.sa hS ?_;clear hS;intro w hS)|(refine K3 ?_;clear hS;intro g w hS hge)|(refine KB ?_ ?_<;>intro hb<;>(try simp only [JJ] at hb)<;>(try exact JX))|fail)
    refine Z.eff (Z.stF (j := 0) (fc := CS.cells) ⟨1, 0, 0, 0⟩ hS rfl AtF hik rfl rfl rfl (by omega) (by rw [hki]; rfl) ?_) rfl
    clear hS; intro w hS
    repeat' (first|refine K ?_|(refine Sh.sa hS ?_;clear hS;intro w hS)|(refine K3 ?_;clear hS;intro g w hS hge)|(refine KB ?_ ?_<;>intro hb<;>(try simp only [JJ] at hb)<;>(try exact JX))|fail)
    refine Sh.again (c.cells.length - (i + 1)) [(31, .int .i64 (i + 1 : Nat))] ?_
    refine ⟨i + 1, ks.set i ⟨1, 0, 0, 0⟩, rfl, by simp [hkl], fun j hj => ?_, by omega, rfl, hS.sb⟩
    rw [List.getElem_set]
    split
    · rw [if_pos (by omega)]
    · rw [hks j (by simpa using hj)]
      by_cases hji : j < i
      · rw [if_pos hji, if_pos (by omega)]
      · rw [if_neg hji, if_neg (by omega)]
  have hke : ks = List.replicate c.cells.length ⟨1, 0, 0, 0⟩ := List.eq_replicate_iff.2 ⟨hkl, fun x hx => by
    obtain ⟨j, hj, rfl⟩ := List.mem_iff_getElem.1 hx
    rw [hks j hj, if_pos (by omega)]⟩
  subst hke
  repeat' (first|refine K ?_|(refine Sh.sa hS ?_;clear hS;intro w hS)|(refine K3 ?_;clear hS;intro g w hS hge)|(refine KB ?_ ?_<;>intro hb<;>(try simp only [JJ] at hb)<;>(try exact JX))|fail)
  refine Dnc Tryz.results29 ?_
  exact ⟨⟨some ⟨g1, 0, none⟩, c.tenants.length, some ⟨g2, 0, none⟩, c.cells.length⟩, rfl, (Sep.all_open (Ls := [_, _])).2 (hS.sb)⟩
set_option maxHeartbeats 1000000 in
theorem znq_clone (l : List Int) (v : Value) (r : World) (F : List Res) (w : World) (hS : Sep r [] F w) (hrd : Reads r F 1 v (l.map ztC)) (hl : l.length ≤ 100000) :
    Calls Tryz.prog 123 #[v] w fun e w' => ∃ A c, e = .returned (.slice A l.length c) ∧ Sep r [] (.sl 166 1 (.slice A l.length c) (l.map ztC) :: F) w' := by
  obtain ⟨_, A, c, hv, hnil, hc, _⟩ := hrd [] w hS
  simp only [List.length_map] at hv hc
  subst hv
  cases A with
  | none =>
    have hl0 : l = [] := by have := hnil rfl; exact List.eq_nil_of_length_eq_zero (by omega)
    subst hl0
    refine Z.enter Tryz.func123 Tryz.ntmps123 rfl rfl ?_
    repeat' (first|refine K ?_|(refine Sh.sa hS ?_;clear hS;intro w hS)|(refine K3 ?_;clear hS;intro g w hS hge)|(refine KB ?_ ?_<;>intro hb<;>(try simp only [JJ] at hb)<;>(try exact JX))|fail)
    refine Dnt Tryz.results123 ?_
    exact ⟨none, 0, rfl, Z.nilsl hS _ _ none⟩
  | some a =>
    refine Z.enter Tryz.func123 Tryz.ntmps123 rfl rfl ?_
    repeat' (first|refine K ?_|(refine Sh.sa hS ?_;clear hS;intro w hS)|(refine K3 ?_;clear hS;intro g w hS hge)|(refine KB ?_ ?_<;>intro hb<;>(try simp only [JJ] at hb)<;>(try exact JX))|fail)
    refine Z.eff (Z.ap0m hS rfl rfl rfl (hrd [_] _ hS) LnF LnF ?_) rfl
    clear hS; intro A' c' w hS
    repeat' (first|refine K ?_|(refine Sh.sa hS ?_;clear hS;intro w hS)|(refine K3 ?_;clear hS;intro g w hS hge)|(refine KB ?_ ?_<;>intro hb<;>(try simp only [JJ] at hb)<;>(try exact JX))|fail)
    refine Dnt Tryz.results123 ?_
    exact ⟨_, _, rfl, hS.sb⟩
set_option maxHeartbeats 1000000 in
theorem clq_clone (l : List Cl) (v : Value) (r : World) (F : List Res) (w : World) (hS : Sep r [] F w) (hrd : Reads r F 2 v (l.map Cl.cells)) (hl : l.length ≤ 100000) :
    Calls Tryz.prog 124 #[v] w fun e w' => ∃ A c, e = .returned (.slice A l.length c) ∧ Sep r [] (.sl 168 2 (.slice A l.length c) (l.map Cl.cells) :: F) w' := by
  obtain ⟨_, A, c, hv, hnil, hc, _⟩ := hrd [] w hS
  simp only [List.length_map] at hv hc
  subst hv
  cases A with
  | none =>
    have hl0 : l = [] := by have := hnil rfl; exact List.eq_nil_of_length_eq_zero (by omega)
    subst hl0
    refine Z.enter Tryz.func124 Tryz.ntmps124 rfl rfl ?_
    repeat' (first|refine K ?_|(refine Sh.sa hS ?_;clear hS;intro w hS)|(refine K3 ?_;clear hS;intro g w hS hge)|(refine KB ?_ ?_<;>intro hb<;>(try simp only [JJ] at hb)<;>(try exact JX))|fail)
    refine Dnt Tryz.results124 ?_
    exact ⟨none, 0, rfl, Z.nilsl hS _ _ none⟩
  | some a =>
    refine Z.enter Tryz.func124 Tryz.ntmps124 rfl rfl ?_
    repeat' (first|refine K ?_|(refine Sh.sa hS ?_;clear hS;intro w hS)|(refine K3 ?_;clear hS;intro g w hS hge)|(refine KB ?_ ?_<;>intro hb<;>(try simp only [JJ] at hb)<;>(try exact JX))|fail)
    refine Z.eff (Z.ap0m hS rfl rfl rfl (hrd [_] _ hS) LnF LnF ?_) rfl
    clear hS; intro A' c' w hS
    repeat' (first|refine K ?_|(refine Sh.sa hS ?_;clear hS;intro w hS)|(refine K3 ?_;clear hS;intro g w hS hge)|(refine KB ?_ ?_<;>intro hb<;>(try simp only [JJ] at hb)<;>(try exact JX))|fail)
    refine Dnt Tryz.results124 ?_
    exact ⟨_, _, rfl, hS.sb⟩
set_option maxHeartbeats 1000000 in
theorem tnq_clone (l : List Tn) (v : Value) (r : World) (F : List Res) (w : World) (hS : Sep r [] F w) (hrd : Reads r F 7 v (l.map Tn.cells)) (hl : l.length ≤ 100000) :
    Calls Tryz.prog 125 #[v] w fun e w' => ∃ A c, e = .returned (.slice A l.length c) ∧ Sep r [] (.sl 170 7 (.slice A l.length c) (l.map Tn.cells) :: F) w' := by
  obtain ⟨_, A, c, hv, hnil, hc, _⟩ := hrd [] w hS
  simp only [List.length_map] at hv hc
  subst hv
  cases A with
  | none =>
    have hl0 : l = [] := by have := hnil rfl; exact List.eq_nil_of_length_eq_zero (by omega)
    subst hl0
    refine Z.enter Tryz.func125 Tryz.ntmps125 rfl rfl ?_
    repeat' (first|refine K ?_|(refine Sh.sa hS ?_;clear hS;intro w hS)|(refine K3 ?_;clear hS;intro g w hS hge)|(refine KB ?_ ?_<;>intro hb<;>(try simp only [JJ] at hb)<;>(try exact JX))|fail)
    refine Dnt Tryz.results125 ?_
    exact ⟨none, 0, rfl, Z.nilsl hS _ _ none⟩
  | some a =>
    refine Z.enter Tryz.func125 Tryz.ntmps125 rfl rfl ?_
    repeat' (first|refine K ?_|(refine Sh.sa hS ?_;clear hS;intro w hS)|(refine K3 ?_;clear hS;intro g w hS hge)|(refine KB ?_ ?_<;>intro hb<;>(try simp only [JJ] at hb)<;>(try exact JX))|fail)
    refine Z.eff (Z.ap0m hS rfl rfl rfl (hrd [_] _ hS) LnF LnF ?_) rfl
    clear hS; intro A' c' w hS
    repeat' (first|refine K ?_|(refine Sh.sa hS ?_;clear hS;intro w hS)|(refine K3 ?_;clear hS;intro g w hS hge)|(refine KB ?_ ?_<;>intro hb<;>(try simp only [JJ] at hb)<;>(try exact JX))|fail)
    refine Dnt Tryz.results125 ?_
    exact ⟨_, _, rfl, hS.sb⟩
set_option maxHeartbeats 1000000 in
theorem vsq_clone (l : List Vs) (v : Value) (r : World) (F : List Res) (w : World) (hS : Sep r [] F w) (hrd : Reads r F 2 v (l.map Vs.cells)) (hl : l.length ≤ 100000) :
    Calls Tryz.prog 126 #[v] w fun e w' => ∃ A c, e = .returned (.slice A l.length c) ∧ Sep r [] (.sl 172 2 (.slice A l.length c) (l.map Vs.cells) :: F) w' := by
  obtain ⟨_, A, c, hv, hnil, hc, _⟩ := hrd [] w hS
  simp only [List.length_map] at hv hc
  subst hv
  cases A with
  | none =>
    have hl0 : l = [] := by have := hnil rfl; exact List.eq_nil_of_length_eq_zero (by omega)
    subst hl0
    refine Z.enter Tryz.func126 Tryz.ntmps126 rfl rfl ?_
    repeat' (first|refine K ?_|(refine Sh.sa hS ?_;clear hS;intro w hS)|(refine K3 ?_;clear hS;intro g w hS hge)|(refine KB ?_ ?_<;>intro hb<;>(try simp only [JJ] at hb)<;>(try exact JX))|fail)
    refine Dnt Tryz.results126 ?_
    exact ⟨none, 0, rfl, Z.nilsl hS _ _ none⟩
  | some a =>
    refine Z.enter Tryz.func126 Tryz.ntmps126 rfl rfl ?_
    repeat' (first|refine K ?_|(refine Sh.sa hS ?_;clear hS;intro w hS)|(refine K3 ?_;clear hS;intro g w hS hge)|(refine KB ?_ ?_<;>intro hb<;>(try simp only [JJ] at hb)<;>(try exact JX))|fail)
    refine Z.eff (Z.ap0m hS rfl rfl rfl (hrd [_] _ hS) LnF LnF ?_) rfl
    clear hS; intro A' c' w hS
    repeat' (first|refine K ?_|(refine Sh.sa hS ?_;clear hS;intro w hS)|(refine K3 ?_;clear hS;intro g w hS hge)|(refine KB ?_ ?_<;>intro hb<;>(try simp only [JJ] at hb)<;>(try exact JX))|fail)
    refine Dnt Tryz.results126 ?_
    exact ⟨_, _, rfl, hS.sb⟩
set_option maxHeartbeats 1000000 in
theorem inq_clone (l : List Int) (v : Value) (r : World) (F : List Res) (w : World) (hS : Sep r [] F w) (hrd : Reads r F 1 v (l.map ztC)) (hl : l.length ≤ 100000) :
    Calls Tryz.prog 71 #[v] w fun e w' => ∃ A c, e = .returned (.slice A l.length c) ∧ Sep r [] (.sl 3 1 (.slice A l.length c) (l.map ztC) :: F) w' := by
  obtain ⟨_, A, c, hv, hnil, hc, _⟩ := hrd [] w hS
  simp only [List.length_map] at hv hc
  subst hv
  cases A with
  | none =>
    have hl0 : l = [] := by have := hnil rfl; exact List.eq_nil_of_length_eq_zero (by omega)
    subst hl0
    refine Z.enter Tryz.func71 Tryz.ntmps71 rfl rfl ?_
    repeat' (first|refine K ?_|(refine Sh.sa hS ?_;clear hS;intro w hS)|(refine K3 ?_;clear hS;intro g w hS hge)|(refine KB ?_ ?_<;>intro hb<;>(try simp only [JJ] at hb)<;>(try exact JX))|fail)
    refine Dnt Tryz.results71 ?_
    exact ⟨none, 0, rfl, Z.nilsl hS _ _ none⟩
  | some a =>
    refine Z.enter Tryz.func71 Tryz.ntmps71 rfl rfl ?_
    repeat' (first|refine K ?_|(refine Sh.sa hS ?_;clear hS;intro w hS)|(refine K3 ?_;clear hS;intro g w hS hge)|(refine KB ?_ ?_<;>intro hb<;>(try simp only [JJ] at hb)<;>(try exact JX))|fail)
    refine Z.eff (Z.ap0m hS rfl rfl rfl (hrd [_] _ hS) LnF LnF ?_) rfl
    clear hS; intro A' c' w hS
    repeat' (first|refine K ?_|(refine Sh.sa hS ?_;clear hS;intro w hS)|(refine K3 ?_;clear hS;intro g w hS hge)|(refine KB ?_ ?_<;>intro hb<;>(try simp only [JJ] at hb)<;>(try exact JX))|fail)
    refine Dnt Tryz.results71 ?_
    exact ⟨_, _, rfl, hS.sb⟩
def CfO (c : Cfg) (a : CAd) : Res := .all [.sl 166 1 (.slice a.zA c.zones.length a.zc) (c.zones.map ztC), .sl 168 2 (.slice a.kA c.cells.length a.kc) (c.cells.map Cl.cells), .sl 170 7 (.slice a.tA c.tenants.length a.tc) (c.tenants.map Tn.cells), .sl 172 2 (.slice a.vA c.versions.length a.vc) (c.versions.map Vs.cells), .sl 3 1 (.slice a.rA c.replicas.length a.rc) (c.replicas.map ztC), .sl 3 1 (.slice a.oA c.observers.length a.oc) (c.observers.map ztC)]
theorem at_left {L k : List Res} {R : Res} (h : At L k R) (F : List Res) : At (L ++ F) (k ++ F) R := by
  induction h with
  | here => exact .here
  | next _ ih => exact .next ih
theorem Reads.of_all {r : World} {F k : List Res} {Ls : List Res} {e sz : Nat} {v : Value} {rows : List (List Value)} (h : At F k (.all Ls)) {k2 : List Res} (h2 : At Ls k2 (.sl e sz v rows)) : Reads r F sz v rows :=
  fun L _ hW => (Sep.all_open.1 (hW.focus (at_app L h))).slrows (at_left h2 _)
theorem CfA.of_co {r : World} {F k : List Res} {c : Cfg} {a : CAd} (h : At F k (CfO c a)) : CfA r F c a :=
  ⟨⟨Reads.of_all h .here, Reads.of_all h (.next .here), Reads.of_all h (.next (.next .here)), Reads.of_all h (.next (.next (.next .here)))⟩, Reads.of_all h (.next (.next (.next (.next .here)))), Reads.of_all h (.next (.next (.next (.next (.next .here)))))⟩
set_option maxHeartbeats 4000000 in
theorem plcloned_z (c : Cfg) (a : CAd) (r : World) (F : List Res) (w : World) (hS : Sep r [] F w) (hr : CfA r F c a) (hv : CfgV c) :
    Calls Tryz.prog 62 #[c.val a] w fun e w' => ∃ a', e = .returned (c.val a') ∧ Sep r [] (CfO c a' :: F) w' := by
  have h1 := hv.ok.z
  have h2 := hv.ok.k
  have h3 := hv.ok.t
  have h4 := hv.ok.v
  have h5 := hv.rl
  have h6 := hv.ol
  refine Z.enter Tryz.func62 Tryz.ntmps62 rfl rfl ?_
  repeat' (first|refine K ?_|(refine Sh.sa hS ?_;clear hS;intro w hS)|(refine K3 ?_;clear hS;intro g w hS hge)|(refine KB ?_ ?_<;>intro hb<;>(try simp only [JJ] at hb)<;>(try exact JX))|fail)
  refine Z.eff (Z.cl (znq_clone c.zones _ _ _ _ hS (hr.cf.z.app [_, _]) (by omega)) rfl ?_) rfl
  clear hS
  rintro e w ⟨zA, zc, rfl, hS⟩
  refine ⟨_, rfl, ?_⟩
  repeat' (first|refine K ?_|(refine Sh.sa hS ?_;clear hS;intro w hS)|(refine K3 ?_;clear hS;intro g w hS hge)|(refine KB ?_ ?_<;>intro hb<;>(try simp only [JJ] at hb)<;>(try exact JX))|fail)
  refine Z.eff (Z.cl (clq_clone c.cells _ _ _ _ hS (hr.cf.k.app [_, _, _]) (by omega)) rfl ?_) rfl
  clear hS
  rintro e w ⟨kA, kc, rfl, hS⟩
  refine ⟨_, rfl, ?_⟩
  repeat' (first|refine K ?_|(refine Sh.sa hS ?_;clear hS;intro w hS)|(refine K3 ?_;clear hS;intro g w hS hge)|(refine KB ?_ ?_<;>intro hb<;>(try simp only [JJ] at hb)<;>(try exact JX))|fail)
  refine Z.eff (Z.cl (tnq_clone c.tenants _ _ _ _ hS (hr.cf.t.app [_, _, _, _]) (by omega)) rfl ?_) rfl
  clear hS
  rintro e w ⟨tA, tc, rfl, hS⟩
  refine ⟨_, rfl, ?_⟩
  repeat' (first|refine K ?_|(refine Sh.sa hS ?_;clear hS;intro w hS)|(refine K3 ?_;clear hS;intro g w hS hge)|(refine KB ?_ ?_<;>intro hb<;>(try simp only [JJ] at hb)<;>(try exact JX))|fail)
  refine Z.eff (Z.cl (vsq_clone c.versions _ _ _ _ hS (hr.cf.v.app [_, _, _, _, _]) (by omega)) rfl ?_) rfl
  clear hS
  rintro e w ⟨vA, vc, rfl, hS⟩
  refine ⟨_, rfl, ?_⟩
  repeat' (first|refine K ?_|(refine Sh.sa hS ?_;clear hS;intro w hS)|(refine K3 ?_;clear hS;intro g w hS hge)|(refine KB ?_ ?_<;>intro hb<;>(try simp only [JJ] at hb)<;>(try exact JX))|fail)
  refine Z.eff (Z.cl (inq_clone c.replicas _ _ _ _ hS (hr.rp.app [_, _, _, _, _, _]) (by omega)) rfl ?_) rfl
  clear hS
  rintro e w ⟨rA, rc, rfl, hS⟩
  refine ⟨_, rfl, ?_⟩
  repeat' (first|refine K ?_|(refine Sh.sa hS ?_;clear hS;intro w hS)|(refine K3 ?_;clear hS;intro g w hS hge)|(refine KB ?_ ?_<;>intro hb<;>(try simp only [JJ] at hb)<;>(try exact JX))|fail)
  refine Z.eff (Z.cl (inq_clone c.observers _ _ _ _ hS (hr.ob.app [_, _, _, _, _, _, _]) (by omega)) rfl ?_) rfl
  clear hS
  rintro e w ⟨oA, oc, rfl, hS⟩
  refine ⟨_, rfl, ?_⟩
  repeat' (first|refine K ?_|(refine Sh.sa hS ?_;clear hS;intro w hS)|(refine K3 ?_;clear hS;intro g w hS hge)|(refine KB ?_ ?_<;>intro hb<;>(try simp only [JJ] at hb)<;>(try exact JX))|fail)
  refine Dnc Tryz.results62 ?_
  exact ⟨⟨zA, zc, kA, kc, tA, tc, vA, vc, rA, rc, oA, oc⟩, rfl, (Sep.all_open (Ls := [_, _, _, _, _, _])).2 (hS.sb)⟩
end Go.Proofs.YtfmnjbhncnldmaaGreat
