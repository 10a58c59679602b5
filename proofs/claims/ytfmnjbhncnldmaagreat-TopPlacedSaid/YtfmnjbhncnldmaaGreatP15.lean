import Derived.Test.YtfmnjbhncnldmaaGreatP08
import Derived.Test.YtfmnjbhncnldmaaGreatP10
import Derived.Test.YtfmnjbhncnldmaaGreatP14
set_option linter.unusedSimpArgs false
set_option linter.unusedVariables false
namespace Go.Proofs.YtfmnjbhncnldmaaGreat
open Go.RowKit
attribute [local irreducible] Res.blk Res.sl Res.all Res.ex Res.pure Res.star
structure Lg where
  term : Int
  e : En
def Lg.cells (x : Lg) : List Value := .int .i64 x.term :: x.e.cells
def DK (gd n : Nat) : Res := .ex fun p : List Int × Option Addr × Nat × Int => .all [.pure (p.1.length ≤ n), .blk gd 443 [.slice p.2.1 p.1.length p.2.2.1, .int .i64 p.2.2.2], .sl 5 1 (.slice p.2.1 p.1.length p.2.2.1) (p.1.map byC)]
section
variable {r w : World} {M : List Nat} {F : List Res} {gd gj n : Nat} {term vote : Int} {log : List Lg}
theorem DK.of (b : List Int) (A : Option Addr) (c : Nat) (d : Int) (hb : b.length ≤ n) (h : Sep r M (.blk gd 443 [.slice A b.length c, .int .i64 d] :: .sl 5 1 (.slice A b.length c) (b.map byC) :: F) w) : Sep r M (DK gd n :: F) w := by
  simp only [DK, Sep.ex_open, Sep.all_open, Sep.pure_open, List.cons_append, List.nil_append]
  exact ⟨(b, A, c, d), hb, h⟩
theorem DK.op (h : Sep r M (DK gd n :: F) w) : ∃ (b : List Int) (A : Option Addr) (c : Nat) (d : Int), b.length ≤ n ∧ Sep r M (.blk gd 443 [.slice A b.length c, .int .i64 d] :: .sl 5 1 (.slice A b.length c) (b.map byC) :: F) w := by
  simp only [DK, Sep.ex_open, Sep.all_open, Sep.pure_open, List.cons_append, List.nil_append] at h
  obtain ⟨⟨b, A, c, d⟩, h1, h2⟩ := h
  exact ⟨b, A, c, d, h1, h2⟩
theorem DK.le {m : Nat} (h : Sep r M (DK gd n :: F) w) (hm : n ≤ m) : Sep r M (DK gd m :: F) w := by
  obtain ⟨b, A, c, d, h1, h2⟩ := DK.op h
  exact DK.of b A c d (by omega) h2
def JN (gj : Nat) (term vote : Int) (log : List Lg) (n : Nat) : Res := .ex fun q : Nat × Option Addr × Nat => .all [.blk gj 390 [.pointer (some ⟨q.1, 0, none⟩), .int .i64 term, .int .i64 vote, .slice q.2.1 log.length q.2.2], .sl 345 10 (.slice q.2.1 log.length q.2.2) (log.map Lg.cells), DK q.1 n]
theorem JN.of (gd : Nat) (A : Option Addr) (c : Nat) (h : Sep r M (.blk gj 390 [.pointer (some ⟨gd, 0, none⟩), .int .i64 term, .int .i64 vote, .slice A log.length c] :: .sl 345 10 (.slice A log.length c) (log.map Lg.cells) :: DK gd n :: F) w) : Sep r M (JN gj term vote log n :: F) w := by
  simp only [JN, Sep.ex_open, Sep.all_open, List.cons_append, List.nil_append]
  exact ⟨(gd, A, c), h⟩
theorem JN.op (h : Sep r M (JN gj term vote log n :: F) w) : ∃ (gd : Nat) (A : Option Addr) (c : Nat), Sep r M (.blk gj 390 [.pointer (some ⟨gd, 0, none⟩), .int .i64 term, .int .i64 vote, .slice A log.length c] :: .sl 345 10 (.slice A log.length c) (log.map Lg.cells) :: DK gd n :: F) w := by
  simp only [JN, Sep.ex_open, Sep.all_open, List.cons_append, List.nil_append] at h
  obtain ⟨⟨gd, A, c⟩, h⟩ := h
  exact ⟨gd, A, c, h⟩
theorem JN.le {m : Nat} (h : Sep r M (JN gj term vote log n :: F) w) (hm : n ≤ m) : Sep r M (JN gj term vote log m :: F) w := by
  obtain ⟨gd, A, c, h⟩ := JN.op h
  have h2 := DK.le (h.focus (.next (.next .here))) hm
  exact JN.of gd A c (h2.sub (.cons (.next .here) (.cons (.next .here) .rest)))
end
theorem dnew_z (r : World) (F : List Res) (w : World) (hS : Sep r [] F w) :
    Calls Tryz.prog 285 #[] w fun e w' => ∃ g, e = .returned (.pointer (some ⟨g, 0, none⟩)) ∧ Sep r [] (DK g 0 :: F) w' := by
  refine Z.enter Tryz.func285 Tryz.ntmps285 rfl rfl ?_
  repeat' (first|refine K ?_|(refine Sh.sa hS ?_;clear hS;intro w hS)|(refine K3 ?_;clear hS;intro g w hS hge)|(refine KB ?_ ?_<;>intro hb<;>(try simp only [JJ] at hb)<;>(try exact JX))|fail)
  rename Nat => g
  replace hS := Z.nilsl hS 5 1 none
  refine Dnt Tryz.results285 ?_
  exact ⟨g, rfl, DK.of [] none 0 0 (Nat.le_refl _) (hS.sb)⟩
theorem jnew_z (r : World) (F : List Res) (w : World) (hS : Sep r [] F w) :
    Calls Tryz.prog 215 #[] w fun e w' => ∃ g, e = .returned (.pointer (some ⟨g, 0, none⟩)) ∧ Sep r [] (JN g 0 (-1) [] 0 :: F) w' := by
  refine Z.enter Tryz.func215 Tryz.ntmps215 rfl rfl ?_
  repeat' (first|refine K ?_|(refine Sh.sa hS ?_;clear hS;intro w hS)|(refine K3 ?_;clear hS;intro g w hS hge)|(refine KB ?_ ?_<;>intro hb<;>(try simp only [JJ] at hb)<;>(try exact JX))|fail)
  refine Z.eff (Z.cl (dnew_z _ _ _ hS) rfl ?_) rfl
  clear hS
  rintro e w ⟨gd, rfl, hS⟩
  refine ⟨_, rfl, ?_⟩
  repeat' (first|refine K ?_|(refine Sh.sa hS ?_;clear hS;intro w hS)|(refine K3 ?_;clear hS;intro g w hS hge)|(refine KB ?_ ?_<;>intro hb<;>(try simp only [JJ] at hb)<;>(try exact JX))|fail)
  rename Nat => g
  replace hS := Z.nilsl hS 345 10 none
  refine Dnt Tryz.results215 ?_
  exact ⟨g, rfl, JN.of gd none 0 (hS.sb)⟩
theorem dsync_z (gd n : Nat) (r : World) (F : List Res) (w : World) (hS : Sep r [] (DK gd n :: F) w) :
    Calls Tryz.prog 366 #[.pointer (some ⟨gd, 0, none⟩)] w fun e w' => e = .returned (.tuple #[]) ∧ Sep r [] (DK gd n :: F) w' := by
  obtain ⟨b, A, c, d, hb0, hS⟩ := DK.op hS
  refine Z.enter Tryz.func366 Tryz.ntmps366 rfl rfl ?_
  repeat' (first|refine K ?_|(refine Sh.sa hS ?_;clear hS;intro w hS)|(refine K3 ?_;clear hS;intro g w hS hge)|(refine KB ?_ ?_<;>intro hb<;>(try simp only [JJ] at hb)<;>(try exact JX))|fail)
  refine Dn Tryz.results366 ?_
  exact ⟨rfl, DK.of b A c _ hb0 hS⟩
theorem dapp_z (gd n : Nat) (l : List Int) (v : Value) (r : World) (F : List Res) (w : World) (hS : Sep r [] (DK gd n :: F) w) (hrd : Reads r F 1 v (l.map byC)) (hl : l.length ≤ 1000000) (hn : n ≤ 1000000000) :
    Calls Tryz.prog 404 #[.pointer (some ⟨gd, 0, none⟩), v] w fun e w' => e = .returned (.tuple #[]) ∧ Sep r [] (DK gd (n + l.length) :: F) w' := by
  obtain ⟨b, A, c, d, hb0, hS⟩ := DK.op hS
  obtain ⟨A0, c0, rfl, _⟩ := (hrd [_, _] w hS).mform
  refine Z.enter Tryz.func404 Tryz.ntmps404 rfl rfl ?_
  repeat' (first|refine K ?_|(refine Sh.sa hS ?_;clear hS;intro w hS)|(refine K3 ?_;clear hS;intro g w hS hge)|(refine KB ?_ ?_<;>intro hb<;>(try simp only [JJ] at hb)<;>(try exact JX))|fail)
  refine Z.eff (Z.apm (l' := l) hS rfl rfl rfl AtF (hrd [_, _] _ hS) LnF LnF ?_) rfl
  clear hS; intro A2 c2 w hS
  rw [← List.length_append] at hS ⊢
  repeat' (first|refine K ?_|(refine Sh.sa hS ?_;clear hS;intro w hS)|(refine K3 ?_;clear hS;intro g w hS hge)|(refine KB ?_ ?_<;>intro hb<;>(try simp only [JJ] at hb)<;>(try exact JX))|fail)
  refine Dn Tryz.results404 ?_
  exact ⟨rfl, DK.of (b ++ l) A2 c2 d (by simp; omega) (hS.sb)⟩
theorem jsync_z (gj n : Nat) (t v : Int) (log : List Lg) (r : World) (F : List Res) (w : World) (hS : Sep r [] (JN gj t v log n :: F) w) :
    Calls Tryz.prog 301 #[.pointer (some ⟨gj, 0, none⟩)] w fun e w' => e = .returned (.tuple #[]) ∧ Sep r [] (JN gj t v log n :: F) w' := by
  obtain ⟨gd, A, c, hS⟩ := JN.op hS
  refine Z.enter Tryz.func301 Tryz.ntmps301 rfl rfl ?_
  repeat' (first|refine K ?_|(refine Sh.sa hS ?_;clear hS;intro w hS)|(refine K3 ?_;clear hS;intro g w hS hge)|(refine KB ?_ ?_<;>intro hb<;>(try simp only [JJ] at hb)<;>(try exact JX))|fail)
  refine Z.eff (Z.cl (dsync_z gd n _ _ _ (hS.fo (R := DK gd n))) rfl ?_) rfl
  clear hS
  rintro e w ⟨rfl, hS⟩
  refine ⟨_, rfl, ?_⟩
  repeat' (first|refine K ?_|(refine Sh.sa hS ?_;clear hS;intro w hS)|(refine K3 ?_;clear hS;intro g w hS hge)|(refine KB ?_ ?_<;>intro hb<;>(try simp only [JJ] at hb)<;>(try exact JX))|fail)
  refine Dn Tryz.results301 ?_
  exact ⟨rfl, JN.of gd A c (hS.sb)⟩
theorem jterm_z (gj n : Nat) (t v : Int) (log : List Lg) (r : World) (F : List Res) (w : World) (hS : Sep r [] (JN gj t v log n :: F) w) :
    Calls Tryz.prog 291 #[.pointer (some ⟨gj, 0, none⟩)] w fun e w' => e = .returned (.int .i64 t) ∧ Sep r [] (JN gj t v log n :: F) w' := by
  obtain ⟨gd, A, c, hS⟩ := JN.op hS
  refine Z.enter Tryz.func291 Tryz.ntmps291 rfl rfl ?_
  repeat' (first|refine K ?_|(refine Sh.sa hS ?_;clear hS;intro w hS)|(refine K3 ?_;clear hS;intro g w hS hge)|(refine KB ?_ ?_<;>intro hb<;>(try simp only [JJ] at hb)<;>(try exact JX))|fail)
  refine Dnt Tryz.results291 ?_
  exact ⟨rfl, JN.of gd A c hS⟩
theorem jlen_z (gj n : Nat) (t v : Int) (log : List Lg) (r : World) (F : List Res) (w : World) (hS : Sep r [] (JN gj t v log n :: F) w) :
    Calls Tryz.prog 360 #[.pointer (some ⟨gj, 0, none⟩)] w fun e w' => e = .returned (.int .i64 (log.length : Nat)) ∧ Sep r [] (JN gj t v log n :: F) w' := by
  obtain ⟨gd, A, c, hS⟩ := JN.op hS
  refine Z.enter Tryz.func360 Tryz.ntmps360 rfl rfl ?_
  repeat' (first|refine K ?_|(refine Sh.sa hS ?_;clear hS;intro w hS)|(refine K3 ?_;clear hS;intro g w hS hge)|(refine KB ?_ ?_<;>intro hb<;>(try simp only [JJ] at hb)<;>(try exact JX))|fail)
  refine Dnt Tryz.results360 ?_
  exact ⟨rfl, JN.of gd A c hS⟩
def lg0 : Lg := ⟨0, ⟨0, 0, 0, 0, 0, 0, 0, 0, 0⟩⟩
def lgAt (log : List Lg) (i : Int) : Lg := if 0 ≤ i ∧ i < log.length then log.getD i.toNat lg0 else lg0
def Lg.val (x : Lg) : Value := .agg x.cells.toArray
set_option maxHeartbeats 1000000 in
theorem jat_z (gj n : Nat) (t v : Int) (log : List Lg) (i : Int) (r : World) (F : List Res) (w : World) (hS : Sep r [] (JN gj t v log n :: F) w) :
    Calls Tryz.prog 403 #[.pointer (some ⟨gj, 0, none⟩), .int .i64 i] w fun e w' => e = .returned (.tuple #[(lgAt log i).val, .bool (decide (0 ≤ i ∧ i < log.length))]) ∧ Sep r [] (JN gj t v log n :: F) w' := by
  obtain ⟨gd, A, c, hS⟩ := JN.op hS
  by_cases h : 0 ≤ i ∧ i < log.length
  · have hk : i.toNat < log.length := by omega
    have e0 : lgAt log i = log[i.toNat] := by unfold lgAt; rw [if_pos h]; simp [List.getD_eq_getElem?_getD, hk]
    obtain ⟨g, rfl⟩ := Z.Sep_slform hS (rows := log.map Lg.cells) (.next .here) (by simpa using (by omega : 0 < log.length))
    have hra : ∀ X L, Sep r [] (L ++ (.blk gj 390 [.pointer (some ⟨gd, 0, none⟩), .int .i64 t, .int .i64 v, .slice (some ⟨g, 0, none⟩) log.length c] :: .sl 345 10 (.slice (some ⟨g, 0, none⟩) log.length c) (log.map Lg.cells) :: DK gd n :: F)) X → X.rangeAt g (0 + i.toNat * 10) (lgAt log i).cells := fun X L hX => by
      have h3 := (hX.slrows (at_app L (.next .here))).elem (q := i.toNat) (by omega) hk
      rw [e0]
      simpa using h3
    rw [decide_eq_true h]
    refine Z.enter Tryz.func403 Tryz.ntmps403 rfl rfl ?_
    repeat' (first|refine K ?_|(refine Sh.sa hS ?_;clear hS;intro w hS)|(refine K3 ?_;clear hS;intro g w hS hge)|(refine KB ?_ ?_<;>intro hb<;>(try simp only [JJ] at hb)<;>(try exact JX))|fail)
    rename Nat => g4
    have hw := hra _ [_] hS
    repeat' (first|refine K ?_|(refine Sh.sa hS ?_;clear hS;intro w hS)|(refine K3 ?_;clear hS;intro g w hS hge)|(refine KB ?_ ?_<;>intro hb<;>(try simp only [JJ] at hb)<;>(try exact JX))|fail)
    first | refine Z.done hS Tryz.results403 (Z.RV.cell rfl AtF rfl (Z.RV.tmp rfl Z.RV.nil)) ?_ | refine Z.doneN hS Tryz.results403 (Z.RV.cell rfl AtF rfl (Z.RV.tmp rfl Z.RV.nil)) ?_
    exact ⟨rfl, JN.of gd _ c (hS.sb)⟩
  · have e0 : lgAt log i = lg0 := by unfold lgAt; rw [if_neg h]
    rw [e0, decide_eq_false h]
    refine Z.enter Tryz.func403 Tryz.ntmps403 rfl rfl ?_
    repeat' (first|refine K ?_|(refine Sh.sa hS ?_;clear hS;intro w hS)|(refine K3 ?_;clear hS;intro g w hS hge)|(refine KB ?_ ?_<;>intro hb<;>(try simp only [JJ] at hb)<;>(try exact JX))|fail)
    all_goals
      first | refine Z.done hS Tryz.results403 (Z.RV.cell rfl AtF rfl (Z.RV.tmp rfl Z.RV.nil)) ?_ | refine Z.doneN hS Tryz.results403 (Z.RV.cell rfl AtF rfl (Z.RV.tmp rfl Z.RV.nil)) ?_
      exact ⟨rfl, JN.of gd _ c (hS.sb)⟩
theorem jtat_z (gj n : Nat) (t v : Int) (log : List Lg) (i : Int) (r : World) (F : List Res) (w : World) (hS : Sep r [] (JN gj t v log n :: F) w) :
    Calls Tryz.prog 361 #[.pointer (some ⟨gj, 0, none⟩), .int .i64 i] w fun e w' => e = .returned (.int .i64 (lgAt log i).term) ∧ Sep r [] (JN gj t v log n :: F) w' := by
  refine Z.enter Tryz.func361 Tryz.ntmps361 rfl rfl ?_
  repeat' (first|refine K ?_|(refine Sh.sa hS ?_;clear hS;intro w hS)|(refine K3 ?_;clear hS;intro g w hS hge)|(refine KB ?_ ?_<;>intro hb<;>(try simp only [JJ] at hb)<;>(try exact JX))|fail)
  refine Z.eff (Z.cl (jat_z gj n t v log i _ _ _ hS) rfl ?_) rfl
  clear hS
  rintro e w ⟨rfl, hS⟩
  refine ⟨_, rfl, ?_⟩
  repeat' (first|refine K ?_|(refine Sh.sa hS ?_;clear hS;intro w hS)|(refine K3 ?_;clear hS;intro g w hS hge)|(refine KB ?_ ?_<;>intro hb<;>(try simp only [JJ] at hb)<;>(try exact JX))|fail)
  refine Dnt Tryz.results361 ?_
  exact ⟨rfl, hS.sb⟩
def stE (t v t' v' : Int) : Int := if t' < 0 ∨ 1073741824 < t' ∨ v' < -1 ∨ 5 ≤ v' then 1 else if t' < t ∨ (t' = t ∧ v ≠ -1 ∧ v ≠ v') then 20 else 0
set_option maxHeartbeats 1000000 in
theorem jset_z (gj n : Nat) (t v : Int) (log : List Lg) (t' v' : Int) (r : World) (F : List Res) (w : World) (hS : Sep r [] (JN gj t v log n :: F) w) :
    Calls Tryz.prog 402 #[.pointer (some ⟨gj, 0, none⟩), .int .i64 t', .int .i64 v'] w fun e w' => e = .returned (.int .i64 (stE t v t' v')) ∧ Sep r [] (JN gj (if stE t v t' v' = 0 then t' else t) (if stE t v t' v' = 0 then v' else v) log n :: F) w' := by
  obtain ⟨gd, A, c, hS⟩ := JN.op hS
  by_cases h1 : t' < 0 ∨ 1073741824 < t' ∨ v' < -1 ∨ 5 ≤ v'
  · have e0 : stE t v t' v' = 1 := by unfold stE; rw [if_pos h1]
    rw [e0, if_neg (by decide), if_neg (by decide)]
    refine Z.enter Tryz.func402 Tryz.ntmps402 rfl rfl ?_
    repeat' (first|refine K ?_|(refine Sh.sa hS ?_;clear hS;intro w hS)|(refine K3 ?_;clear hS;intro g w hS hge)|(refine KB ?_ ?_<;>intro hb<;>(try simp only [JJ] at hb)<;>(try exact JX))|fail)
    all_goals
      refine Dnt Tryz.results402 ?_
      exact ⟨rfl, JN.of gd _ c (hS.sb)⟩
  · by_cases h2 : t' < t ∨ (t' = t ∧ v ≠ -1 ∧ v ≠ v')
    · have e0 : stE t v t' v' = 20 := by unfold stE; rw [if_neg h1, if_pos h2]
      rw [e0, if_neg (by decide), if_neg (by decide)]
      refine Z.enter Tryz.func402 Tryz.ntmps402 rfl rfl ?_
      repeat' (first|refine K ?_|(refine Sh.sa hS ?_;clear hS;intro w hS)|(refine K3 ?_;clear hS;intro g w hS hge)|(refine KB ?_ ?_<;>intro hb<;>(try simp only [JJ] at hb)<;>(try exact JX))|fail)
      all_goals
        refine Dnt Tryz.results402 ?_
        exact ⟨rfl, JN.of gd _ c (hS.sb)⟩
    · have e0 : stE t v t' v' = 0 := by unfold stE; rw [if_neg h1, if_neg h2]
      rw [e0, if_pos rfl, if_pos rfl]
      refine Z.enter Tryz.func402 Tryz.ntmps402 rfl rfl ?_
      repeat' (first|refine K ?_|(refine Sh.sa hS ?_;clear hS;intro w hS)|(refine K3 ?_;clear hS;intro g w hS hge)|(refine KB ?_ ?_<;>intro hb<;>(try simp only [JJ] at hb)<;>(try exact JX))|fail)
      all_goals
        refine Dnt Tryz.results402 ?_
        exact ⟨rfl, JN.of gd _ c (hS.sb)⟩
set_option maxHeartbeats 1000000 in
theorem jints_z (l : List Int) (A : Option Addr) (cap : Nat) (r : World) (F : List Res) (w : World) (hS : Sep r [] F w) (hrd : Reads r F 1 (.slice A l.length cap) (l.map ztC)) (hl : l.length ≤ 100) (hi : ∀ x, x ∈ l → i64ok x) :
    Calls Tryz.prog 364 #[.slice A l.length cap] w fun e w' => ∃ (o : List Int) (A2 : Option Addr) (c2 : Nat), e = .returned (.slice A2 o.length c2) ∧ (bOk o ∧ o.length ≤ 10 * l.length) ∧ Sep r [] (.sl 5 1 (.slice A2 o.length c2) (o.map byC) :: F) w' := by
  refine Z.enter Tryz.func364 Tryz.ntmps364 rfl rfl ?_
  repeat' (first|refine K ?_|(refine Sh.sa hS ?_;clear hS;intro w hS)|(refine K3 ?_;clear hS;intro g w hS hge)|(refine KB ?_ ?_<;>intro hb<;>(try simp only [JJ] at hb)<;>(try exact JX))|fail)
  replace hS := Z.nilsl hS 5 1 none
  refine Z.lpS [3, 5, 8, 9, 10, 11, 12, 13, 14, 15] (fun m w z => ∃ (i : Nat) (o : List Int) (A2 : Option Addr) (c2 : Nat), z = [(3, .slice A2 o.length c2), (8, .int .i64 i)] ∧ i ≤ l.length ∧ bOk o ∧ o.length ≤ 10 * i ∧ m = l.length - i ∧ Sep r [] (.sl 5 1 (.slice A2 o.length c2) (o.map byC) :: F) w) _ [(3, .slice none 0 0), (8, .int .i64 (0 : Nat))] TrF ⟨0, [], none, 0, rfl, by omega, bOk.nil, by simp, rfl, hS⟩ ?_
  clear hS
  rintro m f0 w _ ⟨i, o, A2, c2, rfl, hi0, hob, hol, rfl, hS⟩
  by_cases hlt : i < l.length
  · obtain ⟨gb, ob, hAe, _, hra⟩ := (hrd [_] w hS).mat (by omega) (q := i) (by simpa using hlt)
    subst hAe
    have hx := hi _ (List.getElem_mem hlt)
    have hra2 : w.rangeAt gb (ob + i * 1) (ztC l[i]) := by simpa using hra
    clear hra
    generalize l[i] = x at *
    repeat' (first|refine K ?_|(refine Sh.sa hS ?_;clear hS;intro w hS)|(refine K3 ?_;clear hS;intro g w hS hge)|(refine KB ?_ ?_<;>intro hb<;>(try simp only [JJ] at hb)<;>(try exact JX))|fail)
    clear hra2
    refine Z.eff (Z.cl (wint_z o (.slice A2 o.length c2) x hx _ _ _ hS (Reads.of_at (e := 5) (v := .slice A2 o.length c2) AtF) (by omega)) rfl ?_) rfl
    clear hS
    rintro e w ⟨A3, c3, rfl, hS⟩
    refine ⟨_, rfl, ?_⟩
    have hpl := putL_len hx
    repeat' (first|refine K ?_|(refine Sh.sa hS ?_;clear hS;intro w hS)|(refine K3 ?_;clear hS;intro g w hS hge)|(refine KB ?_ ?_<;>intro hb<;>(try simp only [JJ] at hb)<;>(try exact JX))|fail)
    refine Sh.again (l.length - (i + 1)) [(3, _), (8, .int .i64 (i + 1 : Nat))] ?_
    exact ⟨i + 1, o ++ putL x, A3, c3, rfl, by omega, hob.app (putL_ok x), by simp; omega, rfl, hS.sb⟩
  · repeat' (first|refine K ?_|(refine Sh.sa hS ?_;clear hS;intro w hS)|(refine K3 ?_;clear hS;intro g w hS hge)|(refine KB ?_ ?_<;>intro hb<;>(try simp only [JJ] at hb)<;>(try exact JX))|fail)
    refine Dnt Tryz.results364 ?_
    exact ⟨o, A2, c2, rfl, ⟨hob, by omega⟩, hS⟩
set_option maxHeartbeats 2000000 in
theorem fput_z (key : Int) (l : List Int) (v : Value) (r : World) (F : List Res) (w : World) (hS : Sep r [] F w) (hrd : Reads r F 1 v (l.map byC)) (hb0 : bOk l) (hl : l.length ≤ 65536) :
    Calls Tryz.prog 405 #[.slice none 0 0, .int .i64 key, v] w fun e w' => ∃ (o : List Int) (A : Option Addr) (c : Nat), e = .returned (.slice A o.length c) ∧ o.length ≤ l.length + 18 ∧ Sep r [] (.sl 5 1 (.slice A o.length c) (o.map byC) :: F) w' := by
  obtain ⟨A0, c0, rfl, _⟩ := (hrd [] w hS).mform
  refine Z.enter Tryz.func405 Tryz.ntmps405 rfl rfl ?_
  repeat' (first|refine K ?_|(refine Sh.sa hS ?_;clear hS;intro w hS)|(refine K3 ?_;clear hS;intro g w hS hge)|(refine KB ?_ ?_<;>intro hb<;>(try simp only [JJ] at hb)<;>(try exact JX))|fail)
  replace hS := Z.nilsl hS 5 1 none
  refine Z.eff (Z.cl (wint_z [] (.slice none 0 0) l.length (by unfold i64ok; omega) _ _ _ hS (Reads.of_at (e := 5) .here) (by simp)) rfl ?_) rfl
  clear hS
  rintro e w ⟨A1, c1, rfl, hS⟩
  refine ⟨_, rfl, ?_⟩
  have hpl := putL_len (n := (l.length : Int)) (by unfold i64ok; omega)
  rw [List.nil_append] at hS ⊢
  repeat' (first|refine K ?_|(refine Sh.sa hS ?_;clear hS;intro w hS)|(refine K3 ?_;clear hS;intro g w hS hge)|(refine KB ?_ ?_<;>intro hb<;>(try simp only [JJ] at hb)<;>(try exact JX))|fail)
  refine Z.eff (Z.cl (dsum_z key l _ _ _ _ hS (hrd.app [_, _]) hb0 (by omega)) rfl ?_) rfl
  clear hS
  rintro e w ⟨rfl, hS⟩
  refine ⟨_, rfl, ?_⟩
  generalize sumF key l = h0
  generalize putL (l.length : Int) = o0 at *
  repeat' (first|refine K ?_|(refine Sh.sa hS ?_;clear hS;intro w hS)|(refine K3 ?_;clear hS;intro g w hS hge)|(refine KB ?_ ?_<;>intro hb<;>(try simp only [JJ] at hb)<;>(try exact JX))|fail)
  refine Z.lpS [7, 8, 21, 22, 23, 24, 25, 26, 27, 28, 29, 30] (fun m w z => ∃ (i : Nat) (o : List Int) (A2 : Option Addr) (c2 : Nat) (h : Int), z = [(7, .slice A2 o.length c2), (8, .int .u64 h), (21, .int .i64 i)] ∧ i ≤ 8 ∧ o.length ≤ 10 + i ∧ m = 8 - i ∧ Sep r [] (.sl 5 1 (.slice A2 o.length c2) (o.map byC) :: F) w) _ [(7, .slice A1 o0.length c1), (8, .int .u64 h0), (21, .int .i64 (0 : Nat))] TrF ⟨0, o0, A1, c1, h0, rfl, by omega, by omega, rfl, hS.sb⟩ ?_
  clear hS
  rintro m f0 w _ ⟨i, o, A2, c2, h, rfl, hi, hol, rfl, hS⟩
  by_cases hlt : i < 8
  · repeat' (first|refine K ?_|(refine Sh.sa hS ?_;clear hS;intro w hS)|(refine K3 ?_;clear hS;intro g w hS hge)|(refine KB ?_ ?_<;>intro hb<;>(try simp only [JJ] at hb)<;>(try exact JX))|fail)
    refine Z.eff (Z.apm (l' := [IntKind.u8.wrap h]) hS rfl rfl rfl AtF (hS.lit1 AtF rfl rfl) LnF LnF ?_) rfl
    clear hS; intro A3 c3 w hS
    rw [← List.length_append] at hS ⊢
    repeat' (first|refine K ?_|(refine Sh.sa hS ?_;clear hS;intro w hS)|(refine K3 ?_;clear hS;intro g w hS hge)|(refine KB ?_ ?_<;>intro hb<;>(try simp only [JJ] at hb)<;>(try exact JX))|fail)
    refine Sh.again (8 - (i + 1)) [(7, _), (8, .int .u64 _), (21, .int .i64 (i + 1 : Nat))] ?_
    exact ⟨i + 1, o ++ [IntKind.u8.wrap h], A3, c3, _, rfl, by omega, by simp; omega, rfl, hS.sb⟩
  · repeat' (first|refine K ?_|(refine Sh.sa hS ?_;clear hS;intro w hS)|(refine K3 ?_;clear hS;intro g w hS hge)|(refine KB ?_ ?_<;>intro hb<;>(try simp only [JJ] at hb)<;>(try exact JX))|fail)
    refine Z.eff (Z.apm (l' := l) hS rfl rfl rfl AtF (hrd [_] _ hS) LnF LnF ?_) rfl
    clear hS; intro A3 c3 w hS
    rw [← List.length_append] at hS ⊢
    repeat' (first|refine K ?_|(refine Sh.sa hS ?_;clear hS;intro w hS)|(refine K3 ?_;clear hS;intro g w hS hge)|(refine KB ?_ ?_<;>intro hb<;>(try simp only [JJ] at hb)<;>(try exact JX))|fail)
    refine Dnt Tryz.results405 ?_
    exact ⟨o ++ l, A3, c3, rfl, by simp; omega, hS.sb⟩
theorem jwrite_z (gj n : Nat) (t v : Int) (log : List Lg) (l : List Int) (vv : Value) (r : World) (F : List Res) (w : World) (hS : Sep r [] (JN gj t v log n :: F) w) (hrd : Reads r F 1 vv (l.map byC)) (hb0 : bOk l) (hl : l.length ≤ 60000) (hn : n ≤ 1000000000) :
    Calls Tryz.prog 363 #[.pointer (some ⟨gj, 0, none⟩), vv] w fun e w' => e = .returned (.tuple #[]) ∧ Sep r [] (JN gj t v log (n + (l.length + 18)) :: F) w' := by
  obtain ⟨gd, A, c, hS⟩ := JN.op hS
  obtain ⟨A0, c0, rfl, _⟩ := (hrd [_, _, _] w hS).mform
  refine Z.enter Tryz.func363 Tryz.ntmps363 rfl rfl ?_
  repeat' (first|refine K ?_|(refine Sh.sa hS ?_;clear hS;intro w hS)|(refine K3 ?_;clear hS;intro g w hS hge)|(refine KB ?_ ?_<;>intro hb<;>(try simp only [JJ] at hb)<;>(try exact JX))|fail)
  refine D.startS (Lr := [.blk gj 390 [.pointer (some ⟨gd, 0, none⟩), .int .i64 t, .int .i64 v, .slice A log.length c]]) (hS.sb) 7 7 (by kernel_rfl) rfl ?_
  replace hS := hS.drew
  refine Sh.dp 0 1 ?_
  refine Sh.dp 1 3 ?_
  refine Sh.dp 2 7 ?_
  refine Sh.dp 4 23 ?_
  refine Sh.dl 3 31 ?_
  refine D.ef 5 63 ?_
  refine Z.cl (fput_z 8 l (.slice A0 l.length c0) _ _ _ hS (hrd.app [_, _, _]) hb0 (by omega)) rfl ?_
  clear hS
  rintro e w ⟨o, A2, c2, rfl, hol, hS⟩
  refine ⟨_, rfl, ?_⟩
  refine HMs ?_
  refine D.ef 6 127 ?_
  refine Z.cl (dapp_z gd n o (.slice A2 o.length c2) _ _ _ (hS.fo (R := DK gd n)) (Reads.of_at (e := 5) AtF) (by omega) hn) rfl ?_
  clear hS
  rintro e w ⟨rfl, hS⟩
  refine ⟨_, rfl, ?_⟩
  refine HMs ?_
  refine D.done (by kernel_rfl) ?_
  repeat' (first|refine K ?_|(refine Sh.sa hS ?_;clear hS;intro w hS)|(refine K3 ?_;clear hS;intro g w hS hge)|(refine KB ?_ ?_<;>intro hb<;>(try simp only [JJ] at hb)<;>(try exact JX))|fail)
  refine Dn Tryz.results363 ?_
  have h2 := DK.le (m := n + (l.length + 18)) hS (by omega)
  exact ⟨rfl, JN.of gd A c (h2.sub SuF)⟩
theorem i64_tick {x : Int} (h : -1 ≤ x ∧ x ≤ 1073741824) : i64ok x := by unfold i64ok; omega
set_option maxHeartbeats 1000000 in
theorem jsett_z (gj n : Nat) (t v : Int) (log : List Lg) (t' v' : Int) (r : World) (F : List Res) (w : World) (hS : Sep r [] (JN gj t v log n :: F) w) (h0 : stE t v t' v' = 0) (hn : n ≤ 1000000000) :
    Calls Tryz.prog 359 #[.pointer (some ⟨gj, 0, none⟩), .int .i64 t', .int .i64 v'] w fun e w' => e = .returned (.int .i64 0) ∧ Sep r [] (JN gj t' v' log (n + 48) :: F) w' := by
  have hb1 : 0 ≤ t' ∧ t' ≤ 1073741824 ∧ -1 ≤ v' ∧ v' < 5 := by
    unfold stE at h0
    split at h0
    · omega
    · omega
  refine Z.enter Tryz.func359 Tryz.ntmps359 rfl rfl ?_
  repeat' (first|refine K ?_|(refine Sh.sa hS ?_;clear hS;intro w hS)|(refine K3 ?_;clear hS;intro g w hS hge)|(refine KB ?_ ?_<;>intro hb<;>(try simp only [JJ] at hb)<;>(try exact JX))|fail)
  refine Z.eff (Z.cl (jset_z gj n t v log t' v' _ _ _ hS) rfl ?_) rfl
  clear hS
  rintro e w ⟨rfl, hS⟩
  refine ⟨_, rfl, ?_⟩
  rw [h0, if_pos rfl, if_pos rfl] at hS
  rw [h0]
  repeat' (first|refine K ?_|(refine Sh.sa hS ?_;clear hS;intro w hS)|(refine K3 ?_;clear hS;intro g w hS hge)|(refine KB ?_ ?_<;>intro hb<;>(try simp only [JJ] at hb)<;>(try exact JX))|fail)
  rename Nat => g
  replace hS := hS.fo (R := .blk g _ _)
  replace hS := mk_sl (sz := 1) (n := 3) (rows := [1, t', v'].map ztC) hS rfl (by omega) (by decide) (by intro row hrow; simp at hrow; rcases hrow with rfl | rfl | rfl <;> exact ⟨rfl, by simp [ztC, Value.oneCell']⟩) rfl
  refine Z.eff (Z.cl (jints_z [1, t', v'] (some ⟨g, 0, none⟩) 3 _ _ _ hS (Reads.of_at (e := 3) .here) (by simp) (by intro x hx; simp at hx; rcases hx with rfl | rfl | rfl <;> exact i64_tick (by omega))) rfl ?_) rfl
  clear hS
  rintro e w ⟨o, A2, c2, rfl, ⟨hob, hol⟩, hS⟩
  refine ⟨_, rfl, ?_⟩
  simp only [List.length_cons, List.length_nil] at hol
  repeat' (first|refine K ?_|(refine Sh.sa hS ?_;clear hS;intro w hS)|(refine K3 ?_;clear hS;intro g w hS hge)|(refine KB ?_ ?_<;>intro hb<;>(try simp only [JJ] at hb)<;>(try exact JX))|fail)
  refine Z.eff (Z.cl (jwrite_z gj n t' v' log o (.slice A2 o.length c2) _ _ _ (hS.fo (R := JN gj t' v' log n)) (Reads.of_at (e := 5) .here) hob (by omega) hn) rfl ?_) rfl
  clear hS
  rintro e w ⟨rfl, hS⟩
  refine ⟨_, rfl, ?_⟩
  repeat' (first|refine K ?_|(refine Sh.sa hS ?_;clear hS;intro w hS)|(refine K3 ?_;clear hS;intro g w hS hge)|(refine KB ?_ ?_<;>intro hb<;>(try simp only [JJ] at hb)<;>(try exact JX))|fail)
  refine Dnt Tryz.results359 ?_
  exact ⟨rfl, (JN.le (m := n + 48) hS (by omega)).sub SuF⟩
def En.i64 (e : En) : Prop := i64ok e.kind ∧ i64ok e.tick ∧ i64ok e.tenant ∧ i64ok e.cell ∧ i64ok e.other ∧ i64ok e.epoch ∧ i64ok e.from_ ∧ i64ok e.until_ ∧ i64ok e.n
end Go.Proofs.YtfmnjbhncnldmaaGreat
namespace Go.Proofs.YtfmnjbhncnldmaaGreat
open Go.RowKit
attribute [local irreducible] Res.blk Res.sl Res.all Res.ex Res.pure Res.star
def En.ints (e : En) : List Int := [e.kind, e.tick, e.tenant, e.cell, e.other, e.epoch, e.from_, e.until_, e.n]
theorem En.i64.all {e : En} (h : e.i64) : ∀ x, x ∈ e.ints → i64ok x := by
  obtain ⟨h1, h2, h3, h4, h5, h6, h7, h8, h9⟩ := h
  intro x hx
  simp only [En.ints, List.mem_cons, List.not_mem_nil, or_false] at hx
  rcases hx with rfl | rfl | rfl | rfl | rfl | rfl | rfl | rfl | rfl <;> assumption
theorem ent_row (e : En) : ∀ i : Nat, i < 9 → partL false ((i : Int).toNat * 1) 1 e.cells = some (.int .i64 (e.ints.getD i 0))
  | 0, _ => rfl
  | 1, _ => rfl
  | 2, _ => rfl
  | 3, _ => rfl
  | 4, _ => rfl
  | 5, _ => rfl
  | 6, _ => rfl
  | 7, _ => rfl
  | 8, _ => rfl
theorem En.i64.at {e : En} (h : e.i64) (i : Nat) (hi : i < 9) : i64ok (e.ints.getD i 0) := by
  have hl : i < e.ints.length := hi
  rw [List.getD_eq_getElem?_getD, List.getElem?_eq_getElem hl]
  exact h.all _ (List.getElem_mem hl)
set_option maxHeartbeats 2000000 in
theorem ebytes_z (e : En) (he : e.i64) (r : World) (F : List Res) (w : World) (hS : Sep r [] F w) :
    Calls Tryz.prog 365 #[e.val] w fun x w' => ∃ (o : List Int) (A2 : Option Addr) (c2 : Nat), x = .returned (.slice A2 o.length c2) ∧ (bOk o ∧ o.length ≤ 90) ∧ Sep r [] (.sl 5 1 (.slice A2 o.length c2) (o.map byC) :: F) w' := by
  refine Z.enter Tryz.func365 Tryz.ntmps365 rfl rfl ?_
  repeat' (first|refine K ?_|(refine Sh.sa hS ?_;clear hS;intro w hS)|(refine K3 ?_;clear hS;intro g w hS hge)|(refine KB ?_ ?_<;>intro hb<;>(try simp only [JJ] at hb)<;>(try exact JX))|fail)
  replace hS := Z.nilsl hS 5 1 none
  refine Z.lpS [3, 5, 25, 26, 27, 28, 29, 30, 31] (fun m w z => ∃ (i : Nat) (o : List Int) (A2 : Option Addr) (c2 : Nat), z = [(3, .slice A2 o.length c2), (25, .int .i64 i)] ∧ i ≤ 9 ∧ bOk o ∧ o.length ≤ 10 * i ∧ m = 9 - i ∧ Sep r [] (.sl 5 1 (.slice A2 o.length c2) (o.map byC) :: F) w) _ [(3, .slice none 0 0), (25, .int .i64 (0 : Nat))] TrF ⟨0, [], none, 0, rfl, by omega, bOk.nil, by simp, rfl, hS.sb⟩ ?_
  clear hS
  rintro m f0 w _ ⟨i, o, A2, c2, rfl, hi0, hob, hol, rfl, hS⟩
  by_cases hlt : i < 9
  · have hrow := ent_row e i hlt
    have hx := he.at i hlt
    generalize e.ints.getD i 0 = x at *
    repeat' (first|refine K ?_|(refine Sh.sa hS ?_;clear hS;intro w hS)|(refine K3 ?_;clear hS;intro g w hS hge)|(refine KB ?_ ?_<;>intro hb<;>(try simp only [JJ] at hb)<;>(try exact JX))|fail)
    refine Z.pl (R.ixv rfl rfl rfl (by omega) hrow) ?_
    repeat' (first|refine K ?_|(refine Sh.sa hS ?_;clear hS;intro w hS)|(refine K3 ?_;clear hS;intro g w hS hge)|(refine KB ?_ ?_<;>intro hb<;>(try simp only [JJ] at hb)<;>(try exact JX))|fail)
    refine Z.eff (Z.cl (wint_z o (.slice A2 o.length c2) x hx _ _ _ hS (Reads.of_at (e := 5) (v := .slice A2 o.length c2) AtF) (by omega)) rfl ?_) rfl
    clear hS
    rintro e w ⟨A3, c3, rfl, hS⟩
    refine ⟨_, rfl, ?_⟩
    have hpl := putL_len hx
    repeat' (first|refine K ?_|(refine Sh.sa hS ?_;clear hS;intro w hS)|(refine K3 ?_;clear hS;intro g w hS hge)|(refine KB ?_ ?_<;>intro hb<;>(try simp only [JJ] at hb)<;>(try exact JX))|fail)
    refine Sh.again (9 - (i + 1)) [(3, _), (25, .int .i64 (i + 1 : Nat))] ?_
    exact ⟨i + 1, o ++ putL x, A3, c3, rfl, by omega, hob.app (putL_ok x), by simp; omega, rfl, hS.sb⟩
  · repeat' (first|refine K ?_|(refine Sh.sa hS ?_;clear hS;intro w hS)|(refine K3 ?_;clear hS;intro g w hS hge)|(refine KB ?_ ?_<;>intro hb<;>(try simp only [JJ] at hb)<;>(try exact JX))|fail)
    refine Dnt Tryz.results365 ?_
    exact ⟨o, A2, c2, rfl, ⟨hob, by omega⟩, hS⟩
set_option maxHeartbeats 2000000 in
theorem jadd_z (gj n : Nat) (t v : Int) (log : List Lg) (tm : Int) (e : En) (r : World) (F : List Res) (w : World) (hS : Sep r [] (JN gj t v log n :: F) w) (h1 : 1 ≤ tm ∧ tm ≤ 1073741824) (h2 : shapeP e = true) (h3 : tm ≤ t) (h4 : (lgAt log (log.length - 1)).term ≤ tm) (h5 : log.length < 4096) :
    Calls Tryz.prog 362 #[.pointer (some ⟨gj, 0, none⟩), .int .i64 tm, e.val] w fun x w' => x = .returned (.int .i64 0) ∧ Sep r [] (JN gj t v (log ++ [⟨tm, e⟩]) n :: F) w' := by
  refine Z.enter Tryz.func362 Tryz.ntmps362 rfl rfl ?_
  repeat' (first|refine K ?_|(refine Sh.sa hS ?_;clear hS;intro w hS)|(refine K3 ?_;clear hS;intro g w hS hge)|(refine KB ?_ ?_<;>intro hb<;>(try simp only [JJ] at hb)<;>(try exact JX))|fail)
  refine Z.eff (Z.cl (eshape_z e _ _ _ hS) rfl ?_) rfl
  clear hS
  rintro e w ⟨rfl, hS⟩
  refine ⟨_, rfl, ?_⟩
  rw [h2]
  obtain ⟨gd, A, c, hS⟩ := JN.op (hS.fo (R := JN gj t v log n))
  repeat' (first|refine K ?_|(refine Sh.sa hS ?_;clear hS;intro w hS)|(refine K3 ?_;clear hS;intro g w hS hge)|(refine KB ?_ ?_<;>intro hb<;>(try simp only [JJ] at hb)<;>(try exact JX))|fail)
  refine Z.eff (Z.cl (jtat_z gj n t v log (log.length - 1) _ _ _ (JN.of gd A c (hS.sb))) rfl ?_) rfl
  clear hS
  rintro e w ⟨rfl, hS⟩
  refine ⟨_, rfl, ?_⟩
  obtain ⟨gd, A, c, hS⟩ := JN.op (hS.fo (R := JN gj t v log n))
  repeat' (first|refine K ?_|(refine Sh.sa hS ?_;clear hS;intro w hS)|(refine K3 ?_;clear hS;intro g w hS hge)|(refine KB ?_ ?_<;>intro hb<;>(try simp only [JJ] at hb)<;>(try exact JX))|fail)
  refine D.startS (Lr := [.blk gj 390 [.pointer (some ⟨gd, 0, none⟩), .int .i64 t, .int .i64 v, .slice A log.length c], .blk g 63 e.cells]) (hS.sb) 12 13 (by kernel_rfl) rfl ?_
  replace hS := hS.drew
  refine Sh.dp 0 1 ?_
  refine Sh.dp 1 3 ?_
  refine Sh.dp 2 7 ?_
  refine Sh.dp 3 15 ?_
  refine Sh.dp 5 47 ?_
  refine Sh.dl 4 63 ?_
  refine Sh.dl 6 127 ?_
  first | refine D.bu 7 255 rfl D.wantedN (by kernel_rfl) rfl rfl ?_ | refine D.buA 7 255 rfl D.wantedN (by kernel_rfl) rfl rfl ?_
  refine D.ef 8 511 ?_
  refine Z.bs hS rfl rfl rfl ?_
  clear hS; intro g w hS hge
  refine HMs ?_
  refine D.ef 9 1023 ?_
  refine Z.apm (fc := Lg.cells) (l' := [(⟨tm, e⟩ : Lg)]) hS rfl rfl rfl AtF (hS.lit1 AtF rfl rfl) LnF LnF ?_
  clear hS; intro A3 c3 w hS
  rw [← List.length_append] at hS ⊢
  refine HMs ?_
  refine Sh.dp 10 2047 ?_
  refine Sh.dp 11 4095 ?_
  refine D.ef 12 8191 ?_
  refine Z.st hS rfl AtF rfl rfl ?_
  clear hS; intro w hS
  refine ⟨HM.last (by kernel_rfl), ?_⟩
  refine D.done (by kernel_rfl) ?_
  repeat' (first|refine K ?_|(refine Sh.sa hS ?_;clear hS;intro w hS)|(refine K3 ?_;clear hS;intro g w hS hge)|(refine KB ?_ ?_<;>intro hb<;>(try simp only [JJ] at hb)<;>(try exact JX))|fail)
  refine Dnt Tryz.results362 ?_
  exact ⟨rfl, JN.of gd _ _ (hS.sb)⟩
set_option maxHeartbeats 2000000 in
theorem jappend_z (gj n : Nat) (t v : Int) (log : List Lg) (tm : Int) (e : En) (he : e.i64) (r : World) (F : List Res) (w : World) (hS : Sep r [] (JN gj t v log n :: F) w) (h1 : 1 ≤ tm ∧ tm ≤ 1073741824) (h2 : shapeP e = true) (h3 : tm ≤ t) (h4 : (lgAt log (log.length - 1)).term ≤ tm) (h5 : log.length < 4096) (hn : n ≤ 1000000000) :
    Calls Tryz.prog 300 #[.pointer (some ⟨gj, 0, none⟩), .int .i64 tm, e.val] w fun x w' => x = .returned (.int .i64 0) ∧ Sep r [] (JN gj t v (log ++ [⟨tm, e⟩]) (n + 128) :: F) w' := by
  refine Z.enter Tryz.func300 Tryz.ntmps300 rfl rfl ?_
  repeat' (first|refine K ?_|(refine Sh.sa hS ?_;clear hS;intro w hS)|(refine K3 ?_;clear hS;intro g w hS hge)|(refine KB ?_ ?_<;>intro hb<;>(try simp only [JJ] at hb)<;>(try exact JX))|fail)
  refine Z.eff (Z.cl (jadd_z gj n t v log tm e _ _ _ (hS.fo (R := JN gj t v log n)) h1 h2 h3 h4 h5) rfl ?_) rfl
  clear hS
  rintro e w ⟨rfl, hS⟩
  refine ⟨_, rfl, ?_⟩
  repeat' (first|refine K ?_|(refine Sh.sa hS ?_;clear hS;intro w hS)|(refine K3 ?_;clear hS;intro g w hS hge)|(refine KB ?_ ?_<;>intro hb<;>(try simp only [JJ] at hb)<;>(try exact JX))|fail)
  refine D.startS (Lr := [.blk g 63 e.cells]) (hS.sb) 8 8 (by kernel_rfl) rfl ?_
  replace hS := hS.drew
  refine Sh.dp 0 1 ?_
  refine Sh.dp 1 3 ?_
  refine Sh.dl 4 19 ?_
  refine D.ef 2 23 ?_
  refine Z.bs hS rfl rfl rfl ?_
  clear hS; intro gb w hS hge
  refine HMs ?_
  refine D.ef 3 31 ?_
  replace hS := hS.focus (R := .blk gb _ _) AtF
  replace hS := mk_sl (sz := 1) (n := 2) (rows := [2, tm].map ztC) hS rfl (by omega) (by decide) (by intro row hrow; simp at hrow; rcases hrow with rfl | rfl <;> exact ⟨rfl, by simp [ztC, Value.oneCell']⟩) rfl
  refine Z.cl (jints_z [2, tm] (some ⟨gb, 0, none⟩) 2 _ _ _ hS (Reads.of_at (e := 3) .here) (by simp) (by intro x hx; simp at hx; rcases hx with rfl | rfl <;> exact i64_tick (by omega))) rfl ?_
  clear hS
  rintro e w ⟨o, A2, c2, rfl, ⟨hob, hol⟩, hS⟩
  refine ⟨_, rfl, ?_⟩
  simp only [List.length_cons, List.length_nil] at hol
  refine HMs ?_
  refine D.ef 5 63 ?_
  refine Z.cl (ebytes_z e he _ _ _ hS) rfl ?_
  clear hS
  rintro e w ⟨o2, A3, c3, rfl, ⟨hob2, hol2⟩, hS⟩
  refine ⟨_, rfl, ?_⟩
  refine HMs ?_
  refine D.ef 6 127 ?_
  refine Z.apm (l' := o2) hS rfl rfl rfl AtF (hS.slrows AtF) LnF LnF ?_
  clear hS; intro A4 c4 w hS
  rw [← List.length_append] at hS ⊢
  refine HMs ?_
  refine D.ef 7 255 ?_
  refine Z.cl (jwrite_z gj n t v (log ++ [⟨tm, e⟩]) (o ++ o2) _ _ _ _ (hS.fo (R := JN gj t v (log ++ [⟨tm, e⟩]) n)) (Reads.of_at (e := 5) AtF) (hob.app hob2) (by simp only [List.length_append]; omega) hn) rfl ?_
  clear hS
  rintro e w ⟨rfl, hS⟩
  refine ⟨_, rfl, ?_⟩
  refine HMs ?_
  refine D.done (by kernel_rfl) ?_
  repeat' (first|refine K ?_|(refine Sh.sa hS ?_;clear hS;intro w hS)|(refine K3 ?_;clear hS;intro g w hS hge)|(refine KB ?_ ?_<;>intro hb<;>(try simp only [JJ] at hb)<;>(try exact JX))|fail)
  refine Dnt Tryz.results300 ?_
  refine ⟨rfl, (JN.le (m := n + 128) hS ?_).sub SuF⟩
  simp only [List.length_append]
  omega
end Go.Proofs.YtfmnjbhncnldmaaGreat
