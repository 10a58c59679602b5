import Derived.Test.YtfmnjbhncnldmaaGreatP02
import Derived.Test.YtfmnjbhncnldmaaGreatP22
set_option linter.unusedSimpArgs false
set_option linter.unusedVariables false
namespace Go.Proofs.YtfmnjbhncnldmaaGreat
open Go.RowKit
attribute [local irreducible] Res.blk Res.sl Res.all Res.ex Res.pure Res.star
section
variable (c : Cfg) (a : CAd) (mk : Int) (hd : Bool) (ps : List (Int × Int)) (v : Value) (r : World) (F : List Res) (w : World) (hS : Sep r [] F w) (hr : CfA r F c a) (hv : CfgV c) (hp : Reads r F 2 v (ps.map plR)) (hs : PlS c ps)
include hS hr hv hp hs
omit hr in
theorem rusable_z : Calls Tryz.prog 322 #[pbV c a mk hd, v] w fun e w' => ∃ (A : Option Addr) (cap : Nat) (bs : List Br), e = .returned (.slice A bs.length cap) ∧ (bs.length ≤ 2 * ps.length ∧ (bs = [] → ∀ i (h : i < ps.length), cOk (fun _ x => !hasB mk x) i ps[i].1 ∧ cOk (fun _ x => !hasB mk x) i ps[i].2)) ∧ Sep r [] (.sl 360 5 (.slice A bs.length cap) (bs.map Br.cells) :: F) w' := by
  have hl := hs.len
  have ht := hv.ok.t
  obtain ⟨Ap, cp, rfl, hcap⟩ := (hp [] w hS).mform
  refine Z.enter Tryz.func322 Tryz.ntmps322 rfl rfl ?_
  repeat' (first|refine K ?_|(refine Sh.sa hS ?_;clear hS;intro w hS)|(refine K3 ?_;clear hS;intro g w hS hge)|(refine KB ?_ ?_<;>intro hb<;>(try simp only [JJ] at hb)<;>(try exact JX))|fail)
  rename Nat => g
  refine Z.eff (Z.cl (reach_z 3 (fun _ x => !hasB mk x) 381 [.pointer (some ⟨g, 0, none⟩)] ps _ c.cells.length _ _ _ hS (hp.cons _) (by omega) hs.rng (fun L w i x _ _ h => rusable1_z g c a mk hd i x r _ w h (at_app L AtF))) rfl ?_) rfl
  clear hS
  rintro e w ⟨A, cap, bs, rfl, hb, hS⟩
  refine ⟨_, rfl, ?_⟩
  repeat' (first|refine K ?_|(refine Sh.sa hS ?_;clear hS;intro w hS)|(refine K3 ?_;clear hS;intro g w hS hge)|(refine KB ?_ ?_<;>intro hb<;>(try simp only [JJ] at hb)<;>(try exact JX))|fail)
  refine Dnt Tryz.results322 ?_
  exact ⟨A, cap, bs, rfl, hb, hS.sb⟩
theorem rallowed_z : Calls Tryz.prog 323 #[pbV c a mk hd, v] w fun e w' => ∃ (A : Option Addr) (cap : Nat) (bs : List Br), e = .returned (.slice A bs.length cap) ∧ (bs.length ≤ 2 * ps.length ∧ (bs = [] → ∀ i (h : i < ps.length), cOk (fun i x => !mayP c i x) i ps[i].1 ∧ cOk (fun i x => !mayP c i x) i ps[i].2)) ∧ Sep r [] (.sl 360 5 (.slice A bs.length cap) (bs.map Br.cells) :: F) w' := by
  have hl := hs.len
  have ht := hv.ok.t
  obtain ⟨Ap, cp, rfl, hcap⟩ := (hp [] w hS).mform
  refine Z.enter Tryz.func323 Tryz.ntmps323 rfl rfl ?_
  repeat' (first|refine K ?_|(refine Sh.sa hS ?_;clear hS;intro w hS)|(refine K3 ?_;clear hS;intro g w hS hge)|(refine KB ?_ ?_<;>intro hb<;>(try simp only [JJ] at hb)<;>(try exact JX))|fail)
  rename Nat => g
  refine Z.eff (Z.cl (reach_z 4 (fun i x => !mayP c i x) 383 [.pointer (some ⟨g, 0, none⟩)] ps _ c.cells.length _ _ _ hS (hp.cons _) (by omega) hs.rng (fun L w i x _ _ h => rallowed1_z g c a mk hd i x r _ w h (at_app L AtF) ((hr.cf.cons _).app L) hv)) rfl ?_) rfl
  clear hS
  rintro e w ⟨A, cap, bs, rfl, hb, hS⟩
  refine ⟨_, rfl, ?_⟩
  repeat' (first|refine K ?_|(refine Sh.sa hS ?_;clear hS;intro w hS)|(refine K3 ?_;clear hS;intro g w hS hge)|(refine KB ?_ ?_<;>intro hb<;>(try simp only [JJ] at hb)<;>(try exact JX))|fail)
  refine Dnt Tryz.results323 ?_
  exact ⟨A, cap, bs, rfl, hb, hS.sb⟩
theorem rgroup_z : Calls Tryz.prog 325 #[pbV c a mk hd, v] w fun e w' => ∃ (A : Option Addr) (cap : Nat) (bs : List Br), e = .returned (.slice A bs.length cap) ∧ (bs.length ≤ 100 * ps.length ∧ (bs = [] → ∀ i (h : i < ps.length), ∀ j (hj : j < i), pOk (groupB c ps) i j ps[i].1 ps[j].1)) ∧ Sep r [] (.sl 360 5 (.slice A bs.length cap) (bs.map Br.cells) :: F) w' := by
  have hl := hs.len
  have ht := hv.ok.t
  obtain ⟨Ap, cp, rfl, hcap⟩ := (hp [] w hS).mform
  refine Z.enter Tryz.func325 Tryz.ntmps325 rfl rfl ?_
  repeat' (first|refine K ?_|(refine Sh.sa hS ?_;clear hS;intro w hS)|(refine K3 ?_;clear hS;intro g w hS hge)|(refine KB ?_ ?_<;>intro hb<;>(try simp only [JJ] at hb)<;>(try exact JX))|fail)
  rename_i g _ _
  rename Nat => g3
  refine Z.eff (Z.cl (rpairs_z _ (groupB c ps) 385 [.pointer (some ⟨g, 0, none⟩), .pointer (some ⟨g3, 0, none⟩)] ps _ _ _ _ hS ((hp.cons _).cons _) (by omega) (fun L w i j hi hj _ _ h => rgroup1_z g g3 ps.length cp Ap c a mk hd ps i j r _ w h (at_app L (.next .here)) (at_app L .here) (((hr.cf.cons _).cons _).app L) hv (((hp.cons _).cons _).app L) hi hj hl)) rfl ?_) rfl
  clear hS
  rintro e w ⟨A, cap, bs, rfl, hb, hS⟩
  refine ⟨_, rfl, ?_⟩
  repeat' (first|refine K ?_|(refine Sh.sa hS ?_;clear hS;intro w hS)|(refine K3 ?_;clear hS;intro g w hS hge)|(refine KB ?_ ?_<;>intro hb<;>(try simp only [JJ] at hb)<;>(try exact JX))|fail)
  refine Dnt Tryz.results325 ?_
  exact ⟨A, cap, bs, rfl, hb, hS.sb⟩
theorem rnoisy_z : Calls Tryz.prog 326 #[pbV c a mk hd, v] w fun e w' => ∃ (A : Option Addr) (cap : Nat) (bs : List Br), e = .returned (.slice A bs.length cap) ∧ (bs.length ≤ 100 * ps.length ∧ (bs = [] → ∀ i (h : i < ps.length), ∀ j (hj : j < i), pOk (noisyB c ps) i j ps[i].1 ps[j].1)) ∧ Sep r [] (.sl 360 5 (.slice A bs.length cap) (bs.map Br.cells) :: F) w' := by
  have hl := hs.len
  have ht := hv.ok.t
  obtain ⟨Ap, cp, rfl, hcap⟩ := (hp [] w hS).mform
  refine Z.enter Tryz.func326 Tryz.ntmps326 rfl rfl ?_
  repeat' (first|refine K ?_|(refine Sh.sa hS ?_;clear hS;intro w hS)|(refine K3 ?_;clear hS;intro g w hS hge)|(refine KB ?_ ?_<;>intro hb<;>(try simp only [JJ] at hb)<;>(try exact JX))|fail)
  rename_i g _ _
  rename Nat => g3
  refine Z.eff (Z.cl (rpairs_z _ (noisyB c ps) 386 [.pointer (some ⟨g, 0, none⟩), .pointer (some ⟨g3, 0, none⟩)] ps _ _ _ _ hS ((hp.cons _).cons _) (by omega) (fun L w i j hi hj _ _ h => rnoisy1_z g g3 ps.length cp Ap c a mk hd ps i j r _ w h (at_app L (.next .here)) (at_app L .here) (((hr.cf.cons _).cons _).app L) (((hp.cons _).cons _).app L) hi hj hl)) rfl ?_) rfl
  clear hS
  rintro e w ⟨A, cap, bs, rfl, hb, hS⟩
  refine ⟨_, rfl, ?_⟩
  repeat' (first|refine K ?_|(refine Sh.sa hS ?_;clear hS;intro w hS)|(refine K3 ?_;clear hS;intro g w hS hge)|(refine KB ?_ ?_<;>intro hb<;>(try simp only [JJ] at hb)<;>(try exact JX))|fail)
  refine Dnt Tryz.results326 ?_
  exact ⟨A, cap, bs, rfl, hb, hS.sb⟩
end
end Go.Proofs.YtfmnjbhncnldmaaGreat
namespace Go.Proofs.YtfmnjbhncnldmaaGreat
open Go.RowKit
attribute [local irreducible] Res.blk Res.sl Res.all Res.ex Res.pure Res.star
set_option maxHeartbeats 4000000 in
theorem rcapacity_z (c : Cfg) (a : CAd) (mk : Int) (hd : Bool) (l : List Int) (v : Value) (r : World) (F : List Res) (w : World) (hS : Sep r [] F w) (hr : CfA r F c a) (hv : CfgV c) (hp : Reads r F 1 v (l.map ztC)) (hl : l.length = c.cells.length) :
    Calls Tryz.prog 327 #[pbV c a mk hd, v] w fun e w' => ∃ (A : Option Addr) (cap : Nat) (bs : List Br), e = .returned (.slice A bs.length cap) ∧ (bs.length ≤ l.length ∧ (bs = [] → ∀ i (h : i < l.length) (h2 : i < c.cells.length), l[i] ≤ c.cells[i].cap)) ∧ Sep r [] (.sl 360 5 (.slice A bs.length cap) (bs.map Br.cells) :: F) w' := by
  have hk := hv.ok.k
  obtain ⟨Ap, cp, rfl, hcap⟩ := (hp [] w hS).mform
  refine Z.enter Tryz.func327 Tryz.ntmps327 rfl rfl ?_
  repeat' (first|refine K ?_|(refine Sh.sa hS ?_;clear hS;intro w hS)|(refine K3 ?_;clear hS;intro g w hS hge)|(refine KB ?_ ?_<;>intro hb<;>(try simp only [JJ] at hb)<;>(try exact JX))|fail)
  rename Nat => g
  replace hS := Z.nilsl hS 360 5 none
  refine Z.lpS [5, 6, 7, 12, 13, 14, 15, 16, 17, 18, 19, 20, 21, 22, 23, 24, 25, 26, 27, 28, 29] (fun m w z => ∃ (i : Nat) (A : Option Addr) (cap : Nat) (bs : List Br), z = [(5, .slice A bs.length cap), (12, .int .i64 i)] ∧ i ≤ l.length ∧ (bs.length ≤ i ∧ (bs = [] → ∀ q (h : q < l.length) (h2 : q < c.cells.length), q < i → l[q] ≤ c.cells[q].cap)) ∧ m = l.length - i ∧ Sep r [] (.sl 360 5 (.slice A bs.length cap) (bs.map Br.cells) :: .blk g 84 (pbC c a mk hd) :: F) w) _ [(5, .slice none 0 0), (12, .int .i64 (0 : Nat))] TrF ⟨0, none, 0, [], rfl, by omega, ⟨by simp, fun _ q _ _ h => absurd h (by omega)⟩, rfl, hS.sb⟩ ?_
  clear hS
  rintro m f0 w _ ⟨i, A, cap, bs, rfl, hi, ⟨hbl, hbs⟩, rfl, hS⟩
  by_cases hlt : i < l.length
  rotate_left
  · repeat' (first|refine K ?_|(refine Sh.sa hS ?_;clear hS;intro w hS)|(refine K3 ?_;clear hS;intro g w hS hge)|(refine KB ?_ ?_<;>intro hb<;>(try simp only [JJ] at hb)<;>(try exact JX))|fail)
    refine Dnt Tryz.results327 ?_
    exact ⟨A, cap, bs, rfl, ⟨by omega, fun h q hq h2 => hbs h q hq h2 (by omega)⟩, hS.sb⟩
  have hlt2 : i < c.cells.length := by omega
  obtain ⟨gc, o2, hA2, hra1⟩ := reads_kn hr.cf [_, _] hS hlt2
  obtain ⟨gl, ol, rfl, _, _⟩ := (hp [_, _] w hS).mat (by omega) (q := i) (by simpa using hlt)
  have hrl : ∀ L W, Sep r [] (L ++ F) W → W.rangeAt gl (ol + i * 1) (ztC l[i]) := fun L W hW => by
    have h3 := (hp L W hW).elem (q := i) (by omega) (by simpa using hlt)
    simpa using h3
  have hstep : ∀ bs' : List Br, (bs' = [] → bs = [] ∧ l[i] ≤ c.cells[i].cap) → bs' = [] → ∀ q (h : q < l.length) (h2 : q < c.cells.length), q < i + 1 → l[q] ≤ c.cells[q].cap := fun bs' h1 h2 q hq hq2 hq3 => by
    obtain ⟨h3, h4⟩ := h1 h2
    by_cases e : q = i
    · subst e
      exact h4
    · exact hbs h3 q hq hq2 (by omega)
  generalize l[i] = x at *
  generalize c.cells[i] = y at *
  obtain ⟨zA, zc, kA, kc, tA, tc, vA, vc, rA, rc, oA, oc⟩ := a
  simp only at hA2
  subst hA2
  obtain ⟨y1, y2⟩ := y
  repeat' (first|refine K ?_|(refine Sh.sa hS ?_;clear hS;intro w hS)|(refine K3 ?_;clear hS;intro g w hS hge)|(refine KB ?_ ?_<;>intro hb<;>(try simp only [JJ] at hb)<;>(try exact JX))|fail)
  rename Nat => g7
  refine D.startS (Lr := (.blk g7 168 (⟨y1, y2⟩ : Cl).cells :: F)) (hS.sb) 7 7 (by kernel_rfl) rfl ?_
  replace hS := hS.drew
  refine Sh.dp 0 1 ?_
  refine Sh.dp 1 3 ?_
  first | refine D.ixn 2 7 rfl D.wantedN (by kernel_rfl) rfl rfl rfl (by omega) ?_ | refine D.ix 2 7 rfl D.wantedN (by kernel_rfl) rfl rfl rfl (by omega) ?_ | refine D.ia 2 7 rfl D.wantedN (by kernel_rfl) rfl rfl rfl (by omega) ?_
  refine Sh.dp 4 23 ?_
  refine D.ldR 3 31 rfl D.wantedN (by kernel_rfl) rfl (hrl [_]) rfl ?_
  refine Sh.dl 5 63 ?_
  refine Sh.dp 6 127 ?_
  refine D.done (by kernel_rfl) ?_
  repeat' (first|refine K ?_|(refine Sh.sa hS ?_;clear hS;intro w hS)|(refine K3 ?_;clear hS;intro g w hS hge)|(refine KB ?_ ?_<;>intro hb<;>(try simp only [JJ] at hb)<;>(try exact JX))|fail)
  · refine Z.eff (Z.apm (fc := Br.cells) (l := bs) (l' := [(⟨8, -1, -1, i, -1⟩ : Br)]) hS rfl rfl rfl AtF (hS.lit1 AtF rfl rfl) LnF LnF ?_) rfl
    clear hS; intro A' c' w hS
    rw [← List.length_append] at hS ⊢
    repeat' (first|refine K ?_|(refine Sh.sa hS ?_;clear hS;intro w hS)|(refine K3 ?_;clear hS;intro g w hS hge)|(refine KB ?_ ?_<;>intro hb<;>(try simp only [JJ] at hb)<;>(try exact JX))|fail)
    refine Sh.again (l.length - (i + 1)) [(5, .slice A' (bs ++ [(⟨8, -1, -1, i, -1⟩ : Br)]).length c'), (12, .int .i64 (i + 1 : Nat))] ?_
    exact ⟨i + 1, A', c', _, rfl, by omega, ⟨by simp; omega, fun h => by simp at h⟩, rfl, hS.sb⟩
  · refine Sh.again (l.length - (i + 1)) [(5, .slice A bs.length cap), (12, .int .i64 (i + 1 : Nat))] ?_
    exact ⟨i + 1, A, cap, bs, rfl, by omega, ⟨by omega, hstep bs fun h => ⟨h, by omega⟩⟩, rfl, hS.sb⟩
set_option maxHeartbeats 4000000 in
theorem rapart_z (c : Cfg) (a : CAd) (mk : Int) (hd : Bool) (ps : List (Int × Int)) (v : Value) (r : World) (F : List Res) (w : World) (hS : Sep r [] F w) (hr : CfA r F c a) (hv : CfgV c) (hp : Reads r F 2 v (ps.map plR)) (hs : PlS c ps) :
    Calls Tryz.prog 324 #[pbV c a mk hd, v] w fun e w' => ∃ (A : Option Addr) (cap : Nat) (bs : List Br), e = .returned (.slice A bs.length cap) ∧ (bs.length ≤ ps.length ∧ (bs = [] → ∀ i (h : i < ps.length), ps[i].1 = -1 ∨ ps[i].2 = -1 ∨ apartP c ps[i].1 ps[i].2 = true)) ∧ Sep r [] (.sl 360 5 (.slice A bs.length cap) (bs.map Br.cells) :: F) w' := by
  have hl := hs.len
  have ht := hv.ok.t
  obtain ⟨Ap, cp, rfl, hcap⟩ := (hp [] w hS).mform
  refine Z.enter Tryz.func324 Tryz.ntmps324 rfl rfl ?_
  repeat' (first|refine K ?_|(refine Sh.sa hS ?_;clear hS;intro w hS)|(refine K3 ?_;clear hS;intro g w hS hge)|(refine KB ?_ ?_<;>intro hb<;>(try simp only [JJ] at hb)<;>(try exact JX))|fail)
  rename Nat => g
  replace hS := Z.nilsl hS 360 5 none
  refine Z.lpS [5, 6, 7, 10, 11, 12, 13, 14, 15, 16, 17, 18, 19, 20, 21, 22, 23, 24, 25, 26, 27, 28, 29, 30, 31, 32, 33, 34, 35, 36, 37, 38, 39, 40] (fun m w z => ∃ (i : Nat) (A : Option Addr) (cap : Nat) (bs : List Br), z = [(5, .slice A bs.length cap), (10, .int .i64 i)] ∧ i ≤ ps.length ∧ (bs.length ≤ i ∧ (bs = [] → ∀ q (h : q < ps.length), q < i → ps[q].1 = -1 ∨ ps[q].2 = -1 ∨ apartP c ps[q].1 ps[q].2 = true)) ∧ m = ps.length - i ∧ Sep r [] (.sl 360 5 (.slice A bs.length cap) (bs.map Br.cells) :: .blk g 84 (pbC c a mk hd) :: F) w) _ [(5, .slice none 0 0), (10, .int .i64 (0 : Nat))] TrF ⟨0, none, 0, [], rfl, by omega, ⟨by simp, fun _ q _ h => absurd h (by omega)⟩, rfl, hS.sb⟩ ?_
  clear hS
  rintro m f0 w _ ⟨i, A, cap, bs, rfl, hi, ⟨hbl, hbs⟩, rfl, hS⟩
  by_cases hlt : i < ps.length
  rotate_left
  · repeat' (first|refine K ?_|(refine Sh.sa hS ?_;clear hS;intro w hS)|(refine K3 ?_;clear hS;intro g w hS hge)|(refine KB ?_ ?_<;>intro hb<;>(try simp only [JJ] at hb)<;>(try exact JX))|fail)
    refine Dnt Tryz.results324 ?_
    exact ⟨A, cap, bs, rfl, ⟨by omega, fun h q hq => hbs h q hq (by omega)⟩, hS.sb⟩
  obtain ⟨gb, o, rfl, _, hra⟩ := (hp [_, _] w hS).mat (by omega) (q := i) (by simpa using hlt)
  have hra2 : w.rangeAt gb (o + i * 2) (plR ps[i]) := by simpa using hra
  clear hra
  have hstep : ∀ bs' : List Br, (bs' = [] → bs = [] ∧ (ps[i].1 = -1 ∨ ps[i].2 = -1 ∨ apartP c ps[i].1 ps[i].2 = true)) → bs' = [] → ∀ q (h : q < ps.length), q < i + 1 → ps[q].1 = -1 ∨ ps[q].2 = -1 ∨ apartP c ps[q].1 ps[q].2 = true := fun bs' h1 h2 q hq hq3 => by
    obtain ⟨h3, h4⟩ := h1 h2
    by_cases e : q = i
    · subst e
      exact h4
    · exact hbs h3 q hq (by omega)
  generalize ps[i] = p at *
  obtain ⟨p1, p2⟩ := p
  simp only at hstep
  repeat' (first|refine K ?_|(refine Sh.sa hS ?_;clear hS;intro w hS)|(refine K3 ?_;clear hS;intro g w hS hge)|(refine KB ?_ ?_<;>intro hb<;>(try simp only [JJ] at hb)<;>(try exact JX))|fail)
  · refine Z.eff (Z.cl (napart_z c a p1 p2 _ _ _ hS (((hr.cf.cons _).cons _).cons _) hv.ok) rfl ?_) rfl
    clear hS
    rintro e w ⟨rfl, hS⟩
    refine ⟨_, rfl, ?_⟩
    cases hap : apartP c p1 p2
    · repeat' (first|refine K ?_|(refine Sh.sa hS ?_;clear hS;intro w hS)|(refine K3 ?_;clear hS;intro g w hS hge)|(refine KB ?_ ?_<;>intro hb<;>(try simp only [JJ] at hb)<;>(try exact JX))|fail)
      refine Z.eff (Z.apm (fc := Br.cells) (l := bs) (l' := [(⟨5, i, -1, p2, -1⟩ : Br)]) hS rfl rfl rfl AtF (hS.lit1 AtF rfl rfl) LnF LnF ?_) rfl
      clear hS; intro A' c' w hS
      rw [← List.length_append] at hS ⊢
      repeat' (first|refine K ?_|(refine Sh.sa hS ?_;clear hS;intro w hS)|(refine K3 ?_;clear hS;intro g w hS hge)|(refine KB ?_ ?_<;>intro hb<;>(try simp only [JJ] at hb)<;>(try exact JX))|fail)
      refine Sh.again (ps.length - (i + 1)) [(5, .slice A' (bs ++ [(⟨5, i, -1, p2, -1⟩ : Br)]).length c'), (10, .int .i64 (i + 1 : Nat))] ?_
      exact ⟨i + 1, A', c', _, rfl, by omega, ⟨by simp; omega, fun h => by simp at h⟩, rfl, hS.sb⟩
    · repeat' (first|refine K ?_|(refine Sh.sa hS ?_;clear hS;intro w hS)|(refine K3 ?_;clear hS;intro g w hS hge)|(refine KB ?_ ?_<;>intro hb<;>(try simp only [JJ] at hb)<;>(try exact JX))|fail)
      refine Sh.again (ps.length - (i + 1)) [(5, .slice A bs.length cap), (10, .int .i64 (i + 1 : Nat))] ?_
      exact ⟨i + 1, A, cap, bs, rfl, by omega, ⟨by omega, hstep bs fun h => ⟨h, .inr (.inr hap)⟩⟩, rfl, hS.sb⟩
  · refine Sh.again (ps.length - (i + 1)) [(5, .slice A bs.length cap), (10, .int .i64 (i + 1 : Nat))] ?_
    exact ⟨i + 1, A, cap, bs, rfl, by omega, ⟨by omega, hstep bs fun h => ⟨h, .inr (.inl (by omega))⟩⟩, rfl, hS.sb⟩
  · refine Sh.again (ps.length - (i + 1)) [(5, .slice A bs.length cap), (10, .int .i64 (i + 1 : Nat))] ?_
    exact ⟨i + 1, A, cap, bs, rfl, by omega, ⟨by omega, hstep bs fun h => ⟨h, .inl (by omega)⟩⟩, rfl, hS.sb⟩
end Go.Proofs.YtfmnjbhncnldmaaGreat
namespace Go.Proofs.YtfmnjbhncnldmaaGreat
open Go.RowKit
namespace Z
section
variable {P : Program} {Q : Exit → Act → World → Prop} {K : (Nat → Value) → World → Prop} {n : Nat} {f : Nat → Value} {w r : World} {M : List Nat} {L k : List Res} {d : Tmp} {ty t t' e sz bytes : TypeId} {pos : String} {aft : Array Edge} {x y : Operand} {zs : List Value}
theorem apz0 [ht : HasTT P] {m : Nat} {z : Int} [he : HasE P e sz bytes] [hzz : HasZ P e zs] (hS : Sep r M L w) (hx : ev n f x = .slice none 0 0) (hy : ev n f y = .int .i64 z) (hk : kindOf ht.tt t = .sl e sz) (hti : P.underlying t' = some (.int .i64)) (hz : z = (m : Int)) (h1 : zs.all (·.oneCell') = true)
    (hm0 : 0 < m) (h63 : m * bytes ≤ 140737488355328) (hm : m ≤ maxLen)
    (h : ∀ A' c' w', Sep r M (.sl e sz (.slice A' m c') (List.replicate m zs) :: L) w' → K (upd' f d (.slice A' m c')) w') :
    WE P ⟨some d, .call ⟨.builtin .append, #[x, y], #[t, t']⟩, ty, pos, aft, none⟩ K Q n f w := by
  refine ⟨fun K' hK => ?_⟩
  subst hz
  obtain ⟨hu, _⟩ := kind_sl hk
  obtain ⟨i0, z, hi, hz, hsz, hby, hzs, hpos⟩ := he.ok
  have hz' := hzz.ok
  simp [hi, hz] at hz'
  have hzl : zs.length = sz := by omega
  have hold : (Builtin.firstCells i0.size 0 (.slice none 0 0)).run P w.drew = .ok ([] : List Value).toArray w.drew := by
    unfold Builtin.firstCells
    rfl
  have hmm : maxLen = 9223372036854775807 := rfl
  have hbytes : m * i0.bytes ≤ 281474976710656 := by rw [hby]; omega
  have hrun := Lib.run_append_grow_zeros (P := P) w t t' ty e i0 z .i64 .i64 hu hti hi hz none 0 0 [] hold m hm0 (by omega) (by omega) (by omega) hbytes (by rw [hby]; exact growslice_fits (by omega) (by rw [Nat.zero_add]; exact h63))
  have hge := grownCap_ge w (0 + m) 0 e
  have hle' := grownCap_le_maxLen w (0 + m) 0 e (by omega)
  generalize grownCap w (0 + m) 0 e = c' at *
  have hzc : ∀ q, Builtin.zeroCells z.cells q = (zerosL zs q).toArray := fun q => by
    have := zerosL_ok zs q
    unfold Builtin.zeroCells
    rw [hz'.1]
    simpa using this
  have hlz : ∀ q, (zerosL zs q).length = q * sz := fun q => by
    have := congrArg Array.size (zerosL_ok zs q)
    simp at this
    rw [← this, hzl]
  have hrep : ∀ q, (List.replicate q zs).flatten = zerosL zs q := fun q => by
    induction q with
    | zero => rfl
    | succ q ih => rw [List.replicate_succ, List.flatten_cons, ih]; rfl
  rw [hzc, hzc] at hrun
  simp only [Nat.zero_add] at hrun hge hle'
  unfold Oper.wp
  rw [act_eval', ap_run2 x y hx hy hrun]
  simp only [Result.andThen_ok, Oper.upon_value, act_put]
  refine hK _ _ (h _ _ _ (hS.add (f2 := [w.heap.size]) ((Chg.refl _ _).drew.alloc _) ⟨?_, _, _, by simp, .inr ⟨by omega, w.heap.size, _, rfl, rfl, Blk.new' _ _ _ rfl, by simpa using hge, hle', ?_, ?_⟩⟩ (by simp) ?_))
  · intro row hrow
    obtain ⟨_, rfl⟩ := List.mem_replicate.1 hrow
    exact ⟨hzl, by simpa using h1⟩
  · simp only [Array.size_append, List.size_toArray, hlz, List.length_nil]
    rw [Nat.zero_add, ← Nat.add_mul]
    congr 1
    omega
  · rw [hrep]
    have : ((List.replicate m zs).length * sz) = (zerosL zs m).length := by simp [hlz]
    rw [this]
    simp only [Array.toList_append, List.append_assoc, List.nil_append]
    exact List.take_left
  · intro b hb
    simp at hb
    subst hb
    have := (Blk.new' (g := w.heap.size) w.drew e (([] : List Value).toArray ++ (zerosL zs m).toArray ++ (zerosL zs (c' - m)).toArray) rfl).lt
    exact ⟨this, Nat.le_refl _⟩
end
end Z
end Go.Proofs.YtfmnjbhncnldmaaGreat
namespace Go.Proofs.YtfmnjbhncnldmaaGreat
open Go.RowKit
attribute [local irreducible] Res.blk Res.sl Res.all Res.ex Res.pure Res.star
set_option maxHeartbeats 1000000 in
theorem growB_z (n : Nat) (r : World) (F : List Res) (w : World) (hS : Sep r [] F w) (hn : n ≤ 1000000) :
    Calls Tryz.prog 379 #[.slice none 0 0, .int .i64 (n : Nat)] w fun e w' => ∃ A c, e = .returned (.slice A 0 c) ∧ Sep r [] (.sl 360 5 (.slice A 0 c) [] :: F) w' := by
  by_cases h0 : 0 < n
  · refine Z.enter Tryz.func379 Tryz.ntmps379 rfl rfl ?_
    repeat' (first|refine K ?_|(refine Sh.sa hS ?_;clear hS;intro w hS)|(refine K3 ?_;clear hS;intro g w hS hge)|(refine KB ?_ ?_<;>intro hb<;>(try simp only [JJ] at hb)<;>(try exact JX))|fail)
    refine Z.eff (Z.apz0 (m := n) hS rfl rfl rfl Tryz.underlying3 (by omega) rfl h0 (by omega) (by unfold maxLen; omega) ?_) rfl
    clear hS; intro A' c' w hS
    obtain ⟨g, cs, rfl, _, hnc, hcm, hcl, _, _, hS⟩ := open_sl hS (by simpa using h0)
    replace hS := close_sl (sz := 5) (c := c') (rows := []) hS (by omega) hcm hcl (by simp) (by simp) (by simp)
    repeat' (first|refine K ?_|(refine Sh.sa hS ?_;clear hS;intro w hS)|(refine K3 ?_;clear hS;intro g w hS hge)|(refine KB ?_ ?_<;>intro hb<;>(try simp only [JJ] at hb)<;>(try exact JX))|fail)
    refine Dnt Tryz.results379 ?_
    exact ⟨_, _, rfl, hS⟩
  · have : n = 0 := by omega
    subst this
    refine Z.enter Tryz.func379 Tryz.ntmps379 rfl rfl ?_
    repeat' (first|refine K ?_|(refine Sh.sa hS ?_;clear hS;intro w hS)|(refine K3 ?_;clear hS;intro g w hS hge)|(refine KB ?_ ?_<;>intro hb<;>(try simp only [JJ] at hb)<;>(try exact JX))|fail)
    refine Dnt Tryz.results379 ?_
    exact ⟨none, 0, rfl, Z.nilsl hS _ _ none⟩
structure Bv where
  l : List Br
  A : Option Addr
  c : Nat
def Bv.cells (x : Bv) : List Value := [.slice x.A x.l.length x.c]
structure BvR (r : World) (F : List Res) (B : Option Addr) (C : Nat) (W : List Bv) : Prop where
  out : Reads r F 1 (.slice B W.length C) (W.map Bv.cells)
  inn : ∀ x, x ∈ W → Reads r F 5 (.slice x.A x.l.length x.c) (x.l.map Br.cells)
theorem BvR.get {r w : World} {F : List Res} {B : Option Addr} {C : Nat} {W : List Bv} (h : BvR r F B C W) (L : List Res) (hS : Sep r [] (L ++ F) w) {i : Nat} (hi : i < W.length) : ∃ gb o, B = some ⟨gb, o, none⟩ ∧ w.rangeAt gb (o + i * 1) (W[i]).cells := by
  obtain ⟨gb, o, hA, _, hra⟩ := (h.out L w hS).mat (by omega) (q := i) (by simpa using hi)
  exact ⟨gb, o, hA, by simpa using hra⟩
def flatB (W : List Bv) : List Br := (W.map Bv.l).flatten
theorem flatB_succ {W : List Bv} {i : Nat} (hi : i < W.length) : flatB (W.take (i + 1)) = flatB (W.take i) ++ (W[i]).l := by
  unfold flatB
  rw [List.take_succ_eq_append_getElem hi, List.map_append, List.flatten_append]
  simp
set_option maxHeartbeats 1000000 in
theorem concatB_z (B : Option Addr) (C : Nat) (W : List Bv) (r : World) (F : List Res) (w : World) (hS : Sep r [] F w) (hw : BvR r F B C W) (hl : W.length ≤ 100) (hx : ∀ x, x ∈ W → x.l.length ≤ 10000) :
    Calls Tryz.prog 321 #[.slice B W.length C] w fun e w' => ∃ A c, e = .returned (.slice A (flatB W).length c) ∧ (flatB W).length ≤ 1000000 ∧ Sep r [] (.sl 360 5 (.slice A (flatB W).length c) ((flatB W).map Br.cells) :: F) w' := by
  refine Z.enter Tryz.func321 Tryz.ntmps321 rfl rfl ?_
  repeat' (first|refine K ?_|(refine Sh.sa hS ?_;clear hS;intro w hS)|(refine K3 ?_;clear hS;intro g w hS hge)|(refine KB ?_ ?_<;>intro hb<;>(try simp only [JJ] at hb)<;>(try exact JX))|fail)
  refine Z.lpS [3, 5, 11, 12, 13, 14, 15, 16, 17, 18, 19, 20, 21, 22] (fun m w z => ∃ i n : Nat, z = [(3, .int .i64 n), (11, .int .i64 i)] ∧ i ≤ W.length ∧ n ≤ i * 10000 ∧ m = W.length - i ∧ Sep r [] F w) _ [(3, .int .i64 (0 : Nat)), (11, .int .i64 (0 : Nat))] TrF ⟨0, 0, rfl, by omega, by omega, rfl, hS⟩ ?_
  clear hS
  rintro m f0 w _ ⟨i, n, rfl, hi, hn, rfl, hS⟩
  by_cases hlt : i < W.length
  · obtain ⟨gb, o, rfl, hra⟩ := hw.get [] hS hlt
    have hxl := hx _ (List.getElem_mem hlt)
    generalize W[i] = x at *
    obtain ⟨lx, Ax, cx⟩ := x
    simp only [Bv.cells] at hxl hra
    repeat' (first|refine K ?_|(refine Sh.sa hS ?_;clear hS;intro w hS)|(refine K3 ?_;clear hS;intro g w hS hge)|(refine KB ?_ ?_<;>intro hb<;>(try simp only [JJ] at hb)<;>(try exact JX))|fail)
    refine Sh.again (W.length - (i + 1)) [(3, .int .i64 (n + lx.length : Nat)), (11, .int .i64 (i + 1 : Nat))] ?_
    exact ⟨i + 1, n + lx.length, rfl, by omega, by omega, rfl, hS⟩
  repeat' (first|refine K ?_|(refine Sh.sa hS ?_;clear hS;intro w hS)|(refine K3 ?_;clear hS;intro g w hS hge)|(refine KB ?_ ?_<;>intro hb<;>(try simp only [JJ] at hb)<;>(try exact JX))|fail)
  clear hlt hb
  refine Z.eff (Z.cl (growB_z n _ _ _ hS (by omega)) rfl ?_) rfl
  clear hS
  rintro e w ⟨A1, c1, rfl, hS⟩
  refine ⟨_, rfl, ?_⟩
  repeat' (first|refine K ?_|(refine Sh.sa hS ?_;clear hS;intro w hS)|(refine K3 ?_;clear hS;intro g w hS hge)|(refine KB ?_ ?_<;>intro hb<;>(try simp only [JJ] at hb)<;>(try exact JX))|fail)
  refine Z.lpS [6, 8, 27, 28, 29, 30, 31, 32, 33, 34] (fun m w z => ∃ (i : Nat) (o : List Br) (A2 : Option Addr) (c2 : Nat), z = [(6, .slice A2 o.length c2), (27, .int .i64 i)] ∧ i ≤ W.length ∧ o.length ≤ i * 10000 ∧ o = flatB (W.take i) ∧ m = W.length - i ∧ Sep r [] (.sl 360 5 (.slice A2 o.length c2) (o.map Br.cells) :: F) w) _ [(6, .slice A1 0 c1), (27, .int .i64 (0 : Nat))] TrF ⟨0, [], A1, c1, rfl, by omega, by simp, by simp [flatB], rfl, hS⟩ ?_
  clear hS
  rintro m f0 w _ ⟨i, o, A2, c2, rfl, hi, hol, ho, rfl, hS⟩
  by_cases hlt : i < W.length
  · obtain ⟨gb, ob, rfl, hra⟩ := hw.get [_] hS hlt
    have hxl := hx _ (List.getElem_mem hlt)
    have hin := hw.inn _ (List.getElem_mem hlt)
    have hfl := flatB_succ hlt
    generalize W[i] = x at *
    obtain ⟨lx, Ax, cx⟩ := x
    simp only [Bv.cells] at hxl hin hfl hra
    repeat' (first|refine K ?_|(refine Sh.sa hS ?_;clear hS;intro w hS)|(refine K3 ?_;clear hS;intro g w hS hge)|(refine KB ?_ ?_<;>intro hb<;>(try simp only [JJ] at hb)<;>(try exact JX))|fail)
    refine Z.eff (Z.apm (l' := lx) hS rfl rfl rfl AtF (hin [_] _ hS) LnF LnF ?_) rfl
    clear hS hra; intro A3 c3 w hS
    rw [← List.length_append] at hS ⊢
    repeat' (first|refine K ?_|(refine Sh.sa hS ?_;clear hS;intro w hS)|(refine K3 ?_;clear hS;intro g w hS hge)|(refine KB ?_ ?_<;>intro hb<;>(try simp only [JJ] at hb)<;>(try exact JX))|fail)
    refine Sh.again (W.length - (i + 1)) [(6, _), (27, .int .i64 (i + 1 : Nat))] ?_
    exact ⟨i + 1, o ++ lx, A3, c3, rfl, by omega, by simp; omega, by rw [hfl, ho], rfl, hS.sb⟩
  · have hi2 : i = W.length := by omega
    rw [List.take_of_length_le (by omega)] at ho
    subst ho
    repeat' (first|refine K ?_|(refine Sh.sa hS ?_;clear hS;intro w hS)|(refine K3 ?_;clear hS;intro g w hS hge)|(refine KB ?_ ?_<;>intro hb<;>(try simp only [JJ] at hb)<;>(try exact JX))|fail)
    refine Dnt Tryz.results321 ?_
    exact ⟨A2, c2, rfl, by omega, hS⟩
end Go.Proofs.YtfmnjbhncnldmaaGreat
