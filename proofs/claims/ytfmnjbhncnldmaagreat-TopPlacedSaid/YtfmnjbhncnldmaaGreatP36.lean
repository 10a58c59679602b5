import Derived.Test.YtfmnjbhncnldmaaGreatRows
import Derived.BigGuardPart
import Derived.Deep.QuietTactic
import Derived.BigQuiet
import Derived.Deep.RegionHeld3
import Derived.Handy
import Derived.Deep.DeepCutAuto
import Derived.Test.YtfmnjbhncnldmaaGreatP00
import Derived.Test.YtfmnjbhncnldmaaGreatP02
import Derived.Test.YtfmnjbhncnldmaaGreatP30
import Derived.Test.YtfmnjbhncnldmaaGreatP31
import Derived.Test.YtfmnjbhncnldmaaGreatP32
import Derived.Test.YtfmnjbhncnldmaaGreatP35
set_option linter.unusedSimpArgs false
set_option linter.unusedVariables false
namespace Go.Proofs.YtfmnjbhncnldmaaGreat
open Go.RowKit
attribute [local irreducible] Res.blk Res.sl Res.all Res.ex Res.pure Res.star
theorem gnew0_z (cell : Int) (r : World) (F : List Res) (w : World) (hS : Sep r [] F w) : Calls Tryz.prog 98 #[.int .i64 cell] w fun e w' => ∃ g, e = .returned (.pointer (some ⟨g, 0, none⟩)) ∧ Sep r [] (.blk g 216 [.int .i64 cell, .int .i64 0, .slice none 0 0] :: F) w' := by
  refine Z.enter Tryz.func98 Tryz.ntmps98 rfl rfl ?_
  repeat' (first|refine K ?_|(refine Sh.sa hS ?_;clear hS;intro w hS)|(refine K3 ?_;clear hS;intro g w hS hge)|(refine KB ?_ ?_<;>intro hb<;>(try simp only [JJ] at hb)<;>(try exact JX))|fail)
  refine Dnt Tryz.results98 ?_
  exact ⟨_, rfl, hS⟩
structure COk (c : Cp) : Prop where
  t : c.t.ok
  ss : SSort c.s
  s : c.s.length ≤ 1000
  l : c.q.l.length ≤ 1000
  r : c.q.r.length ≤ 1000
theorem Good.ssort {c : Cp} (h : Good c) : SSort c.s := by
  induction h with
  | zero => simp [Cp.zero, SSort]
  | @app c x hc hx ih =>
    obtain ⟨_, _, _, _, _, _, e⟩ := cApp_ok hx
    rw [e]
    exact ih.app x
theorem Good.cok {c : Cp} (h : Good c) : COk c := by
  have hg := h.ok
  exact ⟨hg.1, h.ssort, by omega, by omega, by rw [hg.2.2.2]; simp⟩
def PC (g : Nat) (cell ten : Int) (vg : Value) (c : Cp) : Res := .ex fun A => .ex fun cap => .ex fun gs => .ex fun gq => .ex fun gt => .all [.blk g 162 [.int .i64 cell, .int .i64 ten, .slice A c.h.length cap, .pointer (some ⟨gs, 0, .none⟩), .pointer (some ⟨gq, 0, .none⟩), .pointer (some ⟨gt, 0, .none⟩), vg], .sl 149 8 (.slice A c.h.length cap) (c.h.map Ch.cells), PS gs c.s, PQ gq c.q, PT gt c.t]
theorem Sep.PC_open {r w : World} {M : List Nat} {F : List Res} {g : Nat} {cell ten : Int} {vg : Value} {c : Cp} : Sep r M (PC g cell ten vg c :: F) w ↔ ∃ A cap gs gq gt, Sep r M (.blk g 162 [.int .i64 cell, .int .i64 ten, .slice A c.h.length cap, .pointer (some ⟨gs, 0, .none⟩), .pointer (some ⟨gq, 0, .none⟩), .pointer (some ⟨gt, 0, .none⟩), vg] :: .sl 149 8 (.slice A c.h.length cap) (c.h.map Ch.cells) :: PS gs c.s :: PQ gq c.q :: PT gt c.t :: F) w := by
  simp only [PC, Sep.ex_open, Sep.all_open, List.cons_append, List.nil_append]
set_option maxHeartbeats 1000000 in
theorem pnone_z (r : World) (F : List Res) (w : World) (hS : Sep r [] F w) :
    Calls Tryz.prog 97 #[] w fun e w' => ∃ gs gq gt, e = .returned (.agg #[.pointer (some ⟨gs, 0, none⟩), .pointer (some ⟨gq, 0, none⟩), .pointer (some ⟨gt, 0, none⟩)]) ∧ Sep r [] (PS gs [] :: PQ gq .zero :: PT gt .zero :: F) w' := by
  refine Z.enter Tryz.func97 Tryz.ntmps97 rfl rfl ?_
  repeat' (first|refine K ?_|(refine Sh.sa hS ?_;clear hS;intro w hS)|(refine K3 ?_;clear hS;intro g w hS hge)|(refine KB ?_ ?_<;>intro hb<;>(try simp only [JJ] at hb)<;>(try exact JX))|fail)
  refine Z.eff (Z.cl (psnew_z _ _ _ hS) rfl ?_) rfl
  clear hS
  rintro e w ⟨gs, rfl, hS⟩
  refine ⟨_, rfl, ?_⟩
  repeat' (first|refine K ?_|(refine Sh.sa hS ?_;clear hS;intro w hS)|(refine K3 ?_;clear hS;intro g w hS hge)|(refine KB ?_ ?_<;>intro hb<;>(try simp only [JJ] at hb)<;>(try exact JX))|fail)
  refine Z.eff (Z.cl (pqnew_z _ _ _ hS) rfl ?_) rfl
  clear hS
  rintro e w ⟨gq, rfl, hS⟩
  refine ⟨_, rfl, ?_⟩
  repeat' (first|refine K ?_|(refine Sh.sa hS ?_;clear hS;intro w hS)|(refine K3 ?_;clear hS;intro g w hS hge)|(refine KB ?_ ?_<;>intro hb<;>(try simp only [JJ] at hb)<;>(try exact JX))|fail)
  refine Z.eff (Z.cl (pnew_z hS) rfl ?_) rfl
  clear hS
  rintro e w ⟨gt, rfl, hS⟩
  refine ⟨_, rfl, ?_⟩
  repeat' (first|refine K ?_|(refine Sh.sa hS ?_;clear hS;intro w hS)|(refine K3 ?_;clear hS;intro g w hS hge)|(refine KB ?_ ?_<;>intro hb<;>(try simp only [JJ] at hb)<;>(try exact JX))|fail)
  refine Dnc Tryz.results97 ?_
  exact ⟨_, _, _, rfl, hS.sb⟩
structure Fd3 where
  s : List Ce
  q : Qu
  t : Tab
  e : Int
def addS (s : List Ce) (q : Qu) (t : Tab) (x : Ch) : Fd3 :=
  if (tApp t x).2 = 0 then if (sApp s x).2 = 0 then ⟨(sApp s x).1, (qApp q x).1, (tApp t x).1, (qApp q x).2⟩ else ⟨(sApp s x).1, q, (tApp t x).1, (sApp s x).2⟩
  else ⟨s, q, (tApp t x).1, (tApp t x).2⟩
set_option maxHeartbeats 1000000 in
theorem padd_z (gs gq gt : Nat) (s : List Ce) (q : Qu) (t : Tab) (x : Ch) (r : World) (F : List Res) (w : World) (hS : Sep r [] (PS gs s :: PQ gq q :: PT gt t :: F) w) (hok : t.ok) (hs : SSort s) (h1 : s.length ≤ 1000) (h2 : q.l.length ≤ 1000) (h3 : q.r.length ≤ 1000) :
    Calls Tryz.prog 208 #[.agg #[.pointer (some ⟨gs, 0, none⟩), .pointer (some ⟨gq, 0, none⟩), .pointer (some ⟨gt, 0, none⟩)], x.val] w fun e w' => e = .returned (.int .i64 (addS s q t x).e) ∧ Sep r [] (PS gs (addS s q t x).s :: PQ gq (addS s q t x).q :: PT gt (addS s q t x).t :: F) w' := by
  unfold addS
  refine Z.enter Tryz.func208 Tryz.ntmps208 rfl rfl ?_
  repeat' (first|refine K ?_|(refine Sh.sa hS ?_;clear hS;intro w hS)|(refine K3 ?_;clear hS;intro g w hS hge)|(refine KB ?_ ?_<;>intro hb<;>(try simp only [JJ] at hb)<;>(try exact JX))|fail)
  replace hS := hS.fo (R := PT gt t)
  refine Z.eff (Z.cl (papply_z x _ rfl hS hok) rfl ?_) rfl
  clear hS
  rintro e w ⟨rfl, hS⟩
  refine ⟨_, rfl, ?_⟩
  repeat' (first|refine K ?_|(refine Sh.sa hS ?_;clear hS;intro w hS)|(refine K3 ?_;clear hS;intro g w hS hge)|(refine KB ?_ ?_<;>intro hb<;>(try simp only [JJ] at hb)<;>(try exact JX))|fail)
  · refine Dnt Tryz.results208 ?_
    rw [if_neg hb]
    exact ⟨rfl, hS.sb⟩
  rename (tApp t x).2 = 0 => ht
  replace hS := hS.fo (R := PS gs s)
  refine Z.eff (Z.cl (psapply_z gs s x _ _ _ hS hs h1) rfl ?_) rfl
  clear hS
  rintro e w ⟨rfl, hS⟩
  refine ⟨_, rfl, ?_⟩
  repeat' (first|refine K ?_|(refine Sh.sa hS ?_;clear hS;intro w hS)|(refine K3 ?_;clear hS;intro g w hS hge)|(refine KB ?_ ?_<;>intro hb<;>(try simp only [JJ] at hb)<;>(try exact JX))|fail)
  · refine Dnt Tryz.results208 ?_
    rw [if_pos ht, if_neg hb]
    exact ⟨rfl, hS.sb⟩
  rename (sApp s x).2 = 0 => hse
  replace hS := hS.fo (R := PQ gq q)
  refine Z.eff (Z.cl (pqapply_z gq q x _ _ _ hS h2 h3) rfl ?_) rfl
  clear hS
  rintro e w ⟨rfl, hS⟩
  refine ⟨_, rfl, ?_⟩
  repeat' (first|refine K ?_|(refine Sh.sa hS ?_;clear hS;intro w hS)|(refine K3 ?_;clear hS;intro g w hS hge)|(refine KB ?_ ?_<;>intro hb<;>(try simp only [JJ] at hb)<;>(try exact JX))|fail)
  refine Dnt Tryz.results208 ?_
  rw [if_pos ht, if_pos hse]
  exact ⟨rfl, hS.sb⟩
set_option maxHeartbeats 1000000 in
theorem pfcopy_z (gs gq gt : Nat) (s : List Ce) (q : Qu) (t : Tab) (r : World) (F : List Res) (w : World) (hS : Sep r [] (PS gs s :: PQ gq q :: PT gt t :: F) w) (h2 : q.l.length ≤ 1000) (h3 : q.r.length ≤ 1000) :
    Calls Tryz.prog 209 #[.agg #[.pointer (some ⟨gs, 0, none⟩), .pointer (some ⟨gq, 0, none⟩), .pointer (some ⟨gt, 0, none⟩)]] w fun e w' => ∃ gs' gq' gt', e = .returned (.agg #[.pointer (some ⟨gs', 0, none⟩), .pointer (some ⟨gq', 0, none⟩), .pointer (some ⟨gt', 0, none⟩)]) ∧ Sep r [] (PS gs' s :: PQ gq' q :: PT gt' t :: PS gs s :: PQ gq q :: PT gt t :: F) w' := by
  refine Z.enter Tryz.func209 Tryz.ntmps209 rfl rfl ?_
  repeat' (first|refine K ?_|(refine Sh.sa hS ?_;clear hS;intro w hS)|(refine K3 ?_;clear hS;intro g w hS hge)|(refine KB ?_ ?_<;>intro hb<;>(try simp only [JJ] at hb)<;>(try exact JX))|fail)
  refine D.startS hS 10 11 (by kernel_rfl) rfl ?_
  replace hS := hS.drew
  refine Sh.dp 0 1 ?_
  refine Sh.dp 3 9 ?_
  refine Sh.dp 6 73 ?_
  refine Sh.dl 1 75 ?_
  refine Sh.dl 4 91 ?_
  refine Sh.dl 7 219 ?_
  refine D.ef 2 223 ?_
  replace hS := hS.fo (R := PS gs s)
  refine Z.cl (pscopy_z gs s _ _ _ hS) rfl ?_
  clear hS
  rintro e w ⟨gs', rfl, hS⟩
  refine ⟨_, rfl, ?_⟩
  refine HMs ?_
  refine D.ef 5 255 ?_
  replace hS := hS.fo (R := PQ gq q)
  refine Z.cl (pqcopy_z gq q _ _ _ hS h2 h3) rfl ?_
  clear hS
  rintro e w ⟨gq', rfl, hS⟩
  refine ⟨_, rfl, ?_⟩
  refine HMs ?_
  refine D.ef 8 511 ?_
  replace hS := hS.fo (R := PT gt t)
  refine Z.cl (pcopy_z t gt _ _ _ hS) rfl ?_
  clear hS
  rintro e w ⟨gt', rfl, hS⟩
  refine ⟨_, rfl, ?_⟩
  refine HMs ?_
  first | refine D.bu 9 1023 rfl D.wantedN (by kernel_rfl) rfl rfl ?_ | refine D.buA 9 1023 rfl D.wantedN (by kernel_rfl) rfl rfl ?_
  refine D.ef 10 2047 ?_
  refine Z.st hS rfl AtF rfl rfl ?_
  clear hS; intro w hS
  refine ⟨HM.last (by kernel_rfl), ?_⟩
  refine D.done (by kernel_rfl) ?_
  repeat' (first|refine K ?_|(refine Sh.sa hS ?_;clear hS;intro w hS)|(refine K3 ?_;clear hS;intro g w hS hge)|(refine KB ?_ ?_<;>intro hb<;>(try simp only [JJ] at hb)<;>(try exact JX))|fail)
  refine Dnc Tryz.results209 ?_
  exact ⟨_, _, _, rfl, hS.sb⟩
set_option maxHeartbeats 1000000 in
theorem pcnew_z (cell ten : Int) (r : World) (F : List Res) (w : World) (hS : Sep r [] F w) :
    Calls Tryz.prog 35 #[.int .i64 cell, .int .i64 ten] w fun e w' => ∃ g gg, e = .returned (.pointer (some ⟨g, 0, none⟩)) ∧
      Sep r [] (PC g cell ten (.pointer (some ⟨gg, 0, none⟩)) .zero :: .blk gg 216 [.int .i64 cell, .int .i64 0, .slice none 0 0] :: F) w' := by
  refine Z.enter Tryz.func35 Tryz.ntmps35 rfl rfl ?_
  repeat' (first|refine K ?_|(refine Sh.sa hS ?_;clear hS;intro w hS)|(refine K3 ?_;clear hS;intro g w hS hge)|(refine KB ?_ ?_<;>intro hb<;>(try simp only [JJ] at hb)<;>(try exact JX))|fail)
  refine Z.eff (Z.cl (pnone_z _ _ _ hS) rfl ?_) rfl
  clear hS
  rintro e w ⟨gs, gq, gt, rfl, hS⟩
  refine ⟨_, rfl, ?_⟩
  repeat' (first|refine K ?_|(refine Sh.sa hS ?_;clear hS;intro w hS)|(refine K3 ?_;clear hS;intro g w hS hge)|(refine KB ?_ ?_<;>intro hb<;>(try simp only [JJ] at hb)<;>(try exact JX))|fail)
  refine Z.eff (Z.cl (gnew0_z cell _ _ _ hS) rfl ?_) rfl
  clear hS
  rintro e w ⟨gg, rfl, hS⟩
  refine ⟨_, rfl, ?_⟩
  repeat' (first|refine K ?_|(refine Sh.sa hS ?_;clear hS;intro w hS)|(refine K3 ?_;clear hS;intro g w hS hge)|(refine KB ?_ ?_<;>intro hb<;>(try simp only [JJ] at hb)<;>(try exact JX))|fail)
  refine Dnt Tryz.results35 ?_
  replace hS := Z.nilsl hS 149 8 none
  exact ⟨_, _, rfl, Sep.PC_open.2 ⟨_, _, _, _, _, hS.sb⟩⟩
theorem plen_o (g : Nat) (v0 v1 v3 v4 v5 v6 : Value) (A : Option Addr) (n cap : Nat) (r : World) (F : List Res) (w : World) (hS : Sep r [] (.blk g 162 [v0, v1, .slice A n cap, v3, v4, v5, v6] :: F) w) :
    Calls Tryz.prog 14 #[.pointer (some ⟨g, 0, none⟩)] w fun e w' => e = .returned (.int .i64 (n : Int)) ∧ Sep r [] (.blk g 162 [v0, v1, .slice A n cap, v3, v4, v5, v6] :: F) w' := by
  refine Z.enter Tryz.func14 Tryz.ntmps14 rfl rfl ?_
  repeat' (first|refine K ?_|(refine Sh.sa hS ?_;clear hS;intro w hS)|(refine K3 ?_;clear hS;intro g w hS hge)|(refine KB ?_ ?_<;>intro hb<;>(try simp only [JJ] at hb)<;>(try exact JX))|fail)
  refine Dnt Tryz.results14 ?_
  exact ⟨rfl, hS⟩
theorem pclen_z (g : Nat) (cell ten : Int) (vg : Value) (c : Cp) (r : World) (F : List Res) (w : World) (hS : Sep r [] (PC g cell ten vg c :: F) w) :
    Calls Tryz.prog 14 #[.pointer (some ⟨g, 0, none⟩)] w fun e w' => e = .returned (.int .i64 (c.h.length : Int)) ∧ Sep r [] (PC g cell ten vg c :: F) w' := by
  obtain ⟨A, cap, gs, gq, gt, hS⟩ := Sep.PC_open.1 hS
  exact (plen_o g _ _ _ _ _ _ A _ cap r _ w hS).mono fun e w' ⟨he, hS⟩ => ⟨he, Sep.PC_open.2 ⟨A, cap, gs, gq, gt, hS⟩⟩
set_option maxHeartbeats 1000000 in
theorem pepoch_o (g : Nat) (v0 v1 vh v3 v4 v5 v6 : Value) (h : List Ch) (r : World) (F : List Res) (w : World) (hS : Sep r [] (.blk g 162 [v0, v1, vh, v3, v4, v5, v6] :: F) w) (hrd : Reads r F 8 vh (h.map Ch.cells)) (hl : h.length ≤ 5000) :
    Calls Tryz.prog 105 #[.pointer (some ⟨g, 0, none⟩)] w fun e w' => e = .returned (.int .i64 (epochOf h)) ∧ Sep r [] (.blk g 162 [v0, v1, vh, v3, v4, v5, v6] :: F) w' := by
  obtain ⟨A, c, rfl, hc⟩ := (hrd [_] w hS).mform
  refine Z.enter Tryz.func105 Tryz.ntmps105 rfl rfl ?_
  repeat' (first|refine K ?_|(refine Sh.sa hS ?_;clear hS;intro w hS)|(refine K3 ?_;clear hS;intro g w hS hge)|(refine KB ?_ ?_<;>intro hb<;>(try simp only [JJ] at hb)<;>(try exact JX))|fail)
  · refine Dnt Tryz.results105 ?_
    have : h = [] := List.eq_nil_of_length_eq_zero (by omega)
    exact ⟨by rw [this]; rfl, hS⟩
  · have h0 : 0 < h.length := by omega
    obtain ⟨gb, o, rfl, _, _⟩ := (hrd [_] w hS).mat (by omega) (q := h.length - 1) (by omega)
    have e0 : ((h.length : Int) - 1).toNat = h.length - 1 := by omega
    have hra : ∀ W, Sep r [] (.blk g 162 [v0, v1, .slice (some ⟨gb, o, none⟩) h.length c, v3, v4, v5, v6] :: F) W → W.rangeAt gb (o + ((h.length : Int) - 1).toNat * 8) (h[h.length - 1]'(by omega)).cells := fun W hW => by rw [e0]; exact (hrd [_] W hW).elem (by omega) (by omega)
    refine D.startS hS 14 14 (by kernel_rfl) rfl ?_
    replace hS := hS.drew
    refine Sh.dp 0 1 ?_
    refine Sh.dp 1 3 ?_
    refine Sh.dp 2 7 ?_
    refine Sh.dp 4 23 ?_
    refine Sh.dp 5 55 ?_
    refine Sh.dp 6 119 ?_
    refine Sh.dl 3 127 ?_
    refine Sh.dl 7 255 ?_
    refine Sh.dp 8 511 ?_
    first | refine D.sum 9 1023 rfl D.wantedN (by kernel_rfl) rfl (by constructor <;> omega) ?_ | refine D.sumW 9 1023 rfl D.wantedN (by kernel_rfl) rfl ?_
    first | refine D.ixn 10 2047 rfl D.wantedN (by kernel_rfl) rfl rfl rfl (by omega) ?_ | refine D.ix 10 2047 rfl D.wantedN (by kernel_rfl) rfl rfl rfl (by omega) ?_ | refine D.ia 10 2047 rfl D.wantedN (by kernel_rfl) rfl rfl rfl (by omega) ?_
    refine Sh.dp 11 4095 ?_
    refine D.ldE 12 8191 rfl D.wantedN (by kernel_rfl) rfl hra rfl ?_
    refine Sh.dp 13 16383 ?_
    refine D.done (by kernel_rfl) ?_
    repeat' (first|refine K ?_|(refine Sh.sa hS ?_;clear hS;intro w hS)|(refine K3 ?_;clear hS;intro g w hS hge)|(refine KB ?_ ?_<;>intro hb<;>(try simp only [JJ] at hb)<;>(try exact JX))|fail)
    refine Dnt Tryz.results105 ?_
    exact ⟨by rw [epochOf_eq h0]; rfl, hS⟩
theorem addS_bad {s : List Ce} {q : Qu} {t : Tab} {x : Ch} (c : Cp) (hc : c = ⟨c.h, s, q, t⟩) (hv : validB x = true) (hq : x.seq = (c.h.length : Int) + 1 ∧ epochOf c.h ≤ x.epoch) : (cApp c x).2 = (addS s q t x).e ∧ ((addS s q t x).e ≠ 0 → (cApp c x).1 = c) ∧ ((addS s q t x).e = 0 → (cApp c x).1 = ⟨c.h ++ [x], (addS s q t x).s, (addS s q t x).q, (addS s q t x).t⟩) := by
  obtain ⟨h0, s0, q0, t0⟩ := c
  injection hc with _ h1 h2 h3
  subst h1 h2 h3
  unfold cApp addS
  rw [if_pos hv, if_pos hq]
  simp only
  by_cases ht : (tApp t0 x).2 = 0
  · rw [if_neg (by simpa using ht), if_pos ht]
    by_cases hs : (sApp s0 x).2 = 0
    · rw [if_neg (by simpa using hs), if_pos hs]
      by_cases hq' : (qApp q0 x).2 = 0
      · rw [if_neg (by simpa using hq')]
        simp [hq']
      · rw [if_pos hq']
        simp [hq']
    · rw [if_pos hs, if_neg hs]
      simp [hs]
  · rw [if_pos ht, if_neg ht]
    simp [ht]
set_option maxHeartbeats 4000000 in
theorem pcapply_z (g : Nat) (cell ten : Int) (vg : Value) (c : Cp) (x : Ch) (r : World) (F : List Res) (w : World) (hS : Sep r [] (PC g cell ten vg c :: F) w) (hok : COk c) (hl : c.h.length ≤ 4500) :
    Calls Tryz.prog 118 #[.pointer (some ⟨g, 0, none⟩), x.val] w fun e w' => e = .returned (.int .i64 (cApp c x).2) ∧ Sep r [] (PC g cell ten vg (cApp c x).1 :: F) w' := by
  obtain ⟨A, cap, gs, gq, gt, hS⟩ := Sep.PC_open.1 hS
  refine Z.enter Tryz.func118 Tryz.ntmps118 rfl rfl ?_
  repeat' (first|refine K ?_|(refine Sh.sa hS ?_;clear hS;intro w hS)|(refine K3 ?_;clear hS;intro g w hS hge)|(refine KB ?_ ?_<;>intro hb<;>(try simp only [JJ] at hb)<;>(try exact JX))|fail)
  rename Nat => gx
  refine Z.eff (Z.cl (svalid_any x _) rfl ?_) rfl
  rintro e w' ⟨rfl, hC⟩
  refine ⟨_, rfl, ?_⟩
  replace hS := hS.ext hC
  clear hC
  repeat' (first|refine K ?_|(refine Sh.sa hS ?_;clear hS;intro w hS)|(refine K3 ?_;clear hS;intro g w hS hge)|(refine KB ?_ ?_<;>intro hb<;>(try simp only [JJ] at hb)<;>(try exact JX))|fail)
  · refine Dnt Tryz.results118 ?_
    have e : cApp c x = (c, 1) := by simp [cApp, hb]
    rw [e]
    exact ⟨rfl, Sep.PC_open.2 ⟨_, _, _, _, _, hS.sb⟩⟩
  rename validB x = true => hv
  refine Z.cut [10, 11, 12, 13, 14, 15, 16, 17, 18, 19, 20, 21, 22] (fun w s => s = [(22, .bool (!decide (x.seq = (c.h.length : Int) + 1 ∧ epochOf c.h ≤ x.epoch)))] ∧ Sep r [] (.blk gx 149 x.cells :: .blk g 162 [.int .i64 cell, .int .i64 ten, .slice A c.h.length cap, .pointer (some ⟨gs, 0, .none⟩), .pointer (some ⟨gq, 0, .none⟩), .pointer (some ⟨gt, 0, .none⟩), vg] :: .sl 149 8 (.slice A c.h.length cap) (c.h.map Ch.cells) :: PS gs c.s :: PQ gq c.q :: PT gt c.t :: F) w) ?_ ?_
  · refine D.startS (Lr := (.blk gx 149 x.cells :: .blk g 162 [.int .i64 cell, .int .i64 ten, .slice A c.h.length cap, .pointer (some ⟨gs, 0, .none⟩), .pointer (some ⟨gq, 0, .none⟩), .pointer (some ⟨gt, 0, .none⟩), vg] :: .sl 149 8 (.slice A c.h.length cap) (c.h.map Ch.cells) :: PS gs c.s :: PQ gq c.q :: PT gt c.t :: F)) (hS.sb) 13 13 (by kernel_rfl) rfl ?_
    replace hS := hS.drew
    refine Sh.dp 0 1 ?_
    refine Sh.dp 2 5 ?_
    refine Sh.dl 1 7 ?_
    refine D.ef 3 15 ?_
    replace hS := hS.fo (R := .blk g _ _)
    refine Z.cl (plen_o g _ _ _ _ _ _ A _ cap r _ _ hS) rfl ?_
    clear hS
    rintro e w ⟨rfl, hS⟩
    refine ⟨_, rfl, ?_⟩
    refine HMs ?_
    first | refine D.sum 4 31 rfl D.wantedN (by kernel_rfl) rfl (by constructor <;> omega) ?_ | refine D.sumW 4 31 rfl D.wantedN (by kernel_rfl) rfl ?_
    first | refine D.pr 5 63 rfl D.wantedN (by kernel_rfl) rfl ?_ | refine D.pl 5 63 rfl D.wantedN (by kernel_rfl) (R.nea rfl rfl rfl rfl) ?_
    refine Sh.dp 6 127 ?_
    refine D.slot 16 rfl (fun hb => ?_) (fun hb => ?_)
    · (try simp only [JJ] at hb)
      refine D.skF 7 255 rfl (by kernel_rfl) rfl rfl ?_
      refine D.skF 8 511 rfl (by kernel_rfl) rfl rfl ?_
      refine D.skF 9 1023 rfl (by kernel_rfl) rfl rfl ?_
      refine D.skF 10 2047 rfl (by kernel_rfl) rfl rfl ?_
      refine D.skF 11 4095 rfl (by kernel_rfl) rfl rfl ?_
      refine Sh.dp 12 8191 ?_
      refine D.done (by kernel_rfl) ?_
      refine Sh.cut [(22, _)] ?_
      refine ⟨?_, hS.sb⟩
      by_cases he : x.epoch < epochOf c.h
      · have he' : ¬ epochOf c.h ≤ x.epoch := by omega
        simp [hb, he, he']
      · have he' : epochOf c.h ≤ x.epoch := by omega
        simp [hb, he, he']
    · (try simp only [JJ] at hb)
      refine Sh.dp 7 255 ?_
      refine Sh.dp 9 767 ?_
      refine Sh.dl 8 1023 ?_
      refine D.eff 10 2047 rfl (D.wantedT rfl rfl) (by kernel_rfl) (by kernel_rfl) (fun _ _ h => h) ?_
      refine WE.guard ?_
      replace hS := hS.fo (R := .blk g _ _)
      refine Z.cl (pepoch_o g _ _ _ _ _ _ _ c.h r _ _ hS (Reads.of_at AtF) (by omega)) rfl ?_
      clear hS
      rintro e w ⟨rfl, hS⟩
      refine ⟨_, rfl, ?_⟩
      refine HMs ?_
      refine Sh.dp 11 4095 ?_
      refine Sh.dp 12 8191 ?_
      refine D.done (by kernel_rfl) ?_
      refine Sh.cut [(22, _)] ?_
      refine ⟨?_, hS.sb⟩
      by_cases he : x.epoch < epochOf c.h
      · have he' : ¬ epochOf c.h ≤ x.epoch := by omega
        simp [hb, he, he']
      · have he' : epochOf c.h ≤ x.epoch := by omega
        simp [hb, he, he']
  clear hS
  rintro g0 w _ ⟨rfl, hS⟩
  repeat' (first|refine K ?_|(refine Sh.sa hS ?_;clear hS;intro w hS)|(refine K3 ?_;clear hS;intro g w hS hge)|(refine KB ?_ ?_<;>intro hb<;>(try simp only [JJ] at hb)<;>(try exact JX))|fail)
  · refine Dnt Tryz.results118 ?_
    have e : cApp c x = (c, 36) := by simp only [cApp, *]; simp [hb]
    rw [e]
    exact ⟨rfl, Sep.PC_open.2 ⟨_, _, _, _, _, hS.sb⟩⟩
  rename x.seq = _ ∧ _ => hq
  obtain ⟨e1, e2, e3⟩ := addS_bad (s := c.s) (q := c.q) (t := c.t) c rfl hv hq
  rw [e1]
  replace hS : Sep r [] (PS gs c.s :: PQ gq c.q :: PT gt c.t :: .blk gx 149 x.cells :: .blk g 162 [.int .i64 cell, .int .i64 ten, .slice A c.h.length cap, .pointer (some ⟨gs, 0, .none⟩), .pointer (some ⟨gq, 0, .none⟩), .pointer (some ⟨gt, 0, .none⟩), vg] :: .sl 149 8 (.slice A c.h.length cap) (c.h.map Ch.cells) :: F) w := hS.sb
  refine Z.eff (Z.cl (pfcopy_z gs gq gt c.s c.q c.t _ _ _ hS hok.l hok.r) rfl ?_) rfl
  clear hS
  rintro e w ⟨gs', gq', gt', rfl, hS⟩
  refine ⟨_, rfl, ?_⟩
  repeat' (first|refine K ?_|(refine Sh.sa hS ?_;clear hS;intro w hS)|(refine K3 ?_;clear hS;intro g w hS hge)|(refine KB ?_ ?_<;>intro hb<;>(try simp only [JJ] at hb)<;>(try exact JX))|fail)
  rename Nat => gf
  replace hS := hS.sub (L' := PS gs' c.s :: PQ gq' c.q :: PT gt' c.t :: .blk gf 160 _ :: .blk gx 149 x.cells :: .blk g 162 [.int .i64 cell, .int .i64 ten, .slice A c.h.length cap, .pointer (some ⟨gs, 0, .none⟩), .pointer (some ⟨gq, 0, .none⟩), .pointer (some ⟨gt, 0, .none⟩), vg] :: .sl 149 8 (.slice A c.h.length cap) (c.h.map Ch.cells) :: PS gs c.s :: PQ gq c.q :: PT gt c.t :: F) SuF
  refine Z.eff (Z.cl (padd_z gs' gq' gt' c.s c.q c.t x _ _ _ hS hok.t hok.ss hok.s hok.l hok.r) rfl ?_) rfl
  clear hS
  rintro e w ⟨rfl, hS⟩
  refine ⟨_, rfl, ?_⟩
  repeat' (first|refine K ?_|(refine Sh.sa hS ?_;clear hS;intro w hS)|(refine K3 ?_;clear hS;intro g w hS hge)|(refine KB ?_ ?_<;>intro hb<;>(try simp only [JJ] at hb)<;>(try exact JX))|fail)
  · refine Dnt Tryz.results118 ?_
    rw [e2 hb]
    exact ⟨rfl, Sep.PC_open.2 ⟨_, _, _, _, _, hS.sb⟩⟩
  rename (addS c.s c.q c.t x).e = 0 => hz
  refine D.startS (Lr := [.blk gx 149 x.cells, .blk g 162 [.int .i64 cell, .int .i64 ten, .slice A c.h.length cap, .pointer (some ⟨gs', 0, none⟩), .pointer (some ⟨gq', 0, none⟩), .pointer (some ⟨gt', 0, none⟩), vg]]) (hS.sb) 10 11 (by kernel_rfl) rfl ?_
  replace hS := hS.drew
  refine Sh.dp 0 1 ?_
  refine Sh.dp 1 3 ?_
  refine Sh.dp 2 7 ?_
  refine Sh.dp 3 15 ?_
  refine Sh.dl 4 31 ?_
  refine Sh.dl 5 63 ?_
  refine D.ef 6 127 ?_
  refine Z.bs hS rfl rfl rfl ?_
  clear hS; intro g w hS hge
  refine HMs ?_
  refine D.ef 7 255 ?_
  refine Z.apm (l' := [x]) hS rfl rfl rfl AtF (hS.lit1 AtF rfl rfl) LnF LnF ?_
  clear hS; intro A1 c1 w hS
  refine HMs ?_
  refine Sh.dp 8 511 ?_
  refine Sh.dp 9 1023 ?_
  refine D.ef 10 2047 ?_
  refine Z.st hS rfl AtF rfl rfl ?_
  clear hS; intro w hS
  refine ⟨HM.last (by kernel_rfl), ?_⟩
  refine D.done (by kernel_rfl) ?_
  repeat' (first|refine K ?_|(refine Sh.sa hS ?_;clear hS;intro w hS)|(refine K3 ?_;clear hS;intro g w hS hge)|(refine KB ?_ ?_<;>intro hb<;>(try simp only [JJ] at hb)<;>(try exact JX))|fail)
  refine Dnt Tryz.results118 ?_
  rw [e3 hz, hz]
  refine ⟨rfl, Sep.PC_open.2 ⟨A1, c1, gs', gq', gt', ?_⟩⟩
  simp only [List.length_append, List.length_singleton]
  exact hS.sb
structure Shp where
  ep : Int
  seq : Int
  before : Int
  ch : List Ch
end Go.Proofs.YtfmnjbhncnldmaaGreat
