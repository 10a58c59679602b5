import Derived.Test.YtfmnjbhncnldmaaGreatP03
import Derived.Test.YtfmnjbhncnldmaaGreatP17
set_option linter.unusedSimpArgs false
set_option linter.unusedVariables false
namespace Go.Proofs.YtfmnjbhncnldmaaGreat
open Go.RowKit
attribute [local irreducible] Res.blk Res.sl Res.all Res.ex Res.pure Res.star
set_option maxHeartbeats 1000000 in
theorem en_clone (l : List En) (v : Value) (r : World) (F : List Res) (w : World) (hS : Sep r [] F w) (hrd : Reads r F 9 v (l.map En.cells)) (hl : l.length ≤ 100000) :
    Calls Tryz.prog 205 #[v] w fun e w' => ∃ A c, e = .returned (.slice A l.length c) ∧ Sep r [] (.sl 63 9 (.slice A l.length c) (l.map En.cells) :: F) w' := by
  obtain ⟨_, A, c, hv, hnil, hc, _⟩ := hrd [] w hS
  simp only [List.length_map] at hv hc
  subst hv
  cases A with
  | none =>
    have hl0 : l = [] := by have := hnil rfl; exact List.eq_nil_of_length_eq_zero (by omega)
    subst hl0
    refine Z.enter Tryz.func205 Tryz.ntmps205 rfl rfl ?_
    repeat' (first|refine K ?_|(refine Sh.sa hS ?_;clear hS;intro w hS)|(refine K3 ?_;clear hS;intro g w hS hge)|(refine KB ?_ ?_<;>intro hb<;>(try simp only [JJ] at hb)<;>(try exact JX))|fail)
    refine Dnt Tryz.results205 ?_
    exact ⟨none, 0, rfl, Z.nilsl hS _ _ none⟩
  | some a =>
    refine Z.enter Tryz.func205 Tryz.ntmps205 rfl rfl ?_
    repeat' (first|refine K ?_|(refine Sh.sa hS ?_;clear hS;intro w hS)|(refine K3 ?_;clear hS;intro g w hS hge)|(refine KB ?_ ?_<;>intro hb<;>(try simp only [JJ] at hb)<;>(try exact JX))|fail)
    refine Z.eff (Z.ap0m hS rfl rfl rfl (hrd [_] _ hS) LnF LnF ?_) rfl
    clear hS; intro A' c' w hS
    repeat' (first|refine K ?_|(refine Sh.sa hS ?_;clear hS;intro w hS)|(refine K3 ?_;clear hS;intro g w hS hge)|(refine KB ?_ ?_<;>intro hb<;>(try simp only [JJ] at hb)<;>(try exact JX))|fail)
    refine Dnt Tryz.results205 ?_
    exact ⟨_, _, rfl, hS.sb⟩
section
variable (gq gp gj n : Nat) (t v : Int) (log : List Lg) (com : List En) (ro vo nx : Int) (A Ad : Option Addr) (c dc : Nat) (r : World) (F : List Res) (w : World) (hS : Sep r [] (.blk gq 248 [.slice A 1 c, (.slice none 0 0), .slice Ad com.length dc] :: .sl 249 1 (.slice A 1 c) ([gp].map ptC) :: .sl 63 9 (.slice Ad com.length dc) (com.map En.cells) :: JN gj t v log n :: .blk gp 331 (rpC gj ro log.length vo nx) :: F) w)
include hS
set_option maxHeartbeats 4000000 in
theorem qnote_z (hl : log.length ≤ 5000) (hcl : com.length ≤ log.length) (hce : com.length = log.length → com = log.map Lg.e) :
    Calls Tryz.prog 236 #[.pointer (some ⟨gq, 0, none⟩)] w fun e w' => ∃ (Ad2 : Option Addr) (dc2 : Nat), e = .returned (.tuple #[]) ∧ Sep r [] (.blk gq 248 [.slice A 1 c, (.slice none 0 0), .slice Ad2 log.length dc2] :: .sl 249 1 (.slice A 1 c) ([gp].map ptC) :: .sl 63 9 (.slice Ad2 log.length dc2) ((log.map Lg.e).map En.cells) :: JN gj t v log n :: .blk gp 331 (rpC gj ro log.length vo nx) :: F) w' := by
  refine Z.enter Tryz.func236 Tryz.ntmps236 rfl rfl ?_
  repeat' (first|refine K ?_|(refine Sh.sa hS ?_;clear hS;intro w hS)|(refine K3 ?_;clear hS;intro g w hS hge)|(refine KB ?_ ?_<;>intro hb<;>(try simp only [JJ] at hb)<;>(try exact JX))|fail)
  refine Z.lpS [3, 4, 6, 12, 13, 14, 15, 16, 17, 18, 19, 20, 21, 22, 23, 24, 25, 26, 27, 28, 29, 30, 31, 32, 33, 34, 35, 36, 37, 38, 39, 40, 41, 42, 43, 44, 45, 46, 47] (fun m w z => ∃ (i : Nat), z = [(12, .int .i64 i)] ∧ i ≤ 1 ∧ m = 1 - i ∧ ((i = 0 ∧ Sep r [] (.blk gq 248 [.slice A 1 c, (.slice none 0 0), .slice Ad com.length dc] :: .sl 249 1 (.slice A 1 c) ([gp].map ptC) :: .sl 63 9 (.slice Ad com.length dc) (com.map En.cells) :: JN gj t v log n :: .blk gp 331 (rpC gj ro log.length vo nx) :: F) w) ∨ (i = 1 ∧ ∃ (Ad2 : Option Addr) (dc2 : Nat), Sep r [] (.blk gq 248 [.slice A 1 c, (.slice none 0 0), .slice Ad2 log.length dc2] :: .sl 249 1 (.slice A 1 c) ([gp].map ptC) :: .sl 63 9 (.slice Ad2 log.length dc2) ((log.map Lg.e).map En.cells) :: JN gj t v log n :: .blk gp 331 (rpC gj ro log.length vo nx) :: F) w))) _ [(12, .int .i64 (0 : Nat))] TrF ⟨0, rfl, by omega, rfl, .inl ⟨rfl, hS⟩⟩ ?_
  clear hS
  rintro m f0 w _ ⟨i, rfl, hi, rfl, ⟨rfl, hS⟩ | ⟨rfl, Ad2, dc2, hS⟩⟩
  · obtain ⟨ga, oa, hAe, _, hra⟩ := (hS.slrows (e := 249) (v := .slice A 1 c) AtF).mat (by simp) (q := 0) (by simp)
    subst hAe
    have hra2 : w.rangeAt ga (oa + 0 * 1) (ptC gp) := by simpa using hra
    clear hra
    repeat' (first|refine K ?_|(refine Sh.sa hS ?_;clear hS;intro w hS)|(refine K3 ?_;clear hS;intro g w hS hge)|(refine KB ?_ ?_<;>intro hb<;>(try simp only [JJ] at hb)<;>(try exact JX))|fail)
    refine D.startS (Lr := [.blk gq 248 [.slice (some ⟨ga, oa, none⟩) 1 c, (.slice none 0 0), .slice Ad com.length dc]]) (hS.sb) 8 8 (by kernel_rfl) rfl ?_
    replace hS := hS.drew
    refine Sh.dp 0 1 ?_
    refine Sh.dp 2 5 ?_
    refine Sh.dp 3 13 ?_
    refine Sh.dp 4 29 ?_
    refine Sh.dl 5 61 ?_
    refine Sh.dp 6 125 ?_
    refine D.ef 1 127 ?_
    refine Z.cl (rcommit_z gp gj n t v log ro log.length vo nx _ _ _ ((hS.fo (R := .blk gp 331 (rpC gj ro log.length vo nx))).fo (R := JN gj t v log n))) rfl ?_
    clear hS
    rintro e w ⟨rfl, hS⟩
    refine ⟨_, rfl, ?_⟩
    refine HMs ?_
    refine Sh.dp 7 255 ?_
    refine D.done (by kernel_rfl) ?_
    repeat' (first|refine K ?_|(refine Sh.sa hS ?_;clear hS;intro w hS)|(refine K3 ?_;clear hS;intro g w hS hge)|(refine KB ?_ ?_<;>intro hb<;>(try simp only [JJ] at hb)<;>(try exact JX))|fail)
    · refine Sh.again (0) [(12, .int .i64 (1 : Nat))] ?_
      have he := hce (by omega)
      rw [← he]
      rw [show log.length = com.length by omega]
      exact ⟨1, rfl, by omega, rfl, .inr ⟨rfl, Ad, dc, by rw [show com.length = log.length by omega] at hS ⊢; exact hS.sb⟩⟩
    refine Z.eff (Z.cl (rcommit_z gp gj n t v log ro log.length vo nx _ _ _ hS) rfl ?_) rfl
    clear hS
    rintro e w ⟨rfl, hS⟩
    refine ⟨_, rfl, ?_⟩
    repeat' (first|refine K ?_|(refine Sh.sa hS ?_;clear hS;intro w hS)|(refine K3 ?_;clear hS;intro g w hS hge)|(refine KB ?_ ?_<;>intro hb<;>(try simp only [JJ] at hb)<;>(try exact JX))|fail)
    refine Z.eff (Z.mks (l := 0) (c := log.length) hS rfl rfl rfl (Nat.zero_le _) (by show 72 * log.length ≤ 281474976710656; omega) (by unfold maxLen; omega) ?_) rfl
    clear hS; intro gz w hS _
    replace hS := mk_sl0 (sz := 9) (c := log.length) hS (by unfold maxLen; omega) (by rw [zerosL_ln]; rfl)
    repeat' (first|refine K ?_|(refine Sh.sa hS ?_;clear hS;intro w hS)|(refine K3 ?_;clear hS;intro g w hS hge)|(refine KB ?_ ?_<;>intro hb<;>(try simp only [JJ] at hb)<;>(try exact JX))|fail)
    refine Z.eff (Z.cl (rlog_z gp gj n t v log ro log.length vo nx _ _ _ ((hS.fo (R := .blk gp 331 (rpC gj ro log.length vo nx))).fo (R := JN gj t v log n)) hl) rfl ?_) rfl
    clear hS
    rintro e w ⟨Al, cl, rfl, hS⟩
    refine ⟨_, rfl, ?_⟩
    have hlcl : log.length ≤ cl := by
      obtain ⟨_, _, e1, e2⟩ := (hS.slrows (e := 345) (v := .slice Al log.length cl) .here).mform
      injection e1 with _ _ e3
      subst e3
      simpa using e2
    repeat' (first|refine K ?_|(refine Sh.sa hS ?_;clear hS;intro w hS)|(refine K3 ?_;clear hS;intro g w hS hge)|(refine KB ?_ ?_<;>intro hb<;>(try simp only [JJ] at hb)<;>(try exact JX))|fail)
    refine Z.eff (Z.cl (rcommit_z gp gj n t v log ro log.length vo nx _ _ _ ((hS.fo (R := .blk gp 331 (rpC gj ro log.length vo nx))).fo (R := JN gj t v log n))) rfl ?_) rfl
    clear hS
    rintro e w ⟨rfl, hS⟩
    refine ⟨_, rfl, ?_⟩
    repeat' (first|refine K ?_|(refine Sh.sa hS ?_;clear hS;intro w hS)|(refine K3 ?_;clear hS;intro g w hS hge)|(refine KB ?_ ?_<;>intro hb<;>(try simp only [JJ] at hb)<;>(try exact JX))|fail)
    refine Z.lpS [4, 6, 33, 34, 35, 36, 37, 38, 39, 40, 41, 42] (fun m w z => ∃ (i : Nat) (o : List En) (Ae : Option Addr) (ce : Nat), z = [(4, .slice Ae o.length ce), (33, .int .i64 i)] ∧ i ≤ log.length ∧ o = (log.take i).map Lg.e ∧ m = log.length - i ∧ Sep r [] (.sl 63 9 (.slice Ae o.length ce) (o.map En.cells) :: .sl 345 10 (.slice Al log.length cl) (log.map Lg.cells) :: .blk gq 248 [.slice (some ⟨ga, oa, none⟩) 1 c, (.slice none 0 0), .slice Ad com.length dc] :: .sl 249 1 (.slice (some ⟨ga, oa, none⟩) 1 c) ([gp].map ptC) :: JN gj t v log n :: .blk gp 331 (rpC gj ro log.length vo nx) :: F) w) _ [(4, .slice (some ⟨gz, 0, none⟩) 0 log.length), (33, .int .i64 (0 : Nat))] TrF ⟨0, [], _, _, rfl, by omega, by simp, rfl, hS.sb⟩ ?_
    clear hS
    rintro m f1 w _ ⟨i, o, Ae, ce, rfl, hi, ho, rfl, hS⟩
    have hol : o.length = i := by rw [ho]; simp; omega
    by_cases hlt : i < log.length
    · obtain ⟨gl, ol, hAl, _, hrl⟩ := (hS.slrows (e := 345) (v := .slice Al log.length cl) AtF).mat (by omega) (q := i) (by simpa using hlt)
      subst hAl
      have hrl2 : w.rangeAt gl (ol + i * 10) log[i].cells := by simpa using hrl
      clear hrl
      have hsucc : (log.take (i + 1)).map Lg.e = o ++ [log[i].e] := by rw [List.take_succ_eq_append_getElem hlt, List.map_append, ← ho]; rfl
      generalize log[i] = x at *
      repeat' (first|refine K ?_|(refine Sh.sa hS ?_;clear hS;intro w hS)|(refine K3 ?_;clear hS;intro g w hS hge)|(refine KB ?_ ?_<;>intro hb<;>(try simp only [JJ] at hb)<;>(try exact JX))|fail)
      refine Z.eff (Z.apm (fc := En.cells) (l := o) (l' := [x.e]) hS rfl rfl rfl AtF (hS.lit1 AtF rfl rfl) LnF LnF ?_) rfl
      clear hS; intro A2 c2 w hS
      rw [← List.length_append] at hS ⊢
      repeat' (first|refine K ?_|(refine Sh.sa hS ?_;clear hS;intro w hS)|(refine K3 ?_;clear hS;intro g w hS hge)|(refine KB ?_ ?_<;>intro hb<;>(try simp only [JJ] at hb)<;>(try exact JX))|fail)
      refine Sh.again (log.length - (i + 1)) [(4, _), (33, .int .i64 (i + 1 : Nat))] ?_
      exact ⟨i + 1, o ++ [x.e], A2, c2, rfl, by omega, hsucc.symm, rfl, hS.sb⟩
    · obtain rfl : i = log.length := by omega
      rw [List.take_length] at ho
      subst ho
      rw [hol] at hS ⊢
      repeat' (first|refine K ?_|(refine Sh.sa hS ?_;clear hS;intro w hS)|(refine K3 ?_;clear hS;intro g w hS hge)|(refine KB ?_ ?_<;>intro hb<;>(try simp only [JJ] at hb)<;>(try exact JX))|fail)
      refine Sh.again (0) [(12, .int .i64 (1 : Nat))] ?_
      exact ⟨1, rfl, by omega, rfl, .inr ⟨rfl, Ae, ce, hS.sb⟩⟩
  · repeat' (first|refine K ?_|(refine Sh.sa hS ?_;clear hS;intro w hS)|(refine K3 ?_;clear hS;intro g w hS hge)|(refine KB ?_ ?_<;>intro hb<;>(try simp only [JJ] at hb)<;>(try exact JX))|fail)
    refine Dn Tryz.results236 ?_
    exact ⟨Ad2, dc2, rfl, hS⟩
theorem qlog_z (hl : log.length ≤ 5000) :
    Calls Tryz.prog 239 #[.pointer (some ⟨gq, 0, none⟩), .int .i64 0] w fun e w' => ∃ (Al : Option Addr) (cl : Nat), e = .returned (.slice Al log.length cl) ∧ Sep r [] (.sl 345 10 (.slice Al log.length cl) (log.map Lg.cells) :: (.blk gq 248 [.slice A 1 c, (.slice none 0 0), .slice Ad com.length dc] :: .sl 249 1 (.slice A 1 c) ([gp].map ptC) :: .sl 63 9 (.slice Ad com.length dc) (com.map En.cells) :: JN gj t v log n :: .blk gp 331 (rpC gj ro log.length vo nx) :: F)) w' := by
  refine Z.enter Tryz.func239 Tryz.ntmps239 rfl rfl ?_
  repeat' (first|refine K ?_|(refine Sh.sa hS ?_;clear hS;intro w hS)|(refine K3 ?_;clear hS;intro g w hS hge)|(refine KB ?_ ?_<;>intro hb<;>(try simp only [JJ] at hb)<;>(try exact JX))|fail)
  refine Z.eff (Z.cl (qhas_z gq gp A Ad c com.length dc _ _ _ hS 0) rfl ?_) rfl
  clear hS
  rintro e w ⟨rfl, hS⟩
  refine ⟨_, rfl, ?_⟩
  obtain ⟨ga, oa, hAe, _, hra⟩ := (hS.slrows (e := 249) (v := .slice A 1 c) AtF).mat (by simp) (q := 0) (by simp)
  subst hAe
  have hra2 : w.rangeAt ga (oa + 0 * 1) (ptC gp) := by simpa using hra
  clear hra
  repeat' (first|refine K ?_|(refine Sh.sa hS ?_;clear hS;intro w hS)|(refine K3 ?_;clear hS;intro g w hS hge)|(refine KB ?_ ?_<;>intro hb<;>(try simp only [JJ] at hb)<;>(try exact JX))|fail)
  refine Z.eff (Z.cl (rlog_z gp gj n t v log ro log.length vo nx _ _ _ ((hS.fo (R := .blk gp 331 (rpC gj ro log.length vo nx))).fo (R := JN gj t v log n)) hl) rfl ?_) rfl
  clear hS
  rintro e w ⟨Al, cl, rfl, hS⟩
  refine ⟨_, rfl, ?_⟩
  repeat' (first|refine K ?_|(refine Sh.sa hS ?_;clear hS;intro w hS)|(refine K3 ?_;clear hS;intro g w hS hge)|(refine KB ?_ ?_<;>intro hb<;>(try simp only [JJ] at hb)<;>(try exact JX))|fail)
  refine Dnt Tryz.results239 ?_
  exact ⟨Al, cl, rfl, hS.sb⟩
theorem qcommitted_z (hl : com.length ≤ 5000) :
    Calls Tryz.prog 111 #[.pointer (some ⟨gq, 0, none⟩)] w fun e w' => ∃ (Al : Option Addr) (cl : Nat), e = .returned (.slice Al com.length cl) ∧ Sep r [] (.sl 63 9 (.slice Al com.length cl) (com.map En.cells) :: (.blk gq 248 [.slice A 1 c, (.slice none 0 0), .slice Ad com.length dc] :: .sl 249 1 (.slice A 1 c) ([gp].map ptC) :: .sl 63 9 (.slice Ad com.length dc) (com.map En.cells) :: JN gj t v log n :: .blk gp 331 (rpC gj ro log.length vo nx) :: F)) w' := by
  refine Z.enter Tryz.func111 Tryz.ntmps111 rfl rfl ?_
  repeat' (first|refine K ?_|(refine Sh.sa hS ?_;clear hS;intro w hS)|(refine K3 ?_;clear hS;intro g w hS hge)|(refine KB ?_ ?_<;>intro hb<;>(try simp only [JJ] at hb)<;>(try exact JX))|fail)
  refine Z.eff (Z.cl (en_clone com _ _ _ _ hS (Reads.of_at (e := 63) (v := .slice Ad com.length dc) AtF) (by omega)) rfl ?_) rfl
  clear hS
  rintro e w ⟨Al, cl, rfl, hS⟩
  refine ⟨_, rfl, ?_⟩
  repeat' (first|refine K ?_|(refine Sh.sa hS ?_;clear hS;intro w hS)|(refine K3 ?_;clear hS;intro g w hS hge)|(refine KB ?_ ?_<;>intro hb<;>(try simp only [JJ] at hb)<;>(try exact JX))|fail)
  refine Dnt Tryz.results111 ?_
  exact ⟨Al, cl, rfl, hS.sb⟩
theorem qflush_z (up : Int) : Calls Tryz.prog 151 #[.pointer (some ⟨gq, 0, none⟩), .int .i64 up] w fun e w' => e = .returned (.int .i64 0) ∧ Sep r [] (.blk gq 248 [.slice A 1 c, (.slice none 0 0), .slice Ad com.length dc] :: .sl 249 1 (.slice A 1 c) ([gp].map ptC) :: .sl 63 9 (.slice Ad com.length dc) (com.map En.cells) :: JN gj t v log n :: .blk gp 331 (rpC gj ro log.length vo nx) :: F) w' := by
  refine Z.enter Tryz.func151 Tryz.ntmps151 rfl rfl ?_
  repeat' (first|refine K ?_|(refine Sh.sa hS ?_;clear hS;intro w hS)|(refine K3 ?_;clear hS;intro g w hS hge)|(refine KB ?_ ?_<;>intro hb<;>(try simp only [JJ] at hb)<;>(try exact JX))|fail)
  refine Z.lpS [5, 6, 7, 8, 9, 10, 11, 12, 13, 14, 15, 16, 17, 18, 19, 20, 21, 22, 23, 24, 25, 26, 27, 28, 29, 30, 31, 32, 33, 34, 35, 36, 37, 38, 39, 40, 41, 42, 43, 44, 45, 46, 47, 48, 49, 50, 51, 52, 53, 54, 55, 56] (fun m w z => z = [(5, .int .i64 0)] ∧ Sep r [] (.blk gq 248 [.slice A 1 c, (.slice none 0 0), .slice Ad com.length dc] :: .sl 249 1 (.slice A 1 c) ([gp].map ptC) :: .sl 63 9 (.slice Ad com.length dc) (com.map En.cells) :: JN gj t v log n :: .blk gp 331 (rpC gj ro log.length vo nx) :: F) w) 0 [(5, .int .i64 0)] TrF ⟨rfl, hS⟩ ?_
  clear hS
  rintro m f0 w _ ⟨rfl, hS⟩
  repeat' (first|refine K ?_|(refine Sh.sa hS ?_;clear hS;intro w hS)|(refine K3 ?_;clear hS;intro g w hS hge)|(refine KB ?_ ?_<;>intro hb<;>(try simp only [JJ] at hb)<;>(try exact JX))|fail)
  refine Dnt Tryz.results151 ?_
  exact ⟨rfl, hS⟩
end
structure QP1 where
  gp : Nat
  gj : Nat
  v : Int
  vo : Int
  nx : Int
  A : Option Addr
  c : Nat
  Ad : Option Addr
  dc : Nat
def Q1R (gq : Nat) (ro t : Int) (log : List Lg) (n : Nat) (p : QP1) : List Res :=
  [.blk gq 248 [.slice p.A 1 p.c, (.slice none 0 0), .slice p.Ad (log.map Lg.e).length p.dc], .sl 249 1 (.slice p.A 1 p.c) ([p.gp].map ptC), .sl 63 9 (.slice p.Ad (log.map Lg.e).length p.dc) ((log.map Lg.e).map En.cells), JN p.gj t p.v log n, .blk p.gp 331 (rpC p.gj ro log.length p.vo p.nx)]
def Q1 (gq : Nat) (ro t : Int) (log : List Lg) (n : Nat) : Res := .ex fun p : QP1 => .all (Q1R gq ro t log n p)
theorem Sep.Q1_open {r w : World} {M : List Nat} {F : List Res} {gq : Nat} {ro t : Int} {log : List Lg} {n : Nat} : Sep r M (Q1 gq ro t log n :: F) w ↔ ∃ p, Sep r M (Q1R gq ro t log n p ++ F) w := by
  simp only [Q1, Sep.ex_open, Sep.all_open]
section
variable (gq n : Nat) (ro t : Int) (log : List Lg) (r : World) (F : List Res) (w : World) (hS : Sep r [] (Q1 gq ro t log n :: F) w)
include hS
set_option maxHeartbeats 2000000 in
theorem qdoc_z (e : En) (ht : 0 ≤ t ∧ t < 1073741824) (hn : n ≤ 1000000000) (hl : log.length ≤ 5000) :
    Calls Tryz.prog 150 #[.pointer (some ⟨gq, 0, none⟩), .agg (acC 1 0 e).toArray] w fun x w' => x = .returned (.int .i64 0) ∧ Sep r [] (Q1 gq 3 (t + 1) log (n + 48) :: F) w' := by
  obtain ⟨⟨gp, gj, v, vo, nx, A, c, Ad, dc⟩, hS⟩ := Sep.Q1_open.1 hS
  simp only [Q1R, List.cons_append, List.nil_append] at hS
  have hl2 : (log.map Lg.e).length = log.length := by simp
  refine Z.enter Tryz.func150 Tryz.ntmps150 rfl rfl ?_
  repeat' (first|refine K ?_|(refine Sh.sa hS ?_;clear hS;intro w hS)|(refine K3 ?_;clear hS;intro g w hS hge)|(refine KB ?_ ?_<;>intro hb<;>(try simp only [JJ] at hb)<;>(try exact JX))|fail)
  rename Nat => gb
  refine Z.eff (Z.cl (qperm_z gq gp A Ad c _ dc _ _ _ ((hS.fo (R := .sl 249 1 (.slice A 1 c) ([gp].map ptC))).fo (R := .blk gq 248 [.slice A 1 c, (.slice none 0 0), .slice Ad (log.map Lg.e).length dc])) 1 e (.inl rfl)) rfl ?_) rfl
  clear hS
  rintro e w ⟨rfl, hS⟩
  refine ⟨_, rfl, ?_⟩
  obtain ⟨ga, oa, hAe, _, hra⟩ := (hS.slrows (e := 249) (v := .slice A 1 c) AtF).mat (by simp) (q := 0) (by simp)
  subst hAe
  have hra2 : w.rangeAt ga (oa + 0 * 1) (ptC gp) := by simpa using hra
  clear hra
  repeat' (first|refine K ?_|(refine Sh.sa hS ?_;clear hS;intro w hS)|(refine K3 ?_;clear hS;intro g w hS hge)|(refine KB ?_ ?_<;>intro hb<;>(try simp only [JJ] at hb)<;>(try exact JX))|fail)
  refine D.startS (Lr := [.blk gq 248 [.slice (some ⟨ga, oa, none⟩) 1 c, (.slice none 0 0), .slice Ad (log.map Lg.e).length dc], .sl 249 1 (.slice (some ⟨ga, oa, none⟩) 1 c) ([gp].map ptC), .blk gb 269 (acC 1 0 e)]) (hS.sb) 11 11 (by kernel_rfl) rfl ?_
  replace hS := hS.drew
  refine Sh.dp 0 1 ?_
  refine Sh.dp 1 3 ?_
  refine Sh.dp 2 7 ?_
  refine Sh.dp 3 15 ?_
  refine Sh.dp 5 47 ?_
  refine Sh.dl 4 63 ?_
  refine Sh.dl 6 127 ?_
  first | refine D.ixn 7 255 rfl D.wantedN (by kernel_rfl) rfl rfl rfl (by omega) ?_ | refine D.ix 7 255 rfl D.wantedN (by kernel_rfl) rfl rfl rfl (by omega) ?_ | refine D.ia 7 255 rfl D.wantedN (by kernel_rfl) rfl rfl rfl (by omega) ?_
  refine D.ldR 8 511 rfl D.wantedN (by kernel_rfl) rfl (fun W h => by have h1 := (h.slrows (e := 249) (v := .slice (some ⟨ga, oa, none⟩) 1 c) AtF).elem (q := 0) (by omega) (by simp); simpa using h1) rfl ?_
  refine D.ef 9 1023 ?_
  refine Z.cl (rcampaign_z gp gj n t v log ro log.length vo nx _ _ _ ((hS.fo (R := .blk gp 331 (rpC gj ro log.length vo nx))).fo (R := JN gj t v log n)) ht hn) rfl ?_
  clear hS
  rintro e w ⟨rfl, hS⟩
  refine ⟨_, rfl, ?_⟩
  refine HMs ?_
  refine D.ef 10 2047 ?_
  refine Z.cl (qsend_z gq gp (some ⟨ga, oa, none⟩) Ad c _ dc _ _ _ ((hS.fo (R := .sl 249 1 (.slice (some ⟨ga, oa, none⟩) 1 c) ([gp].map ptC))).fo (R := .blk gq 248 [.slice (some ⟨ga, oa, none⟩) 1 c, (.slice none 0 0), .slice Ad (log.map Lg.e).length dc]))) rfl ?_
  clear hS
  rintro e w ⟨rfl, hS⟩
  refine ⟨_, rfl, ?_⟩
  refine HMs ?_
  refine D.done (by kernel_rfl) ?_
  repeat' (first|refine K ?_|(refine Sh.sa hS ?_;clear hS;intro w hS)|(refine K3 ?_;clear hS;intro g w hS hge)|(refine KB ?_ ?_<;>intro hb<;>(try simp only [JJ] at hb)<;>(try exact JX))|fail)
  refine Z.eff (Z.cl (qnote_z gq gp gj (n + 48) (t + 1) 0 log (log.map Lg.e) 3 1 log.length (some ⟨ga, oa, none⟩) Ad c dc _ _ _ (hS.sub (L' := .blk gq 248 [.slice (some ⟨ga, oa, none⟩) 1 c, (.slice none 0 0), .slice Ad (log.map Lg.e).length dc] :: .sl 249 1 (.slice (some ⟨ga, oa, none⟩) 1 c) ([gp].map ptC) :: .sl 63 9 (.slice Ad (log.map Lg.e).length dc) ((log.map Lg.e).map En.cells) :: JN gj (t + 1) 0 log (n + 48) :: .blk gp 331 (rpC gj 3 log.length 1 log.length) :: F) SuF) hl (by omega) (fun _ => rfl)) rfl ?_) rfl
  clear hS
  rintro e w ⟨Ad2, dc2, rfl, hS⟩
  refine ⟨_, rfl, ?_⟩
  repeat' (first|refine K ?_|(refine Sh.sa hS ?_;clear hS;intro w hS)|(refine K3 ?_;clear hS;intro g w hS hge)|(refine KB ?_ ?_<;>intro hb<;>(try simp only [JJ] at hb)<;>(try exact JX))|fail)
  refine Dnt Tryz.results150 ?_
  refine ⟨rfl, Sep.Q1_open.2 ⟨⟨gp, gj, 0, 1, log.length, some ⟨ga, oa, none⟩, c, Ad2, dc2⟩, ?_⟩⟩
  simp only [Q1R, List.cons_append, List.nil_append]
  rw [hl2]
  exact hS.sb
set_option maxHeartbeats 2000000 in
theorem qdop_z (e : En) (he : e.i64) (h3 : ro = 3) (h1 : 1 ≤ t ∧ t ≤ 1073741824) (h2 : shapeP e = true) (h4 : (lgAt log (log.length - 1)).term ≤ t) (h5 : log.length < 4096) (hn : n ≤ 1000000000) :
    Calls Tryz.prog 150 #[.pointer (some ⟨gq, 0, none⟩), .agg (acC 2 0 e).toArray] w fun x w' => x = .returned (.int .i64 0) ∧ Sep r [] (Q1 gq 3 t (log ++ [⟨t, e⟩]) (n + 128) :: F) w' := by
  subst h3
  obtain ⟨⟨gp, gj, v, vo, nx, A, c, Ad, dc⟩, hS⟩ := Sep.Q1_open.1 hS
  simp only [Q1R, List.cons_append, List.nil_append] at hS
  have hl2 : ∀ l : List Lg, (l.map Lg.e).length = l.length := fun l => by simp
  have hl3 : ((log ++ [(⟨t, e⟩ : Lg)]).length : Int) = log.length + 1 := by simp
  refine Z.enter Tryz.func150 Tryz.ntmps150 rfl rfl ?_
  repeat' (first|refine K ?_|(refine Sh.sa hS ?_;clear hS;intro w hS)|(refine K3 ?_;clear hS;intro g w hS hge)|(refine KB ?_ ?_<;>intro hb<;>(try simp only [JJ] at hb)<;>(try exact JX))|fail)
  rename Nat => gb
  refine Z.eff (Z.cl (qperm_z gq gp A Ad c _ dc _ _ _ ((hS.fo (R := .sl 249 1 (.slice A 1 c) ([gp].map ptC))).fo (R := .blk gq 248 [.slice A 1 c, (.slice none 0 0), .slice Ad (log.map Lg.e).length dc])) 2 e (.inr rfl)) rfl ?_) rfl
  clear hS
  rintro e w ⟨rfl, hS⟩
  refine ⟨_, rfl, ?_⟩
  obtain ⟨ga, oa, hAe, _, hra⟩ := (hS.slrows (e := 249) (v := .slice A 1 c) AtF).mat (by simp) (q := 0) (by simp)
  subst hAe
  have hra2 : w.rangeAt ga (oa + 0 * 1) (ptC gp) := by simpa using hra
  clear hra
  repeat' (first|refine K ?_|(refine Sh.sa hS ?_;clear hS;intro w hS)|(refine K3 ?_;clear hS;intro g w hS hge)|(refine KB ?_ ?_<;>intro hb<;>(try simp only [JJ] at hb)<;>(try exact JX))|fail)
  refine D.startS (Lr := [.blk gq 248 [.slice (some ⟨ga, oa, none⟩) 1 c, (.slice none 0 0), .slice Ad (log.map Lg.e).length dc], .sl 249 1 (.slice (some ⟨ga, oa, none⟩) 1 c) ([gp].map ptC), .blk gb 269 (acC 2 0 e)]) (hS.sb) 16 16 (by kernel_rfl) rfl ?_
  replace hS := hS.drew
  refine Sh.dp 0 1 ?_
  refine Sh.dp 1 3 ?_
  refine Sh.dp 2 7 ?_
  refine Sh.dp 4 23 ?_
  refine Sh.dp 8 279 ?_
  refine Sh.dl 3 287 ?_
  refine Sh.dl 5 319 ?_
  first | refine D.ixn 6 383 rfl D.wantedN (by kernel_rfl) rfl rfl rfl (by omega) ?_ | refine D.ix 6 383 rfl D.wantedN (by kernel_rfl) rfl rfl rfl (by omega) ?_ | refine D.ia 6 383 rfl D.wantedN (by kernel_rfl) rfl rfl rfl (by omega) ?_
  refine D.ldR 7 511 rfl D.wantedN (by kernel_rfl) rfl (fun W h => by have h1 := (h.slrows (e := 249) (v := .slice (some ⟨ga, oa, none⟩) 1 c) AtF).elem (q := 0) (by omega) (by simp); simpa using h1) rfl ?_
  refine Sh.dl 9 1023 ?_
  refine D.ef 10 2047 ?_
  refine Z.cl (rpropose_z gp gj n t v log 3 log.length vo nx _ _ _ ((hS.fo (R := .blk gp 331 (rpC gj 3 log.length vo nx))).fo (R := JN gj t v log n)) e he rfl h1 h2 h4 h5 (by omega) hn) rfl ?_
  clear hS
  rintro e w ⟨rfl, hS⟩
  refine ⟨_, rfl, ?_⟩
  refine HMs ?_
  refine Sh.dp 11 4095 ?_
  refine Sh.dp 12 8191 ?_
  refine Sh.dp 13 16383 ?_
  refine Sh.dp 14 32767 ?_
  refine Sh.dp 15 65535 ?_
  refine D.done (by kernel_rfl) ?_
  rw [← hl3] at hS
  repeat' (first|refine K ?_|(refine Sh.sa hS ?_;clear hS;intro w hS)|(refine K3 ?_;clear hS;intro g w hS hge)|(refine KB ?_ ?_<;>intro hb<;>(try simp only [JJ] at hb)<;>(try exact JX))|fail)
  refine Z.eff (Z.cl (qsend_z gq gp (some ⟨ga, oa, none⟩) Ad c _ dc _ _ _ ((hS.fo (R := .sl 249 1 (.slice (some ⟨ga, oa, none⟩) 1 c) ([gp].map ptC))).fo (R := .blk gq 248 [.slice (some ⟨ga, oa, none⟩) 1 c, (.slice none 0 0), .slice Ad (log.map Lg.e).length dc]))) rfl ?_) rfl
  clear hS
  rintro e w ⟨rfl, hS⟩
  refine ⟨_, rfl, ?_⟩
  repeat' (first|refine K ?_|(refine Sh.sa hS ?_;clear hS;intro w hS)|(refine K3 ?_;clear hS;intro g w hS hge)|(refine KB ?_ ?_<;>intro hb<;>(try simp only [JJ] at hb)<;>(try exact JX))|fail)
  refine Z.eff (Z.cl (qnote_z gq gp gj (n + 128) t v (log ++ [⟨t, e⟩]) (log.map Lg.e) 3 vo nx (some ⟨ga, oa, none⟩) Ad c dc _ _ _ (hS.sub (L' := .blk gq 248 [.slice (some ⟨ga, oa, none⟩) 1 c, (.slice none 0 0), .slice Ad (log.map Lg.e).length dc] :: .sl 249 1 (.slice (some ⟨ga, oa, none⟩) 1 c) ([gp].map ptC) :: .sl 63 9 (.slice Ad (log.map Lg.e).length dc) ((log.map Lg.e).map En.cells) :: JN gj t v (log ++ [⟨t, e⟩]) (n + 128) :: .blk gp 331 (rpC gj 3 (log ++ [(⟨t, e⟩ : Lg)]).length vo nx) :: F) SuF) (by simp; omega) (by simp) (fun h => by simp at h)) rfl ?_) rfl
  clear hS
  rintro e w ⟨Ad2, dc2, rfl, hS⟩
  refine ⟨_, rfl, ?_⟩
  repeat' (first|refine K ?_|(refine Sh.sa hS ?_;clear hS;intro w hS)|(refine K3 ?_;clear hS;intro g w hS hge)|(refine KB ?_ ?_<;>intro hb<;>(try simp only [JJ] at hb)<;>(try exact JX))|fail)
  refine Dnt Tryz.results150 ?_
  refine ⟨rfl, Sep.Q1_open.2 ⟨⟨gp, gj, v, vo, nx, some ⟨ga, oa, none⟩, c, Ad2, dc2⟩, ?_⟩⟩
  simp only [Q1R, List.cons_append, List.nil_append]
  rw [hl2]
  exact hS.sb
theorem qleader1_z : Calls Tryz.prog 148 #[.pointer (some ⟨gq, 0, none⟩)] w fun e w' => e = .returned (.int .i64 (if ro = 3 then 0 else -1)) ∧ Sep r [] (Q1 gq ro t log n :: F) w' := by
  obtain ⟨⟨gp, gj, v, vo, nx, A, c, Ad, dc⟩, hS⟩ := Sep.Q1_open.1 hS
  refine (qleader_z gq gp gj n t v log ro log.length vo nx A Ad c (log.map Lg.e).length dc r (.sl 63 9 (.slice Ad (log.map Lg.e).length dc) ((log.map Lg.e).map En.cells) :: F) w (hS.sb)).mono fun x w' ⟨hx, hS⟩ => ⟨hx, Sep.Q1_open.2 ⟨⟨gp, gj, v, vo, nx, A, c, Ad, dc⟩, hS.sb⟩⟩
theorem qcommit1_z : Calls Tryz.prog 152 #[.pointer (some ⟨gq, 0, none⟩), .int .i64 0] w fun e w' => e = .returned (.int .i64 (log.length : Nat)) ∧ Sep r [] (Q1 gq ro t log n :: F) w' := by
  obtain ⟨⟨gp, gj, v, vo, nx, A, c, Ad, dc⟩, hS⟩ := Sep.Q1_open.1 hS
  refine (qcommit_z gq gp gj n t v log ro log.length vo nx A Ad c (log.map Lg.e).length dc r (.sl 63 9 (.slice Ad (log.map Lg.e).length dc) ((log.map Lg.e).map En.cells) :: F) w (hS.sb)).mono fun x w' ⟨hx, hS⟩ => ⟨hx, Sep.Q1_open.2 ⟨⟨gp, gj, v, vo, nx, A, c, Ad, dc⟩, hS.sb⟩⟩
theorem qlog1_z (hl : log.length ≤ 5000) : Calls Tryz.prog 239 #[.pointer (some ⟨gq, 0, none⟩), .int .i64 0] w fun e w' => ∃ (Al : Option Addr) (cl : Nat), e = .returned (.slice Al log.length cl) ∧ Sep r [] (.sl 345 10 (.slice Al log.length cl) (log.map Lg.cells) :: Q1 gq ro t log n :: F) w' := by
  obtain ⟨⟨gp, gj, v, vo, nx, A, c, Ad, dc⟩, hS⟩ := Sep.Q1_open.1 hS
  refine (qlog_z gq gp gj n t v log (log.map Lg.e) ro vo nx A Ad c dc r F w (hS.sb) hl).mono fun x w' ⟨Al, cl, hx, hS⟩ => ⟨Al, cl, hx, ?_⟩
  refine Sep.sub (L := Q1 gq ro t log n :: .sl 345 10 (.slice Al log.length cl) (log.map Lg.cells) :: F) (Sep.Q1_open.2 ⟨⟨gp, gj, v, vo, nx, A, c, Ad, dc⟩, ?_⟩) SuF
  simp only [Q1R, List.cons_append, List.nil_append]
  exact hS.sb
theorem qcommitted1_z (hl : log.length ≤ 5000) : Calls Tryz.prog 111 #[.pointer (some ⟨gq, 0, none⟩)] w fun e w' => ∃ (Al : Option Addr) (cl : Nat), e = .returned (.slice Al (log.map Lg.e).length cl) ∧ Sep r [] (.sl 63 9 (.slice Al (log.map Lg.e).length cl) ((log.map Lg.e).map En.cells) :: Q1 gq ro t log n :: F) w' := by
  obtain ⟨⟨gp, gj, v, vo, nx, A, c, Ad, dc⟩, hS⟩ := Sep.Q1_open.1 hS
  refine (qcommitted_z gq gp gj n t v log (log.map Lg.e) ro vo nx A Ad c dc r F w (hS.sb) (by simpa using hl)).mono fun x w' ⟨Al, cl, hx, hS⟩ => ⟨Al, cl, hx, ?_⟩
  refine Sep.sub (L := Q1 gq ro t log n :: .sl 63 9 (.slice Al (log.map Lg.e).length cl) ((log.map Lg.e).map En.cells) :: F) (Sep.Q1_open.2 ⟨⟨gp, gj, v, vo, nx, A, c, Ad, dc⟩, ?_⟩) SuF
  simp only [Q1R, List.cons_append, List.nil_append]
  exact hS.sb
theorem qflush1_z (up : Int) : Calls Tryz.prog 151 #[.pointer (some ⟨gq, 0, none⟩), .int .i64 up] w fun e w' => e = .returned (.int .i64 0) ∧ Sep r [] (Q1 gq ro t log n :: F) w' := by
  obtain ⟨⟨gp, gj, v, vo, nx, A, c, Ad, dc⟩, hS⟩ := Sep.Q1_open.1 hS
  refine (qflush_z gq gp gj n t v log (log.map Lg.e) ro vo nx A Ad c dc r F w (hS.sb) up).mono fun x w' ⟨hx, hS⟩ => ⟨hx, Sep.Q1_open.2 ⟨⟨gp, gj, v, vo, nx, A, c, Ad, dc⟩, ?_⟩⟩
  simp only [Q1R, List.cons_append, List.nil_append]
  exact hS.sb
end
end Go.Proofs.YtfmnjbhncnldmaaGreat
