import Derived.Test.YtfmnjbhncnldmaaGreatR37
set_option linter.unusedSimpArgs false
set_option linter.unusedVariables false
namespace Go.Proofs.YtfmnjbhncnldmaaGreat
open Go.RowKit
attribute [local irreducible] Res.blk Res.sl Res.all Res.ex Res.pure Res.star
def PLN (gp gq : Nat) (up : Int) (c : Cfg) (s : Sta) : Res := .ex fun p : CAd × SAd => .all [.blk gp 179 (plC c p.1 gq up s p.2), CfO c p.1, SO c s p.2]
theorem Sep.PLN_open {r w : World} {M : List Nat} {F : List Res} {gp gq : Nat} {up : Int} {c : Cfg} {s : Sta} : Sep r M (PLN gp gq up c s :: F) w ↔ ∃ a b, Sep r M (.blk gp 179 (plC c a gq up s b) :: CfO c a :: SO c s b :: F) w := by
  simp only [PLN, Sep.ex_open, Sep.all_open, List.cons_append, List.nil_append]
  exact ⟨fun ⟨⟨a, b⟩, h⟩ => ⟨a, b, h⟩, fun ⟨a, b, h⟩ => ⟨(a, b), h⟩⟩
theorem qnew1_z (r : World) (F : List Res) (w : World) (hS : Sep r [] F w) :
    Calls Tryz.prog 61 #[.int .i64 1] w fun e w' => ∃ (gq : Nat), e = .returned (.tuple #[.pointer (some ⟨gq, 0, none⟩), .int .i64 0]) ∧ Sep r [] (Q1 gq 1 0 [] 0 :: F) w' := by
  refine (qnew_z r F w hS).mono ?_
  rintro e w' ⟨gq, gp, gj, A, c, rfl, hS⟩
  refine ⟨gq, rfl, Sep.Q1_open.2 ⟨⟨gp, gj, -1, 0, 0, A, c, none, 0⟩, ?_⟩⟩
  replace hS := Z.nilsl hS 63 9 none
  simp only [Q1R, List.cons_append, List.nil_append, List.map_nil, List.length_nil]
  exact hS.sb
set_option maxHeartbeats 4000000 in
theorem plnew1_z (c : Cfg) (a : CAd) (r : World) (F : List Res) (w : World) (hS : Sep r [] F w) (hr : CfA r F c a) (hv : CfgV c) (hn : c.replicas.length = 1) :
    Calls Tryz.prog 19 #[c.val a] w fun e w' => ∃ (gp gq : Nat), e = .returned (.tuple #[.pointer (some ⟨gp, 0, none⟩), .int .i64 0]) ∧ Sep r [] (PLN gp gq 1 c (newS c) :: Q1 gq 1 0 [] 0 :: F) w' := by
  have h3 := hv.ok.t
  have h2 := hv.ok.k
  refine Z.enter Tryz.func19 Tryz.ntmps19 rfl rfl ?_
  repeat' (first|refine K ?_|(refine Sh.sa hS ?_;clear hS;intro w hS)|(refine K3 ?_;clear hS;intro g w hS hge)|((first|refine GS ?_ ?_|refine VB ?_ ?_)<;>intro hb<;>(try simp only [JJ] at hb)<;>(try exact JX)))
  rename Nat => g0
  refine Z.eff (Z.cl (nvalid_z c a _ _ _ hS (hr.cons _) hv) rfl ?_) rfl
  clear hS
  rintro e w ⟨rfl, hS⟩
  refine ⟨_, rfl, ?_⟩
  repeat' (first|refine K ?_|(refine Sh.sa hS ?_;clear hS;intro w hS)|(refine K3 ?_;clear hS;intro g w hS hge)|((first|refine GS ?_ ?_|refine VB ?_ ?_)<;>intro hb<;>(try simp only [JJ] at hb)<;>(try exact JX)))
  rw [hn]
  refine Z.eff (Z.cl (qnew1_z _ _ _ hS) rfl ?_) rfl
  clear hS
  rintro e w ⟨gq, rfl, hS⟩
  refine ⟨_, rfl, ?_⟩
  repeat' (first|refine K ?_|(refine Sh.sa hS ?_;clear hS;intro w hS)|(refine K3 ?_;clear hS;intro g w hS hge)|((first|refine GS ?_ ?_|refine VB ?_ ?_)<;>intro hb<;>(try simp only [JJ] at hb)<;>(try exact JX)))
  refine Z.eff (Z.cl (plcloned_z c a _ _ _ hS (hr.app [_, _]) hv) rfl ?_) rfl
  clear hS
  rintro e w ⟨a', rfl, hS⟩
  refine ⟨_, rfl, ?_⟩
  repeat' (first|refine K ?_|(refine Sh.sa hS ?_;clear hS;intro w hS)|(refine K3 ?_;clear hS;intro g w hS hge)|((first|refine GS ?_ ?_|refine VB ?_ ?_)<;>intro hb<;>(try simp only [JJ] at hb)<;>(try exact JX)))
  refine D.startS (Lr := [.blk g0 55 (c.cl a')]) (hS.sb) 13 13 (by kernel_rfl) rfl ?_
  replace hS := hS.drew
  refine Sh.dp 1 2 ?_
  refine Sh.dp 2 6 ?_
  refine Sh.dl 0 7 ?_
  refine Sh.dl 3 15 ?_
  refine Sh.dp 4 31 ?_
  refine D.pl 5 63 rfl D.wantedN (by kernel_rfl) (R.ish (v := .int .i64 2) rfl rfl (by rw [hn]; rfl) (by omega)) ?_
  first | refine D.sum 6 127 rfl D.wantedN (by kernel_rfl) rfl (by constructor <;> omega) ?_ | refine D.sumW 6 127 rfl D.wantedN (by kernel_rfl) rfl ?_
  refine Sh.dl 7 255 ?_
  refine D.eff 8 511 rfl D.wantedN (by kernel_rfl) (by kernel_rfl) (fun _ _ h => h) ?_
  refine Z.cl (sanew_z c a' _ _ _ hS (by omega) (by omega)) rfl ?_
  clear hS
  rintro e w ⟨b', rfl, hS⟩
  refine ⟨_, rfl, ?_⟩
  refine ⟨HM.s (hS.sb), ?_⟩
  first | refine D.bu 9 1023 rfl D.wantedN (by kernel_rfl) rfl rfl ?_ | refine D.buA 9 1023 rfl D.wantedN (by kernel_rfl) rfl rfl ?_
  refine D.eff 10 2047 rfl D.wantedN (by kernel_rfl) (by kernel_rfl) (fun _ _ h => h) ?_
  refine Z.bx hS rfl ?_
  clear hS; intro gp w hS hge
  refine ⟨HM.s (hS.sb), ?_⟩
  refine Sh.dp 11 4095 ?_
  refine Sh.dp 12 8191 ?_
  refine D.done (by kernel_rfl) ?_
  repeat' (first|refine K ?_|(refine Sh.sa hS ?_;clear hS;intro w hS)|(refine K3 ?_;clear hS;intro g w hS hge)|((first|refine GS ?_ ?_|refine VB ?_ ?_)<;>intro hb<;>(try simp only [JJ] at hb)<;>(try exact JX)))
  refine Dntt Tryz.results19 ?_
  exact ⟨gp, gq, rfl, (Sep.sub (L := PLN gp gq 1 c (newS c) :: Q1 gq 1 0 [] 0 :: F) (Sep.PLN_open.2 ⟨a', b', hS.sb⟩) SuF)⟩
set_option maxHeartbeats 8000000 in
theorem plpropose_z (gp gq : Nat) (c : Cfg) (s : Sta) (e : En) (ro t : Int) (log : List Lg) (n : Nat) (r : World) (F : List Res) (w : World) (hS : Sep r [] (PLN gp gq 1 c s :: Q1 gq ro t log n :: F) w) (hn : c.replicas.length = 1) (hro : (ro = 3 ∧ t = 1) ∨ (ro = 1 ∧ t = 0 ∧ log = []))
    (he : e.i64) (hlt : (lgAt log (log.length - 1)).term ≤ 1) (hll : log.length < 4096) (hnb : n ≤ 1000000) (hcn : s.count = log.length) (hv : CfgV c) (hs : s.ok c) (hacc : accP c s e = true) (hk : e.kind = 1 ∨ (e.kind = 2 ∧ validP c e = true ∧ s.count < 4096 ∧ s.tick ≤ e.tick ∧ GrOk c s e)) :
    Calls Tryz.prog 21 #[.pointer (some ⟨gp, 0, none⟩), e.val] w fun x w' => ∃ n', x = .returned (.tuple #[.int .i64 s.count, .int .i64 0]) ∧ n' ≤ n + 176 ∧ Sep r [] (PLN gp gq 1 c (effP s e) :: Q1 gq 3 1 (log ++ [⟨1, e⟩]) n' :: F) w' := by
  have hsh : shapeP e = true := by
    unfold accP refP validP at hacc
    simp only [Bool.and_eq_true] at hacc
    exact hacc.1.1.1.1.1
  obtain ⟨a, b, hS⟩ := Sep.PLN_open.1 hS
  refine Z.enter Tryz.func21 Tryz.ntmps21 rfl rfl ?_
  repeat' (first|refine K ?_|(refine Sh.sa hS ?_;clear hS;intro w hS)|(refine K3 ?_;clear hS;intro g w hS hge)|((first|refine GS ?_ ?_|refine VB ?_ ?_)<;>intro hb<;>(try simp only [JJ] at hb)<;>(try exact JX)))
  rename Nat => ge
  refine Z.eff (Z.cl (plrdy_z gp gq c a s b _ _ _ (hS.fo (R := .blk gp 179 (plC c a gq 1 s b))) hn) rfl ?_) rfl
  clear hS
  rintro e w ⟨rfl, hS⟩
  refine ⟨_, rfl, ?_⟩
  repeat' (first|refine K ?_|(refine Sh.sa hS ?_;clear hS;intro w hS)|(refine K3 ?_;clear hS;intro g w hS hge)|((first|refine GS ?_ ?_|refine VB ?_ ?_)<;>intro hb<;>(try simp only [JJ] at hb)<;>(try exact JX)))
  refine Z.cut [6, 7, 12, 13, 14, 15, 16, 17, 18, 19, 20, 21, 22, 23, 24] (fun w z => ∃ g6 b', z = [(6, .pointer (some ⟨g6, 0, .none⟩)), (7, .int .i64 0)] ∧ Sep r [] (.blk g6 69 ((effP s e).cc c b') :: SO c (effP s e) b' :: .blk ge 63 e.cells :: .blk gp 179 (plC c a gq 1 s b) :: CfO c a :: SO c s b :: Q1 gq ro t log n :: F) w) ?_ ?_
  · refine D.startS (Lr := [.blk ge 63 e.cells, .blk gp 179 (plC c a gq 1 s b)]) (hS.sb) 14 16 (by kernel_rfl) rfl ?_
    replace hS := hS.drew
    refine Sh.dp 0 1 ?_
    refine Sh.dp 1 3 ?_
    refine Sh.dp 2 7 ?_
    refine Sh.dp 4 23 ?_
    refine Sh.dp 5 55 ?_
    refine Sh.dp 6 119 ?_
    refine Sh.dl 3 127 ?_
    refine Sh.dl 7 255 ?_
    refine Sh.dl 8 511 ?_
    refine D.each [9, 13] (by kernel_rfl) rfl ?_
    refine D.econs 9 1023 rfl D.wantedN (by kernel_rfl) (fun _ _ h => h) ?_ ?_
    · refine Z.cl (stapply_z c a s b e _ _ _ hS (CfA.of_co AtF).cf hv hs (StC.of_so AtF) (by omega) hk) rfl ?_
      clear hS
      rintro e w ⟨cz, s', b', er, X, ⟨rfl, hi, hz⟩, hS⟩
      refine ⟨_, rfl, ?_⟩
      obtain rfl : er = 0 := hi.2 hacc
      obtain ⟨rfl, rfl, rfl⟩ := hz rfl
      refine ⟨HM.s (hS.sb), ?_⟩
      refine Sh.dp 10 2047 ?_
      refine Sh.dp 11 4095 ?_
      refine Sh.dp 12 8191 ?_
      refine D.eff 13 16383 rfl D.wantedN (by kernel_rfl) (by kernel_rfl) (fun _ _ h => h) ?_
      refine Z.al hS ?_
      clear hS; intro g w hS hge
      refine ⟨HM.s (hS.sb), ?_⟩
      refine D.eff 14 32767 rfl D.wantedN (by kernel_rfl) (by kernel_rfl) (fun _ _ h => h) ?_
      refine Z.st hS rfl AtF rfl rfl ?_
      clear hS; intro w hS
      refine ⟨HM.last (by kernel_rfl), ?_⟩
      refine Sh.dp 15 65535 ?_
      refine D.done (by kernel_rfl) ?_
      refine Sh.cut [(6, _), (7, _)] ?_
      exact ⟨_, _, rfl, hS.sb⟩
    refine D.econs 13 8703 rfl D.wantedN (by kernel_rfl) (fun _ _ h => h) ?_ ?_
    · refine Z.al hS ?_
      clear hS; intro g w hS hge
      refine ⟨HM.s (hS.sb), ?_⟩
      refine D.eff 9 9215 rfl D.wantedN (by kernel_rfl) (by kernel_rfl) (fun _ _ h => h) ?_
      refine Z.cl (stapply_z c a s b e _ _ _ hS (CfA.of_co AtF).cf hv hs (StC.of_so AtF) (by omega) hk) rfl ?_
      clear hS
      rintro e w ⟨cz, s', b', er, X, ⟨rfl, hi, hz⟩, hS⟩
      refine ⟨_, rfl, ?_⟩
      obtain rfl : er = 0 := hi.2 hacc
      obtain ⟨rfl, rfl, rfl⟩ := hz rfl
      refine ⟨HM.s (hS.sb), ?_⟩
      refine Sh.dp 10 10239 ?_
      refine Sh.dp 11 12287 ?_
      refine Sh.dp 12 16383 ?_
      refine D.eff 14 32767 rfl D.wantedN (by kernel_rfl) (by kernel_rfl) (fun _ _ h => h) ?_
      refine Z.st hS rfl AtF rfl rfl ?_
      clear hS; intro w hS
      refine ⟨HM.last (by kernel_rfl), ?_⟩
      refine Sh.dp 15 65535 ?_
      refine D.done (by kernel_rfl) ?_
      refine Sh.cut [(6, _), (7, _)] ?_
      exact ⟨_, _, rfl, hS.sb⟩
    exact D.enil
  clear hS
  rintro f0 w _ ⟨g6, b', rfl, hS⟩
  repeat' (first|refine K ?_|(refine Sh.sa hS ?_;clear hS;intro w hS)|(refine K3 ?_;clear hS;intro g w hS hge)|((first|refine GS ?_ ?_|refine VB ?_ ?_)<;>intro hb<;>(try simp only [JJ] at hb)<;>(try exact JX)))
  replace hS := hS.fo (R := Q1 gq ro t log n)
  replace hS := hS.fo (R := .blk gp 179 (plC c a gq 1 s b))
  refine Z.eff (Z.cl (plcommit_z gp gq c a s b _ _ _ e ro t log n hS hn hro he hsh hlt hll hnb hcn) rfl ?_) rfl
  clear hS
  rintro e w ⟨n', rfl, hn', hS⟩
  refine ⟨_, rfl, ?_⟩
  repeat' (first|refine K ?_|(refine Sh.sa hS ?_;clear hS;intro w hS)|(refine K3 ?_;clear hS;intro g w hS hge)|((first|refine GS ?_ ?_|refine VB ?_ ?_)<;>intro hb<;>(try simp only [JJ] at hb)<;>(try exact JX)))
  refine Dntt Tryz.results21 ?_
  exact ⟨n', rfl, hn', (Sep.sub (L := PLN gp gq 1 c (effP s e) :: Q1 gq 3 1 (log ++ [⟨1, e⟩]) n' :: F) (Sep.PLN_open.2 ⟨a, b', hS.sb⟩) SuF)⟩
theorem plentries_z (gp gq : Nat) (c : Cfg) (s : Sta) (ro t : Int) (log : List Lg) (n : Nat) (r : World) (F : List Res) (w : World) (hS : Sep r [] (PLN gp gq 1 c s :: Q1 gq ro t log n :: F) w) (hl : log.length ≤ 5000) :
    Calls Tryz.prog 46 #[.pointer (some ⟨gp, 0, none⟩)] w fun x w' => ∃ (Al : Option Addr) (cl : Nat), x = .returned (.slice Al (log.map Lg.e).length cl) ∧ Sep r [] (.sl 63 9 (.slice Al (log.map Lg.e).length cl) ((log.map Lg.e).map En.cells) :: PLN gp gq 1 c s :: Q1 gq ro t log n :: F) w' := by
  obtain ⟨a, b, hS⟩ := Sep.PLN_open.1 hS
  refine Z.enter Tryz.func46 Tryz.ntmps46 rfl rfl ?_
  repeat' (first|refine K ?_|(refine Sh.sa hS ?_;clear hS;intro w hS)|(refine K3 ?_;clear hS;intro g w hS hge)|((first|refine GS ?_ ?_|refine VB ?_ ?_)<;>intro hb<;>(try simp only [JJ] at hb)<;>(try exact JX)))
  refine Z.eff (Z.cl (qcommitted1_z gq n ro t log _ _ _ (hS.fo (R := Q1 gq ro t log n)) hl) rfl ?_) rfl
  clear hS
  rintro e w ⟨Al, cl, rfl, hS⟩
  refine ⟨_, rfl, ?_⟩
  repeat' (first|refine K ?_|(refine Sh.sa hS ?_;clear hS;intro w hS)|(refine K3 ?_;clear hS;intro g w hS hge)|((first|refine GS ?_ ?_|refine VB ?_ ?_)<;>intro hb<;>(try simp only [JJ] at hb)<;>(try exact JX)))
  refine Dnt Tryz.results46 ?_
  exact ⟨Al, cl, rfl, (Sep.sub (L := PLN gp gq 1 c s :: .sl 63 9 (.slice Al (log.map Lg.e).length cl) ((log.map Lg.e).map En.cells) :: Q1 gq ro t log n :: F) (Sep.PLN_open.2 ⟨a, b, hS.sb⟩) SuF)⟩
end Go.Proofs.YtfmnjbhncnldmaaGreat
