import Derived.Test.YtfmnjbhncnldmaaGreatP38
import Derived.Test.YtfmnjbhncnldmaaGreatP40
set_option linter.unusedSimpArgs false
set_option linter.unusedVariables false
namespace Go.Proofs.YtfmnjbhncnldmaaGreat
open Go.RowKit
attribute [local irreducible] Res.blk Res.sl Res.all Res.ex Res.pure Res.star
def c2 : Cfg := ⟨2, [0, 1], [⟨0, 9⟩, ⟨1, 9⟩], [⟨5, 2, 0, 0, 3, 0, false⟩], [⟨0, 0⟩], [0], [0], 1, 20, 0⟩
theorem c2_ok : c2.ok := by
  refine ⟨by decide, by decide, by decide, by decide, by decide, by decide, by decide, by decide, ?_⟩
  intro x hx
  simp [c2] at hx
  rcases hx with rfl | rfl <;> decide
theorem c2_v : CfgV c2 := by
  refine ⟨c2_ok, ?_, ?_, by decide, by decide, ?_, ?_, ?_, ?_⟩
  · intro z hz
    simp [c2] at hz
    rcases hz with rfl | rfl <;> decide
  · intro x hx
    simp [c2] at hx
    rcases hx with rfl | rfl <;> decide
  · intro z hz
    simp [c2] at hz
    subst hz
    decide
  · intro z hz
    simp [c2] at hz
    subst hz
    decide
  · intro i h
    have h0 : i = 0 := by simp [c2] at h; exact h
    subst h0
    exact ⟨Int.le_refl 0, Int.le_refl 0, (by decide : (0 : Int) ≤ 30), fun _ => rfl⟩
  · intro t ht
    simp [c2] at ht
    subst ht
    decide
theorem zt_row (l : List Int) : ∀ row, row ∈ l.map ztC → row.length = 1 ∧ ∀ u, u ∈ row → u.oneCell' = true := by
  intro row hr
  obtain ⟨x, _, rfl⟩ := List.mem_map.1 hr
  exact ⟨rfl, by simp [ztC, Value.oneCell']⟩
theorem cl_row (l : List Cl) : ∀ row, row ∈ l.map Cl.cells → row.length = 2 ∧ ∀ u, u ∈ row → u.oneCell' = true := by
  intro row hr
  obtain ⟨x, _, rfl⟩ := List.mem_map.1 hr
  exact ⟨rfl, by simp [Cl.cells, Value.oneCell']⟩
theorem tn_row (l : List Tn) : ∀ row, row ∈ l.map Tn.cells → row.length = 7 ∧ ∀ u, u ∈ row → u.oneCell' = true := by
  intro row hr
  obtain ⟨x, _, rfl⟩ := List.mem_map.1 hr
  exact ⟨rfl, by simp [Tn.cells, Value.oneCell']⟩
theorem vs_row (l : List Vs) : ∀ row, row ∈ l.map Vs.cells → row.length = 2 ∧ ∀ u, u ∈ row → u.oneCell' = true := by
  intro row hr
  obtain ⟨x, _, rfl⟩ := List.mem_map.1 hr
  exact ⟨rfl, by simp [Vs.cells, Value.oneCell']⟩
set_option maxHeartbeats 2000000 in
theorem two_z (r : World) (F : List Res) (w : World) (hS : Sep r [] F w) :
    Calls Tryz.prog 41 #[] w fun y w' => ∃ a, y = .returned (c2.val a) ∧ Sep r [] (CfO c2 a :: F) w' := by
  refine Z.enter Tryz.func41 Tryz.ntmps41 rfl rfl ?_
  repeat' (first|refine K ?_|(refine Sh.sa hS ?_;clear hS;intro w hS)|(refine K3 ?_;clear hS;intro g w hS hge)|(refine KB ?_ ?_<;>intro hb<;>(try simp only [JJ] at hb)<;>(try exact JX))|fail)
  rename_i gr _ _ gz _ _ gk _ _ gt _ _ gv _ _ go _ _ _
  refine Dnc Tryz.results41 ?_
  replace hS := mk_sl (sz := 1) (n := 1) (rows := [0].map ztC) (hS.fo (R := .blk g _ _)) rfl (by omega) (by decide) (zt_row _) rfl
  replace hS := mk_sl (sz := 1) (n := 1) (rows := [0].map ztC) (hS.fo (R := .blk go _ _)) rfl (by omega) (by decide) (zt_row _) rfl
  replace hS := mk_sl (sz := 2) (n := 1) (rows := [(⟨0, 0⟩ : Vs)].map Vs.cells) (hS.fo (R := .blk gv _ _)) rfl (by omega) (by decide) (vs_row _) rfl
  replace hS := mk_sl (sz := 7) (n := 1) (rows := [(⟨5, 2, 0, 0, 3, 0, false⟩ : Tn)].map Tn.cells) (hS.fo (R := .blk gt _ _)) rfl (by omega) (by decide) (tn_row _) rfl
  replace hS := mk_sl (sz := 2) (n := 2) (rows := [(⟨0, 9⟩ : Cl), ⟨1, 9⟩].map Cl.cells) (hS.fo (R := .blk gk _ _)) rfl (by omega) (by decide) (cl_row _) rfl
  replace hS := mk_sl (sz := 1) (n := 2) (rows := [0, 1].map ztC) (hS.fo (R := .blk gz _ _)) rfl (by omega) (by decide) (zt_row _) rfl
  exact ⟨⟨some ⟨gz, 0, none⟩, 2, some ⟨gk, 0, none⟩, 2, some ⟨gt, 0, none⟩, 1, some ⟨gv, 0, none⟩, 1, some ⟨go, 0, none⟩, 1, some ⟨g, 0, none⟩, 1⟩, rfl, (Sep.all_open (Ls := [_, _, _, _, _, _])).2 (hS.sb)⟩
structure Sv where
  A : Option Addr
  n : Nat
  c : Nat
def Sv.cells (x : Sv) : List Value := [.slice x.A x.n x.c]
def SIM (gs gp gq : Nat) (s : Sta) (log : List Lg) (ro t : Int) (k : Nat) (G : Ga) (c : Cp) (sp : List Sp) : Res :=
  .ex fun p : CAd × (Option Addr × Nat) × (Option Addr × Nat) × (Option Addr × Nat) × (Nat × Nat × Nat × Nat) => .all
    [.blk gs 119 (c2.cl p.1 ++ [.pointer (some ⟨gp, 0, none⟩), .slice p.2.1.1 1 p.2.1.2, .slice p.2.2.1.1 sp.length p.2.2.1.2, .slice none 0 0, .int .i64 0]),
     CfO c2 p.1, .sl 36 1 (.slice p.2.1.1 1 p.2.1.2) ([(⟨p.2.2.2.1.1, 2, p.2.2.2.1.2⟩ : Sv)].map Sv.cells), .sl 34 1 (.slice p.2.2.2.1.1 2 p.2.2.2.1.2) ([p.2.2.2.2.1, p.2.2.2.2.2.1].map ptC),
     .sl 124 7 (.slice p.2.2.1.1 sp.length p.2.2.1.2) (sp.map Sp.cells), PLN gp gq 1 c2 s, Q1 gq ro t log k,
     PC p.2.2.2.2.1 0 0 (.pointer (some ⟨p.2.2.2.2.2.2.1, 0, .none⟩)) c, GP p.2.2.2.2.2.2.1 G]
set_option maxHeartbeats 8000000 in
theorem begin_z (a : CAd) (r : World) (F : List Res) (w : World) (hS : Sep r [] (CfO c2 a :: F) w) :
    Calls Tryz.prog 40 #[c2.val a] w fun y w' => ∃ gs gp gq, y = .returned (.pointer (some ⟨gs, 0, none⟩)) ∧ Sep r [] (SIM gs gp gq (newS c2) [] 1 0 0 ⟨0, 0, []⟩ .zero [] :: F) w' := by
  refine Z.enter Tryz.func40 Tryz.ntmps40 rfl rfl ?_
  repeat' (first|refine K ?_|(refine Sh.sa hS ?_;clear hS;intro w hS)|(refine K3 ?_;clear hS;intro g w hS hge)|(refine KB ?_ ?_<;>intro hb<;>(try simp only [JJ] at hb)<;>(try exact JX))|fail)
  rename Nat => gc
  refine Z.eff (Z.cl (plnew1_z c2 a _ _ _ hS (CfA.of_co AtF) c2_v rfl) rfl ?_) rfl
  clear hS
  rintro e w ⟨gp, gq, rfl, hS⟩
  refine ⟨_, rfl, ?_⟩
  repeat' (first|refine K ?_|(refine Sh.sa hS ?_;clear hS;intro w hS)|(refine K3 ?_;clear hS;intro g w hS hge)|(refine KB ?_ ?_<;>intro hb<;>(try simp only [JJ] at hb)<;>(try exact JX))|fail)
  rename Nat => gs
  refine Z.unr 2 ?_
  repeat' (first|refine K ?_|(refine Sh.sa hS ?_;clear hS;intro w hS)|(refine K3 ?_;clear hS;intro g w hS hge)|(refine KB ?_ ?_<;>intro hb<;>(try simp only [JJ] at hb)<;>(try exact JX))|fail)
  refine Z.unr 3 ?_
  repeat' (first|refine K ?_|(refine Sh.sa hS ?_;clear hS;intro w hS)|(refine K3 ?_;clear hS;intro g w hS hge)|(refine KB ?_ ?_<;>intro hb<;>(try simp only [JJ] at hb)<;>(try exact JX))|fail)
  replace hS := hS.sub (L' := .blk gs 119 (c2.cl a ++ [.pointer (some ⟨gp, 0, none⟩), .slice none 0 0, .slice none 0 0, .slice none 0 0, .int .i64 0]) :: PLN gp gq 1 c2 (newS c2) :: Q1 gq 1 0 [] 0 :: .blk gc 55 (c2.cl a) :: CfO c2 a :: F) SuF
  replace hS := Z.nilsl hS 34 1 none
  refine Z.eff (Z.cl (pcnew_z 0 0 _ _ _ hS) rfl ?_) rfl
  clear hS
  rintro e w ⟨x0, g0, rfl, hS⟩
  refine ⟨_, rfl, ?_⟩
  replace hS := (Sep.gate0 (hS.focus (R := .blk g0 _ _) AtF)).focus (R := PC x0 _ _ _ _) AtF
  repeat' (first|refine K ?_|(refine Sh.sa hS ?_;clear hS;intro w hS)|(refine K3 ?_;clear hS;intro g w hS hge)|(refine KB ?_ ?_<;>intro hb<;>(try simp only [JJ] at hb)<;>(try exact JX))|fail)
  refine Z.eff (Z.cl (pcgate_z x0 g0 0 0 .zero _ _ _ hS) rfl ?_) rfl
  clear hS
  rintro e w ⟨rfl, hS⟩
  refine ⟨_, rfl, ?_⟩
  repeat' (first|refine K ?_|(refine Sh.sa hS ?_;clear hS;intro w hS)|(refine K3 ?_;clear hS;intro g w hS hge)|(refine KB ?_ ?_<;>intro hb<;>(try simp only [JJ] at hb)<;>(try exact JX))|fail)
  refine Z.eff (Z.apm (fc := ptC) (l := []) (l' := [x0]) hS rfl rfl rfl AtF (hS.lit1 AtF rfl rfl) LnF LnF ?_) rfl
  clear hS; intro Ar cr w hS
  repeat' (first|refine K ?_|(refine Sh.sa hS ?_;clear hS;intro w hS)|(refine K3 ?_;clear hS;intro g w hS hge)|(refine KB ?_ ?_<;>intro hb<;>(try simp only [JJ] at hb)<;>(try exact JX))|fail)
  refine Z.eff (Z.cl (pcnew_z 1 0 _ _ _ hS) rfl ?_) rfl
  clear hS
  rintro e w ⟨x1, g1, rfl, hS⟩
  refine ⟨_, rfl, ?_⟩
  replace hS := (Sep.gate0 (hS.focus (R := .blk g1 _ _) AtF)).focus (R := PC x1 _ _ _ _) AtF
  repeat' (first|refine K ?_|(refine Sh.sa hS ?_;clear hS;intro w hS)|(refine K3 ?_;clear hS;intro g w hS hge)|(refine KB ?_ ?_<;>intro hb<;>(try simp only [JJ] at hb)<;>(try exact JX))|fail)
  refine Z.eff (Z.cl (pcgate_z x1 g1 1 0 .zero _ _ _ hS) rfl ?_) rfl
  clear hS
  rintro e w ⟨rfl, hS⟩
  refine ⟨_, rfl, ?_⟩
  repeat' (first|refine K ?_|(refine Sh.sa hS ?_;clear hS;intro w hS)|(refine K3 ?_;clear hS;intro g w hS hge)|(refine KB ?_ ?_<;>intro hb<;>(try simp only [JJ] at hb)<;>(try exact JX))|fail)
  refine Z.eff (Z.apm (fc := ptC) (l := [x0]) (l' := [x1]) hS rfl rfl rfl AtF (hS.lit1 AtF rfl rfl) LnF LnF ?_) rfl
  clear hS; intro Ar2 cr2 w hS
  repeat' (first|refine K ?_|(refine Sh.sa hS ?_;clear hS;intro w hS)|(refine K3 ?_;clear hS;intro g w hS hge)|(refine KB ?_ ?_<;>intro hb<;>(try simp only [JJ] at hb)<;>(try exact JX))|fail)
  replace hS := Z.nilsl hS 36 1 none
  refine Z.eff (Z.apm (fc := Sv.cells) (l := []) (l' := [(⟨Ar2, 2, cr2⟩ : Sv)]) hS rfl rfl rfl AtF (hS.lit1 AtF rfl rfl) LnF LnF ?_) rfl
  clear hS; intro Ac cc w hS
  repeat' (first|refine K ?_|(refine Sh.sa hS ?_;clear hS;intro w hS)|(refine K3 ?_;clear hS;intro g w hS hge)|(refine KB ?_ ?_<;>intro hb<;>(try simp only [JJ] at hb)<;>(try exact JX))|fail)
  replace hS := hS.sub (L' := PLN gp gq 1 c2 (newS c2) :: .blk gs 119 (c2.cl a ++ [.pointer (some ⟨gp, 0, none⟩), .slice Ac 1 cc, .slice none 0 0, .slice none 0 0, .int .i64 0]) :: .sl 36 1 (.slice Ac 1 cc) ([(⟨Ar2, 2, cr2⟩ : Sv)].map Sv.cells) :: .sl 34 1 (.slice Ar2 2 cr2) ([x0, x1].map ptC) :: PC x0 0 0 (.pointer (some ⟨g0, 0, .none⟩)) .zero :: GP g0 ⟨0, 0, []⟩ :: Q1 gq 1 0 [] 0 :: .blk gc 55 (c2.cl a) :: CfO c2 a :: F) SuF
  obtain ⟨a', b, hS⟩ := Sep.PLN_open.1 hS
  refine Z.eff (Z.cl (plstate_z gp gq 1 c2 a' (newS c2) b _ _ _ hS (newS_ok (by decide)) (StC.of_so AtF) c2_v) rfl ?_) rfl
  clear hS
  rintro e w ⟨b2, rfl, hS⟩
  refine ⟨_, rfl, ?_⟩
  replace hS := Sep.PLN_open.2 ⟨a', b, hS.sub (L' := .blk gp 179 (plC c2 a' gq 1 (newS c2) b) :: CfO c2 a' :: SO c2 (newS c2) b :: .blk gs 119 (c2.cl a ++ [.pointer (some ⟨gp, 0, none⟩), .slice Ac 1 cc, .slice none 0 0, .slice none 0 0, .int .i64 0]) :: .sl 36 1 (.slice Ac 1 cc) ([(⟨Ar2, 2, cr2⟩ : Sv)].map Sv.cells) :: .sl 34 1 (.slice Ar2 2 cr2) ([x0, x1].map ptC) :: PC x0 0 0 (.pointer (some ⟨g0, 0, .none⟩)) .zero :: GP g0 ⟨0, 0, []⟩ :: Q1 gq 1 0 [] 0 :: .blk gc 55 (c2.cl a) :: CfO c2 a :: F) SuF⟩
  repeat' (first|refine K ?_|(refine Sh.sa hS ?_;clear hS;intro w hS)|(refine K3 ?_;clear hS;intro g w hS hge)|(refine KB ?_ ?_<;>intro hb<;>(try simp only [JJ] at hb)<;>(try exact JX))|fail)
  refine Dnt Tryz.results40 ?_
  refine ⟨gs, gp, gq, rfl, ?_⟩
  replace hS := Z.nilsl hS 124 7 none
  simp only [SIM, Sep.ex_open, Sep.all_open, List.cons_append, List.nil_append]
  exact ⟨⟨a, (Ac, cc), (none, 0), (Ar2, cr2), x0, x1, g0, g1⟩, hS.sb⟩
end Go.Proofs.YtfmnjbhncnldmaaGreat
