import Derived.Test.YtfmnjbhncnldmaaGreatP09
set_option linter.unusedSimpArgs false
set_option linter.unusedVariables false
namespace Go.Proofs.YtfmnjbhncnldmaaGreat
open Go.RowKit
attribute [local irreducible] Res.blk Res.sl Res.all Res.ex Res.pure Res.star
set_option maxHeartbeats 8000000 in
theorem fits_z (e : En) (nt nc nr nv : Int) (r : World) (F : List Res) (w : World) (hS : Sep r [] F w) (h1 : 0 ≤ nt ∧ nt ≤ 1000) (h2 : 0 ≤ nc ∧ nc ≤ 1000) (h3 : 0 ≤ nr ∧ nr ≤ 1000) (h4 : 0 ≤ nv ∧ nv ≤ 1000) :
    Calls Tryz.prog 258 #[e.val, .agg #[.int .i64 nt, .int .i64 nc, .int .i64 nr, .int .i64 nv]] w fun x w' => x = .returned (.bool (fitsP e nt nc nr nv)) ∧ Sep r [] F w' := by
  refine Z.enter Tryz.func258 Tryz.ntmps258 rfl rfl ?_
  repeat' (first|refine K ?_|(refine Sh.sa hS ?_;clear hS;intro w hS)|(refine K3 ?_;clear hS;intro g w hS hge)|(refine KB ?_ ?_<;>intro hb<;>(try simp only [JJ] at hb)<;>(try exact JX))|fail)
  refine Z.eff (Z.cl (form_z e.kind nt nc nr nv _ _ _ hS h1 h2 h3 h4) rfl ?_) rfl
  clear hS
  rintro e w ⟨rfl, hS⟩
  refine ⟨_, rfl, ?_⟩
  unfold fitsP
  cases hf : formP e.kind nt nc nr nv with
  | none =>
    repeat' (first|refine K ?_|(refine Sh.sa hS ?_;clear hS;intro w hS)|(refine K3 ?_;clear hS;intro g w hS hge)|(refine KB ?_ ?_<;>intro hb<;>(try simp only [JJ] at hb)<;>(try exact JX))|fail)
    refine Dnt Tryz.results258 ?_
    exact ⟨rfl, hS.sb⟩
  | some f =>
    by_cases ht : 0 ≤ e.tick ∧ e.tick ≤ 1073741824
    · have hq0 : inSp 0 1073741824 e.tick = true := decide_eq_true ht
      by_cases hk1 : e.kind = 1
      · by_cases hk2 : e.other = e.cell
        · repeat' (first|refine K ?_|(refine Sh.sa hS ?_;clear hS;intro w hS)|(refine K3 ?_;clear hS;intro g w hS hge)|(refine KB ?_ ?_<;>intro hb<;>(try simp only [JJ] at hb)<;>(try exact JX))|fail)
          refine Dnt Tryz.results258 ?_
          exact ⟨by simp [Z.packR, hk1, hk2], hS.sb⟩
        · have hd : decide (e.kind = 1 ∧ e.other = e.cell) = false := decide_eq_false fun h => hk2 h.2
          repeat' (first|refine K ?_|(refine Sh.sa hS ?_;clear hS;intro w hS)|(refine K3 ?_;clear hS;intro g w hS hge)|(refine KB ?_ ?_<;>intro hb<;>(try simp only [JJ] at hb)<;>(try exact JX))|fail)
          refine Z.eff (Z.cl (shas_z f.t e.tenant _ _ _ hS) rfl ?_) rfl
          clear hS
          rintro e w ⟨rfl, hS⟩
          refine ⟨_, rfl, ?_⟩
          cases q1 : inSp f.t.1 f.t.2 e.tenant
          · repeat' (first|refine K ?_|(refine Sh.sa hS ?_;clear hS;intro w hS)|(refine K3 ?_;clear hS;intro g w hS hge)|(refine KB ?_ ?_<;>intro hb<;>(try simp only [JJ] at hb)<;>(try exact JX))|fail)
            refine Dnt Tryz.results258 ?_
            exact ⟨by simp [Z.packR, fitF, hd, hq0, q1], hS.sb⟩
          repeat' (first|refine K ?_|(refine Sh.sa hS ?_;clear hS;intro w hS)|(refine K3 ?_;clear hS;intro g w hS hge)|(refine KB ?_ ?_<;>intro hb<;>(try simp only [JJ] at hb)<;>(try exact JX))|fail)
          refine Z.eff (Z.cl (shas_z f.k e.cell _ _ _ hS) rfl ?_) rfl
          clear hS
          rintro e w ⟨rfl, hS⟩
          refine ⟨_, rfl, ?_⟩
          cases q2 : inSp f.k.1 f.k.2 e.cell
          · repeat' (first|refine K ?_|(refine Sh.sa hS ?_;clear hS;intro w hS)|(refine K3 ?_;clear hS;intro g w hS hge)|(refine KB ?_ ?_<;>intro hb<;>(try simp only [JJ] at hb)<;>(try exact JX))|fail)
            refine Dnt Tryz.results258 ?_
            exact ⟨by simp [Z.packR, fitF, hd, hq0, q1, q2], hS.sb⟩
          repeat' (first|refine K ?_|(refine Sh.sa hS ?_;clear hS;intro w hS)|(refine K3 ?_;clear hS;intro g w hS hge)|(refine KB ?_ ?_<;>intro hb<;>(try simp only [JJ] at hb)<;>(try exact JX))|fail)
          refine Z.eff (Z.cl (shas_z f.o e.other _ _ _ hS) rfl ?_) rfl
          clear hS
          rintro e w ⟨rfl, hS⟩
          refine ⟨_, rfl, ?_⟩
          cases q3 : inSp f.o.1 f.o.2 e.other
          · repeat' (first|refine K ?_|(refine Sh.sa hS ?_;clear hS;intro w hS)|(refine K3 ?_;clear hS;intro g w hS hge)|(refine KB ?_ ?_<;>intro hb<;>(try simp only [JJ] at hb)<;>(try exact JX))|fail)
            refine Dnt Tryz.results258 ?_
            exact ⟨by simp [Z.packR, fitF, hd, hq0, q1, q2, q3], hS.sb⟩
          repeat' (first|refine K ?_|(refine Sh.sa hS ?_;clear hS;intro w hS)|(refine K3 ?_;clear hS;intro g w hS hge)|(refine KB ?_ ?_<;>intro hb<;>(try simp only [JJ] at hb)<;>(try exact JX))|fail)
          refine Z.eff (Z.cl (shas_z f.e e.epoch _ _ _ hS) rfl ?_) rfl
          clear hS
          rintro e w ⟨rfl, hS⟩
          refine ⟨_, rfl, ?_⟩
          cases q4 : inSp f.e.1 f.e.2 e.epoch
          · repeat' (first|refine K ?_|(refine Sh.sa hS ?_;clear hS;intro w hS)|(refine K3 ?_;clear hS;intro g w hS hge)|(refine KB ?_ ?_<;>intro hb<;>(try simp only [JJ] at hb)<;>(try exact JX))|fail)
            refine Dnt Tryz.results258 ?_
            exact ⟨by simp [Z.packR, fitF, hd, hq0, q1, q2, q3, q4], hS.sb⟩
          repeat' (first|refine K ?_|(refine Sh.sa hS ?_;clear hS;intro w hS)|(refine K3 ?_;clear hS;intro g w hS hge)|(refine KB ?_ ?_<;>intro hb<;>(try simp only [JJ] at hb)<;>(try exact JX))|fail)
          refine Z.eff (Z.cl (shas_z f.x e.from_ _ _ _ hS) rfl ?_) rfl
          clear hS
          rintro e w ⟨rfl, hS⟩
          refine ⟨_, rfl, ?_⟩
          cases q5 : inSp f.x.1 f.x.2 e.from_
          · repeat' (first|refine K ?_|(refine Sh.sa hS ?_;clear hS;intro w hS)|(refine K3 ?_;clear hS;intro g w hS hge)|(refine KB ?_ ?_<;>intro hb<;>(try simp only [JJ] at hb)<;>(try exact JX))|fail)
            refine Dnt Tryz.results258 ?_
            exact ⟨by simp [Z.packR, fitF, hd, hq0, q1, q2, q3, q4, q5], hS.sb⟩
          repeat' (first|refine K ?_|(refine Sh.sa hS ?_;clear hS;intro w hS)|(refine K3 ?_;clear hS;intro g w hS hge)|(refine KB ?_ ?_<;>intro hb<;>(try simp only [JJ] at hb)<;>(try exact JX))|fail)
          refine Z.eff (Z.cl (shas_z f.x e.until_ _ _ _ hS) rfl ?_) rfl
          clear hS
          rintro e w ⟨rfl, hS⟩
          refine ⟨_, rfl, ?_⟩
          cases q6 : inSp f.x.1 f.x.2 e.until_
          · repeat' (first|refine K ?_|(refine Sh.sa hS ?_;clear hS;intro w hS)|(refine K3 ?_;clear hS;intro g w hS hge)|(refine KB ?_ ?_<;>intro hb<;>(try simp only [JJ] at hb)<;>(try exact JX))|fail)
            refine Dnt Tryz.results258 ?_
            exact ⟨by simp [Z.packR, fitF, hd, hq0, q1, q2, q3, q4, q5, q6], hS.sb⟩
          repeat' (first|refine K ?_|(refine Sh.sa hS ?_;clear hS;intro w hS)|(refine K3 ?_;clear hS;intro g w hS hge)|(refine KB ?_ ?_<;>intro hb<;>(try simp only [JJ] at hb)<;>(try exact JX))|fail)
          refine Z.eff (Z.cl (shas_z f.n e.n _ _ _ hS) rfl ?_) rfl
          clear hS
          rintro e w ⟨rfl, hS⟩
          refine ⟨_, rfl, ?_⟩
          repeat' (first|refine K ?_|(refine Sh.sa hS ?_;clear hS;intro w hS)|(refine K3 ?_;clear hS;intro g w hS hge)|(refine KB ?_ ?_<;>intro hb<;>(try simp only [JJ] at hb)<;>(try exact JX))|fail)
          refine Dnt Tryz.results258 ?_
          exact ⟨by simp [Z.packR, fitF, hd, hq0, q1, q2, q3, q4, q5, q6], hS.sb⟩
      · have hd : decide (e.kind = 1 ∧ e.other = e.cell) = false := decide_eq_false fun h => hk1 h.1
        repeat' (first|refine K ?_|(refine Sh.sa hS ?_;clear hS;intro w hS)|(refine K3 ?_;clear hS;intro g w hS hge)|(refine KB ?_ ?_<;>intro hb<;>(try simp only [JJ] at hb)<;>(try exact JX))|fail)
        refine Z.eff (Z.cl (shas_z f.t e.tenant _ _ _ hS) rfl ?_) rfl
        clear hS
        rintro e w ⟨rfl, hS⟩
        refine ⟨_, rfl, ?_⟩
        cases q1 : inSp f.t.1 f.t.2 e.tenant
        · repeat' (first|refine K ?_|(refine Sh.sa hS ?_;clear hS;intro w hS)|(refine K3 ?_;clear hS;intro g w hS hge)|(refine KB ?_ ?_<;>intro hb<;>(try simp only [JJ] at hb)<;>(try exact JX))|fail)
          refine Dnt Tryz.results258 ?_
          exact ⟨by simp [Z.packR, fitF, hd, hq0, q1], hS.sb⟩
        repeat' (first|refine K ?_|(refine Sh.sa hS ?_;clear hS;intro w hS)|(refine K3 ?_;clear hS;intro g w hS hge)|(refine KB ?_ ?_<;>intro hb<;>(try simp only [JJ] at hb)<;>(try exact JX))|fail)
        refine Z.eff (Z.cl (shas_z f.k e.cell _ _ _ hS) rfl ?_) rfl
        clear hS
        rintro e w ⟨rfl, hS⟩
        refine ⟨_, rfl, ?_⟩
        cases q2 : inSp f.k.1 f.k.2 e.cell
        · repeat' (first|refine K ?_|(refine Sh.sa hS ?_;clear hS;intro w hS)|(refine K3 ?_;clear hS;intro g w hS hge)|(refine KB ?_ ?_<;>intro hb<;>(try simp only [JJ] at hb)<;>(try exact JX))|fail)
          refine Dnt Tryz.results258 ?_
          exact ⟨by simp [Z.packR, fitF, hd, hq0, q1, q2], hS.sb⟩
        repeat' (first|refine K ?_|(refine Sh.sa hS ?_;clear hS;intro w hS)|(refine K3 ?_;clear hS;intro g w hS hge)|(refine KB ?_ ?_<;>intro hb<;>(try simp only [JJ] at hb)<;>(try exact JX))|fail)
        refine Z.eff (Z.cl (shas_z f.o e.other _ _ _ hS) rfl ?_) rfl
        clear hS
        rintro e w ⟨rfl, hS⟩
        refine ⟨_, rfl, ?_⟩
        cases q3 : inSp f.o.1 f.o.2 e.other
        · repeat' (first|refine K ?_|(refine Sh.sa hS ?_;clear hS;intro w hS)|(refine K3 ?_;clear hS;intro g w hS hge)|(refine KB ?_ ?_<;>intro hb<;>(try simp only [JJ] at hb)<;>(try exact JX))|fail)
          refine Dnt Tryz.results258 ?_
          exact ⟨by simp [Z.packR, fitF, hd, hq0, q1, q2, q3], hS.sb⟩
        repeat' (first|refine K ?_|(refine Sh.sa hS ?_;clear hS;intro w hS)|(refine K3 ?_;clear hS;intro g w hS hge)|(refine KB ?_ ?_<;>intro hb<;>(try simp only [JJ] at hb)<;>(try exact JX))|fail)
        refine Z.eff (Z.cl (shas_z f.e e.epoch _ _ _ hS) rfl ?_) rfl
        clear hS
        rintro e w ⟨rfl, hS⟩
        refine ⟨_, rfl, ?_⟩
        cases q4 : inSp f.e.1 f.e.2 e.epoch
        · repeat' (first|refine K ?_|(refine Sh.sa hS ?_;clear hS;intro w hS)|(refine K3 ?_;clear hS;intro g w hS hge)|(refine KB ?_ ?_<;>intro hb<;>(try simp only [JJ] at hb)<;>(try exact JX))|fail)
          refine Dnt Tryz.results258 ?_
          exact ⟨by simp [Z.packR, fitF, hd, hq0, q1, q2, q3, q4], hS.sb⟩
        repeat' (first|refine K ?_|(refine Sh.sa hS ?_;clear hS;intro w hS)|(refine K3 ?_;clear hS;intro g w hS hge)|(refine KB ?_ ?_<;>intro hb<;>(try simp only [JJ] at hb)<;>(try exact JX))|fail)
        refine Z.eff (Z.cl (shas_z f.x e.from_ _ _ _ hS) rfl ?_) rfl
        clear hS
        rintro e w ⟨rfl, hS⟩
        refine ⟨_, rfl, ?_⟩
        cases q5 : inSp f.x.1 f.x.2 e.from_
        · repeat' (first|refine K ?_|(refine Sh.sa hS ?_;clear hS;intro w hS)|(refine K3 ?_;clear hS;intro g w hS hge)|(refine KB ?_ ?_<;>intro hb<;>(try simp only [JJ] at hb)<;>(try exact JX))|fail)
          refine Dnt Tryz.results258 ?_
          exact ⟨by simp [Z.packR, fitF, hd, hq0, q1, q2, q3, q4, q5], hS.sb⟩
        repeat' (first|refine K ?_|(refine Sh.sa hS ?_;clear hS;intro w hS)|(refine K3 ?_;clear hS;intro g w hS hge)|(refine KB ?_ ?_<;>intro hb<;>(try simp only [JJ] at hb)<;>(try exact JX))|fail)
        refine Z.eff (Z.cl (shas_z f.x e.until_ _ _ _ hS) rfl ?_) rfl
        clear hS
        rintro e w ⟨rfl, hS⟩
        refine ⟨_, rfl, ?_⟩
        cases q6 : inSp f.x.1 f.x.2 e.until_
        · repeat' (first|refine K ?_|(refine Sh.sa hS ?_;clear hS;intro w hS)|(refine K3 ?_;clear hS;intro g w hS hge)|(refine KB ?_ ?_<;>intro hb<;>(try simp only [JJ] at hb)<;>(try exact JX))|fail)
          refine Dnt Tryz.results258 ?_
          exact ⟨by simp [Z.packR, fitF, hd, hq0, q1, q2, q3, q4, q5, q6], hS.sb⟩
        repeat' (first|refine K ?_|(refine Sh.sa hS ?_;clear hS;intro w hS)|(refine K3 ?_;clear hS;intro g w hS hge)|(refine KB ?_ ?_<;>intro hb<;>(try simp only [JJ] at hb)<;>(try exact JX))|fail)
        refine Z.eff (Z.cl (shas_z f.n e.n _ _ _ hS) rfl ?_) rfl
        clear hS
        rintro e w ⟨rfl, hS⟩
        refine ⟨_, rfl, ?_⟩
        repeat' (first|refine K ?_|(refine Sh.sa hS ?_;clear hS;intro w hS)|(refine K3 ?_;clear hS;intro g w hS hge)|(refine KB ?_ ?_<;>intro hb<;>(try simp only [JJ] at hb)<;>(try exact JX))|fail)
        refine Dnt Tryz.results258 ?_
        exact ⟨by simp [Z.packR, fitF, hd, hq0, q1, q2, q3, q4, q5, q6], hS.sb⟩
    · have hq0 : inSp 0 1073741824 e.tick = false := decide_eq_false ht
      by_cases hk1 : e.kind = 1
      · by_cases hk2 : e.other = e.cell
        · repeat' (first|refine K ?_|(refine Sh.sa hS ?_;clear hS;intro w hS)|(refine K3 ?_;clear hS;intro g w hS hge)|(refine KB ?_ ?_<;>intro hb<;>(try simp only [JJ] at hb)<;>(try exact JX))|fail)
          refine Dnt Tryz.results258 ?_
          exact ⟨by simp [Z.packR, hk1, hk2], hS.sb⟩
        · repeat' (first|refine K ?_|(refine Sh.sa hS ?_;clear hS;intro w hS)|(refine K3 ?_;clear hS;intro g w hS hge)|(refine KB ?_ ?_<;>intro hb<;>(try simp only [JJ] at hb)<;>(try exact JX))|fail)
          all_goals
            refine Dnt Tryz.results258 ?_
            exact ⟨by simp [Z.packR, fitF, hq0], hS.sb⟩
      · repeat' (first|refine K ?_|(refine Sh.sa hS ?_;clear hS;intro w hS)|(refine K3 ?_;clear hS;intro g w hS hge)|(refine KB ?_ ?_<;>intro hb<;>(try simp only [JJ] at hb)<;>(try exact JX))|fail)
        all_goals
          refine Dnt Tryz.results258 ?_
          exact ⟨by simp [Z.packR, fitF, hq0], hS.sb⟩
theorem eshape_z (e : En) (r : World) (F : List Res) (w : World) (hS : Sep r [] F w) :
    Calls Tryz.prog 257 #[e.val] w fun x w' => x = .returned (.bool (shapeP e)) ∧ Sep r [] F w' := by
  refine Z.enter Tryz.func257 Tryz.ntmps257 rfl rfl ?_
  repeat' (first|refine K ?_|(refine Sh.sa hS ?_;clear hS;intro w hS)|(refine K3 ?_;clear hS;intro g w hS hge)|(refine KB ?_ ?_<;>intro hb<;>(try simp only [JJ] at hb)<;>(try exact JX))|fail)
  refine Z.eff (Z.cl (fits_z e 32 16 4 30 _ _ _ hS (by omega) (by omega) (by omega) (by omega)) rfl ?_) rfl
  clear hS
  rintro e w ⟨rfl, hS⟩
  refine ⟨_, rfl, ?_⟩
  repeat' (first|refine K ?_|(refine Sh.sa hS ?_;clear hS;intro w hS)|(refine K3 ?_;clear hS;intro g w hS hge)|(refine KB ?_ ?_<;>intro hb<;>(try simp only [JJ] at hb)<;>(try exact JX))|fail)
  refine Dnt Tryz.results257 ?_
  exact ⟨rfl, hS.sb⟩
theorem evalid_z (c : Cfg) (a : CAd) (e : En) (r : World) (F : List Res) (w : World) (hS : Sep r [] F w) (h1 : c.tenants.length ≤ 1000) (h2 : c.cells.length ≤ 1000) (h3 : 0 ≤ c.regions ∧ c.regions ≤ 1000) (h4 : c.versions.length ≤ 1000) :
    Calls Tryz.prog 162 #[c.val a, e.val] w fun x w' => x = .returned (.bool (validP c e)) ∧ Sep r [] F w' := by
  refine Z.enter Tryz.func162 Tryz.ntmps162 rfl rfl ?_
  repeat' (first|refine K ?_|(refine Sh.sa hS ?_;clear hS;intro w hS)|(refine K3 ?_;clear hS;intro g w hS hge)|(refine KB ?_ ?_<;>intro hb<;>(try simp only [JJ] at hb)<;>(try exact JX))|fail)
  refine Z.eff (Z.cl (eshape_z e _ _ _ hS) rfl ?_) rfl
  clear hS
  rintro e w ⟨rfl, hS⟩
  refine ⟨_, rfl, ?_⟩
  unfold validP
  cases hs : shapeP e
  · repeat' (first|refine K ?_|(refine Sh.sa hS ?_;clear hS;intro w hS)|(refine K3 ?_;clear hS;intro g w hS hge)|(refine KB ?_ ?_<;>intro hb<;>(try simp only [JJ] at hb)<;>(try exact JX))|fail)
    refine Dnt Tryz.results162 ?_
    exact ⟨rfl, hS.sb⟩
  repeat' (first|refine K ?_|(refine Sh.sa hS ?_;clear hS;intro w hS)|(refine K3 ?_;clear hS;intro g w hS hge)|(refine KB ?_ ?_<;>intro hb<;>(try simp only [JJ] at hb)<;>(try exact JX))|fail)
  refine Z.eff (Z.cl (fits_z e c.tenants.length c.cells.length c.regions c.versions.length _ _ _ hS (by omega) (by omega) (by omega) (by omega)) rfl ?_) rfl
  clear hS
  rintro e w ⟨rfl, hS⟩
  refine ⟨_, rfl, ?_⟩
  repeat' (first|refine K ?_|(refine Sh.sa hS ?_;clear hS;intro w hS)|(refine K3 ?_;clear hS;intro g w hS hge)|(refine KB ?_ ?_<;>intro hb<;>(try simp only [JJ] at hb)<;>(try exact JX))|fail)
  refine Dnt Tryz.results162 ?_
  exact ⟨rfl, hS.sb⟩
end Go.Proofs.YtfmnjbhncnldmaaGreat
