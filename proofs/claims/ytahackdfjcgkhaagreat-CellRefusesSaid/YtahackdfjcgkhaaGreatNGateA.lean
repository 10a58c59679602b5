/-
  The gate: its order of windows, its search, what it answers.
-/
import Derived.Test.YtahackdfjcgkhaaGreatNWin
namespace Go.Proofs.YtahackdfjcgkhaaGreat
open Go.RowKit
set_option linter.unusedSimpArgs false
set_option linter.unusedVariables false
attribute [local irreducible] Res.blk Res.sl Res.all Res.ex Res.pure Res.star

/-- The order of windows. -/
def ltW (a b : Wi) : Prop := a.from_ < b.from_ ∨ (a.from_ = b.from_ ∧ (a.epoch < b.epoch ∨ (a.epoch = b.epoch ∧ (a.until_ < b.until_ ∨ (a.until_ = b.until_ ∧ a.version < b.version)))))
def eqK (a b : Wi) : Prop := a.from_ = b.from_ ∧ a.epoch = b.epoch ∧ a.until_ = b.until_ ∧ a.version = b.version
instance (a b : Wi) : Decidable (ltW a b) := by unfold ltW; infer_instance
instance (a b : Wi) : Decidable (eqK a b) := by unfold eqK; infer_instance
def ci3 (a b : Int) : Int := if a < b then -1 else if b < a then 1 else 0
def orL : List Int → Int
  | [] => 0
  | a :: l => if a = 0 then orL l else a
def cmpW (a b : Wi) : Int := orL [ci3 a.from_ b.from_, ci3 a.epoch b.epoch, ci3 a.until_ b.until_, ci3 a.version b.version]
theorem ci3_neg (a b : Int) : ci3 a b < 0 ↔ a < b := by unfold ci3; repeat' split <;> omega
theorem ci3_zero (a b : Int) : ci3 a b = 0 ↔ a = b := by unfold ci3; repeat' split <;> omega
theorem cmpW_neg (a b : Wi) : cmpW a b < 0 ↔ ltW a b := by
  simp only [cmpW, orL, ltW]
  have h1 := ci3_neg a.from_ b.from_
  have h2 := ci3_zero a.from_ b.from_
  have h3 := ci3_neg a.epoch b.epoch
  have h4 := ci3_zero a.epoch b.epoch
  have h5 := ci3_neg a.until_ b.until_
  have h6 := ci3_zero a.until_ b.until_
  have h7 := ci3_neg a.version b.version
  repeat' split
  all_goals omega
theorem cmpW_zero (a b : Wi) : cmpW a b = 0 ↔ eqK a b := by
  simp only [cmpW, orL, eqK]
  have h2 := ci3_zero a.from_ b.from_
  have h4 := ci3_zero a.epoch b.epoch
  have h6 := ci3_zero a.until_ b.until_
  have h7 := ci3_zero a.version b.version
  repeat' split
  all_goals omega
theorem ltW_trans {a b c : Wi} (h : ltW a b) (k : ltW b c) : ltW a c := by unfold ltW at *; omega
theorem ltW_irrefl (a : Wi) : ¬ ltW a a := by unfold ltW; omega
theorem ltW_or {a b : Wi} (h : ¬ ltW a b) : eqK a b ∨ ltW b a := by unfold ltW eqK at *; omega
theorem eqK_eq {a b : Wi} (h : eqK a b) (hc : a.cell = b.cell) : a = b := by
  cases a; cases b; unfold eqK at h; simp_all
/-- A window that a gate takes. -/
def okW (x : Wi) : Prop := 1 ≤ x.epoch ∧ x.epoch ≤ 1048576 ∧ 0 ≤ x.version ∧ x.version < 30 ∧ 0 ≤ x.from_ ∧ x.from_ ≤ 1073741824 ∧ x.from_ < x.until_ ∧ x.until_ ≤ 1073743824
instance (a : Wi) : Decidable (okW a) := by unfold okW; infer_instance

/-- A gate: its cell, the greatest epoch that was closed, its windows. -/
structure Ga where
  cell : Int
  closed : Int
  ws : List Wi
def GP (g : Nat) (G : Ga) : Res := .ex fun A => .ex fun c => .all [.blk g 123 [.int .i64 G.cell, .int .i64 G.closed, .slice A G.ws.length c], .sl 46 5 (.slice A G.ws.length c) (G.ws.map Wi.cells)]
def GR (g : Nat) (G : Ga) : Res := .ex fun A => .ex fun c => .all [.blk g 112 [.int .i64 G.cell, .int .i64 G.closed, .slice A G.ws.length c], .sl 46 5 (.slice A G.ws.length c) (G.ws.map Wi.cells)]
section
variable {r w : World} {M : List Nat} {F : List Res} {g : Nat} {G : Ga}
theorem Sep.GP_open : Sep r M (GP g G :: F) w ↔ ∃ A c, Sep r M (.blk g 123 [.int .i64 G.cell, .int .i64 G.closed, .slice A G.ws.length c] :: .sl 46 5 (.slice A G.ws.length c) (G.ws.map Wi.cells) :: F) w := by
  simp only [GP, Sep.ex_open, Sep.all_open, List.cons_append, List.nil_append]
theorem Sep.GR_open : Sep r M (GR g G :: F) w ↔ ∃ A c, Sep r M (.blk g 112 [.int .i64 G.cell, .int .i64 G.closed, .slice A G.ws.length c] :: .sl 46 5 (.slice A G.ws.length c) (G.ws.map Wi.cells) :: F) w := by
  simp only [GR, Sep.ex_open, Sep.all_open, List.cons_append, List.nil_append]
end

theorem isnan_z (a : Int) (r : World) (F : List Res) (w : World) (hS : Sep r [] F w) : Calls Tryz.prog 146 #[.int .i64 a] w fun e w' => e = .returned (.bool false) ∧ Sep r [] F w' := by
  refine Z.enter Tryz.func146 Tryz.ntmps146 rfl rfl ?_
  repeat' (first|refine VP ?_|refine Sh.la hS ?_|refine Sh.lb ?_|refine Sh.lc ?_|refine Sh.su ?_|(refine Sh.sa hS ?_;clear hS;intro w hS)|((first|refine Sh.aa hS ?_|refine Sh.ab hS ?_|refine Sh.ac hS ?_);clear hS;intro g w hS hge)|refine Sh.ix ?_|refine Sh.up ?_|refine Sh.sl1 ?_|refine Sh.sl2 ?_|refine Sh.sl5 ?_|refine Sh.sl3 ?_|refine Sh.sl4 ?_|refine Sh.eq ?_|refine Sh.ne ?_|refine Sh.ix2 ?_|refine Sh.ix3 ?_|refine Z.bu rfl rfl ?_|refine Z.buA rfl rfl ?_|refine VM ?_|refine Z.pl (R.cap rfl rfl) ?_|refine Z.pl R.mf ?_|refine Z.pl (R.min2 rfl rfl) ?_|refine G1 ?_|refine G2 ?_|refine G3 ?_|refine G4 ?_|with_reducible (first|refine V0 ?_|refine Z.block ?_)|((with_reducible refine Z.blX ?_ ?_);rotate_left;rfl)|refine VT ?_|refine VF ?_|((first|refine GS ?_ ?_|refine VB ?_ ?_)<;>intro hb<;>(try simp only [J1,J2,J3,J4,J5,J6] at hb)<;>(try (exfalso;first|omega|exact hb trivial))))
  first | refine Z.done hS Tryz.results146 (Z.RV.tmp rfl Z.RV.nil) ?_ | refine Z.doneN hS Tryz.results146 (Z.RV.tmp rfl Z.RV.nil) ?_
  exact ⟨by simp [Z.packR], hS⟩
theorem ci3_z (a b : Int) (r : World) (F : List Res) (w : World) (hS : Sep r [] F w) : Calls Tryz.prog 114 #[.int .i64 a, .int .i64 b] w fun e w' => e = .returned (.int .i64 (ci3 a b)) ∧ Sep r [] F w' := by
  refine Z.enter Tryz.func114 Tryz.ntmps114 rfl rfl ?_
  repeat' (first|refine VP ?_|refine Sh.la hS ?_|refine Sh.lb ?_|refine Sh.lc ?_|refine Sh.su ?_|(refine Sh.sa hS ?_;clear hS;intro w hS)|((first|refine Sh.aa hS ?_|refine Sh.ab hS ?_|refine Sh.ac hS ?_);clear hS;intro g w hS hge)|refine Sh.ix ?_|refine Sh.up ?_|refine Sh.sl1 ?_|refine Sh.sl2 ?_|refine Sh.sl5 ?_|refine Sh.sl3 ?_|refine Sh.sl4 ?_|refine Sh.eq ?_|refine Sh.ne ?_|refine Sh.ix2 ?_|refine Sh.ix3 ?_|refine Z.bu rfl rfl ?_|refine Z.buA rfl rfl ?_|refine VM ?_|refine Z.pl (R.cap rfl rfl) ?_|refine Z.pl R.mf ?_|refine Z.pl (R.min2 rfl rfl) ?_|refine G1 ?_|refine G2 ?_|refine G3 ?_|refine G4 ?_|with_reducible (first|refine V0 ?_|refine Z.block ?_)|((with_reducible refine Z.blX ?_ ?_);rotate_left;rfl)|refine VT ?_|refine VF ?_|((first|refine GS ?_ ?_|refine VB ?_ ?_)<;>intro hb<;>(try simp only [J1,J2,J3,J4,J5,J6] at hb)<;>(try (exfalso;first|omega|exact hb trivial))))
  refine Z.eff (Z.cl (isnan_z _ _ _ _ hS) rfl ?_) rfl
  clear hS
  rintro e w ⟨rfl, hS⟩
  refine ⟨_, rfl, ?_⟩
  repeat' (first|refine VP ?_|refine Sh.la hS ?_|refine Sh.lb ?_|refine Sh.lc ?_|refine Sh.su ?_|(refine Sh.sa hS ?_;clear hS;intro w hS)|((first|refine Sh.aa hS ?_|refine Sh.ab hS ?_|refine Sh.ac hS ?_);clear hS;intro g w hS hge)|refine Sh.ix ?_|refine Sh.up ?_|refine Sh.sl1 ?_|refine Sh.sl2 ?_|refine Sh.sl5 ?_|refine Sh.sl3 ?_|refine Sh.sl4 ?_|refine Sh.eq ?_|refine Sh.ne ?_|refine Sh.ix2 ?_|refine Sh.ix3 ?_|refine Z.bu rfl rfl ?_|refine Z.buA rfl rfl ?_|refine VM ?_|refine Z.pl (R.cap rfl rfl) ?_|refine Z.pl R.mf ?_|refine Z.pl (R.min2 rfl rfl) ?_|refine G1 ?_|refine G2 ?_|refine G3 ?_|refine G4 ?_|with_reducible (first|refine V0 ?_|refine Z.block ?_)|((with_reducible refine Z.blX ?_ ?_);rotate_left;rfl)|refine VT ?_|refine VF ?_|((first|refine GS ?_ ?_|refine VB ?_ ?_)<;>intro hb<;>(try simp only [J1,J2,J3,J4,J5,J6] at hb)<;>(try (exfalso;first|omega|exact hb trivial))))
  refine Z.eff (Z.cl (isnan_z _ _ _ _ hS) rfl ?_) rfl
  clear hS
  rintro e w ⟨rfl, hS⟩
  refine ⟨_, rfl, ?_⟩
  repeat' (first|refine VP ?_|refine Sh.la hS ?_|refine Sh.lb ?_|refine Sh.lc ?_|refine Sh.su ?_|(refine Sh.sa hS ?_;clear hS;intro w hS)|((first|refine Sh.aa hS ?_|refine Sh.ab hS ?_|refine Sh.ac hS ?_);clear hS;intro g w hS hge)|refine Sh.ix ?_|refine Sh.up ?_|refine Sh.sl1 ?_|refine Sh.sl2 ?_|refine Sh.sl5 ?_|refine Sh.sl3 ?_|refine Sh.sl4 ?_|refine Sh.eq ?_|refine Sh.ne ?_|refine Sh.ix2 ?_|refine Sh.ix3 ?_|refine Z.bu rfl rfl ?_|refine Z.buA rfl rfl ?_|refine VM ?_|refine Z.pl (R.cap rfl rfl) ?_|refine Z.pl R.mf ?_|refine Z.pl (R.min2 rfl rfl) ?_|refine G1 ?_|refine G2 ?_|refine G3 ?_|refine G4 ?_|with_reducible (first|refine V0 ?_|refine Z.block ?_)|((with_reducible refine Z.blX ?_ ?_);rotate_left;rfl)|refine VT ?_|refine VF ?_|((first|refine GS ?_ ?_|refine VB ?_ ?_)<;>intro hb<;>(try simp only [J1,J2,J3,J4,J5,J6] at hb)<;>(try (exfalso;first|omega|exact hb trivial))))
  · first | refine Z.done hS Tryz.results114 (Z.RV.tmp rfl Z.RV.nil) ?_ | refine Z.doneN hS Tryz.results114 (Z.RV.tmp rfl Z.RV.nil) ?_
    exact ⟨by simp [Z.packR, ci3, hb], hS⟩
  · first | refine Z.done hS Tryz.results114 (Z.RV.tmp rfl Z.RV.nil) ?_ | refine Z.doneN hS Tryz.results114 (Z.RV.tmp rfl Z.RV.nil) ?_
    have h1 : ¬ a < b := by omega
    exact ⟨by simp [Z.packR, ci3, hb, h1], hS⟩
  · first | refine Z.done hS Tryz.results114 (Z.RV.tmp rfl Z.RV.nil) ?_ | refine Z.doneN hS Tryz.results114 (Z.RV.tmp rfl Z.RV.nil) ?_
    have h1 : ¬ a < b := by omega
    have h2 : ¬ b < a := by omega
    exact ⟨by simp [Z.packR, ci3, h1, h2], hS⟩
theorem orL_drop {l : List Int} {q : Nat} (hq : q < l.length) : orL (l.drop q) = if l[q] = 0 then orL (l.drop (q + 1)) else l[q] := by rw [List.drop_eq_getElem_cons hq]; rfl
set_option maxHeartbeats 1000000 in
theorem orL_z (l : List Int) (v : Value) (r : World) (F : List Res) (w : World) (hS : Sep r [] F w) (hrd : Reads r F 1 v (l.map intC)) (hl : l.length ≤ 1000) :
    Calls Tryz.prog 113 #[v] w fun e w' => e = .returned (.int .i64 (orL l)) ∧ Sep r [] F w' := by
  obtain ⟨A, c, rfl, hc⟩ := (hrd [] w hS).mform
  refine Z.enter Tryz.func113 Tryz.ntmps113 rfl rfl ?_
  repeat' (first|refine VP ?_|refine Sh.la hS ?_|refine Sh.lb ?_|refine Sh.lc ?_|refine Sh.su ?_|(refine Sh.sa hS ?_;clear hS;intro w hS)|((first|refine Sh.aa hS ?_|refine Sh.ab hS ?_|refine Sh.ac hS ?_);clear hS;intro g w hS hge)|refine Sh.ix ?_|refine Sh.up ?_|refine Sh.sl1 ?_|refine Sh.sl2 ?_|refine Sh.sl5 ?_|refine Sh.sl3 ?_|refine Sh.sl4 ?_|refine Sh.eq ?_|refine Sh.ne ?_|refine Sh.ix2 ?_|refine Sh.ix3 ?_|refine Z.bu rfl rfl ?_|refine Z.buA rfl rfl ?_|refine VM ?_|refine Z.pl (R.cap rfl rfl) ?_|refine Z.pl R.mf ?_|refine Z.pl (R.min2 rfl rfl) ?_|refine G1 ?_|refine G2 ?_|refine G3 ?_|refine G4 ?_|with_reducible (first|refine V0 ?_|refine Z.block ?_)|((with_reducible refine Z.blX ?_ ?_);rotate_left;rfl)|refine VT ?_|refine VF ?_|((first|refine GS ?_ ?_|refine VB ?_ ?_)<;>intro hb<;>(try simp only [J1,J2,J3,J4,J5,J6] at hb)<;>(try (exfalso;first|omega|exact hb trivial))))
  refine Z.lpS [2, 5, 8, 9, 10, 11, 12, 13, 14, 15, 16] (fun m w s => ∃ q : Nat, s = [(8, .int .i64 q)] ∧ q ≤ l.length ∧ orL l = orL (l.drop q) ∧ m = l.length - q ∧ Sep r [] F w) _ [(8, .int .i64 (0 : Nat))] (by repeat (first | exact trivial | refine ⟨rfl, ?_⟩)) ⟨0, rfl, by omega, by simp, rfl, hS⟩ ?_
  clear hS
  rintro m f0 w _ ⟨q, rfl, hq, ho, rfl, hS⟩
  by_cases hlt : q < l.length
  · obtain ⟨gb, o, rfl, _, hra⟩ := (hrd [] w hS).mat (by omega) hlt
    have hd := orL_drop hlt
    repeat' (first|refine VP ?_|refine Sh.la hS ?_|refine Sh.lb ?_|refine Sh.lc ?_|refine Sh.su ?_|(refine Sh.sa hS ?_;clear hS;intro w hS)|((first|refine Sh.aa hS ?_|refine Sh.ab hS ?_|refine Sh.ac hS ?_);clear hS;intro g w hS hge)|refine Sh.ix ?_|refine Sh.up ?_|refine Sh.sl1 ?_|refine Sh.sl2 ?_|refine Sh.sl5 ?_|refine Sh.sl3 ?_|refine Sh.sl4 ?_|refine Sh.eq ?_|refine Sh.ne ?_|refine Sh.ix2 ?_|refine Sh.ix3 ?_|refine Z.bu rfl rfl ?_|refine Z.buA rfl rfl ?_|refine VM ?_|refine Z.pl (R.cap rfl rfl) ?_|refine Z.pl R.mf ?_|refine Z.pl (R.min2 rfl rfl) ?_|refine G1 ?_|refine G2 ?_|refine G3 ?_|refine G4 ?_|with_reducible (first|refine V0 ?_|refine Z.block ?_)|((with_reducible refine Z.blX ?_ ?_);rotate_left;rfl)|refine VT ?_|refine VF ?_|((first|refine GS ?_ ?_|refine VB ?_ ?_)<;>intro hb<;>(try simp only [J1,J2,J3,J4,J5,J6] at hb)<;>(try (exfalso;first|omega|exact hb trivial))))
    · first | refine Z.done hS Tryz.results113 (Z.RV.tmp rfl Z.RV.nil) ?_ | refine Z.doneN hS Tryz.results113 (Z.RV.tmp rfl Z.RV.nil) ?_
      rw [if_neg hb] at hd
      exact ⟨by rw [ho, hd]; rfl, hS⟩
    · refine Sh.again (l.length - (q + 1)) [(8, .int .i64 (q + 1 : Nat))] ?_
      rw [if_pos (by omega)] at hd
      exact ⟨q + 1, rfl, by omega, by rw [ho, hd], rfl, hS⟩
  · repeat' (first|refine VP ?_|refine Sh.la hS ?_|refine Sh.lb ?_|refine Sh.lc ?_|refine Sh.su ?_|(refine Sh.sa hS ?_;clear hS;intro w hS)|((first|refine Sh.aa hS ?_|refine Sh.ab hS ?_|refine Sh.ac hS ?_);clear hS;intro g w hS hge)|refine Sh.ix ?_|refine Sh.up ?_|refine Sh.sl1 ?_|refine Sh.sl2 ?_|refine Sh.sl5 ?_|refine Sh.sl3 ?_|refine Sh.sl4 ?_|refine Sh.eq ?_|refine Sh.ne ?_|refine Sh.ix2 ?_|refine Sh.ix3 ?_|refine Z.bu rfl rfl ?_|refine Z.buA rfl rfl ?_|refine VM ?_|refine Z.pl (R.cap rfl rfl) ?_|refine Z.pl R.mf ?_|refine Z.pl (R.min2 rfl rfl) ?_|refine G1 ?_|refine G2 ?_|refine G3 ?_|refine G4 ?_|with_reducible (first|refine V0 ?_|refine Z.block ?_)|((with_reducible refine Z.blX ?_ ?_);rotate_left;rfl)|refine VT ?_|refine VF ?_|((first|refine GS ?_ ?_|refine VB ?_ ?_)<;>intro hb<;>(try simp only [J1,J2,J3,J4,J5,J6] at hb)<;>(try (exfalso;first|omega|exact hb trivial))))
    first | refine Z.done hS Tryz.results113 (Z.RV.tmp rfl Z.RV.nil) ?_ | refine Z.doneN hS Tryz.results113 (Z.RV.tmp rfl Z.RV.nil) ?_
    rw [ho, List.drop_eq_nil_of_le (by omega)]
    exact ⟨rfl, hS⟩
set_option maxHeartbeats 1000000 in
theorem cmpW_z (a b : Wi) (r : World) (F : List Res) (w : World) (hS : Sep r [] F w) : Calls Tryz.prog 65 #[a.val, b.val] w fun e w' => e = .returned (.int .i64 (cmpW a b)) ∧ Sep r [] F w' := by
  refine Z.enter Tryz.func65 Tryz.ntmps65 rfl rfl ?_
  repeat' (first|refine VP ?_|refine Sh.la hS ?_|refine Sh.lb ?_|refine Sh.lc ?_|refine Sh.su ?_|(refine Sh.sa hS ?_;clear hS;intro w hS)|((first|refine Sh.aa hS ?_|refine Sh.ab hS ?_|refine Sh.ac hS ?_);clear hS;intro g w hS hge)|refine Sh.ix ?_|refine Sh.up ?_|refine Sh.sl1 ?_|refine Sh.sl2 ?_|refine Sh.sl5 ?_|refine Sh.sl3 ?_|refine Sh.sl4 ?_|refine Sh.eq ?_|refine Sh.ne ?_|refine Sh.ix2 ?_|refine Sh.ix3 ?_|refine Z.bu rfl rfl ?_|refine Z.buA rfl rfl ?_|refine VM ?_|refine Z.pl (R.cap rfl rfl) ?_|refine Z.pl R.mf ?_|refine Z.pl (R.min2 rfl rfl) ?_|refine G1 ?_|refine G2 ?_|refine G3 ?_|refine G4 ?_|with_reducible (first|refine V0 ?_|refine Z.block ?_)|((with_reducible refine Z.blX ?_ ?_);rotate_left;rfl)|refine VT ?_|refine VF ?_|((first|refine GS ?_ ?_|refine VB ?_ ?_)<;>intro hb<;>(try simp only [J1,J2,J3,J4,J5,J6] at hb)<;>(try (exfalso;first|omega|exact hb trivial))))
  rename_i ga _ _
  rename Nat => gb
  refine D.startS (Lr := [.blk ga 46 a.cells, .blk gb 46 b.cells]) (hS.sb) 23 23 (by kernel_rfl) rfl ?_
  replace hS := hS.drew
  refine Sh.dp 0 1 ?_
  refine Sh.dp 2 5 ?_
  refine Sh.dp 5 37 ?_
  refine Sh.dp 7 165 ?_
  refine Sh.dp 10 1189 ?_
  refine Sh.dp 12 5285 ?_
  refine Sh.dp 15 38053 ?_
  refine Sh.dp 17 169125 ?_
  refine Sh.dl 1 169127 ?_
  refine Sh.dl 3 169135 ?_
  refine Sh.dl 6 169199 ?_
  refine Sh.dl 8 169455 ?_
  refine Sh.dl 11 171503 ?_
  refine Sh.dl 13 179695 ?_
  refine Sh.dl 16 245231 ?_
  refine Sh.dl 18 507375 ?_
  refine D.eff 4 507391 rfl D.wantedN (by kernel_rfl) (by kernel_rfl) (fun _ _ h => h) ?_
  refine Z.cl (ci3_z _ _ _ _ _ hS) rfl ?_
  clear hS
  rintro e w ⟨rfl, hS⟩
  refine ⟨_, rfl, ?_⟩
  refine ⟨HM.s (hS.sb), ?_⟩
  refine D.eff 9 507903 rfl D.wantedN (by kernel_rfl) (by kernel_rfl) (fun _ _ h => h) ?_
  refine Z.cl (ci3_z _ _ _ _ _ hS) rfl ?_
  clear hS
  rintro e w ⟨rfl, hS⟩
  refine ⟨_, rfl, ?_⟩
  refine ⟨HM.s (hS.sb), ?_⟩
  refine D.eff 14 524287 rfl D.wantedN (by kernel_rfl) (by kernel_rfl) (fun _ _ h => h) ?_
  refine Z.cl (ci3_z _ _ _ _ _ hS) rfl ?_
  clear hS
  rintro e w ⟨rfl, hS⟩
  refine ⟨_, rfl, ?_⟩
  refine ⟨HM.s (hS.sb), ?_⟩
  refine D.eff 19 1048575 rfl D.wantedN (by kernel_rfl) (by kernel_rfl) (fun _ _ h => h) ?_
  refine Z.cl (ci3_z _ _ _ _ _ hS) rfl ?_
  clear hS
  rintro e w ⟨rfl, hS⟩
  refine ⟨_, rfl, ?_⟩
  refine ⟨HM.s (hS.sb), ?_⟩
  refine D.eff 20 2097151 rfl D.wantedN (by kernel_rfl) (by kernel_rfl) (fun _ _ h => h) ?_
  refine Z.bs hS rfl rfl rfl ?_
  clear hS; intro g w hS hge
  refine ⟨HM.s (hS.sb), ?_⟩
  refine D.eff 21 4194303 rfl D.wantedN (by kernel_rfl) (by kernel_rfl) (fun _ _ h => h) ?_
  replace hS := mk_sl (sz := 1) (n := 4) (rows := [ci3 a.from_ b.from_, ci3 a.epoch b.epoch, ci3 a.until_ b.until_, ci3 a.version b.version].map intC) hS rfl (by omega) (by decide) (fun row hr => by obtain ⟨z, _, rfl⟩ := List.mem_map.1 hr; exact ⟨rfl, by simp [intC, Value.oneCell']⟩) rfl
  refine Z.cl (orL_z _ _ _ _ _ hS (Reads.of_at (by repeat (first | exact At.here | apply At.next))) (by simp)) rfl ?_
  clear hS
  rintro e w ⟨rfl, hS⟩
  refine ⟨_, rfl, ?_⟩
  refine ⟨HM.s (hS.sb), ?_⟩
  refine Sh.dp 22 8388607 ?_
  refine D.done (by kernel_rfl) ?_
  repeat' (first|refine VP ?_|refine Sh.la hS ?_|refine Sh.lb ?_|refine Sh.lc ?_|refine Sh.su ?_|(refine Sh.sa hS ?_;clear hS;intro w hS)|((first|refine Sh.aa hS ?_|refine Sh.ab hS ?_|refine Sh.ac hS ?_);clear hS;intro g w hS hge)|refine Sh.ix ?_|refine Sh.up ?_|refine Sh.sl1 ?_|refine Sh.sl2 ?_|refine Sh.sl5 ?_|refine Sh.sl3 ?_|refine Sh.sl4 ?_|refine Sh.eq ?_|refine Sh.ne ?_|refine Sh.ix2 ?_|refine Sh.ix3 ?_|refine Z.bu rfl rfl ?_|refine Z.buA rfl rfl ?_|refine VM ?_|refine Z.pl (R.cap rfl rfl) ?_|refine Z.pl R.mf ?_|refine Z.pl (R.min2 rfl rfl) ?_|refine G1 ?_|refine G2 ?_|refine G3 ?_|refine G4 ?_|with_reducible (first|refine V0 ?_|refine Z.block ?_)|((with_reducible refine Z.blX ?_ ?_);rotate_left;rfl)|refine VT ?_|refine VF ?_|((first|refine GS ?_ ?_|refine VB ?_ ?_)<;>intro hb<;>(try simp only [J1,J2,J3,J4,J5,J6] at hb)<;>(try (exfalso;first|omega|exact hb trivial))))
  first | refine Z.done hS Tryz.results65 (Z.RV.tmp rfl Z.RV.nil) ?_ | refine Z.doneN hS Tryz.results65 (Z.RV.tmp rfl Z.RV.nil) ?_
  exact ⟨rfl, hS.sb⟩

/-- Where a window stands, or would stand. -/
structure Spot (ws : List Wi) (x : Wi) (i : Nat) : Prop where
  le : i ≤ ws.length
  lo : ∀ j (hj : j < ws.length), j < i → ltW ws[j] x
  hi : ∀ j (hj : j < ws.length), i ≤ j → ¬ ltW ws[j] x
theorem sorted_at {ws : List Wi} (h : ws.Pairwise ltW) {i j : Nat} (hj : j < ws.length) (hij : i < j) : ltW (ws[i]'(by omega)) ws[j] := List.pairwise_iff_getElem.1 h i j (by omega) hj hij
theorem wrap_small (k : IntKind) (hk : k = .i64 ∨ k = .u64) {a : Int} (h0 : 0 ≤ a) (h1 : a ≤ 9223372036854775807) : k.wrap a = a := by
  rcases hk with rfl | rfl
  · exact IntWalk.i64_in _ (by omega)
  · simp [IntKind.wrap, IntKind.signed, IntKind.bits]
    omega
set_option maxHeartbeats 2000000 in
theorem search_z (ws : List Wi) (x : Wi) (v : Value) (r : World) (F : List Res) (w : World) (hS : Sep r [] F w) (hrd : Reads r F 5 v (ws.map Wi.cells)) (hl : ws.length ≤ 100000) (hs : ws.Pairwise ltW) :
    Calls Tryz.prog 64 #[v, x.val, .func (.func 65) #[] #[]] w fun e w' => ∃ (i : Nat) (b : Bool), e = .returned (.tuple #[.int .i64 i, .bool b]) ∧ Spot ws x i ∧ (b = true ↔ ∃ hi : i < ws.length, eqK ws[i] x) ∧ Sep r [] F w' := by
  obtain ⟨A, c, rfl, hc⟩ := (hrd [] w hS).mform
  refine Z.enter Tryz.func64 Tryz.ntmps64 rfl rfl ?_
  repeat' (first|refine VP ?_|refine Sh.la hS ?_|refine Sh.lb ?_|refine Sh.lc ?_|refine Sh.su ?_|(refine Sh.sa hS ?_;clear hS;intro w hS)|((first|refine Sh.aa hS ?_|refine Sh.ab hS ?_|refine Sh.ac hS ?_);clear hS;intro g w hS hge)|refine Sh.ix ?_|refine Sh.up ?_|refine Sh.sl1 ?_|refine Sh.sl2 ?_|refine Sh.sl5 ?_|refine Sh.sl3 ?_|refine Sh.sl4 ?_|refine Sh.eq ?_|refine Sh.ne ?_|refine Sh.ix2 ?_|refine Sh.ix3 ?_|refine Z.bu rfl rfl ?_|refine Z.buA rfl rfl ?_|refine VM ?_|refine Z.pl (R.cap rfl rfl) ?_|refine Z.pl R.mf ?_|refine Z.pl (R.min2 rfl rfl) ?_|refine G1 ?_|refine G2 ?_|refine G3 ?_|refine G4 ?_|with_reducible (first|refine V0 ?_|refine Z.block ?_)|((with_reducible refine Z.blX ?_ ?_);rotate_left;rfl)|refine VT ?_|refine VF ?_|((first|refine GS ?_ ?_|refine VB ?_ ?_)<;>intro hb<;>(try simp only [J1,J2,J3,J4,J5,J6] at hb)<;>(try (exfalso;first|omega|exact hb trivial))))
  rename Nat => gx
  refine Z.lpS [9, 10, 11, 15, 16, 17, 18, 19, 20, 21, 22, 23, 24, 25, 26, 27, 28, 29, 30, 31, 32, 33, 34] (fun m w s => ∃ i j : Nat, s = [(9, .int .i64 i), (10, .int .i64 j)] ∧ i ≤ j ∧ j ≤ ws.length ∧ (∀ k (hk : k < ws.length), k < i → ltW ws[k] x) ∧ (∀ k (hk : k < ws.length), j ≤ k → ¬ ltW ws[k] x) ∧ m = j - i ∧ Sep r [] (.blk gx 46 x.cells :: F) w) _ [(9, .int .i64 (0 : Nat)), (10, .int .i64 (ws.length : Nat))] (by repeat (first | exact trivial | refine ⟨rfl, ?_⟩)) ⟨0, ws.length, rfl, by omega, by omega, by intro k _ h; omega, by intro k _ h; omega, rfl, hS⟩ ?_
  clear hS
  rintro m f0 w _ ⟨i, j, rfl, hij, hj, hlo, hhi, rfl, hS⟩
  by_cases hlt : i < j
  · have hm : (i + j) / 2 < ws.length := by omega
    obtain ⟨gb, o, rfl, _, _⟩ := (hrd [_] w hS).mat (by omega) hm
    have hra : ∀ W, Sep r [] (.blk gx 46 x.cells :: F) W → W.rangeAt gb (o + ((i + j) / 2) * 5) ws[(i + j) / 2].cells := fun W h => (hrd [_] W h).elem (by omega) hm
    have ew : IntKind.u64.wrap ((i : Int) + j) = (i : Int) + j := wrap_small _ (.inr rfl) (by omega) (by omega)
    have ew2 : IntKind.i64.wrap (((i : Int) + j) / 2) = (((i + j) / 2 : Nat) : Int) := by rw [wrap_small _ (.inl rfl) (by omega) (by omega)]; rfl
    repeat' (first|refine VP ?_|refine Sh.la hS ?_|refine Sh.lb ?_|refine Sh.lc ?_|refine Sh.su ?_|(refine Sh.sa hS ?_;clear hS;intro w hS)|((first|refine Sh.aa hS ?_|refine Sh.ab hS ?_|refine Sh.ac hS ?_);clear hS;intro g w hS hge)|refine Sh.ix ?_|refine Sh.up ?_|refine Sh.sl1 ?_|refine Sh.sl2 ?_|refine Sh.sl5 ?_|refine Sh.sl3 ?_|refine Sh.sl4 ?_|refine Sh.eq ?_|refine Sh.ne ?_|refine Sh.ix2 ?_|refine Sh.ix3 ?_|refine Z.bu rfl rfl ?_|refine Z.buA rfl rfl ?_|refine VM ?_|refine Z.pl (R.cap rfl rfl) ?_|refine Z.pl R.mf ?_|refine Z.pl (R.min2 rfl rfl) ?_|refine G1 ?_|refine G2 ?_|refine G3 ?_|refine G4 ?_|with_reducible (first|refine V0 ?_|refine Z.block ?_)|((with_reducible refine Z.blX ?_ ?_);rotate_left;rfl)|refine VT ?_|refine VF ?_|((first|refine GS ?_ ?_|refine VB ?_ ?_)<;>intro hb<;>(try simp only [J1,J2,J3,J4,J5,J6] at hb)<;>(try (exfalso;first|omega|exact hb trivial))))
    refine Z.pl (R.cvt rfl Tryz.underlying3 Tryz.underlying156) ?_
    rw [ew]
    refine Z.pl (R.shr1 rfl rfl (by decide)) ?_
    refine Z.pl (R.cvt rfl Tryz.underlying156 Tryz.underlying3) ?_
    rw [ew2]
    repeat' (first|refine VP ?_|refine Sh.la hS ?_|refine Sh.lb ?_|refine Sh.lc ?_|refine Sh.su ?_|(refine Sh.sa hS ?_;clear hS;intro w hS)|((first|refine Sh.aa hS ?_|refine Sh.ab hS ?_|refine Sh.ac hS ?_);clear hS;intro g w hS hge)|refine Sh.ix ?_|refine Sh.up ?_|refine Sh.sl1 ?_|refine Sh.sl2 ?_|refine Sh.sl5 ?_|refine Sh.sl3 ?_|refine Sh.sl4 ?_|refine Sh.eq ?_|refine Sh.ne ?_|refine Sh.ix2 ?_|refine Sh.ix3 ?_|refine Z.bu rfl rfl ?_|refine Z.buA rfl rfl ?_|refine VM ?_|refine Z.pl (R.cap rfl rfl) ?_|refine Z.pl R.mf ?_|refine Z.pl (R.min2 rfl rfl) ?_|refine G1 ?_|refine G2 ?_|refine G3 ?_|refine G4 ?_|with_reducible (first|refine V0 ?_|refine Z.block ?_)|((with_reducible refine Z.blX ?_ ?_);rotate_left;rfl)|refine VT ?_|refine VF ?_|((first|refine GS ?_ ?_|refine VB ?_ ?_)<;>intro hb<;>(try simp only [J1,J2,J3,J4,J5,J6] at hb)<;>(try (exfalso;first|omega|exact hb trivial))))
    generalize hmid : (i + j) / 2 = mid at *
    refine D.startS hS 8 8 (by kernel_rfl) rfl ?_
    replace hS := hS.drew
    refine Sh.dp 0 1 ?_
    refine Sh.dp 1 3 ?_
    refine Sh.dp 2 7 ?_
    first | refine D.ixn 3 15 rfl D.wantedN (by kernel_rfl) rfl rfl rfl (by omega) ?_ | refine D.ix 3 15 rfl D.wantedN (by kernel_rfl) rfl rfl rfl (by omega) ?_ | refine D.ia 3 15 rfl D.wantedN (by kernel_rfl) rfl rfl rfl (by omega) ?_
    refine D.ldR 4 31 rfl D.wantedN (by kernel_rfl) rfl hra rfl ?_
    refine Sh.dl 5 63 ?_
    refine D.eff 6 127 rfl D.wantedN (by kernel_rfl) (by kernel_rfl) (fun _ _ h => h) ?_
    refine Z.clf (caps := []) rfl (cmpW_z ws[mid] x _ _ _ hS) rfl ?_
    clear hS
    rintro e w ⟨rfl, hS⟩
    refine ⟨_, rfl, ?_⟩
    refine ⟨HM.s (hS.sb), ?_⟩
    refine Sh.dp 7 255 ?_
    refine D.done (by kernel_rfl) ?_
    have hneg := cmpW_neg ws[mid] x
    repeat' (first|refine VP ?_|refine Sh.la hS ?_|refine Sh.lb ?_|refine Sh.lc ?_|refine Sh.su ?_|(refine Sh.sa hS ?_;clear hS;intro w hS)|((first|refine Sh.aa hS ?_|refine Sh.ab hS ?_|refine Sh.ac hS ?_);clear hS;intro g w hS hge)|refine Sh.ix ?_|refine Sh.up ?_|refine Sh.sl1 ?_|refine Sh.sl2 ?_|refine Sh.sl5 ?_|refine Sh.sl3 ?_|refine Sh.sl4 ?_|refine Sh.eq ?_|refine Sh.ne ?_|refine Sh.ix2 ?_|refine Sh.ix3 ?_|refine Z.bu rfl rfl ?_|refine Z.buA rfl rfl ?_|refine VM ?_|refine Z.pl (R.cap rfl rfl) ?_|refine Z.pl R.mf ?_|refine Z.pl (R.min2 rfl rfl) ?_|refine G1 ?_|refine G2 ?_|refine G3 ?_|refine G4 ?_|with_reducible (first|refine V0 ?_|refine Z.block ?_)|((with_reducible refine Z.blX ?_ ?_);rotate_left;rfl)|refine VT ?_|refine VF ?_|((first|refine GS ?_ ?_|refine VB ?_ ?_)<;>intro hb<;>(try simp only [J1,J2,J3,J4,J5,J6] at hb)<;>(try (exfalso;first|omega|exact hb trivial))))
    · refine Sh.again (j - (mid + 1)) [(9, .int .i64 (mid + 1 : Nat)), (10, .int .i64 (j : Nat))] ?_
      refine ⟨mid + 1, j, rfl, by omega, hj, fun k hk hki => ?_, hhi, rfl, hS⟩
      have hx := hneg.1 hb
      rcases Nat.lt_or_ge k mid with h1 | h1
      · exact ltW_trans (sorted_at hs hm h1) hx
      · have : k = mid := by omega
        subst this
        exact hx
    · refine Sh.again (mid - i) [(9, .int .i64 (i : Nat)), (10, .int .i64 (mid : Nat))] ?_
      refine ⟨i, mid, rfl, by omega, by omega, hlo, fun k hk hki => ?_, rfl, hS⟩
      have hx : ¬ ltW ws[mid] x := fun h => by have := hneg.2 h; omega
      rcases Nat.lt_or_ge mid k with h1 | h1
      · exact fun h => hx (ltW_trans (sorted_at hs hk h1) h)
      · have : k = mid := by omega
        subst this
        exact hx
  · have hij' : i = j := by omega
    subst hij'
    repeat' (first|refine VP ?_|refine Sh.la hS ?_|refine Sh.lb ?_|refine Sh.lc ?_|refine Sh.su ?_|(refine Sh.sa hS ?_;clear hS;intro w hS)|((first|refine Sh.aa hS ?_|refine Sh.ab hS ?_|refine Sh.ac hS ?_);clear hS;intro g w hS hge)|refine Sh.ix ?_|refine Sh.up ?_|refine Sh.sl1 ?_|refine Sh.sl2 ?_|refine Sh.sl5 ?_|refine Sh.sl3 ?_|refine Sh.sl4 ?_|refine Sh.eq ?_|refine Sh.ne ?_|refine Sh.ix2 ?_|refine Sh.ix3 ?_|refine Z.bu rfl rfl ?_|refine Z.buA rfl rfl ?_|refine VM ?_|refine Z.pl (R.cap rfl rfl) ?_|refine Z.pl R.mf ?_|refine Z.pl (R.min2 rfl rfl) ?_|refine G1 ?_|refine G2 ?_|refine G3 ?_|refine G4 ?_|with_reducible (first|refine V0 ?_|refine Z.block ?_)|((with_reducible refine Z.blX ?_ ?_);rotate_left;rfl)|refine VT ?_|refine VF ?_|((first|refine GS ?_ ?_|refine VB ?_ ?_)<;>intro hb<;>(try simp only [J1,J2,J3,J4,J5,J6] at hb)<;>(try (exfalso;first|omega|exact hb trivial))))
    by_cases hin : i < ws.length
    · obtain ⟨gb, o, rfl, _, _⟩ := (hrd [_] w hS).mat (by omega) hin
      have hra : ∀ W, Sep r [] (.blk gx 46 x.cells :: F) W → W.rangeAt gb (o + i * 5) ws[i].cells := fun W h => (hrd [_] W h).elem (by omega) hin
      refine D.startS hS 16 16 (by kernel_rfl) rfl ?_
      replace hS := hS.drew
      refine Sh.dp 0 1 ?_
      refine Sh.dp 1 3 ?_
      refine Sh.dp 2 7 ?_
      refine Sh.dp 3 15 ?_
      refine Sh.dp 4 31 ?_
      refine D.slot 39 rfl (fun hb => ?_) (fun hb => by exfalso; (try simp only [decide_eq_true_eq, decide_eq_false_iff_not, Bool.not_eq_true', Bool.not_eq_false', Int.not_lt, Int.not_le] at hb) <;> first | omega | exact hb trivial | cases hb | simp at hb)
      (try simp only [decide_eq_true_eq, decide_eq_false_iff_not, Bool.not_eq_true', Bool.not_eq_false', Int.not_lt, Int.not_le] at hb)
      refine Sh.dp 5 63 ?_
      refine Sh.dp 6 127 ?_
      refine Sh.dp 7 255 ?_
      first | refine D.ixn 8 511 rfl (D.wantedT rfl rfl) (by kernel_rfl) rfl rfl rfl (by omega) ?_ | refine D.ix 8 511 rfl (D.wantedT rfl rfl) (by kernel_rfl) rfl rfl rfl (by omega) ?_ | refine D.ia 8 511 rfl (D.wantedT rfl rfl) (by kernel_rfl) rfl rfl rfl (by omega) ?_
      refine D.ldR 9 1023 rfl (D.wantedT rfl rfl) (by kernel_rfl) rfl hra rfl ?_
      refine Sh.dl 10 2047 ?_
      refine D.eff 11 4095 rfl (D.wantedT rfl rfl) (by kernel_rfl) (by kernel_rfl) (fun _ _ h => h) ?_
      refine WE.guard ?_
      refine Z.clf (caps := []) rfl (cmpW_z ws[i] x _ _ _ hS) rfl ?_
      clear hS
      rintro e w ⟨rfl, hS⟩
      refine ⟨_, rfl, ?_⟩
      refine ⟨HM.s (hS.sb), ?_⟩
      first | refine D.pr 12 8191 rfl (D.wantedT rfl rfl) (by kernel_rfl) rfl ?_ | refine D.pl 12 8191 rfl (D.wantedT rfl rfl) (by kernel_rfl) (R.eqa rfl rfl rfl rfl) ?_
      refine Sh.dp 13 16383 ?_
      refine Sh.dp 14 32767 ?_
      refine Sh.dp 15 65535 ?_
      refine D.done (by kernel_rfl) ?_
      repeat' (first|refine VP ?_|refine Sh.la hS ?_|refine Sh.lb ?_|refine Sh.lc ?_|refine Sh.su ?_|(refine Sh.sa hS ?_;clear hS;intro w hS)|((first|refine Sh.aa hS ?_|refine Sh.ab hS ?_|refine Sh.ac hS ?_);clear hS;intro g w hS hge)|refine Sh.ix ?_|refine Sh.up ?_|refine Sh.sl1 ?_|refine Sh.sl2 ?_|refine Sh.sl5 ?_|refine Sh.sl3 ?_|refine Sh.sl4 ?_|refine Sh.eq ?_|refine Sh.ne ?_|refine Sh.ix2 ?_|refine Sh.ix3 ?_|refine Z.bu rfl rfl ?_|refine Z.buA rfl rfl ?_|refine VM ?_|refine Z.pl (R.cap rfl rfl) ?_|refine Z.pl R.mf ?_|refine Z.pl (R.min2 rfl rfl) ?_|refine G1 ?_|refine G2 ?_|refine G3 ?_|refine G4 ?_|with_reducible (first|refine V0 ?_|refine Z.block ?_)|((with_reducible refine Z.blX ?_ ?_);rotate_left;rfl)|refine VT ?_|refine VF ?_|((first|refine GS ?_ ?_|refine VB ?_ ?_)<;>intro hb<;>(try simp only [J1,J2,J3,J4,J5,J6] at hb)<;>(try (exfalso;first|omega|exact hb trivial))))
      first | refine Z.done hS Tryz.results64 (Z.RV.tmp rfl (Z.RV.tmp rfl Z.RV.nil)) ?_ | refine Z.doneN hS Tryz.results64 (Z.RV.tmp rfl (Z.RV.tmp rfl Z.RV.nil)) ?_
      refine ⟨i, decide (cmpW ws[i] x = 0), by simp [Z.packR, hin], ⟨by omega, hlo, hhi⟩, ?_, hS.sb⟩
      rw [decide_eq_true_eq, cmpW_zero]
      exact ⟨fun h => ⟨hin, h⟩, fun ⟨_, h⟩ => h⟩
    · refine D.startS hS 16 16 (by kernel_rfl) rfl ?_
      replace hS := hS.drew
      refine Sh.dp 0 1 ?_
      refine Sh.dp 1 3 ?_
      refine Sh.dp 2 7 ?_
      refine Sh.dp 3 15 ?_
      refine Sh.dp 4 31 ?_
      refine D.slot 39 rfl (fun hb => by exfalso; (try simp only [decide_eq_true_eq, decide_eq_false_iff_not, Bool.not_eq_true', Bool.not_eq_false', Int.not_lt, Int.not_le] at hb) <;> first | omega | exact hb trivial | cases hb | simp at hb) (fun hb => ?_)
      (try simp only [decide_eq_true_eq, decide_eq_false_iff_not, Bool.not_eq_true', Bool.not_eq_false', Int.not_lt, Int.not_le] at hb)
      refine D.skF 5 63 rfl (by kernel_rfl) rfl rfl ?_
      refine D.skF 6 127 rfl (by kernel_rfl) rfl rfl ?_
      refine D.skF 7 255 rfl (by kernel_rfl) rfl rfl ?_
      refine D.skF 8 511 rfl (by kernel_rfl) rfl rfl ?_
      refine D.skF 9 1023 rfl (by kernel_rfl) rfl rfl ?_
      refine D.skF 10 2047 rfl (by kernel_rfl) rfl rfl ?_
      refine D.skF 11 4095 rfl (by kernel_rfl) rfl rfl ?_
      refine D.skF 12 8191 rfl (by kernel_rfl) rfl rfl ?_
      refine Sh.dp 13 16383 ?_
      refine Sh.dp 14 32767 ?_
      refine Sh.dp 15 65535 ?_
      refine D.done (by kernel_rfl) ?_
      repeat' (first|refine VP ?_|refine Sh.la hS ?_|refine Sh.lb ?_|refine Sh.lc ?_|refine Sh.su ?_|(refine Sh.sa hS ?_;clear hS;intro w hS)|((first|refine Sh.aa hS ?_|refine Sh.ab hS ?_|refine Sh.ac hS ?_);clear hS;intro g w hS hge)|refine Sh.ix ?_|refine Sh.up ?_|refine Sh.sl1 ?_|refine Sh.sl2 ?_|refine Sh.sl5 ?_|refine Sh.sl3 ?_|refine Sh.sl4 ?_|refine Sh.eq ?_|refine Sh.ne ?_|refine Sh.ix2 ?_|refine Sh.ix3 ?_|refine Z.bu rfl rfl ?_|refine Z.buA rfl rfl ?_|refine VM ?_|refine Z.pl (R.cap rfl rfl) ?_|refine Z.pl R.mf ?_|refine Z.pl (R.min2 rfl rfl) ?_|refine G1 ?_|refine G2 ?_|refine G3 ?_|refine G4 ?_|with_reducible (first|refine V0 ?_|refine Z.block ?_)|((with_reducible refine Z.blX ?_ ?_);rotate_left;rfl)|refine VT ?_|refine VF ?_|((first|refine GS ?_ ?_|refine VB ?_ ?_)<;>intro hb<;>(try simp only [J1,J2,J3,J4,J5,J6] at hb)<;>(try (exfalso;first|omega|exact hb trivial))))
      first | refine Z.done hS Tryz.results64 (Z.RV.tmp rfl (Z.RV.tmp rfl Z.RV.nil)) ?_ | refine Z.doneN hS Tryz.results64 (Z.RV.tmp rfl (Z.RV.tmp rfl Z.RV.nil)) ?_
      exact ⟨i, false, by simp [Z.packR, hin], ⟨by omega, hlo, hhi⟩, by simp [hin], hS.sb⟩

theorem gnew_z (cell : Int) (r : World) (F : List Res) (w : World) (hS : Sep r [] F w) : Calls Tryz.prog 86 #[.int .i64 cell] w fun e w' => ∃ g, e = .returned (.pointer (some ⟨g, 0, none⟩)) ∧ Sep r [] (GP g ⟨cell, 0, []⟩ :: F) w' := by
  refine Z.enter Tryz.func86 Tryz.ntmps86 rfl rfl ?_
  repeat' (first|refine VP ?_|refine Sh.la hS ?_|refine Sh.lb ?_|refine Sh.lc ?_|refine Sh.su ?_|(refine Sh.sa hS ?_;clear hS;intro w hS)|((first|refine Sh.aa hS ?_|refine Sh.ab hS ?_|refine Sh.ac hS ?_);clear hS;intro g w hS hge)|refine Sh.ix ?_|refine Sh.up ?_|refine Sh.sl1 ?_|refine Sh.sl2 ?_|refine Sh.sl5 ?_|refine Sh.sl3 ?_|refine Sh.sl4 ?_|refine Sh.eq ?_|refine Sh.ne ?_|refine Sh.ix2 ?_|refine Sh.ix3 ?_|refine Z.bu rfl rfl ?_|refine Z.buA rfl rfl ?_|refine VM ?_|refine Z.pl (R.cap rfl rfl) ?_|refine Z.pl R.mf ?_|refine Z.pl (R.min2 rfl rfl) ?_|refine G1 ?_|refine G2 ?_|refine G3 ?_|refine G4 ?_|with_reducible (first|refine V0 ?_|refine Z.block ?_)|((with_reducible refine Z.blX ?_ ?_);rotate_left;rfl)|refine VT ?_|refine VF ?_|((first|refine GS ?_ ?_|refine VB ?_ ?_)<;>intro hb<;>(try simp only [J1,J2,J3,J4,J5,J6] at hb)<;>(try (exfalso;first|omega|exact hb trivial))))
  first | refine Z.done hS Tryz.results86 (Z.RV.tmp rfl Z.RV.nil) ?_ | refine Z.doneN hS Tryz.results86 (Z.RV.tmp rfl Z.RV.nil) ?_
  exact ⟨_, rfl, Sep.GP_open.2 ⟨none, 0, (Z.nilsl hS 46 5 none).sub (by repeat (first | exact Sub.rest | exact Sub.nil | exact .skip .rest | exact .skip (.skip .rest) | exact .skip (.skip (.skip .rest)) | apply Sub.keep | refine Sub.cons (by repeat (first | exact At.here | apply At.next)) ?_ | apply Sub.skip))⟩⟩
theorem gclosed_z (g : Nat) (G : Ga) (r : World) (F : List Res) (w : World) (hS : Sep r [] (GP g G :: F) w) : Calls Tryz.prog 82 #[.pointer (some ⟨g, 0, none⟩)] w fun e w' => e = .returned (.int .i64 G.closed) ∧ Sep r [] (GP g G :: F) w' := by
  obtain ⟨A, c, hS⟩ := Sep.GP_open.1 hS
  refine Z.enter Tryz.func82 Tryz.ntmps82 rfl rfl ?_
  repeat' (first|refine VP ?_|refine Sh.la hS ?_|refine Sh.lb ?_|refine Sh.lc ?_|refine Sh.su ?_|(refine Sh.sa hS ?_;clear hS;intro w hS)|((first|refine Sh.aa hS ?_|refine Sh.ab hS ?_|refine Sh.ac hS ?_);clear hS;intro g w hS hge)|refine Sh.ix ?_|refine Sh.up ?_|refine Sh.sl1 ?_|refine Sh.sl2 ?_|refine Sh.sl5 ?_|refine Sh.sl3 ?_|refine Sh.sl4 ?_|refine Sh.eq ?_|refine Sh.ne ?_|refine Sh.ix2 ?_|refine Sh.ix3 ?_|refine Z.bu rfl rfl ?_|refine Z.buA rfl rfl ?_|refine VM ?_|refine Z.pl (R.cap rfl rfl) ?_|refine Z.pl R.mf ?_|refine Z.pl (R.min2 rfl rfl) ?_|refine G1 ?_|refine G2 ?_|refine G3 ?_|refine G4 ?_|with_reducible (first|refine V0 ?_|refine Z.block ?_)|((with_reducible refine Z.blX ?_ ?_);rotate_left;rfl)|refine VT ?_|refine VF ?_|((first|refine GS ?_ ?_|refine VB ?_ ?_)<;>intro hb<;>(try simp only [J1,J2,J3,J4,J5,J6] at hb)<;>(try (exfalso;first|omega|exact hb trivial))))
  first | refine Z.done hS Tryz.results82 (Z.RV.tmp rfl Z.RV.nil) ?_ | refine Z.doneN hS Tryz.results82 (Z.RV.tmp rfl Z.RV.nil) ?_
  exact ⟨rfl, Sep.GP_open.2 ⟨_, _, hS⟩⟩
theorem gcrash_z (g : Nat) (G : Ga) (r : World) (F : List Res) (w : World) (hS : Sep r [] (GP g G :: F) w) : Calls Tryz.prog 100 #[.pointer (some ⟨g, 0, none⟩)] w fun e w' => ∃ v, e = .returned v ∧ Sep r [] (GP g ⟨G.cell, G.closed, []⟩ :: F) w' := by
  obtain ⟨A, c, hS⟩ := Sep.GP_open.1 hS
  refine Z.enter Tryz.func100 Tryz.ntmps100 rfl rfl ?_
  repeat' (first|refine VP ?_|refine Sh.la hS ?_|refine Sh.lb ?_|refine Sh.lc ?_|refine Sh.su ?_|(refine Sh.sa hS ?_;clear hS;intro w hS)|((first|refine Sh.aa hS ?_|refine Sh.ab hS ?_|refine Sh.ac hS ?_);clear hS;intro g w hS hge)|refine Sh.ix ?_|refine Sh.up ?_|refine Sh.sl1 ?_|refine Sh.sl2 ?_|refine Sh.sl5 ?_|refine Sh.sl3 ?_|refine Sh.sl4 ?_|refine Sh.eq ?_|refine Sh.ne ?_|refine Sh.ix2 ?_|refine Sh.ix3 ?_|refine Z.bu rfl rfl ?_|refine Z.buA rfl rfl ?_|refine VM ?_|refine Z.pl (R.cap rfl rfl) ?_|refine Z.pl R.mf ?_|refine Z.pl (R.min2 rfl rfl) ?_|refine G1 ?_|refine G2 ?_|refine G3 ?_|refine G4 ?_|with_reducible (first|refine V0 ?_|refine Z.block ?_)|((with_reducible refine Z.blX ?_ ?_);rotate_left;rfl)|refine VT ?_|refine VF ?_|((first|refine GS ?_ ?_|refine VB ?_ ?_)<;>intro hb<;>(try simp only [J1,J2,J3,J4,J5,J6] at hb)<;>(try (exfalso;first|omega|exact hb trivial))))
  first | refine Z.done hS Tryz.results100 Z.RV.nil ?_ | refine Z.doneN hS Tryz.results100 Z.RV.nil ?_
  exact ⟨_, rfl, Sep.GP_open.2 ⟨none, 0, (Z.nilsl hS 46 5 none).sub (by repeat (first | exact Sub.rest | exact Sub.nil | exact .skip .rest | exact .skip (.skip .rest) | exact .skip (.skip (.skip .rest)) | apply Sub.keep | refine Sub.cons (by repeat (first | exact At.here | apply At.next)) ?_ | apply Sub.skip))⟩⟩
theorem gcopy_z (gg : Nat) (G : Ga) (r : World) (F : List Res) (w : World) (hS : Sep r [] (GP gg G :: F) w) (hl : G.ws.length ≤ 100000) : Calls Tryz.prog 98 #[.pointer (some ⟨gg, 0, none⟩)] w fun e w' => ∃ g', e = .returned (.pointer (some ⟨g', 0, none⟩)) ∧ Sep r [] (GP g' G :: GP gg G :: F) w' := by
  obtain ⟨A, c, hS⟩ := Sep.GP_open.1 hS
  refine Z.enter Tryz.func98 Tryz.ntmps98 rfl rfl ?_
  repeat' (first|refine VP ?_|refine Sh.la hS ?_|refine Sh.lb ?_|refine Sh.lc ?_|refine Sh.su ?_|(refine Sh.sa hS ?_;clear hS;intro w hS)|((first|refine Sh.aa hS ?_|refine Sh.ab hS ?_|refine Sh.ac hS ?_);clear hS;intro g w hS hge)|refine Sh.ix ?_|refine Sh.up ?_|refine Sh.sl1 ?_|refine Sh.sl2 ?_|refine Sh.sl5 ?_|refine Sh.sl3 ?_|refine Sh.sl4 ?_|refine Sh.eq ?_|refine Sh.ne ?_|refine Sh.ix2 ?_|refine Sh.ix3 ?_|refine Z.bu rfl rfl ?_|refine Z.buA rfl rfl ?_|refine VM ?_|refine Z.pl (R.cap rfl rfl) ?_|refine Z.pl R.mf ?_|refine Z.pl (R.min2 rfl rfl) ?_|refine G1 ?_|refine G2 ?_|refine G3 ?_|refine G4 ?_|with_reducible (first|refine V0 ?_|refine Z.block ?_)|((with_reducible refine Z.blX ?_ ?_);rotate_left;rfl)|refine VT ?_|refine VF ?_|((first|refine GS ?_ ?_|refine VB ?_ ?_)<;>intro hb<;>(try simp only [J1,J2,J3,J4,J5,J6] at hb)<;>(try (exfalso;first|omega|exact hb trivial))))
  refine D.startS hS 16 16 (by kernel_rfl) rfl ?_
  replace hS := hS.drew
  refine Sh.dp 0 1 ?_
  refine Sh.dp 1 3 ?_
  refine Sh.dp 2 7 ?_
  refine Sh.dp 4 23 ?_
  refine Sh.dp 5 55 ?_
  refine Sh.dp 6 119 ?_
  refine Sh.dp 8 375 ?_
  refine Sh.dp 9 887 ?_
  refine Sh.dp 10 1911 ?_
  refine Sh.dl 3 1919 ?_
  refine Sh.dl 7 2047 ?_
  refine Sh.dl 11 4095 ?_
  refine D.eff 12 8191 rfl D.wantedN (by kernel_rfl) (by kernel_rfl) (fun _ _ h => h) ?_
  refine Z.cl (wi_clone G.ws _ _ _ _ hS (Reads.of_at (by repeat (first | exact At.here | apply At.next))) hl) rfl ?_
  clear hS
  rintro e w ⟨A1, c1, rfl, hS⟩
  refine ⟨_, rfl, ?_⟩
  refine ⟨HM.s (hS.sb), ?_⟩
  first | refine D.bu 13 16383 rfl D.wantedN (by kernel_rfl) rfl rfl ?_ | refine D.buA 13 16383 rfl D.wantedN (by kernel_rfl) rfl rfl ?_
  refine D.eff 14 32767 rfl D.wantedN (by kernel_rfl) (by kernel_rfl) (fun _ _ h => h) ?_
  refine Z.bx hS rfl ?_
  clear hS; intro g w hS hge
  refine ⟨HM.s (hS.sb), ?_⟩
  refine Sh.dp 15 65535 ?_
  refine D.done (by kernel_rfl) ?_
  repeat' (first|refine VP ?_|refine Sh.la hS ?_|refine Sh.lb ?_|refine Sh.lc ?_|refine Sh.su ?_|(refine Sh.sa hS ?_;clear hS;intro w hS)|((first|refine Sh.aa hS ?_|refine Sh.ab hS ?_|refine Sh.ac hS ?_);clear hS;intro g w hS hge)|refine Sh.ix ?_|refine Sh.up ?_|refine Sh.sl1 ?_|refine Sh.sl2 ?_|refine Sh.sl5 ?_|refine Sh.sl3 ?_|refine Sh.sl4 ?_|refine Sh.eq ?_|refine Sh.ne ?_|refine Sh.ix2 ?_|refine Sh.ix3 ?_|refine Z.bu rfl rfl ?_|refine Z.buA rfl rfl ?_|refine VM ?_|refine Z.pl (R.cap rfl rfl) ?_|refine Z.pl R.mf ?_|refine Z.pl (R.min2 rfl rfl) ?_|refine G1 ?_|refine G2 ?_|refine G3 ?_|refine G4 ?_|with_reducible (first|refine V0 ?_|refine Z.block ?_)|((with_reducible refine Z.blX ?_ ?_);rotate_left;rfl)|refine VT ?_|refine VF ?_|((first|refine GS ?_ ?_|refine VB ?_ ?_)<;>intro hb<;>(try simp only [J1,J2,J3,J4,J5,J6] at hb)<;>(try (exfalso;first|omega|exact hb trivial))))
  first | refine Z.done hS Tryz.results98 (Z.RV.tmp rfl Z.RV.nil) ?_ | refine Z.doneN hS Tryz.results98 (Z.RV.tmp rfl Z.RV.nil) ?_
  refine ⟨_, rfl, Sep.GP_open.2 ⟨A1, c1, ?_⟩⟩
  exact (Sep.GP_open.2 ⟨A, c, hS.sub (L' := .blk gg _ _ :: .sl _ 5 (.slice A G.ws.length c) _ :: .blk _ 123 [_, _, .slice A1 G.ws.length c1] :: .sl _ 5 (.slice A1 G.ws.length c1) (G.ws.map Wi.cells) :: F) (by repeat (first | exact Sub.rest | exact Sub.nil | exact .skip .rest | exact .skip (.skip .rest) | exact .skip (.skip (.skip .rest)) | apply Sub.keep | refine Sub.cons (by repeat (first | exact At.here | apply At.next)) ?_ | apply Sub.skip))⟩).sub (by repeat (first | exact Sub.rest | exact Sub.nil | exact .skip .rest | exact .skip (.skip .rest) | exact .skip (.skip (.skip .rest)) | apply Sub.keep | refine Sub.cons (by repeat (first | exact At.here | apply At.next)) ?_ | apply Sub.skip))
end Go.Proofs.YtahackdfjcgkhaaGreat
