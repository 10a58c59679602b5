/-
  The gate: Give, Close, Forget, Accepts, Until.
-/
import Derived.Test.YtahackdfjcgkhaaGreatNGateR
namespace Go.Proofs.YtahackdfjcgkhaaGreat
open Go.RowKit
set_option linter.unusedSimpArgs false
set_option linter.unusedVariables false
attribute [local irreducible] Res.blk Res.sl Res.all Res.ex Res.pure Res.star

def untl (ws : List Wi) (v u : Int) : Int := ws.foldl (fun u x => if x.version = v ∧ x.from_ ≤ u then max u x.until_ else u) u
theorem accs_take {ws : List Wi} {v t e : Int} {q : Nat} (hq : q < ws.length) : accs (ws.take (q + 1)) v t e = if ws[q].version = v ∧ ws[q].from_ ≤ t ∧ t < ws[q].until_ then max (accs (ws.take q) v t e) ws[q].epoch else accs (ws.take q) v t e := by
  rw [List.take_succ_eq_append_getElem hq]; unfold accs; rw [List.foldl_append]; rfl
theorem untl_take {ws : List Wi} {v u : Int} {q : Nat} (hq : q < ws.length) : untl (ws.take (q + 1)) v u = if ws[q].version = v ∧ ws[q].from_ ≤ untl (ws.take q) v u then max (untl (ws.take q) v u) ws[q].until_ else untl (ws.take q) v u := by
  rw [List.take_succ_eq_append_getElem hq]; unfold untl; rw [List.foldl_append]; rfl
set_option maxHeartbeats 1000000 in
theorem gaccepts_z (gg : Nat) (G : Ga) (v t : Int) (r : World) (F : List Res) (w : World) (hS : Sep r [] (GP gg G :: F) w) (hl : G.ws.length ≤ 100000) : Calls Tryz.prog 68 #[.pointer (some ⟨gg, 0, none⟩), .int .i64 v, .int .i64 t] w fun e w' => e = .returned (.tuple #[.int .i64 (accs G.ws v t 0), .bool (decide (0 < accs G.ws v t 0))]) ∧ Sep r [] (GP gg G :: F) w' := by
  obtain ⟨A, c, hS⟩ := Sep.GP_open.1 hS
  refine Z.enter Tryz.func68 Tryz.ntmps68 rfl rfl ?_
  repeat' (first|refine VP ?_|refine Sh.la hS ?_|refine Sh.lb ?_|refine Sh.lc ?_|refine Sh.su ?_|(refine Sh.sa hS ?_;clear hS;intro w hS)|((first|refine Sh.aa hS ?_|refine Sh.ab hS ?_|refine Sh.ac hS ?_);clear hS;intro g w hS hge)|refine Sh.ix ?_|refine Sh.up ?_|refine Sh.sl1 ?_|refine Sh.sl2 ?_|refine Sh.sl5 ?_|refine Sh.sl3 ?_|refine Sh.sl4 ?_|refine Sh.eq ?_|refine Sh.ne ?_|refine Sh.ix2 ?_|refine Sh.ix3 ?_|refine Z.bu rfl rfl ?_|refine Z.buA rfl rfl ?_|refine VM ?_|refine Z.pl (R.cap rfl rfl) ?_|refine Z.pl R.mf ?_|refine Z.pl (R.min2 rfl rfl) ?_|refine G1 ?_|refine G2 ?_|refine G3 ?_|refine G4 ?_|with_reducible (first|refine V0 ?_|refine Z.block ?_)|((with_reducible refine Z.blX ?_ ?_);rotate_left;rfl)|refine VT ?_|refine VF ?_|((first|refine GS ?_ ?_|refine VB ?_ ?_)<;>intro hb<;>(try simp only [J1,J2,J3,J4,J5,J6] at hb)<;>(try (exfalso;first|omega|exact hb trivial))))
  refine Z.lpS [8, 10, 16, 17, 18, 19, 20, 21, 22, 23, 24, 25, 26, 27, 28, 29, 30, 31, 32, 33, 34, 35, 36, 37, 38, 39, 40] (fun m w s => ∃ (q : Nat) (e : Int), s = [(8, .int .i64 e), (16, .int .i64 q)] ∧ q ≤ G.ws.length ∧ e = accs (G.ws.take q) v t 0 ∧ m = G.ws.length - q ∧ Sep r [] (.blk gg 123 [.int .i64 G.cell, .int .i64 G.closed, .slice A G.ws.length c] :: .sl 46 5 (.slice A G.ws.length c) (G.ws.map Wi.cells) :: F) w) _ [(8, .int .i64 0), (16, .int .i64 (0 : Nat))] (by repeat (first | exact trivial | refine ⟨rfl, ?_⟩)) ⟨0, 0, rfl, by omega, by simp [accs], rfl, hS⟩ ?_
  clear hS
  rintro m f0 w _ ⟨q, e, rfl, hq, he, rfl, hS⟩
  by_cases hlt : q < G.ws.length
  · obtain ⟨gb, o, rfl, _, hra⟩ := (hS.slrows (.next .here)).mat (by omega) hlt
    have hn := accs_take (v := v) (t := t) (e := 0) hlt
    rw [← he] at hn
    repeat' (first|refine VP ?_|refine Sh.la hS ?_|refine Sh.lb ?_|refine Sh.lc ?_|refine Sh.su ?_|(refine Sh.sa hS ?_;clear hS;intro w hS)|((first|refine Sh.aa hS ?_|refine Sh.ab hS ?_|refine Sh.ac hS ?_);clear hS;intro g w hS hge)|refine Sh.ix ?_|refine Sh.up ?_|refine Sh.sl1 ?_|refine Sh.sl2 ?_|refine Sh.sl5 ?_|refine Sh.sl3 ?_|refine Sh.sl4 ?_|refine Sh.eq ?_|refine Sh.ne ?_|refine Sh.ix2 ?_|refine Sh.ix3 ?_|refine Z.bu rfl rfl ?_|refine Z.buA rfl rfl ?_|refine VM ?_|refine Z.pl (R.cap rfl rfl) ?_|refine Z.pl R.mf ?_|refine Z.pl (R.min2 rfl rfl) ?_|refine G1 ?_|refine G2 ?_|refine G3 ?_|refine G4 ?_|with_reducible (first|refine V0 ?_|refine Z.block ?_)|((with_reducible refine Z.blX ?_ ?_);rotate_left;rfl)|refine VT ?_|refine VF ?_|((first|refine GS ?_ ?_|refine VB ?_ ?_)<;>intro hb<;>(try simp only [J1,J2,J3,J4,J5,J6] at hb)<;>(try (exfalso;first|omega|exact hb trivial))))
    · refine Sh.again (G.ws.length - (q + 1)) [(8, .int .i64 (max e G.ws[q].epoch)), (16, .int .i64 (q + 1 : Nat))] ?_
      exact ⟨q + 1, _, rfl, by omega, by rw [hn, if_pos (by omega)], rfl, hS.sb⟩
    all_goals
      refine Sh.again (G.ws.length - (q + 1)) [(8, .int .i64 e), (16, .int .i64 (q + 1 : Nat))] ?_
      exact ⟨q + 1, _, rfl, by omega, by rw [hn, if_neg (by omega)], rfl, hS.sb⟩
  · repeat' (first|refine VP ?_|refine Sh.la hS ?_|refine Sh.lb ?_|refine Sh.lc ?_|refine Sh.su ?_|(refine Sh.sa hS ?_;clear hS;intro w hS)|((first|refine Sh.aa hS ?_|refine Sh.ab hS ?_|refine Sh.ac hS ?_);clear hS;intro g w hS hge)|refine Sh.ix ?_|refine Sh.up ?_|refine Sh.sl1 ?_|refine Sh.sl2 ?_|refine Sh.sl5 ?_|refine Sh.sl3 ?_|refine Sh.sl4 ?_|refine Sh.eq ?_|refine Sh.ne ?_|refine Sh.ix2 ?_|refine Sh.ix3 ?_|refine Z.bu rfl rfl ?_|refine Z.buA rfl rfl ?_|refine VM ?_|refine Z.pl (R.cap rfl rfl) ?_|refine Z.pl R.mf ?_|refine Z.pl (R.min2 rfl rfl) ?_|refine G1 ?_|refine G2 ?_|refine G3 ?_|refine G4 ?_|with_reducible (first|refine V0 ?_|refine Z.block ?_)|((with_reducible refine Z.blX ?_ ?_);rotate_left;rfl)|refine VT ?_|refine VF ?_|((first|refine GS ?_ ?_|refine VB ?_ ?_)<;>intro hb<;>(try simp only [J1,J2,J3,J4,J5,J6] at hb)<;>(try (exfalso;first|omega|exact hb trivial))))
    first | refine Z.done hS Tryz.results68 (Z.RV.tmp rfl (Z.RV.tmp rfl Z.RV.nil)) ?_ | refine Z.doneN hS Tryz.results68 (Z.RV.tmp rfl (Z.RV.tmp rfl Z.RV.nil)) ?_
    rw [List.take_of_length_le (by omega)] at he
    exact ⟨by rw [he]; rfl, Sep.GP_open.2 ⟨_, _, hS⟩⟩

set_option maxHeartbeats 1000000 in
theorem close1_z (gt gg : Nat) (x : Wi) (G : Ga) (vs : Value) (r : World) (F : List Res) (w : World) (hS : Sep r [] F w) {k k' : List Res} (ha : At F k (.blk gt 42 [.pointer (some ⟨gg, 0, none⟩)])) (ha' : At F k' (.blk gg 123 [.int .i64 G.cell, .int .i64 G.closed, vs])) :
    Calls Tryz.prog 103 #[x.val, .pointer (some ⟨gt, 0, none⟩)] w fun e w' => e = .returned (.bool (decide (x.epoch ≤ G.closed))) ∧ Sep r [] F w' := by
  refine Z.enter Tryz.func103 Tryz.ntmps103 rfl rfl ?_
  repeat' (first|refine VP ?_|refine Sh.la hS ?_|refine Sh.lb ?_|refine Sh.lc ?_|refine Sh.su ?_|(refine Sh.sa hS ?_;clear hS;intro w hS)|((first|refine Sh.aa hS ?_|refine Sh.ab hS ?_|refine Sh.ac hS ?_);clear hS;intro g w hS hge)|refine Sh.ix ?_|refine Sh.up ?_|refine Sh.sl1 ?_|refine Sh.sl2 ?_|refine Sh.sl5 ?_|refine Sh.sl3 ?_|refine Sh.sl4 ?_|refine Sh.eq ?_|refine Sh.ne ?_|refine Sh.ix2 ?_|refine Sh.ix3 ?_|refine Z.bu rfl rfl ?_|refine Z.buA rfl rfl ?_|refine VM ?_|refine Z.pl (R.cap rfl rfl) ?_|refine Z.pl R.mf ?_|refine Z.pl (R.min2 rfl rfl) ?_|refine G1 ?_|refine G2 ?_|refine G3 ?_|refine G4 ?_|with_reducible (first|refine V0 ?_|refine Z.block ?_)|((with_reducible refine Z.blX ?_ ?_);rotate_left;rfl)|refine VT ?_|refine VF ?_|((first|refine GS ?_ ?_|refine VB ?_ ?_)<;>intro hb<;>(try simp only [J1,J2,J3,J4,J5,J6] at hb)<;>(try (exfalso;first|omega|exact hb trivial))))
  refine D.startS hS 8 8 (by kernel_rfl) rfl ?_
  replace hS := hS.drew
  refine Sh.dp 0 1 ?_
  refine Sh.dl 1 3 ?_
  refine D.ld 2 7 rfl D.wantedN (by kernel_rfl) rfl (fun W h => h.blk (At.next ha)) rfl ?_
  refine Sh.dp 3 15 ?_
  refine Sh.dp 4 31 ?_
  refine D.ld 5 63 rfl D.wantedN (by kernel_rfl) rfl (fun W h => h.blk (At.next ha')) rfl ?_
  refine Sh.dp 6 127 ?_
  refine Sh.dp 7 255 ?_
  refine D.done (by kernel_rfl) ?_
  repeat' (first|refine VP ?_|refine Sh.la hS ?_|refine Sh.lb ?_|refine Sh.lc ?_|refine Sh.su ?_|(refine Sh.sa hS ?_;clear hS;intro w hS)|((first|refine Sh.aa hS ?_|refine Sh.ab hS ?_|refine Sh.ac hS ?_);clear hS;intro g w hS hge)|refine Sh.ix ?_|refine Sh.up ?_|refine Sh.sl1 ?_|refine Sh.sl2 ?_|refine Sh.sl5 ?_|refine Sh.sl3 ?_|refine Sh.sl4 ?_|refine Sh.eq ?_|refine Sh.ne ?_|refine Sh.ix2 ?_|refine Sh.ix3 ?_|refine Z.bu rfl rfl ?_|refine Z.buA rfl rfl ?_|refine VM ?_|refine Z.pl (R.cap rfl rfl) ?_|refine Z.pl R.mf ?_|refine Z.pl (R.min2 rfl rfl) ?_|refine G1 ?_|refine G2 ?_|refine G3 ?_|refine G4 ?_|with_reducible (first|refine V0 ?_|refine Z.block ?_)|((with_reducible refine Z.blX ?_ ?_);rotate_left;rfl)|refine VT ?_|refine VF ?_|((first|refine GS ?_ ?_|refine VB ?_ ?_)<;>intro hb<;>(try simp only [J1,J2,J3,J4,J5,J6] at hb)<;>(try (exfalso;first|omega|exact hb trivial))))
  first | refine Z.done hS Tryz.results103 (Z.RV.tmp rfl Z.RV.nil) ?_ | refine Z.doneN hS Tryz.results103 (Z.RV.tmp rfl Z.RV.nil) ?_
  exact ⟨rfl, hS.sb⟩
set_option maxHeartbeats 1000000 in
theorem gclose_z (gg : Nat) (G : Ga) (n : Int) (r : World) (F : List Res) (w : World) (hS : Sep r [] (GP gg G :: F) w) (hl : G.ws.length ≤ 100000) : Calls Tryz.prog 46 #[.pointer (some ⟨gg, 0, none⟩), .int .i64 n] w fun e w' =>
    (¬ (1 ≤ n ∧ n ≤ 1048576) ∧ e = .returned (.int .i64 1) ∧ Sep r [] (GP gg G :: F) w') ∨ ((1 ≤ n ∧ n ≤ 1048576) ∧ e = .returned (.int .i64 0) ∧ Sep r [] (GP gg ⟨G.cell, max G.closed n, G.ws.filter fun x => !decide (x.epoch ≤ max G.closed n)⟩ :: F) w') := by
  obtain ⟨A, c, hS⟩ := Sep.GP_open.1 hS
  refine Z.enter Tryz.func46 Tryz.ntmps46 rfl rfl ?_
  repeat' (first|refine VP ?_|refine Sh.la hS ?_|refine Sh.lb ?_|refine Sh.lc ?_|refine Sh.su ?_|(refine Sh.sa hS ?_;clear hS;intro w hS)|((first|refine Sh.aa hS ?_|refine Sh.ab hS ?_|refine Sh.ac hS ?_);clear hS;intro g w hS hge)|refine Sh.ix ?_|refine Sh.up ?_|refine Sh.sl1 ?_|refine Sh.sl2 ?_|refine Sh.sl5 ?_|refine Sh.sl3 ?_|refine Sh.sl4 ?_|refine Sh.eq ?_|refine Sh.ne ?_|refine Sh.ix2 ?_|refine Sh.ix3 ?_|refine Z.bu rfl rfl ?_|refine Z.buA rfl rfl ?_|refine VM ?_|refine Z.pl (R.cap rfl rfl) ?_|refine Z.pl R.mf ?_|refine Z.pl (R.min2 rfl rfl) ?_|refine G1 ?_|refine G2 ?_|refine G3 ?_|refine G4 ?_|with_reducible (first|refine V0 ?_|refine Z.block ?_)|((with_reducible refine Z.blX ?_ ?_);rotate_left;rfl)|refine VT ?_|refine VF ?_|((first|refine GS ?_ ?_|refine VB ?_ ?_)<;>intro hb<;>(try simp only [J1,J2,J3,J4,J5,J6] at hb)<;>(try (exfalso;first|omega|exact hb trivial))))
  · first | refine Z.done hS Tryz.results46 (Z.RV.tmp rfl Z.RV.nil) ?_ | refine Z.doneN hS Tryz.results46 (Z.RV.tmp rfl Z.RV.nil) ?_
    exact .inl ⟨by omega, rfl, Sep.GP_open.2 ⟨A, c, hS.sb⟩⟩
  · first | refine Z.done hS Tryz.results46 (Z.RV.tmp rfl Z.RV.nil) ?_ | refine Z.doneN hS Tryz.results46 (Z.RV.tmp rfl Z.RV.nil) ?_
    exact .inl ⟨by omega, rfl, Sep.GP_open.2 ⟨A, c, hS.sb⟩⟩
  · rename Nat => gt
    refine D.startS hS 9 10 (by kernel_rfl) rfl ?_
    replace hS := hS.drew
    refine Sh.dp 5 32 ?_
    refine Sh.dl 0 33 ?_
    refine Sh.dl 1 35 ?_
    refine Sh.dp 2 39 ?_
    refine Sh.dp 3 47 ?_
    refine Sh.dl 4 63 ?_
    refine D.pl 6 127 rfl D.wantedN (by kernel_rfl) (R.max2 rfl rfl) ?_
    refine Sh.dp 7 255 ?_
    refine Sh.dp 8 511 ?_
    refine D.eff 9 1023 rfl D.wantedN (by kernel_rfl) (by kernel_rfl) (fun _ _ h => h) ?_
    refine Z.st hS rfl (by repeat (first | exact At.here | apply At.next)) rfl rfl ?_
    clear hS; intro w hS
    refine ⟨HM.last (by kernel_rfl), ?_⟩
    refine D.done (by kernel_rfl) ?_
    repeat' (first|refine VP ?_|refine Sh.la hS ?_|refine Sh.lb ?_|refine Sh.lc ?_|refine Sh.su ?_|(refine Sh.sa hS ?_;clear hS;intro w hS)|((first|refine Sh.aa hS ?_|refine Sh.ab hS ?_|refine Sh.ac hS ?_);clear hS;intro g w hS hge)|refine Sh.ix ?_|refine Sh.up ?_|refine Sh.sl1 ?_|refine Sh.sl2 ?_|refine Sh.sl5 ?_|refine Sh.sl3 ?_|refine Sh.sl4 ?_|refine Sh.eq ?_|refine Sh.ne ?_|refine Sh.ix2 ?_|refine Sh.ix3 ?_|refine Z.bu rfl rfl ?_|refine Z.buA rfl rfl ?_|refine VM ?_|refine Z.pl (R.cap rfl rfl) ?_|refine Z.pl R.mf ?_|refine Z.pl (R.min2 rfl rfl) ?_|refine G1 ?_|refine G2 ?_|refine G3 ?_|refine G4 ?_|with_reducible (first|refine V0 ?_|refine Z.block ?_)|((with_reducible refine Z.blX ?_ ?_);rotate_left;rfl)|refine VT ?_|refine VF ?_|((first|refine GS ?_ ?_|refine VB ?_ ?_)<;>intro hb<;>(try simp only [J1,J2,J3,J4,J5,J6] at hb)<;>(try (exfalso;first|omega|exact hb trivial))))
    replace hS : Sep r [] (.sl 46 5 (.slice A G.ws.length c) (G.ws.map Wi.cells) :: .blk gt 42 [.pointer (some ⟨gg, 0, none⟩)] :: .blk gg 123 [.int .i64 G.cell, .int .i64 (max G.closed n), .slice A G.ws.length c] :: F) _ := hS.sb
    refine D.startS (Lr := [.blk gt 42 [.pointer (some ⟨gg, 0, none⟩)], .blk gg 123 [.int .i64 G.cell, .int .i64 (max G.closed n), .slice A G.ws.length c]]) (hS.sb) 9 10 (by kernel_rfl) rfl ?_
    replace hS := hS.drew
    refine D.pl 5 32 rfl D.wantedN (by kernel_rfl) R.mf ?_
    refine Sh.dl 0 33 ?_
    refine Sh.dl 1 35 ?_
    refine Sh.dp 2 39 ?_
    refine Sh.dp 3 47 ?_
    refine Sh.dl 4 63 ?_
    refine D.eff 6 127 rfl D.wantedN (by kernel_rfl) (by kernel_rfl) (fun _ _ h => h) ?_
    refine Z.cl (wi_delete (fun x => decide (x.epoch ≤ max G.closed n)) 103 [.pointer (some ⟨gt, 0, none⟩)] G.ws A c _ _ _ hS hl (fun L w x h => close1_z gt gg x ⟨G.cell, max G.closed n, []⟩ _ r _ w h (at_app L .here) (at_app L (.next .here)))) rfl ?_
    clear hS
    rintro e w ⟨A1, c1, rfl, hS⟩
    refine ⟨_, rfl, ?_⟩
    refine ⟨HM.s (hS.sb), ?_⟩
    refine Sh.dp 7 255 ?_
    refine Sh.dp 8 511 ?_
    refine D.eff 9 1023 rfl D.wantedN (by kernel_rfl) (by kernel_rfl) (fun _ _ h => h) ?_
    refine Z.st hS rfl (by repeat (first | exact At.here | apply At.next)) rfl rfl ?_
    clear hS; intro w hS
    refine ⟨HM.last (by kernel_rfl), ?_⟩
    refine D.done (by kernel_rfl) ?_
    repeat' (first|refine VP ?_|refine Sh.la hS ?_|refine Sh.lb ?_|refine Sh.lc ?_|refine Sh.su ?_|(refine Sh.sa hS ?_;clear hS;intro w hS)|((first|refine Sh.aa hS ?_|refine Sh.ab hS ?_|refine Sh.ac hS ?_);clear hS;intro g w hS hge)|refine Sh.ix ?_|refine Sh.up ?_|refine Sh.sl1 ?_|refine Sh.sl2 ?_|refine Sh.sl5 ?_|refine Sh.sl3 ?_|refine Sh.sl4 ?_|refine Sh.eq ?_|refine Sh.ne ?_|refine Sh.ix2 ?_|refine Sh.ix3 ?_|refine Z.bu rfl rfl ?_|refine Z.buA rfl rfl ?_|refine VM ?_|refine Z.pl (R.cap rfl rfl) ?_|refine Z.pl R.mf ?_|refine Z.pl (R.min2 rfl rfl) ?_|refine G1 ?_|refine G2 ?_|refine G3 ?_|refine G4 ?_|with_reducible (first|refine V0 ?_|refine Z.block ?_)|((with_reducible refine Z.blX ?_ ?_);rotate_left;rfl)|refine VT ?_|refine VF ?_|((first|refine GS ?_ ?_|refine VB ?_ ?_)<;>intro hb<;>(try simp only [J1,J2,J3,J4,J5,J6] at hb)<;>(try (exfalso;first|omega|exact hb trivial))))
    first | refine Z.done hS Tryz.results46 (Z.RV.tmp rfl Z.RV.nil) ?_ | refine Z.doneN hS Tryz.results46 (Z.RV.tmp rfl Z.RV.nil) ?_
    exact .inr ⟨by omega, rfl, Sep.GP_open.2 ⟨A1, c1, hS.sb⟩⟩

/-- A window put into its place, once. -/
def insW (x : Wi) : List Wi → List Wi
  | [] => [x]
  | y :: l => if ltW y x then y :: insW x l else if eqK y x then y :: l else x :: y :: l
theorem insW_at {x : Wi} : ∀ {l : List Wi} {i : Nat}, Spot l x i → insW x l = if ∃ hi : i < l.length, eqK l[i] x then l else l.take i ++ x :: l.drop i
  | [], i, h => by have := h.le; simp at this; subst this; simp [insW]
  | y :: l, 0, h => by
    have h1 := h.hi 0 (by simp) (Nat.le_refl _)
    simp only [List.getElem_cons_zero] at h1
    simp only [insW, if_neg h1]
    by_cases he : eqK y x
    · rw [if_pos he, if_pos ⟨by simp, by simpa using he⟩]
    · rw [if_neg he, if_neg (by rintro ⟨_, h2⟩; exact he (by simpa using h2))]
      simp
  | y :: l, i + 1, h => by
    have h0 := h.lo 0 (by simp) (by omega)
    simp only [List.getElem_cons_zero] at h0
    have ih := insW_at (x := x) (l := l) (i := i) ⟨by have := h.le; simpa using this, fun j hj hji => by have := h.lo (j + 1) (by simpa using hj) (by omega); simpa using this, fun j hj hji => by have := h.hi (j + 1) (by simpa using hj) (by omega); simpa using this⟩
    simp only [insW, if_pos h0, ih]
    by_cases he : ∃ hi : i < l.length, eqK l[i] x
    · have he' : ∃ hi : i + 1 < (y :: l).length, eqK (y :: l)[i + 1] x := by
        obtain ⟨a, b⟩ := he
        exact ⟨by simpa using a, by simpa using b⟩
      rw [if_pos he, if_pos he']
    · have he' : ¬ ∃ hi : i + 1 < (y :: l).length, eqK (y :: l)[i + 1] x := by
        rintro ⟨a, b⟩
        exact he ⟨by simpa using a, by simpa using b⟩
      rw [if_neg he, if_neg he']
      simp
theorem insW_len (x : Wi) : ∀ l : List Wi, (insW x l).length ≤ l.length + 1
  | [] => by simp [insW]
  | y :: l => by
    have := insW_len x l
    unfold insW
    repeat' split
    all_goals simp
    all_goals omega
def giveP (G : Ga) (x : Wi) : Ga × Int := if okW x then if x.cell = G.cell then if x.epoch ≤ G.closed then (G, 7) else (⟨G.cell, G.closed, insW x G.ws⟩, 0) else (G, 5) else (G, 1)
set_option maxHeartbeats 2000000 in
theorem ggive_z (gg : Nat) (G : Ga) (x : Wi) (r : World) (F : List Res) (w : World) (hS : Sep r [] (GP gg G :: F) w) (hl : G.ws.length ≤ 100000) (hs : G.ws.Pairwise ltW) : Calls Tryz.prog 26 #[.pointer (some ⟨gg, 0, none⟩), x.val] w fun e w' => e = .returned (.int .i64 (giveP G x).2) ∧ Sep r [] (GP gg (giveP G x).1 :: F) w' := by
  obtain ⟨A, c, hS⟩ := Sep.GP_open.1 hS
  refine Z.enter Tryz.func26 Tryz.ntmps26 rfl rfl ?_
  repeat' (first|refine VP ?_|refine Sh.la hS ?_|refine Sh.lb ?_|refine Sh.lc ?_|refine Sh.su ?_|(refine Sh.sa hS ?_;clear hS;intro w hS)|((first|refine Sh.aa hS ?_|refine Sh.ab hS ?_|refine Sh.ac hS ?_);clear hS;intro g w hS hge)|refine Sh.ix ?_|refine Sh.up ?_|refine Sh.sl1 ?_|refine Sh.sl2 ?_|refine Sh.sl5 ?_|refine Sh.sl3 ?_|refine Sh.sl4 ?_|refine Sh.eq ?_|refine Sh.ne ?_|refine Sh.ix2 ?_|refine Sh.ix3 ?_|refine Z.bu rfl rfl ?_|refine Z.buA rfl rfl ?_|refine VM ?_|refine Z.pl (R.cap rfl rfl) ?_|refine Z.pl R.mf ?_|refine Z.pl (R.min2 rfl rfl) ?_|refine G1 ?_|refine G2 ?_|refine G3 ?_|refine G4 ?_|with_reducible (first|refine V0 ?_|refine Z.block ?_)|((with_reducible refine Z.blX ?_ ?_);rotate_left;rfl)|refine VT ?_|refine VF ?_|((first|refine GS ?_ ?_|refine VB ?_ ?_)<;>intro hb<;>(try simp only [J1,J2,J3,J4,J5,J6] at hb)<;>(try (exfalso;first|omega|exact hb trivial))))
  rename Nat => gx
  refine Z.eff (Z.cl (gvalid_z x _ _ _ hS) rfl ?_) rfl
  clear hS
  rintro e w ⟨rfl, hS⟩
  refine ⟨_, rfl, ?_⟩
  repeat' (first|refine VP ?_|refine Sh.la hS ?_|refine Sh.lb ?_|refine Sh.lc ?_|refine Sh.su ?_|(refine Sh.sa hS ?_;clear hS;intro w hS)|((first|refine Sh.aa hS ?_|refine Sh.ab hS ?_|refine Sh.ac hS ?_);clear hS;intro g w hS hge)|refine Sh.ix ?_|refine Sh.up ?_|refine Sh.sl1 ?_|refine Sh.sl2 ?_|refine Sh.sl5 ?_|refine Sh.sl3 ?_|refine Sh.sl4 ?_|refine Sh.eq ?_|refine Sh.ne ?_|refine Sh.ix2 ?_|refine Sh.ix3 ?_|refine Z.bu rfl rfl ?_|refine Z.buA rfl rfl ?_|refine VM ?_|refine Z.pl (R.cap rfl rfl) ?_|refine Z.pl R.mf ?_|refine Z.pl (R.min2 rfl rfl) ?_|refine G1 ?_|refine G2 ?_|refine G3 ?_|refine G4 ?_|with_reducible (first|refine V0 ?_|refine Z.block ?_)|((with_reducible refine Z.blX ?_ ?_);rotate_left;rfl)|refine VT ?_|refine VF ?_|((first|refine GS ?_ ?_|refine VB ?_ ?_)<;>intro hb<;>(try simp only [J1,J2,J3,J4,J5,J6] at hb)<;>(try (exfalso;first|omega|exact hb trivial))))
  · first | refine Z.done hS Tryz.results26 (Z.RV.tmp rfl Z.RV.nil) ?_ | refine Z.doneN hS Tryz.results26 (Z.RV.tmp rfl Z.RV.nil) ?_
    have e : giveP G x = (G, 1) := by unfold giveP; rw [if_neg hb]
    rw [e]
    exact ⟨rfl, Sep.GP_open.2 ⟨A, c, hS.sb⟩⟩
  have hok : okW x := hb
  refine D.startS hS 7 7 (by kernel_rfl) rfl ?_
  replace hS := hS.drew
  refine Sh.dp 0 1 ?_
  refine Sh.dp 2 5 ?_
  refine Sh.dp 3 13 ?_
  refine Sh.dp 4 29 ?_
  refine Sh.dl 1 31 ?_
  refine Sh.dl 5 63 ?_
  first | refine D.pr 6 127 rfl D.wantedN (by kernel_rfl) rfl ?_ | refine D.pl 6 127 rfl D.wantedN (by kernel_rfl) (R.nea rfl rfl rfl rfl) ?_
  refine D.done (by kernel_rfl) ?_
  repeat' (first|refine VP ?_|refine Sh.la hS ?_|refine Sh.lb ?_|refine Sh.lc ?_|refine Sh.su ?_|(refine Sh.sa hS ?_;clear hS;intro w hS)|((first|refine Sh.aa hS ?_|refine Sh.ab hS ?_|refine Sh.ac hS ?_);clear hS;intro g w hS hge)|refine Sh.ix ?_|refine Sh.up ?_|refine Sh.sl1 ?_|refine Sh.sl2 ?_|refine Sh.sl5 ?_|refine Sh.sl3 ?_|refine Sh.sl4 ?_|refine Sh.eq ?_|refine Sh.ne ?_|refine Sh.ix2 ?_|refine Sh.ix3 ?_|refine Z.bu rfl rfl ?_|refine Z.buA rfl rfl ?_|refine VM ?_|refine Z.pl (R.cap rfl rfl) ?_|refine Z.pl R.mf ?_|refine Z.pl (R.min2 rfl rfl) ?_|refine G1 ?_|refine G2 ?_|refine G3 ?_|refine G4 ?_|with_reducible (first|refine V0 ?_|refine Z.block ?_)|((with_reducible refine Z.blX ?_ ?_);rotate_left;rfl)|refine VT ?_|refine VF ?_|((first|refine GS ?_ ?_|refine VB ?_ ?_)<;>intro hb<;>(try simp only [J1,J2,J3,J4,J5,J6] at hb)<;>(try (exfalso;first|omega|exact hb trivial))))
  · first | refine Z.done hS Tryz.results26 (Z.RV.tmp rfl Z.RV.nil) ?_ | refine Z.doneN hS Tryz.results26 (Z.RV.tmp rfl Z.RV.nil) ?_
    have e : giveP G x = (G, 5) := by unfold giveP; rw [if_pos hok, if_neg hb]
    rw [e]
    exact ⟨rfl, Sep.GP_open.2 ⟨A, c, hS.sb⟩⟩
  have hcell : x.cell = G.cell := by omega
  refine D.startS hS 7 7 (by kernel_rfl) rfl ?_
  replace hS := hS.drew
  refine Sh.dp 0 1 ?_
  refine Sh.dp 2 5 ?_
  refine Sh.dp 3 13 ?_
  refine Sh.dp 4 29 ?_
  refine Sh.dl 1 31 ?_
  refine Sh.dl 5 63 ?_
  refine Sh.dp 6 127 ?_
  refine D.done (by kernel_rfl) ?_
  repeat' (first|refine VP ?_|refine Sh.la hS ?_|refine Sh.lb ?_|refine Sh.lc ?_|refine Sh.su ?_|(refine Sh.sa hS ?_;clear hS;intro w hS)|((first|refine Sh.aa hS ?_|refine Sh.ab hS ?_|refine Sh.ac hS ?_);clear hS;intro g w hS hge)|refine Sh.ix ?_|refine Sh.up ?_|refine Sh.sl1 ?_|refine Sh.sl2 ?_|refine Sh.sl5 ?_|refine Sh.sl3 ?_|refine Sh.sl4 ?_|refine Sh.eq ?_|refine Sh.ne ?_|refine Sh.ix2 ?_|refine Sh.ix3 ?_|refine Z.bu rfl rfl ?_|refine Z.buA rfl rfl ?_|refine VM ?_|refine Z.pl (R.cap rfl rfl) ?_|refine Z.pl R.mf ?_|refine Z.pl (R.min2 rfl rfl) ?_|refine G1 ?_|refine G2 ?_|refine G3 ?_|refine G4 ?_|with_reducible (first|refine V0 ?_|refine Z.block ?_)|((with_reducible refine Z.blX ?_ ?_);rotate_left;rfl)|refine VT ?_|refine VF ?_|((first|refine GS ?_ ?_|refine VB ?_ ?_)<;>intro hb<;>(try simp only [J1,J2,J3,J4,J5,J6] at hb)<;>(try (exfalso;first|omega|exact hb trivial))))
  · first | refine Z.done hS Tryz.results26 (Z.RV.tmp rfl Z.RV.nil) ?_ | refine Z.doneN hS Tryz.results26 (Z.RV.tmp rfl Z.RV.nil) ?_
    have e : giveP G x = (G, 7) := by unfold giveP; rw [if_pos hok, if_pos hcell, if_pos hb]
    rw [e]
    exact ⟨rfl, Sep.GP_open.2 ⟨A, c, hS.sb⟩⟩
  have hep : ¬ x.epoch ≤ G.closed := by omega
  have e : giveP G x = (⟨G.cell, G.closed, insW x G.ws⟩, 0) := by unfold giveP; rw [if_pos hok, if_pos hcell, if_neg hep]
  rw [e]
  clear e
  refine Z.cut [5, 6, 24, 25, 26, 27, 28, 29, 30, 31, 32] (fun w s => ∃ (i : Nat) (b : Bool), s = [(5, .int .i64 i), (6, .bool b)] ∧ Spot G.ws x i ∧ (b = true ↔ ∃ hi : i < G.ws.length, eqK G.ws[i] x) ∧ Sep r [] (.blk gx 46 x.cells :: .blk gg 123 [.int .i64 G.cell, .int .i64 G.closed, .slice A G.ws.length c] :: .sl 46 5 (.slice A G.ws.length c) (G.ws.map Wi.cells) :: F) w) ?_ ?_
  · refine D.startS hS 11 11 (by kernel_rfl) rfl ?_
    replace hS := hS.drew
    refine Sh.dp 0 1 ?_
    refine Sh.dp 1 3 ?_
    refine Sh.dp 2 7 ?_
    refine Sh.dl 3 15 ?_
    refine Sh.dl 4 31 ?_
    refine D.eff 5 63 rfl D.wantedN (by kernel_rfl) (by kernel_rfl) (fun _ _ h => h) ?_
    refine Z.cl (search_z G.ws x _ _ _ _ hS (Reads.of_at (by repeat (first | exact At.here | apply At.next))) hl hs) rfl ?_
    clear hS
    rintro e w ⟨i, b, rfl, hsp, hbi, hS⟩
    refine ⟨_, rfl, ?_⟩
    refine ⟨HM.s (hS.sb), ?_⟩
    refine Sh.dp 6 127 ?_
    refine Sh.dp 7 255 ?_
    refine Sh.dp 8 511 ?_
    refine Sh.dp 9 1023 ?_
    refine Sh.dp 10 2047 ?_
    refine D.done (by kernel_rfl) ?_
    refine Sh.cut [(5, _), (6, _)] ?_
    exact ⟨i, b, rfl, hsp, hbi, hS.sb⟩
  clear hS
  rintro f1 w _ ⟨i, b, rfl, hsp, hbi, hS⟩
  have hins := insW_at hsp
  cases b
  · have hno : ¬ ∃ hi : i < G.ws.length, eqK G.ws[i] x := fun h => by have := hbi.2 h; cases this
    rw [if_neg hno] at hins
    have hle := hsp.le
    repeat' (first|refine VP ?_|refine Sh.la hS ?_|refine Sh.lb ?_|refine Sh.lc ?_|refine Sh.su ?_|(refine Sh.sa hS ?_;clear hS;intro w hS)|((first|refine Sh.aa hS ?_|refine Sh.ab hS ?_|refine Sh.ac hS ?_);clear hS;intro g w hS hge)|refine Sh.ix ?_|refine Sh.up ?_|refine Sh.sl1 ?_|refine Sh.sl2 ?_|refine Sh.sl5 ?_|refine Sh.sl3 ?_|refine Sh.sl4 ?_|refine Sh.eq ?_|refine Sh.ne ?_|refine Sh.ix2 ?_|refine Sh.ix3 ?_|refine Z.bu rfl rfl ?_|refine Z.buA rfl rfl ?_|refine VM ?_|refine Z.pl (R.cap rfl rfl) ?_|refine Z.pl R.mf ?_|refine Z.pl (R.min2 rfl rfl) ?_|refine G1 ?_|refine G2 ?_|refine G3 ?_|refine G4 ?_|with_reducible (first|refine V0 ?_|refine Z.block ?_)|((with_reducible refine Z.blX ?_ ?_);rotate_left;rfl)|refine VT ?_|refine VF ?_|((first|refine GS ?_ ?_|refine VB ?_ ?_)<;>intro hb<;>(try simp only [J1,J2,J3,J4,J5,J6] at hb)<;>(try (exfalso;first|omega|exact hb trivial))))
    refine D.startS (Lr := [.blk gx 46 x.cells, .blk gg 123 [.int .i64 G.cell, .int .i64 G.closed, .slice A G.ws.length c]]) (hS.sb) 11 12 (by kernel_rfl) rfl ?_
    replace hS := hS.drew
    refine Sh.dp 0 1 ?_
    refine Sh.dp 1 3 ?_
    refine Sh.dp 2 7 ?_
    refine Sh.dp 3 15 ?_
    refine Sh.dp 5 47 ?_
    refine Sh.dl 4 63 ?_
    refine Sh.dl 6 127 ?_
    refine D.eff 7 255 rfl D.wantedN (by kernel_rfl) (by kernel_rfl) (fun _ _ h => h) ?_
    refine Z.bs hS rfl rfl rfl ?_
    clear hS; intro g w hS hge
    refine ⟨HM.s (hS.sb), ?_⟩
    refine D.eff 8 511 rfl D.wantedN (by kernel_rfl) (by kernel_rfl) (fun _ _ h => h) ?_
    replace hS : Sep r [] (.sl 46 5 (.slice A G.ws.length c) (G.ws.map Wi.cells) :: .blk g 46 x.cells :: .blk gx 46 x.cells :: .blk gg 123 [.int .i64 G.cell, .int .i64 G.closed, .slice A G.ws.length c] :: F) _ := hS.sb
    refine Z.cl (wi_insert G.ws i x A c g _ _ _ hS hle hl) rfl ?_
    clear hS
    rintro e w ⟨A1, c1, rfl, hS⟩
    refine ⟨_, rfl, ?_⟩
    refine ⟨HM.s (hS.sb), ?_⟩
    refine Sh.dp 9 1023 ?_
    refine Sh.dp 10 2047 ?_
    refine D.eff 11 4095 rfl D.wantedN (by kernel_rfl) (by kernel_rfl) (fun _ _ h => h) ?_
    refine Z.st hS rfl (by repeat (first | exact At.here | apply At.next)) rfl rfl ?_
    clear hS; intro w hS
    refine ⟨HM.last (by kernel_rfl), ?_⟩
    refine D.done (by kernel_rfl) ?_
    repeat' (first|refine VP ?_|refine Sh.la hS ?_|refine Sh.lb ?_|refine Sh.lc ?_|refine Sh.su ?_|(refine Sh.sa hS ?_;clear hS;intro w hS)|((first|refine Sh.aa hS ?_|refine Sh.ab hS ?_|refine Sh.ac hS ?_);clear hS;intro g w hS hge)|refine Sh.ix ?_|refine Sh.up ?_|refine Sh.sl1 ?_|refine Sh.sl2 ?_|refine Sh.sl5 ?_|refine Sh.sl3 ?_|refine Sh.sl4 ?_|refine Sh.eq ?_|refine Sh.ne ?_|refine Sh.ix2 ?_|refine Sh.ix3 ?_|refine Z.bu rfl rfl ?_|refine Z.buA rfl rfl ?_|refine VM ?_|refine Z.pl (R.cap rfl rfl) ?_|refine Z.pl R.mf ?_|refine Z.pl (R.min2 rfl rfl) ?_|refine G1 ?_|refine G2 ?_|refine G3 ?_|refine G4 ?_|with_reducible (first|refine V0 ?_|refine Z.block ?_)|((with_reducible refine Z.blX ?_ ?_);rotate_left;rfl)|refine VT ?_|refine VF ?_|((first|refine GS ?_ ?_|refine VB ?_ ?_)<;>intro hb<;>(try simp only [J1,J2,J3,J4,J5,J6] at hb)<;>(try (exfalso;first|omega|exact hb trivial))))
    first | refine Z.done hS Tryz.results26 (Z.RV.tmp rfl Z.RV.nil) ?_ | refine Z.doneN hS Tryz.results26 (Z.RV.tmp rfl Z.RV.nil) ?_
    refine ⟨rfl, Sep.GP_open.2 ⟨A1, c1, ?_⟩⟩
    have hlen : (insW x G.ws).length = G.ws.length + 1 := by rw [hins]; simp; omega
    simp only [hlen]
    rw [hins]
    exact hS.sb
  · have hyes := hbi.1 rfl
    rw [if_pos hyes] at hins
    repeat' (first|refine VP ?_|refine Sh.la hS ?_|refine Sh.lb ?_|refine Sh.lc ?_|refine Sh.su ?_|(refine Sh.sa hS ?_;clear hS;intro w hS)|((first|refine Sh.aa hS ?_|refine Sh.ab hS ?_|refine Sh.ac hS ?_);clear hS;intro g w hS hge)|refine Sh.ix ?_|refine Sh.up ?_|refine Sh.sl1 ?_|refine Sh.sl2 ?_|refine Sh.sl5 ?_|refine Sh.sl3 ?_|refine Sh.sl4 ?_|refine Sh.eq ?_|refine Sh.ne ?_|refine Sh.ix2 ?_|refine Sh.ix3 ?_|refine Z.bu rfl rfl ?_|refine Z.buA rfl rfl ?_|refine VM ?_|refine Z.pl (R.cap rfl rfl) ?_|refine Z.pl R.mf ?_|refine Z.pl (R.min2 rfl rfl) ?_|refine G1 ?_|refine G2 ?_|refine G3 ?_|refine G4 ?_|with_reducible (first|refine V0 ?_|refine Z.block ?_)|((with_reducible refine Z.blX ?_ ?_);rotate_left;rfl)|refine VT ?_|refine VF ?_|((first|refine GS ?_ ?_|refine VB ?_ ?_)<;>intro hb<;>(try simp only [J1,J2,J3,J4,J5,J6] at hb)<;>(try (exfalso;first|omega|exact hb trivial))))
    first | refine Z.done hS Tryz.results26 (Z.RV.tmp rfl Z.RV.nil) ?_ | refine Z.doneN hS Tryz.results26 (Z.RV.tmp rfl Z.RV.nil) ?_
    rw [hins]
    exact ⟨rfl, Sep.GP_open.2 ⟨A, c, hS.sb⟩⟩
end Go.Proofs.YtahackdfjcgkhaaGreat
