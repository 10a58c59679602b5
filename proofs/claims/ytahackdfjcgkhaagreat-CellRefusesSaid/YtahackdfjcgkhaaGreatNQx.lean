/-
  The program's queue: Holds, Leases, Copy; lists of items and of leases compared.
-/
import Derived.Test.YtahackdfjcgkhaaGreatNQw
import Derived.Test.YtahackdfjcgkhaaGreatP2
namespace Go.Proofs.YtahackdfjcgkhaaGreat
open Go.RowKit
set_option linter.unusedSimpArgs false
set_option linter.unusedVariables false
attribute [local irreducible] Res.blk Res.sl Res.all Res.ex Res.pure Res.star

def It.eqB (a b : It) : Bool := decide (a.number = b.number) && (decide (a.value = b.value) && true)
theorem It.eqB_iff (a b : It) : It.eqB a b = true ↔ a = b := by cases a; cases b; simp [It.eqB]
instance : DecidableEq It := fun a b => decidable_of_iff _ (It.eqB_iff a b)
def Le.eqB (a b : Le) : Bool := decide (a.item = b.item) && (decide (a.client = b.client) && (decide (a.epoch = b.epoch) && (decide (a.until_ = b.until_) && true)))
theorem Le.eqB_iff (a b : Le) : Le.eqB a b = true ↔ a = b := by cases a; cases b; simp [Le.eqB]
instance : DecidableEq Le := fun a b => decidable_of_iff _ (Le.eqB_iff a b)

def holdsP (rs : List Le) (cl ep n tk : Int) : Bool := rs.any fun l => decide (l.item = n) && decide (l.client = cl) && decide (liveL l ep tk)
theorem holdsP_take {rs : List Le} {cl ep n tk : Int} {k : Nat} (hk : k < rs.length) : holdsP (rs.take (k + 1)) cl ep n tk = (holdsP (rs.take k) cl ep n tk || (decide (rs[k].item = n) && decide (rs[k].client = cl) && decide (liveL rs[k] ep tk))) := by
  unfold holdsP
  rw [List.take_succ_eq_append_getElem hk, List.any_append]
  simp
theorem holdsP_at {rs : List Le} {cl ep n tk : Int} {k : Nat} (hk : k < rs.length) (h1 : rs[k].item = n) (h2 : rs[k].client = cl) (h3 : liveL rs[k] ep tk) : holdsP rs cl ep n tk = true := by
  unfold holdsP
  rw [List.any_eq_true]
  exact ⟨rs[k], by simp, by simp [h1, h2, h3]⟩
def leasesP (rs : List Le) (ep tk : Int) : List Le := rs.filter fun l => decide (liveL l ep tk)
theorem leasesP_take {rs : List Le} {ep tk : Int} {k : Nat} (hk : k < rs.length) : leasesP (rs.take (k + 1)) ep tk = leasesP (rs.take k) ep tk ++ (if liveL rs[k] ep tk then [rs[k]] else []) := by
  unfold leasesP
  rw [List.take_succ_eq_append_getElem hk, List.filter_append]
  congr 1
  by_cases h : liveL rs[k] ep tk <;> simp [h]

set_option maxHeartbeats 2000000 in
theorem pqholds_z (gq : Nat) (q : Qu) (cl ep n tk : Int) (r : World) (F : List Res) (w : World) (hS : Sep r [] (PQ gq q :: F) w) (hl' : q.r.length ≤ 1000) :
    Calls Tryz.prog 153 #[.pointer (some ⟨gq, 0, none⟩), .int .i64 cl, .int .i64 ep, .int .i64 n, .int .i64 tk] w fun e w' => e = .returned (.bool (holdsP q.r cl ep n tk)) ∧ Sep r [] (PQ gq q :: F) w' := by
  obtain ⟨A, c, B, d, hS⟩ := Sep.PQ_open.1 hS
  refine Z.enter Tryz.func153 Tryz.ntmps153 rfl rfl ?_
  repeat' (first|refine VP ?_|refine Sh.la hS ?_|refine Sh.lb ?_|refine Sh.lc ?_|refine Sh.su ?_|(refine Sh.sa hS ?_;clear hS;intro w hS)|((first|refine Sh.aa hS ?_|refine Sh.ab hS ?_|refine Sh.ac hS ?_);clear hS;intro g w hS hge)|refine Sh.ix ?_|refine Sh.up ?_|refine Sh.sl1 ?_|refine Sh.sl2 ?_|refine Sh.sl5 ?_|refine Sh.sl3 ?_|refine Sh.sl4 ?_|refine Sh.eq ?_|refine Sh.ne ?_|refine Sh.ix2 ?_|refine Sh.ix3 ?_|refine Z.bu rfl rfl ?_|refine Z.buA rfl rfl ?_|refine VM ?_|refine Z.pl (R.cap rfl rfl) ?_|refine Z.pl R.mf ?_|refine Z.pl (R.min2 rfl rfl) ?_|refine G1 ?_|refine G2 ?_|refine G3 ?_|refine G4 ?_|with_reducible (first|refine V0 ?_|refine Z.block ?_)|((with_reducible refine Z.blX ?_ ?_);rotate_left;rfl)|refine VT ?_|refine VF ?_|((first|refine GS ?_ ?_|refine VB ?_ ?_)<;>intro hb<;>(try simp only [J1,J2,J3,J4,J5,J6] at hb)<;>(try (exfalso;first|omega|exact hb trivial))))
  refine Z.lpS [10, 12, 18, 19, 20, 21, 22, 23, 24, 25, 26, 27, 28, 29, 30, 31, 32, 33, 34, 35, 36, 37, 38] (fun m w s => ∃ (i : Nat), s = [(18, .int .i64 i)] ∧ i ≤ q.r.length ∧ holdsP (q.r.take i) cl ep n tk = false ∧ m = q.r.length - i ∧ Sep r [] (.blk gq 167 [.slice A q.l.length c, .slice B q.r.length d, .int .i64 q.most] :: .sl 79 2 (.slice A q.l.length c) (q.l.map It.cells) :: .sl 133 4 (.slice B q.r.length d) (q.r.map Le.cells) :: F) w) _ [(18, .int .i64 (0 : Nat))] (by repeat (first | exact trivial | refine ⟨rfl, ?_⟩)) ⟨0, rfl, by omega, by simp [holdsP], rfl, hS⟩ ?_
  clear hS
  rintro m f0 w _ ⟨i, rfl, hi, hno, rfl, hS⟩
  by_cases hlt : i < q.r.length
  · obtain ⟨gb, o, rfl, _, hra⟩ := (hS.slrows (.next (.next .here))).mat (by omega) hlt
    have hht := holdsP_take (cl := cl) (ep := ep) (n := n) (tk := tk) hlt
    rw [hno, Bool.false_or] at hht
    repeat' (first|refine VP ?_|refine Sh.la hS ?_|refine Sh.lb ?_|refine Sh.lc ?_|refine Sh.su ?_|(refine Sh.sa hS ?_;clear hS;intro w hS)|((first|refine Sh.aa hS ?_|refine Sh.ab hS ?_|refine Sh.ac hS ?_);clear hS;intro g w hS hge)|refine Sh.ix ?_|refine Sh.up ?_|refine Sh.sl1 ?_|refine Sh.sl2 ?_|refine Sh.sl5 ?_|refine Sh.sl3 ?_|refine Sh.sl4 ?_|refine Sh.eq ?_|refine Sh.ne ?_|refine Sh.ix2 ?_|refine Sh.ix3 ?_|refine Z.bu rfl rfl ?_|refine Z.buA rfl rfl ?_|refine VM ?_|refine Z.pl (R.cap rfl rfl) ?_|refine Z.pl R.mf ?_|refine Z.pl (R.min2 rfl rfl) ?_|refine G1 ?_|refine G2 ?_|refine G3 ?_|refine G4 ?_|with_reducible (first|refine V0 ?_|refine Z.block ?_)|((with_reducible refine Z.blX ?_ ?_);rotate_left;rfl)|refine VT ?_|refine VF ?_|((first|refine GS ?_ ?_|refine VB ?_ ?_)<;>intro hb<;>(try simp only [J1,J2,J3,J4,J5,J6] at hb)<;>(try (exfalso;first|omega|exact hb trivial))))
    · refine Z.eff (Z.cl (live_z q.r[i] ep tk _ _ _ hS) rfl ?_) rfl
      clear hS
      rintro e w ⟨rfl, hS⟩
      refine ⟨_, rfl, ?_⟩
      repeat' (first|refine VP ?_|refine Sh.la hS ?_|refine Sh.lb ?_|refine Sh.lc ?_|refine Sh.su ?_|(refine Sh.sa hS ?_;clear hS;intro w hS)|((first|refine Sh.aa hS ?_|refine Sh.ab hS ?_|refine Sh.ac hS ?_);clear hS;intro g w hS hge)|refine Sh.ix ?_|refine Sh.up ?_|refine Sh.sl1 ?_|refine Sh.sl2 ?_|refine Sh.sl5 ?_|refine Sh.sl3 ?_|refine Sh.sl4 ?_|refine Sh.eq ?_|refine Sh.ne ?_|refine Sh.ix2 ?_|refine Sh.ix3 ?_|refine Z.bu rfl rfl ?_|refine Z.buA rfl rfl ?_|refine VM ?_|refine Z.pl (R.cap rfl rfl) ?_|refine Z.pl R.mf ?_|refine Z.pl (R.min2 rfl rfl) ?_|refine G1 ?_|refine G2 ?_|refine G3 ?_|refine G4 ?_|with_reducible (first|refine V0 ?_|refine Z.block ?_)|((with_reducible refine Z.blX ?_ ?_);rotate_left;rfl)|refine VT ?_|refine VF ?_|((first|refine GS ?_ ?_|refine VB ?_ ?_)<;>intro hb<;>(try simp only [J1,J2,J3,J4,J5,J6] at hb)<;>(try (exfalso;first|omega|exact hb trivial))))
      · first | refine Z.done hS Tryz.results153 (Z.RV.tmp rfl Z.RV.nil) ?_ | refine Z.doneN hS Tryz.results153 (Z.RV.tmp rfl Z.RV.nil) ?_
        rw [holdsP_at (cl := cl) (ep := ep) (n := n) (tk := tk) hlt (by assumption) (by assumption) (by assumption)]
        exact ⟨rfl, Sep.PQ_open.2 ⟨A, c, _, d, hS.sb⟩⟩
      · refine Sh.again (q.r.length - (i + 1)) [(18, .int .i64 (i + 1 : Nat))] ?_
        exact ⟨i + 1, rfl, by omega, by rw [hht]; simp [hb], rfl, hS.sb⟩
    all_goals
      refine Sh.again (q.r.length - (i + 1)) [(18, .int .i64 (i + 1 : Nat))] ?_
      exact ⟨i + 1, rfl, by omega, by rw [hht]; simp [hb], rfl, hS.sb⟩
  · repeat' (first|refine VP ?_|refine Sh.la hS ?_|refine Sh.lb ?_|refine Sh.lc ?_|refine Sh.su ?_|(refine Sh.sa hS ?_;clear hS;intro w hS)|((first|refine Sh.aa hS ?_|refine Sh.ab hS ?_|refine Sh.ac hS ?_);clear hS;intro g w hS hge)|refine Sh.ix ?_|refine Sh.up ?_|refine Sh.sl1 ?_|refine Sh.sl2 ?_|refine Sh.sl5 ?_|refine Sh.sl3 ?_|refine Sh.sl4 ?_|refine Sh.eq ?_|refine Sh.ne ?_|refine Sh.ix2 ?_|refine Sh.ix3 ?_|refine Z.bu rfl rfl ?_|refine Z.buA rfl rfl ?_|refine VM ?_|refine Z.pl (R.cap rfl rfl) ?_|refine Z.pl R.mf ?_|refine Z.pl (R.min2 rfl rfl) ?_|refine G1 ?_|refine G2 ?_|refine G3 ?_|refine G4 ?_|with_reducible (first|refine V0 ?_|refine Z.block ?_)|((with_reducible refine Z.blX ?_ ?_);rotate_left;rfl)|refine VT ?_|refine VF ?_|((first|refine GS ?_ ?_|refine VB ?_ ?_)<;>intro hb<;>(try simp only [J1,J2,J3,J4,J5,J6] at hb)<;>(try (exfalso;first|omega|exact hb trivial))))
    first | refine Z.done hS Tryz.results153 (Z.RV.tmp rfl Z.RV.nil) ?_ | refine Z.doneN hS Tryz.results153 (Z.RV.tmp rfl Z.RV.nil) ?_
    rw [List.take_of_length_le (by omega)] at hno
    rw [hno]
    exact ⟨rfl, Sep.PQ_open.2 ⟨A, c, B, d, hS.sb⟩⟩




set_option maxHeartbeats 1000000 in
theorem sameItems_z (l l' : List It) (v v' : Value) (r : World) (F : List Res) (w : World) (hS : Sep r [] F w) (hrd : Reads r F 2 v (l.map It.cells)) (hrd' : Reads r F 2 v' (l'.map It.cells)) (hl : l.length ≤ 100000) (hl' : l'.length ≤ 100000) :
    Calls Tryz.prog 78 #[v, v'] w fun e w' => e = .returned (.bool (decide (l = l'))) ∧ Sep r [] F w' := by
  obtain ⟨A, c, rfl, hc⟩ := (hrd [] w hS).mform
  obtain ⟨A', c', rfl, hc'⟩ := (hrd' [] w hS).mform
  refine Z.enter Tryz.func78 Tryz.ntmps78 rfl rfl ?_
  repeat' (first|refine VP ?_|refine Sh.la hS ?_|refine Sh.lb ?_|refine Sh.lc ?_|refine Sh.su ?_|(refine Sh.sa hS ?_;clear hS;intro w hS)|((first|refine Sh.aa hS ?_|refine Sh.ab hS ?_|refine Sh.ac hS ?_);clear hS;intro g w hS hge)|refine Sh.ix ?_|refine Sh.up ?_|refine Sh.sl1 ?_|refine Sh.sl2 ?_|refine Sh.sl5 ?_|refine Sh.sl3 ?_|refine Sh.sl4 ?_|refine Sh.eq ?_|refine Sh.ne ?_|refine Sh.ix2 ?_|refine Sh.ix3 ?_|refine Z.bu rfl rfl ?_|refine Z.buA rfl rfl ?_|refine VM ?_|refine Z.pl (R.cap rfl rfl) ?_|refine Z.pl R.mf ?_|refine Z.pl (R.min2 rfl rfl) ?_|refine G1 ?_|refine G2 ?_|refine G3 ?_|refine G4 ?_|with_reducible (first|refine V0 ?_|refine Z.block ?_)|((with_reducible refine Z.blX ?_ ?_);rotate_left;rfl)|refine VT ?_|refine VF ?_|((first|refine GS ?_ ?_|refine VB ?_ ?_)<;>intro hb<;>(try simp only [J1,J2,J3,J4,J5,J6] at hb)<;>(try (exfalso;first|omega|exact hb trivial))))
  · first | refine Z.done hS Tryz.results78 (Z.RV.tmp rfl Z.RV.nil) ?_ | refine Z.doneN hS Tryz.results78 (Z.RV.tmp rfl Z.RV.nil) ?_
    have : l ≠ l' := by rintro rfl; exact hb rfl
    exact ⟨by simp [this, Z.packR], hS⟩
  have hlen : l.length = l'.length := by omega
  refine Z.lpS [4, 5, 13, 14, 15, 16, 17, 18, 19, 20, 21, 22, 23, 24, 25] (fun m w s => ∃ q : Nat, s = [(13, .int .i64 q)] ∧ q ≤ l.length ∧ l.take q = l'.take q ∧ m = l.length - q ∧ Sep r [] F w) _ [(13, .int .i64 (0 : Nat))] (by repeat (first | exact trivial | refine ⟨rfl, ?_⟩)) ⟨0, rfl, by omega, by simp, rfl, hS⟩ ?_
  clear hS
  rintro m f0 w _ ⟨q, rfl, hq, heq, rfl, hS⟩
  by_cases hlt : q < l.length
  · have hlt' : q < l'.length := by omega
    obtain ⟨gb, o, rfl, _, _⟩ := (hrd [] w hS).mat (by omega) hlt
    obtain ⟨gb', o', rfl, _, _⟩ := (hrd' [] w hS).mat (by omega) hlt'
    have hra : ∀ W, Sep r [] F W → W.rangeAt gb (o + q * 2) l[q].cells := fun W h => (hrd [] W h).elem (by omega) hlt
    have hra' : ∀ W, Sep r [] F W → W.rangeAt gb' (o' + q * 2) l'[q].cells := fun W h => (hrd' [] W h).elem (by omega) hlt'
    repeat' (first|refine VP ?_|refine Sh.la hS ?_|refine Sh.lb ?_|refine Sh.lc ?_|refine Sh.su ?_|(refine Sh.sa hS ?_;clear hS;intro w hS)|((first|refine Sh.aa hS ?_|refine Sh.ab hS ?_|refine Sh.ac hS ?_);clear hS;intro g w hS hge)|refine Sh.ix ?_|refine Sh.up ?_|refine Sh.sl1 ?_|refine Sh.sl2 ?_|refine Sh.sl5 ?_|refine Sh.sl3 ?_|refine Sh.sl4 ?_|refine Sh.eq ?_|refine Sh.ne ?_|refine Sh.ix2 ?_|refine Sh.ix3 ?_|refine Z.bu rfl rfl ?_|refine Z.buA rfl rfl ?_|refine VM ?_|refine Z.pl (R.cap rfl rfl) ?_|refine Z.pl R.mf ?_|refine Z.pl (R.min2 rfl rfl) ?_|refine G1 ?_|refine G2 ?_|refine G3 ?_|refine G4 ?_|with_reducible (first|refine V0 ?_|refine Z.block ?_)|((with_reducible refine Z.blX ?_ ?_);rotate_left;rfl)|refine VT ?_|refine VF ?_|((first|refine GS ?_ ?_|refine VB ?_ ?_)<;>intro hb<;>(try simp only [J1,J2,J3,J4,J5,J6] at hb)<;>(try (exfalso;first|omega|exact hb trivial))))
    refine D.startS hS 9 9 (by kernel_rfl) rfl ?_
    replace hS := hS.drew
    refine Sh.dp 0 1 ?_
    refine Sh.dp 1 3 ?_
    first | refine D.ixn 2 7 rfl D.wantedN (by kernel_rfl) rfl rfl rfl (by omega) ?_ | refine D.ix 2 7 rfl D.wantedN (by kernel_rfl) rfl rfl rfl (by omega) ?_ | refine D.ia 2 7 rfl D.wantedN (by kernel_rfl) rfl rfl rfl (by omega) ?_
    refine Sh.dp 4 23 ?_
    refine Sh.dp 5 55 ?_
    first | refine D.ixn 6 119 rfl D.wantedN (by kernel_rfl) rfl rfl rfl (by omega) ?_ | refine D.ix 6 119 rfl D.wantedN (by kernel_rfl) rfl rfl rfl (by omega) ?_ | refine D.ia 6 119 rfl D.wantedN (by kernel_rfl) rfl rfl rfl (by omega) ?_
    refine D.ldR 3 127 rfl D.wantedN (by kernel_rfl) rfl hra rfl ?_
    refine D.ldR 7 255 rfl D.wantedN (by kernel_rfl) rfl hra' rfl ?_
    first | refine D.pr 8 511 rfl D.wantedN (by kernel_rfl) rfl ?_ | refine D.pl 8 511 rfl D.wantedN (by kernel_rfl) (R.nea rfl rfl rfl rfl) ?_
    refine D.done (by kernel_rfl) ?_
    repeat' (first|refine VP ?_|refine Sh.la hS ?_|refine Sh.lb ?_|refine Sh.lc ?_|refine Sh.su ?_|(refine Sh.sa hS ?_;clear hS;intro w hS)|((first|refine Sh.aa hS ?_|refine Sh.ab hS ?_|refine Sh.ac hS ?_);clear hS;intro g w hS hge)|refine Sh.ix ?_|refine Sh.up ?_|refine Sh.sl1 ?_|refine Sh.sl2 ?_|refine Sh.sl5 ?_|refine Sh.sl3 ?_|refine Sh.sl4 ?_|refine Sh.eq ?_|refine Sh.ne ?_|refine Sh.ix2 ?_|refine Sh.ix3 ?_|refine Z.bu rfl rfl ?_|refine Z.buA rfl rfl ?_|refine VM ?_|refine Z.pl (R.cap rfl rfl) ?_|refine Z.pl R.mf ?_|refine Z.pl (R.min2 rfl rfl) ?_|refine G1 ?_|refine G2 ?_|refine G3 ?_|refine G4 ?_|with_reducible (first|refine V0 ?_|refine Z.block ?_)|((with_reducible refine Z.blX ?_ ?_);rotate_left;rfl)|refine VT ?_|refine VF ?_|((first|refine GS ?_ ?_|refine VB ?_ ?_)<;>intro hb<;>(try simp only [J1,J2,J3,J4,J5,J6] at hb)<;>(try (exfalso;first|omega|exact hb trivial))))
    · first | refine Z.done hS Tryz.results78 (Z.RV.tmp rfl Z.RV.nil) ?_ | refine Z.doneN hS Tryz.results78 (Z.RV.tmp rfl Z.RV.nil) ?_
      have : l ≠ l' := by rintro rfl; have h1 := (It.eqB_iff l[q] l[q]).2 rfl; unfold It.eqB at h1; rw [hb] at h1; cases h1
      exact ⟨by simp [this, Z.packR], hS⟩
    · refine Sh.again (l.length - (q + 1)) [(13, .int .i64 (q + 1 : Nat))] ?_
      have hb' : l[q] = l'[q] := (It.eqB_iff _ _).1 hb
      exact ⟨q + 1, rfl, by omega, by rw [List.take_succ_eq_append_getElem hlt, List.take_succ_eq_append_getElem hlt', heq, hb'], rfl, hS⟩
  · repeat' (first|refine VP ?_|refine Sh.la hS ?_|refine Sh.lb ?_|refine Sh.lc ?_|refine Sh.su ?_|(refine Sh.sa hS ?_;clear hS;intro w hS)|((first|refine Sh.aa hS ?_|refine Sh.ab hS ?_|refine Sh.ac hS ?_);clear hS;intro g w hS hge)|refine Sh.ix ?_|refine Sh.up ?_|refine Sh.sl1 ?_|refine Sh.sl2 ?_|refine Sh.sl5 ?_|refine Sh.sl3 ?_|refine Sh.sl4 ?_|refine Sh.eq ?_|refine Sh.ne ?_|refine Sh.ix2 ?_|refine Sh.ix3 ?_|refine Z.bu rfl rfl ?_|refine Z.buA rfl rfl ?_|refine VM ?_|refine Z.pl (R.cap rfl rfl) ?_|refine Z.pl R.mf ?_|refine Z.pl (R.min2 rfl rfl) ?_|refine G1 ?_|refine G2 ?_|refine G3 ?_|refine G4 ?_|with_reducible (first|refine V0 ?_|refine Z.block ?_)|((with_reducible refine Z.blX ?_ ?_);rotate_left;rfl)|refine VT ?_|refine VF ?_|((first|refine GS ?_ ?_|refine VB ?_ ?_)<;>intro hb<;>(try simp only [J1,J2,J3,J4,J5,J6] at hb)<;>(try (exfalso;first|omega|exact hb trivial))))
    first | refine Z.done hS Tryz.results78 (Z.RV.tmp rfl Z.RV.nil) ?_ | refine Z.doneN hS Tryz.results78 (Z.RV.tmp rfl Z.RV.nil) ?_
    have : l = l' := by rw [← List.take_of_length_le (l := l) (i := q) (by omega), ← List.take_of_length_le (l := l') (i := q) (by omega), heq]
    exact ⟨by simp [this, Z.packR], hS⟩



end Go.Proofs.YtahackdfjcgkhaaGreat
