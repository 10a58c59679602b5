/-
  The program's cell.Copy: Keys, Items, Lasts, Get, Crash, Copy.
  The lists of the last numbers, at the seat of the cells.
  The reference's store: Get, Keys; lists of texts compared; a store compared with the reference.
-/
import Derived.Test.YtiabhlogadboeaaGreatEX
import Derived.Test.YtiabhlogadboeaaGreatP1
namespace Go.Proofs.YtiabhlogadboeaaGreat
open Go.RowKit
set_option linter.unusedSimpArgs false
set_option linter.unusedVariables false
attribute [local irreducible] Res.blk Res.sl Res.all Res.ex Res.pure Res.star

theorem pcitems_z (g : Nat) (cell ten : Int) (vg : Value) (c : Cp) (r : World) (F : List Res) (w : World) (hS : Sep r [] (PC g cell ten vg c :: F) w) (hl : c.q.l.length ≤ 1000) :
    Calls Tryz.prog 57 #[.pointer (some ⟨g, 0, .none⟩)] w fun e w' => ∃ A' c', e = .returned (.slice A' c.q.l.length c') ∧ Sep r [] (PC g cell ten vg c :: .sl 114 2 (.slice A' c.q.l.length c') (c.q.l.map It.cells) :: F) w' := by
  obtain ⟨A, cap, gs, gq, gt, hS⟩ := Sep.PC_open.1 hS
  refine Z.enter Tryz.func57 Tryz.ntmps57 rfl rfl ?_
  repeat' (first|refine K ?_|(refine Sh.sa hS ?_;clear hS;intro w hS)|(refine K3 ?_;clear hS;intro g w hS hge)|((first|refine GS ?_ ?_|refine VB ?_ ?_)<;>intro hb<;>(try simp only [J1,J2,J3,J4,J5,J6] at hb)<;>(try (exfalso;first|omega|exact hb trivial))))
  replace hS := hS.fo (R := PQ gq c.q)
  refine Z.eff (Z.cl (pqitems_z gq c.q _ _ _ hS (by omega)) rfl ?_) rfl
  clear hS
  rintro e w ⟨Ak, ck, rfl, hS⟩
  refine ⟨_, rfl, ?_⟩
  repeat' (first|refine K ?_|(refine Sh.sa hS ?_;clear hS;intro w hS)|(refine K3 ?_;clear hS;intro g w hS hge)|((first|refine GS ?_ ?_|refine VB ?_ ?_)<;>intro hb<;>(try simp only [J1,J2,J3,J4,J5,J6] at hb)<;>(try (exfalso;first|omega|exact hb trivial))))
  refine Dnt Tryz.results57 ?_
  exact ⟨Ak, ck, rfl, Sep.PC_open.2 ⟨_, _, _, _, _, hS.sb⟩⟩
theorem pckeys_z (g : Nat) (cell ten : Int) (vg : Value) (c : Cp) (r : World) (F : List Res) (w : World) (hS : Sep r [] (PC g cell ten vg c :: F) w) (hs : SSort c.s) (hl : c.s.length ≤ 1000) :
    Calls Tryz.prog 56 #[.pointer (some ⟨g, 0, .none⟩)] w fun e w' => ∃ A' c', e = .returned (.slice A' c.s.length c') ∧ Sep r [] (PC g cell ten vg c :: .sl 9 1 (.slice A' c.s.length c') (c.s.map Ce.kc) :: F) w' := by
  obtain ⟨A, cap, gs, gq, gt, hS⟩ := Sep.PC_open.1 hS
  refine Z.enter Tryz.func56 Tryz.ntmps56 rfl rfl ?_
  repeat' (first|refine K ?_|(refine Sh.sa hS ?_;clear hS;intro w hS)|(refine K3 ?_;clear hS;intro g w hS hge)|((first|refine GS ?_ ?_|refine VB ?_ ?_)<;>intro hb<;>(try simp only [J1,J2,J3,J4,J5,J6] at hb)<;>(try (exfalso;first|omega|exact hb trivial))))
  replace hS := hS.fo (R := PS gs c.s)
  refine Z.eff (Z.cl (pskeys_z gs c.s _ _ _ hS hs (by omega)) rfl ?_) rfl
  clear hS
  rintro e w ⟨Ak, ck, rfl, hS⟩
  refine ⟨_, rfl, ?_⟩
  repeat' (first|refine K ?_|(refine Sh.sa hS ?_;clear hS;intro w hS)|(refine K3 ?_;clear hS;intro g w hS hge)|((first|refine GS ?_ ?_|refine VB ?_ ?_)<;>intro hb<;>(try simp only [J1,J2,J3,J4,J5,J6] at hb)<;>(try (exfalso;first|omega|exact hb trivial))))
  refine Dnt Tryz.results56 ?_
  exact ⟨Ak, ck, rfl, Sep.PC_open.2 ⟨_, _, _, _, _, hS.sb⟩⟩
theorem pcget_z (g : Nat) (cell ten : Int) (vg : Value) (c : Cp) (k : ByteArray) (r : World) (F : List Res) (w : World) (hS : Sep r [] (PC g cell ten vg c :: F) w) (hs : SSort c.s) (hk : k.size ≤ maxLen) :
    Calls Tryz.prog 35 #[.pointer (some ⟨g, 0, .none⟩), .string k] w fun e w' => e = .returned (getV (atK c.s k)) ∧ Sep r [] (PC g cell ten vg c :: F) w' := by
  obtain ⟨A, cap, gs, gq, gt, hS⟩ := Sep.PC_open.1 hS
  refine Z.enter Tryz.func35 Tryz.ntmps35 rfl rfl ?_
  repeat' (first|refine K ?_|(refine Sh.sa hS ?_;clear hS;intro w hS)|(refine K3 ?_;clear hS;intro g w hS hge)|((first|refine GS ?_ ?_|refine VB ?_ ?_)<;>intro hb<;>(try simp only [J1,J2,J3,J4,J5,J6] at hb)<;>(try (exfalso;first|omega|exact hb trivial))))
  replace hS := hS.fo (R := PS gs c.s)
  refine Z.eff (Z.cl (psget_z gs c.s k _ _ _ hS hs hk) rfl ?_) rfl
  clear hS
  rintro e w ⟨rfl, hS⟩
  refine ⟨_, rfl, ?_⟩
  rw [getV_eq]
  repeat' (first|refine K ?_|(refine Sh.sa hS ?_;clear hS;intro w hS)|(refine K3 ?_;clear hS;intro g w hS hge)|((first|refine GS ?_ ?_|refine VB ?_ ?_)<;>intro hb<;>(try simp only [J1,J2,J3,J4,J5,J6] at hb)<;>(try (exfalso;first|omega|exact hb trivial))))
  refine Dnttt Tryz.results35 ?_
  exact ⟨rfl, Sep.PC_open.2 ⟨_, _, _, _, _, hS.sb⟩⟩
end Go.Proofs.YtiabhlogadboeaaGreat

namespace Go.Proofs.YtiabhlogadboeaaGreat
open Go.RowKit
set_option linter.unusedSimpArgs false
set_option linter.unusedVariables false
attribute [local irreducible] Res.blk Res.sl Res.all Res.ex Res.pure Res.star

theorem lastB_in {t : Tab} (hok : t.ok) (c : Int) : 0 ≤ lastB t c ∧ lastB t c ≤ 1048576 := by
  unfold lastB
  split
  · omega
  · exact hok _

/-! Equality. -/

def RT (g : Nat) (t : Tab) : Res := .blk g 136 t.cells.toList
def lastsL (t : Tab) : List Int := (List.range 8).map t.n
theorem Tab.prow (t : Tab) (q : Nat) (hq : q < 8) : partL true ((q : Int).toNat * 5) 5 t.pcells.toList = some (.agg (Value.int .i64 (t.n q) :: (t.r q).cells).toArray) := by
  match q, hq with
  | 0, _ => rfl
  | 1, _ => rfl
  | 2, _ => rfl
  | 3, _ => rfl
  | 4, _ => rfl
  | 5, _ => rfl
  | 6, _ => rfl
  | 7, _ => rfl
set_option maxHeartbeats 1000000 in
theorem plasts_z (t : Tab) (g : Nat) (r : World) (F : List Res) (w : World) (hS : Sep r [] (PT g t :: F) w) :
    Calls Tryz.prog 66 #[.pointer (some ⟨g, 0, none⟩)] w fun e w' => ∃ v, e = .returned v ∧ Sep r [] (.sl 3 1 v ((lastsL t).map intC) :: PT g t :: F) w' := by
  refine Z.enter Tryz.func66 Tryz.ntmps66 rfl rfl ?_
  repeat' (first|refine K ?_|(refine Sh.sa hS ?_;clear hS;intro w hS)|(refine K3 ?_;clear hS;intro g w hS hge)|((first|refine GS ?_ ?_|refine VB ?_ ?_)<;>intro hb<;>(try simp only [J1,J2,J3,J4,J5,J6] at hb)<;>(try (exfalso;first|omega|exact hb trivial))))
  replace hS := Z.nilsl hS 3 1 none
  refine Z.lpS [3, 5, 10, 11, 12, 13, 14, 15, 16, 17, 18] (fun m w s => ∃ (l : List Int) (A : Option Addr) (c : Nat), s = [(3, .slice A l.length c), (10, .int .i64 l.length)] ∧ l = (List.range l.length).map t.n ∧ l.length ≤ 8 ∧ m = 8 - l.length ∧ Sep r [] (.sl 3 1 (.slice A l.length c) (l.map intC) :: PT g t :: F) w) _ [(3, .slice none (0 : Nat) 0), (10, .int .i64 (0 : Nat))] (by repeat (first | exact trivial | refine ⟨rfl, ?_⟩)) ⟨[], none, 0, rfl, rfl, by simp, rfl, hS⟩ ?_
  clear hS
  rintro m f0 w _ ⟨l, A, c, rfl, hl, hq, rfl, hS⟩
  by_cases hlt : l.length < 8
  · have hrow := t.prow l.length hlt
    repeat' (first|refine K ?_|(refine Sh.sa hS ?_;clear hS;intro w hS)|(refine K3 ?_;clear hS;intro g w hS hge)|((first|refine GS ?_ ?_|refine VB ?_ ?_)<;>intro hb<;>(try simp only [J1,J2,J3,J4,J5,J6] at hb)<;>(try (exfalso;first|omega|exact hb trivial))))
    refine Z.pl (R.ixv rfl rfl rfl (by omega) hrow) ?_
    repeat' (first|refine K ?_|(refine Sh.sa hS ?_;clear hS;intro w hS)|(refine K3 ?_;clear hS;intro g w hS hge)|((first|refine GS ?_ ?_|refine VB ?_ ?_)<;>intro hb<;>(try simp only [J1,J2,J3,J4,J5,J6] at hb)<;>(try (exfalso;first|omega|exact hb trivial))))
    refine Z.eff (Z.apm (l' := [t.n l.length]) hS rfl rfl rfl (by repeat (first | exact At.here | apply At.next)) (hS.lit1 (by repeat (first | exact At.here | apply At.next)) rfl rfl) (by (try simp only [maxLen, List.length_take, List.length_drop, List.length_append, List.length_cons, List.length_nil, List.length_map]); omega) (by (try simp only [maxLen, List.length_take, List.length_drop, List.length_append, List.length_cons, List.length_nil, List.length_map]); omega) ?_) rfl
    clear hS; intro A' c' w hS
    repeat' (first|refine K ?_|(refine Sh.sa hS ?_;clear hS;intro w hS)|(refine K3 ?_;clear hS;intro g w hS hge)|((first|refine GS ?_ ?_|refine VB ?_ ?_)<;>intro hb<;>(try simp only [J1,J2,J3,J4,J5,J6] at hb)<;>(try (exfalso;first|omega|exact hb trivial))))
    refine Sh.again (8 - (l.length + 1)) [(3, .slice A' (l.length + 1) c'), (10, .int .i64 (l.length + 1 : Nat))] ?_
    refine ⟨l ++ [t.n l.length], A', c', by simp, ?_, by simp; omega, by simp, ?_⟩
    · rw [List.length_append, List.length_singleton, List.range_succ, List.map_append, ← hl]
      rfl
    · rw [List.length_append]
      exact hS.sb
  · have h8 : l.length = 8 := by omega
    repeat' (first|refine K ?_|(refine Sh.sa hS ?_;clear hS;intro w hS)|(refine K3 ?_;clear hS;intro g w hS hge)|((first|refine GS ?_ ?_|refine VB ?_ ?_)<;>intro hb<;>(try simp only [J1,J2,J3,J4,J5,J6] at hb)<;>(try (exfalso;first|omega|exact hb trivial))))
    refine Dnt Tryz.results66 ?_
    rw [h8] at hl
    refine ⟨_, rfl, ?_⟩
    unfold lastsL
    rw [← hl]
    exact hS
theorem Tab.row_n (t : Tab) (j : Nat) (u : Value) (h : ((lastsL t).map intC).flatten[j]? = some u) : t.cells.toList[0 + j]? = some u := by
  rw [flat_intC] at h
  have hj : j < 8 := by simpa [lastsL] using (List.getElem?_eq_some_iff.1 h).1
  match j, hj with
  | 0, _ => exact h
  | 1, _ => exact h
  | 2, _ => exact h
  | 3, _ => exact h
  | 4, _ => exact h
  | 5, _ => exact h
  | 6, _ => exact h
  | 7, _ => exact h
set_option maxHeartbeats 1000000 in
theorem rlasts_z (t : Tab) (gt : Nat) (r : World) (F : List Res) (w : World) (hS : Sep r [] (RT gt t :: F) w) :
    Calls Tryz.prog 88 #[.pointer (some ⟨gt, 0, none⟩)] w fun e w' => ∃ v, e = .returned v ∧ Sep r [] (.sl 3 1 v ((lastsL t).map intC) :: RT gt t :: F) w' := by
  refine Z.enter Tryz.func88 Tryz.ntmps88 rfl rfl ?_
  repeat' (first|refine K ?_|(refine Sh.sa hS ?_;clear hS;intro w hS)|(refine K3 ?_;clear hS;intro g w hS hge)|((first|refine GS ?_ ?_|refine VB ?_ ?_)<;>intro hb<;>(try simp only [J1,J2,J3,J4,J5,J6] at hb)<;>(try (exfalso;first|omega|exact hb trivial))))
  have hrow : Rows' _ 1 (.slice (some ⟨gt, 0, none⟩) 8 8) ((lastsL t).map intC) := rows_blk (hS.bk) (fun row hr => by obtain ⟨z, _, rfl⟩ := List.mem_map.1 hr; exact ⟨rfl, by simp [intC, Value.oneCell']⟩) rfl (t.row_n)
  have hlen : (lastsL t).length = 8 := by simp [lastsL]
  refine Z.eff (Z.ap0m hS rfl rfl rfl hrow (by (try simp only [maxLen, List.length_take, List.length_drop, List.length_append, List.length_cons, List.length_nil, List.length_map]); omega) (by (try simp only [maxLen, List.length_take, List.length_drop, List.length_append, List.length_cons, List.length_nil, List.length_map]); omega) ?_) rfl
  clear hS; intro A' c' w hS
  repeat' (first|refine K ?_|(refine Sh.sa hS ?_;clear hS;intro w hS)|(refine K3 ?_;clear hS;intro g w hS hge)|((first|refine GS ?_ ?_|refine VB ?_ ?_)<;>intro hb<;>(try simp only [J1,J2,J3,J4,J5,J6] at hb)<;>(try (exfalso;first|omega|exact hb trivial))))
  refine Dnt Tryz.results88 ?_
  exact ⟨_, rfl, hS.sb⟩

set_option maxHeartbeats 1000000 in
theorem sameInts_z (l l' : List Int) (v v' : Value) (r : World) (F : List Res) (w : World) (hS : Sep r [] F w) (hrd : Reads r F 1 v (l.map intC)) (hrd' : Reads r F 1 v' (l'.map intC)) (hl : l.length ≤ 100000) (hl' : l'.length ≤ 100000) :
    Calls Tryz.prog 50 #[v, v'] w fun e w' => e = .returned (.bool (decide (l = l'))) ∧ Sep r [] F w' := by
  obtain ⟨A, c, rfl, hc⟩ := (hrd [] w hS).mform
  obtain ⟨A', c', rfl, hc'⟩ := (hrd' [] w hS).mform
  refine Z.enter Tryz.func50 Tryz.ntmps50 rfl rfl ?_
  repeat' (first|refine K ?_|(refine Sh.sa hS ?_;clear hS;intro w hS)|(refine K3 ?_;clear hS;intro g w hS hge)|((first|refine GS ?_ ?_|refine VB ?_ ?_)<;>intro hb<;>(try simp only [J1,J2,J3,J4,J5,J6] at hb)<;>(try (exfalso;first|omega|exact hb trivial))))
  · refine Dnt Tryz.results50 ?_
    have : l ≠ l' := by rintro rfl; exact hb rfl
    exact ⟨by simp [this, Z.packR], hS⟩
  have hlen : l.length = l'.length := by omega
  refine Z.lpS [4, 5, 13, 14, 15, 16, 17, 18, 19, 20, 21, 22, 23, 24, 25] (fun m w s => ∃ q : Nat, s = [(13, .int .i64 q)] ∧ q ≤ l.length ∧ l.take q = l'.take q ∧ m = l.length - q ∧ Sep r [] F w) _ [(13, .int .i64 (0 : Nat))] (by repeat (first | exact trivial | refine ⟨rfl, ?_⟩)) ⟨0, rfl, by omega, by simp, rfl, hS⟩ ?_
  clear hS
  rintro m f0 w _ ⟨q, rfl, hq, heq, rfl, hS⟩
  by_cases hlt : q < l.length
  · have hlt' : q < l'.length := by omega
    obtain ⟨gb, o, rfl, _, _⟩ := (hrd [] w hS).mat (by omega) hlt
    obtain ⟨gb', o', rfl, _, _⟩ := (hrd' [] w hS).mat (by omega) hlt'
    have hra : ∀ W, Sep r [] F W → W.rangeAt gb (o + q * 1) (intC l[q]) := fun W h => (hrd [] W h).elem (by omega) hlt
    have hra' : ∀ W, Sep r [] F W → W.rangeAt gb' (o' + q * 1) (intC l'[q]) := fun W h => (hrd' [] W h).elem (by omega) hlt'
    repeat' (first|refine K ?_|(refine Sh.sa hS ?_;clear hS;intro w hS)|(refine K3 ?_;clear hS;intro g w hS hge)|((first|refine GS ?_ ?_|refine VB ?_ ?_)<;>intro hb<;>(try simp only [J1,J2,J3,J4,J5,J6] at hb)<;>(try (exfalso;first|omega|exact hb trivial))))
    refine D.startS hS 9 9 (by kernel_rfl) rfl ?_
    replace hS := hS.drew
    refine Sh.dp 0 1 ?_
    refine Sh.dp 1 3 ?_
    first | refine D.ixn 2 7 rfl D.wantedN (by kernel_rfl) rfl rfl rfl (by omega) ?_ | refine D.ix 2 7 rfl D.wantedN (by kernel_rfl) rfl rfl rfl (by omega) ?_ | refine D.ia 2 7 rfl D.wantedN (by kernel_rfl) rfl rfl rfl (by omega) ?_
    refine Sh.dp 4 23 ?_
    refine Sh.dp 5 55 ?_
    first | refine D.ixn 6 119 rfl D.wantedN (by kernel_rfl) rfl rfl rfl (by omega) ?_ | refine D.ix 6 119 rfl D.wantedN (by kernel_rfl) rfl rfl rfl (by omega) ?_ | refine D.ia 6 119 rfl D.wantedN (by kernel_rfl) rfl rfl rfl (by omega) ?_
    refine D.ldR 3 127 rfl D.wantedN (by kernel_rfl) rfl hra rfl ?_
    refine D.ldR 7 255 rfl D.wantedN (by kernel_rfl) rfl hra' rfl ?_
    first | refine D.pr 8 511 rfl D.wantedN (by kernel_rfl) rfl ?_ | refine D.pl 8 511 rfl D.wantedN (by kernel_rfl) (R.nea rfl rfl rfl rfl) ?_
    refine D.done (by kernel_rfl) ?_
    repeat' (first|refine K ?_|(refine Sh.sa hS ?_;clear hS;intro w hS)|(refine K3 ?_;clear hS;intro g w hS hge)|((first|refine GS ?_ ?_|refine VB ?_ ?_)<;>intro hb<;>(try simp only [J1,J2,J3,J4,J5,J6] at hb)<;>(try (exfalso;first|omega|exact hb trivial))))
    · refine Dnt Tryz.results50 ?_
      have : l ≠ l' := by rintro rfl; exact hb rfl
      exact ⟨by simp [this, Z.packR], hS⟩
    · refine Sh.again (l.length - (q + 1)) [(13, .int .i64 (q + 1 : Nat))] ?_
      have hb' : l[q] = l'[q] := by first | exact hb | omega
      exact ⟨q + 1, rfl, by omega, by rw [List.take_succ_eq_append_getElem hlt, List.take_succ_eq_append_getElem hlt', heq, hb'], rfl, hS⟩
  · repeat' (first|refine K ?_|(refine Sh.sa hS ?_;clear hS;intro w hS)|(refine K3 ?_;clear hS;intro g w hS hge)|((first|refine GS ?_ ?_|refine VB ?_ ?_)<;>intro hb<;>(try simp only [J1,J2,J3,J4,J5,J6] at hb)<;>(try (exfalso;first|omega|exact hb trivial))))
    refine Dnt Tryz.results50 ?_
    have : l = l' := by rw [← List.take_of_length_le (l := l) (i := q) (by omega), ← List.take_of_length_le (l := l') (i := q) (by omega), heq]
    exact ⟨by simp [this, Z.packR], hS⟩
theorem pclasts_z (g : Nat) (cell ten : Int) (vg : Value) (c : Cp) (r : World) (F : List Res) (w : World) (hS : Sep r [] (PC g cell ten vg c :: F) w) :
    Calls Tryz.prog 32 #[.pointer (some ⟨g, 0, .none⟩)] w fun e w' => ∃ v, e = .returned v ∧ Sep r [] (PC g cell ten vg c :: .sl 3 1 v ((lastsL c.t).map intC) :: F) w' := by
  obtain ⟨A, cap, gs, gq, gt, hS⟩ := Sep.PC_open.1 hS
  refine Z.enter Tryz.func32 Tryz.ntmps32 rfl rfl ?_
  repeat' (first|refine K ?_|(refine Sh.sa hS ?_;clear hS;intro w hS)|(refine K3 ?_;clear hS;intro g w hS hge)|((first|refine GS ?_ ?_|refine VB ?_ ?_)<;>intro hb<;>(try simp only [J1,J2,J3,J4,J5,J6] at hb)<;>(try (exfalso;first|omega|exact hb trivial))))
  replace hS := hS.fo (R := PT gt c.t)
  refine Z.eff (Z.cl (plasts_z c.t gt _ _ _ hS) rfl ?_) rfl
  clear hS
  rintro e w ⟨v, rfl, hS⟩
  refine ⟨_, rfl, ?_⟩
  obtain ⟨A5, c5, rfl, _⟩ := (hS.slrows (e := 3) (v := v) .here).mform
  repeat' (first|refine K ?_|(refine Sh.sa hS ?_;clear hS;intro w hS)|(refine K3 ?_;clear hS;intro g w hS hge)|((first|refine GS ?_ ?_|refine VB ?_ ?_)<;>intro hb<;>(try simp only [J1,J2,J3,J4,J5,J6] at hb)<;>(try (exfalso;first|omega|exact hb trivial))))
  refine Dnt Tryz.results32 ?_
  exact ⟨_, rfl, Sep.PC_open.2 ⟨_, _, _, _, _, hS.sb⟩⟩
end Go.Proofs.YtiabhlogadboeaaGreat

namespace Go.Proofs.YtiabhlogadboeaaGreat
open Go.RowKit
set_option linter.unusedSimpArgs false
set_option linter.unusedVariables false
attribute [local irreducible] Res.blk Res.sl Res.all Res.ex Res.pure Res.star

/-- All keys are short. -/
def KOk (l : List Ce) : Prop := ∀ c, c ∈ l → c.key.size ≤ 16
theorem KOk.nil : KOk [] := fun _ h => by simp at h
theorem KOk.app {l : List Ce} (h : KOk l) (x : Ch) : KOk (sApp l x).1 := by
  unfold sApp
  split
  · rename_i hv
    have hx := valid_key hv
    split
    · split
      · intro c hc
        rcases List.mem_or_eq_of_mem_set hc with h1 | rfl
        · exact h c h1
        · exact hx
      · split
        · exact h
        · intro c hc
          simp only [List.mem_append, List.mem_singleton] at hc
          rcases hc with (h1 | rfl) | h1
          · exact h c (List.mem_of_mem_take h1)
          · exact hx
          · exact h c (List.mem_of_mem_drop h1)
    · split
      · split
        · intro c hc
          simp only [List.mem_append] at hc
          rcases hc with h1 | h1
          · exact h c (List.mem_of_mem_take h1)
          · exact h c (List.mem_of_mem_drop h1)
        · exact h
      · exact h
  · exact h


set_option maxHeartbeats 1000000 in
theorem rskeys_z (gs : Nat) (l : List Ce) (v : Value) (r : World) (F : List Res) (w : World) (hS : Sep r [] (.blk gs 139 [v] :: F) w) (hrd : Reads r F 3 v (l.map Ce.cells)) (hl : l.length ≤ 1000) :
    Calls Tryz.prog 87 #[.pointer (some ⟨gs, 0, none⟩)] w fun e w' => ∃ A c, e = .returned (.slice A l.length c) ∧ Sep r [] (.sl 9 1 (.slice A l.length c) (l.map Ce.kc) :: .blk gs 139 [v] :: F) w' := by
  obtain ⟨A, c, rfl, hc⟩ := (hrd [_] w hS).mform
  refine Z.enter Tryz.func87 Tryz.ntmps87 rfl rfl ?_
  repeat' (first|refine K ?_|(refine Sh.sa hS ?_;clear hS;intro w hS)|(refine K3 ?_;clear hS;intro g w hS hge)|((first|refine GS ?_ ?_|refine VB ?_ ?_)<;>intro hb<;>(try simp only [J1,J2,J3,J4,J5,J6] at hb)<;>(try (exfalso;first|omega|exact hb trivial))))
  replace hS := Z.nilsl hS 9 1 none
  refine Z.lpS [3, 5, 11, 12, 13, 14, 15, 16, 17, 18, 19, 20] (fun m w s => ∃ (q : Nat) (A1 : Option Addr) (c1 : Nat), s = [(11, .int .i64 q), (3, .slice A1 q c1)] ∧ q ≤ l.length ∧ m = l.length - q ∧ Sep r [] (.sl 9 1 (.slice A1 q c1) ((l.take q).map Ce.kc) :: .blk gs 139 [.slice A l.length c] :: F) w) _ [(11, .int .i64 (0 : Nat)), (3, .slice none 0 0)] (by repeat (first | exact trivial | refine ⟨rfl, ?_⟩)) ⟨0, none, 0, rfl, by omega, rfl, hS⟩ ?_
  clear hS
  rintro m f0 w _ ⟨q, A1, c1, rfl, hq, rfl, hS⟩
  by_cases hlt : q < l.length
  · obtain ⟨gb, o, rfl, _, hra⟩ := (hrd [_, _] w hS).mat (by omega) hlt
    have hql : (l.take q).length = q := by rw [List.length_take]; omega
    repeat' (first|refine K ?_|(refine Sh.sa hS ?_;clear hS;intro w hS)|(refine K3 ?_;clear hS;intro g w hS hge)|((first|refine GS ?_ ?_|refine VB ?_ ?_)<;>intro hb<;>(try simp only [J1,J2,J3,J4,J5,J6] at hb)<;>(try (exfalso;first|omega|exact hb trivial))))
    replace hS := hS.fo (R := .sl 9 1 (.slice A1 _ c1) _)
    refine Z.eff (Z.apm (l' := [l[q]]) hS rfl rfl rfl (by repeat (first | exact At.here | apply At.next)) (hS.lit1 (by repeat (first | exact At.here | apply At.next)) rfl rfl) (by (try simp only [maxLen, List.length_take, List.length_drop, List.length_append, List.length_cons, List.length_nil, List.length_map]); omega) (by (try simp only [maxLen, List.length_take, List.length_drop, List.length_append, List.length_cons, List.length_nil, List.length_map]); omega) ?_) rfl
    clear hS; intro A' c' w hS
    rw [show (l.take q).length + [l[q]].length = q + 1 by rw [hql]; rfl] at hS ⊢
    rw [← List.take_succ_eq_append_getElem hlt] at hS
    repeat' (first|refine K ?_|(refine Sh.sa hS ?_;clear hS;intro w hS)|(refine K3 ?_;clear hS;intro g w hS hge)|((first|refine GS ?_ ?_|refine VB ?_ ?_)<;>intro hb<;>(try simp only [J1,J2,J3,J4,J5,J6] at hb)<;>(try (exfalso;first|omega|exact hb trivial))))
    refine Sh.again (l.length - (q + 1)) [(11, .int .i64 (q + 1 : Nat)), (3, .slice A' (q + 1) c')] ?_
    exact ⟨q + 1, A', c', rfl, by omega, rfl, hS.sb⟩
  · have e : q = l.length := by omega
    subst e
    rw [List.take_of_length_le (Nat.le_refl _)] at hS
    repeat' (first|refine K ?_|(refine Sh.sa hS ?_;clear hS;intro w hS)|(refine K3 ?_;clear hS;intro g w hS hge)|((first|refine GS ?_ ?_|refine VB ?_ ?_)<;>intro hb<;>(try simp only [J1,J2,J3,J4,J5,J6] at hb)<;>(try (exfalso;first|omega|exact hb trivial))))
    refine Dnt Tryz.results87 ?_
    exact ⟨A1, c1, rfl, hS⟩

set_option maxHeartbeats 1000000 in
theorem sameTexts_z (l l' : List Ce) (v v' : Value) (r : World) (F : List Res) (w : World) (hS : Sep r [] F w) (hrd : Reads r F 1 v (l.map Ce.kc)) (hrd' : Reads r F 1 v' (l'.map Ce.kc)) (hl : l.length ≤ 100000) (hl' : l'.length ≤ 100000) :
    Calls Tryz.prog 49 #[v, v'] w fun e w' => e = .returned (.bool (decide (l.map Ce.key = l'.map Ce.key))) ∧ Sep r [] F w' := by
  obtain ⟨A, c, rfl, hc⟩ := (hrd [] w hS).mform
  obtain ⟨A', c', rfl, hc'⟩ := (hrd' [] w hS).mform
  refine Z.enter Tryz.func49 Tryz.ntmps49 rfl rfl ?_
  repeat' (first|refine K ?_|(refine Sh.sa hS ?_;clear hS;intro w hS)|(refine K3 ?_;clear hS;intro g w hS hge)|((first|refine GS ?_ ?_|refine VB ?_ ?_)<;>intro hb<;>(try simp only [J1,J2,J3,J4,J5,J6] at hb)<;>(try (exfalso;first|omega|exact hb trivial))))
  · refine Dnt Tryz.results49 ?_
    have : l.map Ce.key ≠ l'.map Ce.key := by intro h; have := congrArg List.length h; simp only [List.length_map] at this; omega
    exact ⟨by simp [this, Z.packR], hS⟩
  have hlen : l.length = l'.length := by omega
  refine Z.lpS [4, 5, 13, 14, 15, 16, 17, 18, 19, 20, 21, 22, 23, 24, 25] (fun m w s => ∃ q : Nat, s = [(13, .int .i64 q)] ∧ q ≤ l.length ∧ (l.map Ce.key).take q = (l'.map Ce.key).take q ∧ m = l.length - q ∧ Sep r [] F w) _ [(13, .int .i64 (0 : Nat))] (by repeat (first | exact trivial | refine ⟨rfl, ?_⟩)) ⟨0, rfl, by omega, by simp, rfl, hS⟩ ?_
  clear hS
  rintro m f0 w _ ⟨q, rfl, hq, heq, rfl, hS⟩
  by_cases hlt : q < l.length
  · have hlt' : q < l'.length := by omega
    obtain ⟨gb, o, rfl, _, _⟩ := (hrd [] w hS).mat (by omega) hlt
    obtain ⟨gb', o', rfl, _, _⟩ := (hrd' [] w hS).mat (by omega) hlt'
    have hra : ∀ W, Sep r [] F W → W.rangeAt gb (o + q * 1) l[q].kc := fun W h => (hrd [] W h).elem (by omega) hlt
    have hra' : ∀ W, Sep r [] F W → W.rangeAt gb' (o' + q * 1) l'[q].kc := fun W h => (hrd' [] W h).elem (by omega) hlt'
    repeat' (first|refine K ?_|(refine Sh.sa hS ?_;clear hS;intro w hS)|(refine K3 ?_;clear hS;intro g w hS hge)|((first|refine GS ?_ ?_|refine VB ?_ ?_)<;>intro hb<;>(try simp only [J1,J2,J3,J4,J5,J6] at hb)<;>(try (exfalso;first|omega|exact hb trivial))))
    refine D.startS hS 9 9 (by kernel_rfl) rfl ?_
    replace hS := hS.drew
    refine Sh.dp 0 1 ?_
    refine Sh.dp 1 3 ?_
    first | refine D.ixn 2 7 rfl D.wantedN (by kernel_rfl) rfl rfl rfl (by omega) ?_ | refine D.ix 2 7 rfl D.wantedN (by kernel_rfl) rfl rfl rfl (by omega) ?_ | refine D.ia 2 7 rfl D.wantedN (by kernel_rfl) rfl rfl rfl (by omega) ?_
    refine Sh.dp 4 23 ?_
    refine Sh.dp 5 55 ?_
    first | refine D.ixn 6 119 rfl D.wantedN (by kernel_rfl) rfl rfl rfl (by omega) ?_ | refine D.ix 6 119 rfl D.wantedN (by kernel_rfl) rfl rfl rfl (by omega) ?_ | refine D.ia 6 119 rfl D.wantedN (by kernel_rfl) rfl rfl rfl (by omega) ?_
    refine D.ldR 3 127 rfl D.wantedN (by kernel_rfl) rfl hra rfl ?_
    refine D.ldR 7 255 rfl D.wantedN (by kernel_rfl) rfl hra' rfl ?_
    first | refine D.pr 8 511 rfl D.wantedN (by kernel_rfl) rfl ?_ | refine D.pl 8 511 rfl D.wantedN (by kernel_rfl) (R.nea rfl rfl rfl rfl) ?_
    refine D.done (by kernel_rfl) ?_
    repeat' (first|refine K ?_|(refine Sh.sa hS ?_;clear hS;intro w hS)|(refine K3 ?_;clear hS;intro g w hS hge)|((first|refine GS ?_ ?_|refine VB ?_ ?_)<;>intro hb<;>(try simp only [J1,J2,J3,J4,J5,J6] at hb)<;>(try (exfalso;first|omega|exact hb trivial))))
    · refine Dnt Tryz.results49 ?_
      have : l.map Ce.key ≠ l'.map Ce.key := by
        intro h
        have h1 : (l.map Ce.key)[q]? = (l'.map Ce.key)[q]? := by rw [h]
        simp only [List.getElem?_map, List.getElem?_eq_getElem hlt, List.getElem?_eq_getElem hlt', Option.map_some, Option.some.injEq] at h1
        exact hb h1
      exact ⟨by simp [this, Z.packR], hS⟩
    · refine Sh.again (l.length - (q + 1)) [(13, .int .i64 (q + 1 : Nat))] ?_
      refine ⟨q + 1, rfl, by omega, ?_, rfl, hS⟩
      rw [List.take_succ_eq_append_getElem (by simpa using hlt), List.take_succ_eq_append_getElem (by simpa using hlt'), heq]
      simp [hb]
  · repeat' (first|refine K ?_|(refine Sh.sa hS ?_;clear hS;intro w hS)|(refine K3 ?_;clear hS;intro g w hS hge)|((first|refine GS ?_ ?_|refine VB ?_ ?_)<;>intro hb<;>(try simp only [J1,J2,J3,J4,J5,J6] at hb)<;>(try (exfalso;first|omega|exact hb trivial))))
    refine Dnt Tryz.results49 ?_
    have : l.map Ce.key = l'.map Ce.key := by rw [← List.take_of_length_le (l := l.map Ce.key) (i := q) (by simp; omega), ← List.take_of_length_le (l := l'.map Ce.key) (i := q) (by simp; omega), heq]
    exact ⟨by simp [this, Z.packR], hS⟩

theorem getV_some (c : Ce) : getV (some c) = .tuple #[.string c.value, .int .i64 c.seq, .bool true] := rfl
theorem getV_none : getV none = .tuple #[.string ⟨#[]⟩, .int .i64 0, .bool false] := rfl
end Go.Proofs.YtiabhlogadboeaaGreat
