/-
  What the statements about gates call: acts that are made, calls of both gates, the sanity check.
-/
import Derived.Test.YtiabhlogadboeaaGreatGA
namespace Go.Proofs.YtiabhlogadboeaaGreat
open Go.RowKit
set_option linter.unusedSimpArgs false
set_option linter.unusedVariables false
attribute [local irreducible] Res.blk Res.sl Res.all Res.ex Res.pure Res.star

theorem mod_y (v n : Int) (r : World) (F : List Res) (w : World) (hS : Sep r [] F w) (hn : 1 ≤ n) (hm : n ≤ 1000000) :
    Calls Tryz.prog 9 #[.int .i64 v, .int .i64 n] w fun e w' => e = .returned (.int .i64 (modN v n)) ∧ Sep r [] F w' := (mod_any v n w hn hm).mono fun _ _ ⟨h1, h2⟩ => ⟨h1, h2 ▸ hS⟩
theorem light_y (A : Option Addr) (n c : Nat) (w : World) : Calls Tryz.prog 8 #[.slice A n c] w fun e w' => e = .returned (.bool (decide ((n : Int) ≤ 150))) ∧ Chg [] w w' := by
  have hS := Sep.root w
  refine Z.enter Tryz.func8 Tryz.ntmps8 rfl rfl ?_
  repeat' (first|refine K ?_|(refine Sh.sa hS ?_;clear hS;intro w hS)|(refine K3 ?_;clear hS;intro g w hS hge)|((first|refine GS ?_ ?_|refine VB ?_ ?_)<;>intro hb<;>(try simp only [J1,J2,J3,J4,J5,J6] at hb)<;>(try (exfalso;first|omega|exact hb trivial))))
  refine Dnt Tryz.results8 ?_
  exact ⟨rfl, Chg.refl _ _⟩
def closeP (G : Ga) (n : Int) : Ga × Int := if 1 ≤ n ∧ n ≤ 1048576 then (⟨G.cell, max G.closed n, G.ws.filter fun x => !decide (x.epoch ≤ max G.closed n)⟩, 0) else (G, 1)
def closeR (G : Ga) (n : Int) : Ga × Int := if 1 ≤ n ∧ n ≤ 1048576 then (⟨G.cell, max G.closed n, G.ws⟩, 0) else (G, 1)
theorem gclose_f (gg : Nat) (G : Ga) (n : Int) (r : World) (F : List Res) (w : World) (hS : Sep r [] (GP gg G :: F) w) (hl : G.ws.length ≤ 100000) : Calls Tryz.prog 40 #[.pointer (some ⟨gg, 0, none⟩), .int .i64 n] w fun e w' => e = .returned (.int .i64 (closeP G n).2) ∧ Sep r [] (GP gg (closeP G n).1 :: F) w' :=
  (gclose_z gg G n r F w hS hl).mono fun e w' h => by
    unfold closeP
    rcases h with ⟨h, h1, h2⟩ | ⟨h, h1, h2⟩
    · rw [if_neg h]; exact ⟨h1, h2⟩
    · rw [if_pos h]; exact ⟨h1, h2⟩
theorem rclose_f (gg : Nat) (G : Ga) (n : Int) (r : World) (F : List Res) (w : World) (hS : Sep r [] (GR gg G :: F) w) : Calls Tryz.prog 44 #[.pointer (some ⟨gg, 0, none⟩), .int .i64 n] w fun e w' => e = .returned (.int .i64 (closeR G n).2) ∧ Sep r [] (GR gg (closeR G n).1 :: F) w' :=
  (rclose_z gg G n r F w hS).mono fun e w' h => by
    unfold closeR
    rcases h with ⟨h, h1, h2⟩ | ⟨h, h1, h2⟩
    · rw [if_neg h]; exact ⟨h1, h2⟩
    · rw [if_pos h]; exact ⟨h1, h2⟩
theorem Rel.close' {P R : Ga} (h : Rel P R) (n : Int) : Rel (closeP P n).1 (closeR R n).1 ∧ (closeP P n).2 = (closeR R n).2 ∧ (closeP P n).1.ws.length ≤ P.ws.length ∧ (closeR R n).1.ws.length = R.ws.length := by
  unfold closeP closeR
  split
  · exact ⟨h.close n, rfl, List.length_filter_le _ _, rfl⟩
  · exact ⟨h, rfl, Nat.le_refl _, rfl⟩

/-- An act. -/
structure Ac where
  kind : Int
  n : Int
  w : Wi
def Ac.cells (a : Ac) : List Value := [.int .i64 a.kind, .int .i64 a.n, .int .i64 a.w.cell, .int .i64 a.w.epoch, .int .i64 a.w.version, .int .i64 a.w.from_, .int .i64 a.w.until_]
def Ac.val (a : Ac) : Value := .agg a.cells.toArray
theorem ac_ok {l : List Ac} : ∀ row, row ∈ l.map Ac.cells → row.length = 7 ∧ ∀ u, u ∈ row → u.oneCell' = true := by
  intro row hr
  obtain ⟨x, _, rfl⟩ := List.mem_map.1 hr
  exact ⟨rfl, by simp [Ac.cells, Value.oneCell']⟩
def small (x : Wi) : Prop := 1 ≤ x.epoch ∧ x.epoch ≤ 5 ∧ 0 ≤ x.version ∧ x.version ≤ 1 ∧ 0 ≤ x.from_ ∧ x.from_ < 30 ∧ x.from_ < x.until_ ∧ x.until_ ≤ 44


/-- What an act makes of a gate. -/
def doP (P : Ga) (a : Ac) : Ga := if modN a.kind 8 = 4 then (closeP P a.n).1 else if modN a.kind 8 = 5 then ⟨P.cell, P.closed, P.ws.filter fun x => !decide (x.until_ ≤ a.n)⟩ else if modN a.kind 8 = 6 then ⟨P.cell, P.closed, []⟩ else if modN a.kind 8 = 7 then P else (giveP P a.w).1
theorem giveR_len (G : Ga) (x : Wi) : (giveR G x).1.ws.length ≤ G.ws.length + 1 := by
  unfold giveR
  repeat' split
  all_goals simp
theorem giveP_len (G : Ga) (x : Wi) : (giveP G x).1.ws.length ≤ G.ws.length + 1 := by
  have := insW_len x G.ws
  unfold giveP
  repeat' split
  all_goals simp
  exact this
end Go.Proofs.YtiabhlogadboeaaGreat
