import Derived.Test.YtfmnjbhncnldmaaGreatRows
import Derived.Test.YtfmnjbhncnldmaaGreatR42
set_option linter.unusedSimpArgs false
set_option linter.unusedVariables false
namespace Go.Proofs.YtfmnjbhncnldmaaGreat
open Go.RowKit Go.ChangeShapes Go.WideShapes Go.ChangeAt Go.Deep
structure St3 where
  wh : Int
  a : Int
  b : Int
def St3.cells (x : St3) : List Value := [.int .i64 x.wh, .int .i64 x.a, .int .i64 x.b]
section
variable {H : Type} {enc : TypeId × Value → H} {w : World} {base : Nat} {spare : Nat → Bool} {held : Bool}
set_option maxRecDepth 100000 in
theorem open_step {n : Nat} {cs : List Value} {y : DataW H × List MemPlace} (h : DataW.trod enc Tryz.prog w base spare held n 29 cs = some y) : ∃ x : St3, cs = x.cells := by
  obtain ⟨xs, k, _, _, hlen, hxl, hf⟩ := DataW.trod_struct Tryz.underlying29 h
  rw [show Tryz.prog.cellsOf 29 = 3 by kernel_rfl] at hlen
  match cs, hlen with
  | [c0, c1, c2], _ =>
    obtain ⟨z0, e0⟩ := field_int (cs := [c0, c1, c2]) Tryz.underlying3 Tryz.cellsI hxl (by decide) (hf 0 _ rfl)
    obtain ⟨z1, e1⟩ := field_int (cs := [c1, c2]) Tryz.underlying3 Tryz.cellsI hxl (by decide) (hf 1 _ rfl)
    obtain ⟨z2, e2⟩ := field_int (cs := [c2]) Tryz.underlying3 Tryz.cellsI hxl (by decide) (hf 2 _ rfl)
    simp at e0 e1 e2
    exact ⟨⟨z0, z1, z2⟩, by simp [St3.cells, *]⟩
set_option maxRecDepth 100000 in
theorem arg_steps {v : Value} {d : DataW H} {p : List MemPlace} {b0 : Nat} (hv : Value.okWide Tryz.prog w .any b0 22 v) (h : DataW.Trod enc Tryz.prog w base spare held 22 v d p) :
    ∃ (l : List St3) (A : Option Addr) (cap : Nat), v = .slice A l.length cap ∧ Rows' w 3 v (l.map St3.cells) := by
  obtain ⟨a0, len, cap, rfl⟩ := okWide_slice Tryz.underlying22 hv
  obtain ⟨fuel, hf⟩ := h
  obtain ⟨l, hl, hr⟩ := rows_of St3.cells Tryz.underlying22 (show Tryz.prog.cellsOf 29 = 3 by kernel_rfl) (by omega) (fun x => ⟨rfl, by simp [St3.cells, Value.oneCell']⟩) (fun n cs y h => open_step h) hf
  subst hl
  exact ⟨l, a0, cap, rfl, hr⟩
end
end Go.Proofs.YtfmnjbhncnldmaaGreat
namespace Go.Proofs.YtfmnjbhncnldmaaGreat
open Go.RowKit
attribute [local irreducible] Res.blk Res.sl Res.all Res.ex Res.pure Res.star
theorem andT {a b : Bool} (h : a = true) (k : b = true) : (a && b) = true := by rw [h, k]; rfl
theorem fact_mapsRowed : mapsRowed Tryz.prog = true := by kernel_rfl
theorem fact_plainKeys : (Rows.topKeptRow.plainKeys == Tryz.prog.plainKeys) = true := by kernel_rfl
theorem fact_stopsHeard : Tryz.prog.stopsHeard = true := by kernel_rfl
theorem fact_stops : (Tryz.prog.stops == []) = true := by kernel_rfl
theorem fact_knobs : (Tryz.prog.stopKnobs == []) = true := by kernel_rfl
theorem fact_mayEnter : Tryz.prog.mayEnter = true := by kernel_rfl
theorem fact_lifted : (Rows.topKeptRow.lifted == Tryz.prog.liftsFinal) = true := by kernel_rfl
theorem fact_make : (Tryz.prog.make == some Rows.topKeptRow.make) = true := by kernel_rfl
end Go.Proofs.YtfmnjbhncnldmaaGreat
