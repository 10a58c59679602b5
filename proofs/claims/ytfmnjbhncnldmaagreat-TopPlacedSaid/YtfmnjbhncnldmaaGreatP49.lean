import Derived.ChangeSame
import Derived.JoinedOf
import Derived.JoinedAt
import Derived.Carry
import Derived.ReadAgain
import Derived.RowKit3
import Derived.Laws.IdiomElems
import Derived.Laws.IdiomAt
import Derived.RowKit2
import Derived.ChangeSlices
import Derived.Deep.Slices
import Derived.Test.YtfmnjbhncnldmaaGreatRows
import Derived.Test.YtfmnjbhncnldmaaGreatP00
import Derived.Test.YtfmnjbhncnldmaaGreatP01
import Derived.Test.YtfmnjbhncnldmaaGreatP36
import Derived.Test.YtfmnjbhncnldmaaGreatP48
set_option linter.unusedSimpArgs false
set_option linter.unusedVariables false
namespace Go.Proofs.YtfmnjbhncnldmaaGreat
open Go.RowKit Go.ChangeShapes Go.WideShapes Go.ChangeAt
theorem Tryz.own : ownKnob Tryz.prog.godebug = none := by kernel_rfl
theorem Tryz.laidOut : laidOutB Tryz.prog = true := by kernel_rfl
section
variable {H : Type} {enc : TypeId × Value → H} {P : Program}
theorem trodAll_stays (hl : laidOutB P = true) {W W' : World} {sp : Nat → Bool} (hb : Below W.heap.size W W') :
    ∀ {ts : List TypeId} {vs : List Value} {ds : List (DataW H)} {ps : List MemPlace}, (∀ t ∈ ts, P.readableRec t = true ∧ t < P.types.size) → (∀ x ∈ ps, x.block < W.heap.size) → (∀ x ∈ ps, sp x.block = true) →
      DataW.TrodAll enc P W 0 (fun _ => true) true ts vs ds ps → DataW.TrodAll enc P W' 0 sp true ts vs ds ps := by
  intro ts
  induction ts with
  | nil => intro vs ds ps _ _ _ h; cases vs <;> cases ds <;> first | exact h | exact h.elim
  | cons t ts ih =>
    intro vs ds ps hts hlt hsp h
    cases vs with
    | nil => exact h.elim
    | cons v vs =>
      cases ds with
      | nil => exact h.elim
      | cons d ds =>
        obtain ⟨p, q, h1, h2, rfl⟩ := h
        have hlp : ∀ x ∈ p, x.block < W.heap.size := fun x hx => hlt x (List.mem_append_left _ hx)
        refine ⟨p, q, WideElems.Trod_stays hl (hts t (by simp)).1 (hts t (by simp)).2 h1 (fun x hx => hb.same (hlp x hx)) (fun x hx => hsp x (List.mem_append_left _ hx)),
          ih (fun t ht => hts t (by simp [ht])) (fun x hx => hlt x (List.mem_append_right _ hx)) (fun x hx => hsp x (List.mem_append_right _ hx)) h2, rfl⟩
theorem law_post {f : Func} {s : ChangeSpec} {W W' : World} {args : Array Value} {ds gs : List (DataW H)} {before : List MemPlace} {tb : TypeId} (hl : laidOutB P = true) (hts : ∀ t ∈ f.params.toList, P.readableRec t = true ∧ t < P.types.size)
    (hv : s.vars = []) (hr : f.resultTypes = #[tb]) (hu : P.underlying tb = some .bool) (hfn : s.fn H ds = { results := [.lit (.bool true)], args := ds })
    (hW : DataW.Whole enc P f.params.toList s.vars false W args.toList ds gs before) (hb : Below W.heap.size W W') {fresh handsOn again : Bool} :
    s.post enc P f false fresh handsOn again W args (.bool true) W' := by
  have hlt : ∀ p ∈ before, p.block < W.heap.size := fun p hp => hW.lt p hp
  obtain ⟨pa, pv, hA, hV, hps, hz, hn⟩ := id hW
  rw [hv] at hV
  obtain ⟨rfl, rfl⟩ := trodVars_none hV
  simp only [List.append_nil] at hps
  subst hps
  have hold : ∀ p ∈ before, (fun b => decide (b < W.heap.size)) p.block = true := fun p hp => by simpa using hlt p hp
  have hfn' : s.fn H (ds ++ []) = { results := [.lit (.bool true)], args := ds } := by rw [List.append_nil]; exact hfn
  have hres : ∀ (b : Nat) (sp : Nat → Bool) (hd : Bool), DataW.TrodAll enc P W' b sp hd f.resultTypes.toList ((Value.bool true).resultList f.resultTypes.size) [.lit (.bool true)] [] := by
    intro b sp hd
    rw [hr]
    exact ⟨[], [], shut_bool hu true, rfl, rfl⟩
  refine ⟨ds, [], before, [], before, [], hW, ?_, ?_, ?_, World.keptBut_mono (fun p hp => ⟨hp, .inr (.inl hp)⟩) (hb.frame (· ∈ before)), fun _ => ⟨?_, .lit (.bool true) :: ds, [], before, ⟨before, [], ?_, ?_, by simp, ?_, ?_⟩, fun p hp _ => hp⟩⟩
  · rw [hfn']; exact hres _ _ _
  · rw [hfn']; exact trodAll_stays hl hb hts hlt hold hA
  · rw [hfn', hv]; rfl
  · intro j t r hj hr'
    rw [hr] at hj hr'
    match j with
    | 0 => simp at hj; subst hj; simp [Value.resultList] at hr'; subst hr'; exact okWide_bool_mk hu true
    | j + 1 => simp at hj
  · rw [hr]
    exact ⟨[], before, shut_bool hu true, trodAll_stays hl hb hts hlt (fun _ _ => rfl) hA, rfl⟩
  · rw [hv]; rfl
  · intro b off hp
    rw [hb.frozen (hlt _ hp)]
    exact hz b off hp
  · intro ha; cases ha
end
end Go.Proofs.YtfmnjbhncnldmaaGreat
namespace Go.Proofs.YtfmnjbhncnldmaaGreat
open Go.RowKit Go.ChangeShapes Go.WideShapes Go.ChangeAt Go.Deep
section
variable {H : Type} {enc : TypeId × Value → H} {P : Program} {w : World} {base : Nat} {spare : Nat → Bool} {held : Bool}
theorem rows_of {α : Type} (f : α → List Value) {t e : TypeId} {fuel sz : Nat} {A : Option Addr} {len cap : Nat} {x : DataW H × List MemPlace} (ht : P.underlying t = some (.slice e)) (hsz : P.cellsOf e = sz) (h0 : 0 < sz)
    (hf : ∀ x, (f x).length = sz ∧ ∀ u, u ∈ f x → u.oneCell' = true) (hel : ∀ n cs y, DataW.trod enc P w base spare held n e cs = some y → ∃ x, cs = f x)
    (h : DataW.trod enc P w base spare held fuel t (Value.slice A len cap).cells.toList = some x) : ∃ l : List α, l.length = len ∧ Rows' w sz (.slice A len cap) (l.map f) := by
  rcases open_slice ht h with ⟨hcs, _⟩ | ⟨a, len', cap', m, n, D, Pl, hcs, _, hl, hm, hmm, _, hi⟩
  · simp [Value.cells] at hcs
    obtain ⟨rfl, rfl, rfl⟩ := hcs
    exact ⟨[], rfl, by simp, none, 0, rfl, fun _ => rfl, Nat.le_refl _, by simp, by simp⟩
  · simp [Value.cells] at hcs
    obtain ⟨rfl, rfl, rfl⟩ := hcs
    have hlm : len ≤ m := by rw [hmm]; split <;> omega
    have key : ∀ i : Fin len, ∃ x : α, ∀ j, j < sz → w.cell? (a.add (i.val * sz + j)) = (f x)[j]? := by
      intro i
      obtain ⟨cs', hc, ht'⟩ := hi i.val (by omega)
      obtain ⟨x, rfl⟩ := hel _ _ _ ht'
      obtain ⟨_, hcl, hat⟩ := World.cells?_some hc
      rw [hsz] at hat
      exact ⟨x, fun j hj => by rw [← add_add', hat j hj]⟩
    obtain ⟨g, hg⟩ := Classical.axiomOfChoice key
    have hrow : ∀ row, row ∈ (List.ofFn g).map f → row.length = sz := fun row hr => by
      obtain ⟨x, _, rfl⟩ := List.mem_map.1 hr
      exact (hf x).1
    refine ⟨List.ofFn g, by simp, fun row hr => ?_, some a, cap, by simp, by simp, by simpa using hl, by rw [flatten_length hrow], fun hpos => ⟨a, rfl, fun j u hu => ?_⟩⟩
    · obtain ⟨x, _, rfl⟩ := List.mem_map.1 hr
      exact hf x
    · have hj : j < len * sz := by
        have := (List.getElem?_eq_some_iff.1 hu).1
        rw [flatten_length hrow] at this
        simpa using this
      have hq : j / sz < len := (Nat.div_lt_iff_lt_mul h0).2 hj
      have hr : j % sz < sz := Nat.mod_lt _ h0
      have he : j / sz * sz + j % sz = j := Nat.div_add_mod' j sz
      have := flatten_at hrow (q := j / sz) (by simpa using hq) hr
      rw [he, hu] at this
      have h2 := hg ⟨j / sz, hq⟩ _ hr
      simp only [he] at h2
      rw [h2, this]
      simp
theorem field_int {t : TypeId} {cs : List Value} {xs : List (DataW H × List MemPlace)} {i k n : Nat} (ht : P.underlying t = some (.int .i64)) (h1 : P.cellsOf t = 1) (hl : xs.length = n) (hi : i < n)
    (h : DataW.trod enc P w base spare held k t (cs.take (P.cellsOf t)) = xs[i]?) : ∃ z, cs.take 1 = [.int .i64 z] := by
  rw [h1, List.getElem?_eq_getElem (by omega)] at h
  obtain ⟨z, hz, _⟩ := DataW.trod_int ht h
  exact ⟨z, hz⟩
theorem field_str {t : TypeId} {cs : List Value} {xs : List (DataW H × List MemPlace)} {i k n : Nat} (ht : P.underlying t = some .string) (h1 : P.cellsOf t = 1) (hl : xs.length = n) (hi : i < n)
    (h : DataW.trod enc P w base spare held k t (cs.take (P.cellsOf t)) = xs[i]?) : ∃ z, cs.take 1 = [.string z] := by
  rw [h1, List.getElem?_eq_getElem (by omega)] at h
  obtain ⟨z, hz, _⟩ := DataW.trod_string ht h
  exact ⟨z, hz⟩
end
theorem Tryz.cellsI : Tryz.prog.cellsOf 3 = 1 := by kernel_rfl
theorem Tryz.cellsS : Tryz.prog.cellsOf 9 = 1 := by kernel_rfl
theorem rd_ints {W : World} {a : Addr} {len : Nat} {zs : List Int} (hz : len ≤ zs.length) (hc : ∀ j, j < zs.length → W.cell? (a.add j) = some (.int .i64 (zs.getD j 0))) : Rd W 1 (some a) (zs.take len).length ((zs.take len).map (Value.int .i64)) := by
  refine ⟨by simp, fun _ => ⟨a, rfl, fun j u hu => ?_⟩⟩
  rw [List.getElem?_map, List.getElem?_take] at hu
  split at hu
  · rename_i hj
    rw [List.getElem?_eq_getElem (by omega)] at hu
    simp at hu
    rw [hc j (by omega), ← hu]
    simp [List.getD, List.getElem?_eq_getElem (show j < zs.length by omega)]
  · simp at hu
section
variable {H : Type} {enc : TypeId × Value → H} {w : World} {base : Nat} {spare : Nat → Bool} {held : Bool}
set_option maxRecDepth 100000 in
set_option maxRecDepth 100000 in
set_option maxRecDepth 100000 in
theorem arg_ints {v : Value} {d : DataW H} {p : List MemPlace} {b0 : Nat} (hv : Value.okWide Tryz.prog w .any b0 48 v) (h : DataW.Trod enc Tryz.prog w base (fun _ => true) held 48 v d p) :
    ∃ (l : List Int) (A : Option Addr) (cap : Nat), v = .slice A l.length cap ∧ Rd w 1 A l.length (l.map (Value.int .i64)) := by
  obtain ⟨a0, len, cap, rfl⟩ := okWide_slice Tryz.underlying48 hv
  obtain ⟨fuel, hf⟩ := h
  rcases open_ints Tryz.underlying48 Tryz.underlying3 Tryz.cellsI hf with ⟨hcs, hx⟩ | ⟨a, len', cap', zs, hcs, _, hl, hm, hz, hx, hcell, hwz⟩
  · simp [Value.cells] at hcs
    obtain ⟨rfl, rfl, rfl⟩ := hcs
    exact ⟨[], none, 0, rfl, Rd.zero _ _ _⟩
  · simp [Value.cells] at hcs
    obtain ⟨rfl, rfl, rfl⟩ := hcs
    simp only [if_true] at hz
    have hlt : (zs.take len).length = len := by simp; omega
    exact ⟨zs.take len, some a, cap, by rw [hlt], rd_ints (by omega) hcell⟩
set_option maxRecDepth 100000 in
theorem open_change {n : Nat} {cs : List Value} {y : DataW H × List MemPlace} (h : DataW.trod enc Tryz.prog w base spare held n 149 cs = some y) : ∃ x : Ch, cs = x.cells := by
  obtain ⟨xs, k, _, _, hlen, hxl, hf⟩ := DataW.trod_struct Tryz.underlying149 h
  rw [show Tryz.prog.cellsOf 149 = 8 by kernel_rfl] at hlen
  match cs, hlen with
  | [c0, c1, c2, c3, c4, c5, c6, c7], _ =>
    obtain ⟨z0, e0⟩ := field_int (cs := [c0, c1, c2, c3, c4, c5, c6, c7]) Tryz.underlying3 Tryz.cellsI hxl (by decide) (hf 0 _ rfl)
    obtain ⟨z1, e1⟩ := field_int (cs := [c1, c2, c3, c4, c5, c6, c7]) Tryz.underlying3 Tryz.cellsI hxl (by decide) (hf 1 _ rfl)
    obtain ⟨z2, e2⟩ := field_int (cs := [c2, c3, c4, c5, c6, c7]) Tryz.underlying3 Tryz.cellsI hxl (by decide) (hf 2 _ rfl)
    obtain ⟨z3, e3⟩ := field_int (cs := [c3, c4, c5, c6, c7]) Tryz.underlying3 Tryz.cellsI hxl (by decide) (hf 3 _ rfl)
    obtain ⟨z4, e4⟩ := field_int (cs := [c4, c5, c6, c7]) Tryz.underlying3 Tryz.cellsI hxl (by decide) (hf 4 _ rfl)
    obtain ⟨z5, e5⟩ := field_int (cs := [c5, c6, c7]) Tryz.underlying3 Tryz.cellsI hxl (by decide) (hf 5 _ rfl)
    obtain ⟨z6, e6⟩ := field_str (cs := [c6, c7]) Tryz.underlying9 Tryz.cellsS hxl (by decide) (hf 6 _ rfl)
    obtain ⟨z7, e7⟩ := field_str (cs := [c7]) Tryz.underlying9 Tryz.cellsS hxl (by decide) (hf 7 _ rfl)
    simp at e0 e1 e2 e3 e4 e5 e6 e7
    exact ⟨⟨z0, z1, z2, z3, z4, z5, z6, z7⟩, by simp [Ch.cells, *]⟩
set_option maxRecDepth 100000 in
set_option maxRecDepth 100000 in
theorem arg_changes {v : Value} {d : DataW H} {p : List MemPlace} {b0 : Nat} (hv : Value.okWide Tryz.prog w .any b0 129 v) (h : DataW.Trod enc Tryz.prog w base spare held 129 v d p) :
    ∃ (l : List Ch) (A : Option Addr) (cap : Nat), v = .slice A l.length cap ∧ Rows' w 8 v (l.map Ch.cells) := by
  obtain ⟨a0, len, cap, rfl⟩ := okWide_slice Tryz.underlying129 hv
  obtain ⟨fuel, hf⟩ := h
  obtain ⟨l, hl, hr⟩ := rows_of Ch.cells Tryz.underlying129 (show Tryz.prog.cellsOf 149 = 8 by kernel_rfl) (by omega) (fun x => ⟨rfl, by simp [Ch.cells, Value.oneCell']⟩) (fun n cs y h => open_change h) hf
  subst hl
  exact ⟨l, a0, cap, rfl, hr⟩
end
end Go.Proofs.YtfmnjbhncnldmaaGreat
namespace Go.Proofs.YtfmnjbhncnldmaaGreat
open Go.RowKit Go.ChangeShapes Go.WideShapes Go.ChangeAt Go.Deep
structure St3 where
  wh : Int
  a : Int
  b : Int
def St3.cells (x : St3) : List Value := [.int .i64 x.wh, .int .i64 x.a, .int .i64 x.b]
section
variable {H : Type} {enc : TypeId × Value → H} {w : World} {base : Nat} {spare : Nat → Bool} {held : Bool}
set_option maxRecDepth 100000 in
theorem open_step {n : Nat} {cs : List Value} {y : DataW H × List MemPlace} (h : DataW.trod enc Tryz.prog w base spare held n 29 cs = some y) : ∃ x : St3, cs = x.cells := by
  obtain ⟨xs, k, _, _, hlen, hxl, hf⟩ := DataW.trod_struct Tryz.underlying29 h
  rw [show Tryz.prog.cellsOf 29 = 3 by kernel_rfl] at hlen
  match cs, hlen with
  | [c0, c1, c2], _ =>
    obtain ⟨z0, e0⟩ := field_int (cs := [c0, c1, c2]) Tryz.underlying3 Tryz.cellsI hxl (by decide) (hf 0 _ rfl)
    obtain ⟨z1, e1⟩ := field_int (cs := [c1, c2]) Tryz.underlying3 Tryz.cellsI hxl (by decide) (hf 1 _ rfl)
    obtain ⟨z2, e2⟩ := field_int (cs := [c2]) Tryz.underlying3 Tryz.cellsI hxl (by decide) (hf 2 _ rfl)
    simp at e0 e1 e2
    exact ⟨⟨z0, z1, z2⟩, by simp [St3.cells, *]⟩
set_option maxRecDepth 100000 in
theorem arg_steps {v : Value} {d : DataW H} {p : List MemPlace} {b0 : Nat} (hv : Value.okWide Tryz.prog w .any b0 22 v) (h : DataW.Trod enc Tryz.prog w base spare held 22 v d p) :
    ∃ (l : List St3) (A : Option Addr) (cap : Nat), v = .slice A l.length cap ∧ Rows' w 3 v (l.map St3.cells) := by
  obtain ⟨a0, len, cap, rfl⟩ := okWide_slice Tryz.underlying22 hv
  obtain ⟨fuel, hf⟩ := h
  obtain ⟨l, hl, hr⟩ := rows_of St3.cells Tryz.underlying22 (show Tryz.prog.cellsOf 29 = 3 by kernel_rfl) (by omega) (fun x => ⟨rfl, by simp [St3.cells, Value.oneCell']⟩) (fun n cs y h => open_step h) hf
  subst hl
  exact ⟨l, a0, cap, rfl, hr⟩
end
end Go.Proofs.YtfmnjbhncnldmaaGreat
namespace Go.Proofs.YtfmnjbhncnldmaaGreat
open Go.RowKit
attribute [local irreducible] Res.blk Res.sl Res.all Res.ex Res.pure Res.star
theorem andT {a b : Bool} (h : a = true) (k : b = true) : (a && b) = true := by rw [h, k]; rfl
theorem fact_mapsRowed : mapsRowed Tryz.prog = true := by kernel_rfl
theorem fact_plainKeys : (Rows.topKeptRow.plainKeys == Tryz.prog.plainKeys) = true := by kernel_rfl
theorem fact_stopsHeard : Tryz.prog.stopsHeard = true := by kernel_rfl
theorem fact_stops : (Tryz.prog.stops == []) = true := by kernel_rfl
theorem fact_knobs : (Tryz.prog.stopKnobs == []) = true := by kernel_rfl
theorem fact_mayEnter : Tryz.prog.mayEnter = true := by kernel_rfl
theorem fact_lifted : (Rows.topKeptRow.lifted == Tryz.prog.liftsFinal) = true := by kernel_rfl
theorem fact_make : (Tryz.prog.make == some Rows.topKeptRow.make) = true := by kernel_rfl
def Shp.val (m : Shp) (v : Value) : Value := .agg #[.int .i64 m.ep, .int .i64 m.seq, .int .i64 m.before, v]
end Go.Proofs.YtfmnjbhncnldmaaGreat
namespace Go.Proofs.YtfmnjbhncnldmaaGreat
open Go.RowKit Go.ChangeShapes Go.WideShapes Go.ChangeAt Go.Deep
structure ShV where
  m : Shp
  A : Option Addr
  c : Nat
def ShV.v (x : ShV) : Value := .slice x.A x.m.ch.length x.c
def ShV.cells (x : ShV) : List Value := [.int .i64 x.m.ep, .int .i64 x.m.seq, .int .i64 x.m.before, x.v]
theorem ShV.one (x : ShV) : x.cells.length = 4 ∧ ∀ u, u ∈ x.cells → u.oneCell' = true := ⟨rfl, by simp [ShV.cells, ShV.v, Value.oneCell']⟩
section
variable {H : Type} {enc : TypeId × Value → H} {w : World} {base : Nat} {spare : Nat → Bool} {held : Bool}
set_option maxRecDepth 100000 in
theorem open_changes {n : Nat} {cs : List Value} {y : DataW H × List MemPlace} (h : DataW.trod enc Tryz.prog w base spare held n 129 cs = some y) :
    ∃ (l : List Ch) (A : Option Addr) (cap : Nat), cs = [.slice A l.length cap] ∧ Rows' w 8 (.slice A l.length cap) (l.map Ch.cells) := by
  have key : ∃ (a0 : Option Addr) (len cap : Nat), cs = [.slice a0 len cap] := by
    rcases open_slice Tryz.underlying129 h with ⟨hcs, _⟩ | ⟨a, len', cap', m, n, D, Pl, hcs, _⟩
    · exact ⟨_, _, _, hcs⟩
    · exact ⟨_, _, _, hcs⟩
  obtain ⟨a0, len, cap, rfl⟩ := key
  obtain ⟨l, hl, hr⟩ := rows_of Ch.cells Tryz.underlying129 (show Tryz.prog.cellsOf 149 = 8 by kernel_rfl) (by omega) (fun x => ⟨rfl, by simp [Ch.cells, Value.oneCell']⟩) (fun n cs y h => open_change h) h
  subst hl
  exact ⟨l, a0, cap, rfl, hr⟩
theorem field_changes {cs : List Value} {xs : List (DataW H × List MemPlace)} {i k n : Nat} (hl : xs.length = n) (hi : i < n)
    (h : DataW.trod enc Tryz.prog w base spare held k 129 (cs.take (Tryz.prog.cellsOf 129)) = xs[i]?) : ∃ (l : List Ch) (A : Option Addr) (cap : Nat), cs.take 1 = [.slice A l.length cap] ∧ Rows' w 8 (.slice A l.length cap) (l.map Ch.cells) := by
  rw [show Tryz.prog.cellsOf 129 = 1 by kernel_rfl, List.getElem?_eq_getElem (by omega)] at h
  exact open_changes h
set_option maxRecDepth 100000 in
theorem open_ship {n : Nat} {cs : List Value} {y : DataW H × List MemPlace} (h : DataW.trod enc Tryz.prog w base spare held n 131 cs = some y) :
    ∃ x : ShV, cs = x.cells ∧ Rows' w 8 x.v (x.m.ch.map Ch.cells) := by
  obtain ⟨xs, k, _, _, hlen, hxl, hf⟩ := DataW.trod_struct Tryz.underlying131 h
  rw [show Tryz.prog.cellsOf 131 = 4 by kernel_rfl] at hlen
  match cs, hlen with
  | [c0, c1, c2, c3], _ =>
    obtain ⟨z0, e0⟩ := field_int (cs := [c0, c1, c2, c3]) Tryz.underlying3 Tryz.cellsI hxl (by decide) (hf 0 _ rfl)
    obtain ⟨z1, e1⟩ := field_int (cs := [c1, c2, c3]) Tryz.underlying3 Tryz.cellsI hxl (by decide) (hf 1 _ rfl)
    obtain ⟨z2, e2⟩ := field_int (cs := [c2, c3]) Tryz.underlying3 Tryz.cellsI hxl (by decide) (hf 2 _ rfl)
    obtain ⟨l, A, cap, e3, hr⟩ := field_changes (cs := [c3]) hxl (by decide) (hf 3 _ rfl)
    simp at e0 e1 e2 e3
    exact ⟨⟨⟨z0, z1, z2, l⟩, A, cap⟩, by simp [ShV.cells, ShV.v, *], hr⟩
set_option maxRecDepth 100000 in
theorem arg_intsr {v : Value} {d : DataW H} {p : List MemPlace} {b0 : Nat} (hv : Value.okWide Tryz.prog w .any b0 48 v) (h : DataW.Trod enc Tryz.prog w base (fun _ => true) held 48 v d p) :
    ∃ (l : List Int) (A : Option Addr) (cap : Nat), v = .slice A l.length cap ∧ Rd w 1 A l.length (l.map (Value.int .i64)) ∧ Rows' w 1 v (l.map intC) := by
  obtain ⟨a0, len, cap, rfl⟩ := okWide_slice Tryz.underlying48 hv
  obtain ⟨fuel, hf⟩ := h
  rcases open_ints Tryz.underlying48 Tryz.underlying3 Tryz.cellsI hf with ⟨hcs, hx⟩ | ⟨a, len', cap', zs, hcs, _, hl, hm, hz, hx, hcell, hwz⟩
  · simp [Value.cells] at hcs
    obtain ⟨rfl, rfl, rfl⟩ := hcs
    exact ⟨[], none, 0, rfl, Rd.zero _ _ _, rows_ints (l := []) (fun _ => rfl) (by simp) (Rd.zero _ _ _)⟩
  · simp [Value.cells] at hcs
    obtain ⟨rfl, rfl, rfl⟩ := hcs
    simp only [if_true] at hz
    have hlt : (zs.take len).length = len := by simp; omega
    have hr := rd_ints (W := w) (a := a) (len := len) (zs := zs) (by omega) hcell
    refine ⟨zs.take len, some a, cap, by rw [hlt], hr, ?_⟩
    have h2 := rows_ints (c := cap) (fun h => by cases h) (by rw [hlt]; omega) hr
    rw [hlt] at h2
    exact h2
set_option maxRecDepth 100000 in
set_option maxRecDepth 100000 in
theorem arg_ships {v : Value} {d : DataW H} {p : List MemPlace} {b0 : Nat} (hv : Value.okWide Tryz.prog w .any b0 135 v) (h : DataW.Trod enc Tryz.prog w base spare held 135 v d p) :
    ∃ (l : List ShV) (A : Option Addr) (cap : Nat), v = .slice A l.length cap ∧ Rows' w 4 v (l.map ShV.cells) ∧ ∀ x, x ∈ l → Rows' w 8 x.v (x.m.ch.map Ch.cells) := by
  obtain ⟨a0, len, cap, rfl⟩ := okWide_slice Tryz.underlying135 hv
  obtain ⟨fuel, hf⟩ := h
  obtain ⟨l, hl, hr⟩ := rows_of (fun x : {x : ShV // Rows' w 8 x.v (x.m.ch.map Ch.cells)} => x.1.cells) Tryz.underlying135 (show Tryz.prog.cellsOf 131 = 4 by kernel_rfl) (by omega) (fun x => x.1.one)
    (fun n cs y h => by obtain ⟨x, hx, hr⟩ := open_ship h; exact ⟨⟨x, hr⟩, hx⟩) hf
  subst hl
  refine ⟨l.map Subtype.val, a0, cap, by simp, ?_, fun x hx => ?_⟩
  · rw [List.map_map]
    exact hr
  · obtain ⟨y, _, rfl⟩ := List.mem_map.1 hx
    exact y.2
end
end Go.Proofs.YtfmnjbhncnldmaaGreat
namespace Go.Proofs.YtfmnjbhncnldmaaGreat
open Go.RowKit
attribute [local irreducible] Res.blk Res.sl Res.all Res.ex Res.pure Res.star
open Go.ChangeShapes Go.WideShapes Go.ChangeAt
set_option maxRecDepth 100000 in
theorem topPlaced_lifted (os : Os) (started : os.Started) (H : Type) (enc : TypeId × Value → H) :
    ReturnsInHanded {} Tryz.checked os 6 .any (Rows.topPlacedSpec.pre6 enc Tryz.prog Tryz.f6 Rows.topPlacedRow.domain false) (Rows.topPlacedSpec.post enc Tryz.prog Tryz.f6 false Rows.topPlacedRow.fresh Rows.topPlacedRow.handsOn Rows.topPlacedRow.again) := by
  refine returnsInHanded_of_change (C := Tryz.checked) Tryz.own started (by kernel_rfl) Tryz.func6
    (ChangeSpec.witness6 (enc := enc) (C := Tryz.checked) false ⟨#[], #[.slice none 0 0, .slice none 0 0], []⟩ 8 (by kernel_rfl) (by kernel_rfl) (by kernel_rfl) (by kernel_rfl)) ?_
  intro W base args ds gs before hval0 hW _ _
  have hval : ∀ (j : Nat) t v, Tryz.f6.params[j]? = some t → args[j]? = some v → Value.okWide Tryz.prog W .any base t v := hval0
  have hW0 := hW
  obtain ⟨p, q, hA0, hV, hpq, _, _⟩ := hW
  obtain ⟨la⟩ := args
  have hA : DataW.TrodAll enc Tryz.prog W 0 (fun _ => true) true [48, 48] la ds p := by have := hA0; rw [Tryz.params6] at this; exact this
  rw [Tryz.params6] at hval
  obtain ⟨v0, la0, d0, ds0, p0, q0, rfl, rfl, rfl, h0, hA⟩ := trodAll_cons hA
  obtain ⟨v1, la1, d1, ds1, p1, q1, rfl, rfl, rfl, h1, hA⟩ := trodAll_cons hA
  obtain ⟨rfl, rfl, rfl⟩ := trodAll_nil hA
  obtain ⟨l0, A0, cap0, rfl, _, hr0⟩ := arg_intsr (hval 0 _ _ rfl rfl) h0
  obtain ⟨l1, A1, cap1, rfl, _, hr1⟩ := arg_intsr (hval 1 _ _ rfl rfl) h1
  have fin : Calls Tryz.prog 6 _ W fun e W' => e = .returned (.bool true) ∧ Chg [] W W' := topPlaced_z l0 A0 cap0 l1 A1 cap1 W hr0 hr1
  refine fin.mono fun e W' ⟨he, hc⟩ => ⟨_, he, ?_⟩
  exact law_post Tryz.laidOut (by rw [Tryz.params6]; intro t ht; simp only [List.mem_cons, List.not_mem_nil, or_false] at ht; rcases ht with rfl | rfl <;> exact ⟨by kernel_rfl, of_decide_eq_true (by kernel_rfl)⟩) rfl rfl Tryz.underlying4 rfl hW0 hc.below
theorem topPlaced_f0 : Tryz.prog.funcNamed Rows.topPlacedRow.func = some 6 := by kernel_rfl
theorem topPlaced_f1 : (Rows.topPlacedRow.inPlace == Tryz.prog.inPlace 6) = true := by kernel_rfl
theorem topPlaced_f2 : (Rows.topPlacedRow.unfollowed == Tryz.prog.unfollowed 6) = true := by kernel_rfl
theorem topPlaced_f3 : (Rows.topPlacedRow.recurses == Tryz.prog.recurses 6) = true := by kernel_rfl
theorem topPlaced_f4 : (Rows.topPlacedRow.named == Tryz.prog.varsNamed 6) = true := by kernel_rfl
theorem topPlaced_closed : joinedFacts Tryz.prog 6 Tryz.f6 Rows.topPlacedSpec Rows.topPlacedRow = true := by
  unfold joinedFacts
  exact (andT (andT (andT (andT (andT (andT (andT (andT (andT (andT (andT (andT (andT (andT (andT (andT (andT (andT (andT (andT (andT (andT (andT (andT (andT (andT (andT (andT (andT (andT (andT (by kernel_rfl) Tryz.laidOut) fact_mapsRowed) (by kernel_rfl)) (by kernel_rfl)) (by kernel_rfl)) fact_stops) (by kernel_rfl)) fact_knobs) topPlaced_f1) topPlaced_f2) topPlaced_f3) topPlaced_f4) (by kernel_rfl)) (by kernel_rfl)) (by kernel_rfl)) (by kernel_rfl)) (by kernel_rfl)) (by kernel_rfl)) (by kernel_rfl)) (by kernel_rfl)) (by kernel_rfl)) fact_plainKeys) (by kernel_rfl)) fact_stopsHeard) fact_mayEnter) fact_lifted) fact_make) (by kernel_rfl)) (by kernel_rfl)) (by kernel_rfl)) (by kernel_rfl))
theorem topPlaced_holds : Rows.TopPlacedSaid :=
  OpenClaim.holds_of_wide 6 Tryz.f6 rfl rfl rfl rfl rfl rfl rfl ⟨rfl, rfl, rfl, rfl, rfl⟩ rfl rfl rfl rfl rfl topPlaced_f0 Tryz.func6 topPlaced_closed
    (of_decide_eq_true (by kernel_rfl)) (by unfold Func.isWrapper; rw [if_neg (of_decide_eq_false (by kernel_rfl))]; exact ⟨rfl, rfl⟩)
    (fun os started H enc _ => topPlaced_lifted os started H enc)
end Go.Proofs.YtfmnjbhncnldmaaGreat
