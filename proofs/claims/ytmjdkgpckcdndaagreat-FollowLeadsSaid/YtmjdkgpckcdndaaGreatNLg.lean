/-
  The program's leader: Remove, Cells; the calls of a leader as an argument; a call of both leaders.
-/
import Derived.Test.YtmjdkgpckcdndaaGreatNLe
import Derived.Test.YtmjdkgpckcdndaaGreatNRm
import Derived.Test.YtmjdkgpckcdndaaGreatNSi
import Derived.Test.YtmjdkgpckcdndaaGreatNKeysI
import Derived.Test.YtmjdkgpckcdndaaGreatA1
import Derived.Test.YtmjdkgpckcdndaaGreatML
import Derived.Test.YtmjdkgpckcdndaaGreatNCs
import Derived.ChangeArms
namespace Go.Proofs.YtmjdkgpckcdndaaGreat
open Go.RowKit Go.ChangeShapes Go.WideShapes Go.ChangeAt
set_option linter.unusedSimpArgs false
set_option linter.unusedVariables false

set_option maxHeartbeats 1000000 in
theorem plrem_z (gl : Nat) (L : Ld) (c : Int) (hI : I64 c) (r : World) (F : List Res) (w : World) (hS : Sep r [] (PL gl L :: F) w) (hok : L.ok) :
    Calls Tryz.prog 37 #[.pointer (some ⟨gl, 0, none⟩), .int .i64 c] w fun e w' => e = .returned (.int .i64 (removeL L c).2) ∧ Sep r [] (PL gl (removeL L c).1 :: F) w' := by
  obtain ⟨b, hS⟩ := Sep.PL_open.1 hS
  unfold removeL
  refine Z.enter Tryz.func37 Tryz.ntmps37 rfl rfl ?_
  repeat' (first|refine VP ?_|refine Sh.la hS ?_|refine Sh.lb ?_|refine Sh.lc ?_|refine Sh.su ?_|(refine Sh.sa hS ?_;clear hS;intro w hS)|((first|refine Sh.aa hS ?_|refine Sh.ab hS ?_|refine Sh.ac hS ?_);clear hS;intro g w hS hge)|refine Sh.ix ?_|refine Sh.up ?_|refine Sh.sl1 ?_|refine Sh.sl2 ?_|refine Sh.sl5 ?_|refine Sh.sl3 ?_|refine Sh.sl4 ?_|refine Sh.eq ?_|refine Sh.ne ?_|refine Sh.ix2 ?_|refine Sh.ix3 ?_|refine Z.bu rfl rfl ?_|refine Z.buA rfl rfl ?_|refine VM ?_|refine Z.pl (R.cap rfl rfl) ?_|refine Z.pl R.mf ?_|refine Z.pl (R.min2 rfl rfl) ?_|refine G1 ?_|refine G2 ?_|refine G3 ?_|refine G4 ?_|with_reducible (first|refine V0 ?_|refine Z.block ?_)|((with_reducible refine Z.blX ?_ ?_);rotate_left;rfl)|refine VT ?_|refine VF ?_|((first|refine GS ?_ ?_|refine VB ?_ ?_)<;>intro hb<;>(try simp only [J1,J2,J3,J4,J5,J6] at hb)<;>(try (exfalso;first|omega|exact hb trivial))))
  cases hx : sdAt L.l c with
  | none =>
    refine Z.eff (Z.lkO hS none rfl rfl (by repeat (first | exact At.here | apply At.next)) (key_int hI) (look_none hx) ?_) rfl
    repeat' (first|refine VP ?_|refine Sh.la hS ?_|refine Sh.lb ?_|refine Sh.lc ?_|refine Sh.su ?_|(refine Sh.sa hS ?_;clear hS;intro w hS)|((first|refine Sh.aa hS ?_|refine Sh.ab hS ?_|refine Sh.ac hS ?_);clear hS;intro g w hS hge)|refine Sh.ix ?_|refine Sh.up ?_|refine Sh.sl1 ?_|refine Sh.sl2 ?_|refine Sh.sl5 ?_|refine Sh.sl3 ?_|refine Sh.sl4 ?_|refine Sh.eq ?_|refine Sh.ne ?_|refine Sh.ix2 ?_|refine Sh.ix3 ?_|refine Z.bu rfl rfl ?_|refine Z.buA rfl rfl ?_|refine VM ?_|refine Z.pl (R.cap rfl rfl) ?_|refine Z.pl R.mf ?_|refine Z.pl (R.min2 rfl rfl) ?_|refine G1 ?_|refine G2 ?_|refine G3 ?_|refine G4 ?_|with_reducible (first|refine V0 ?_|refine Z.block ?_)|((with_reducible refine Z.blX ?_ ?_);rotate_left;rfl)|refine VT ?_|refine VF ?_|((first|refine GS ?_ ?_|refine VB ?_ ?_)<;>intro hb<;>(try simp only [J1,J2,J3,J4,J5,J6] at hb)<;>(try (exfalso;first|omega|exact hb trivial))))
    first | refine Z.done hS Tryz.results37 (Z.RV.tmp rfl Z.RV.nil) ?_ | refine Z.doneN hS Tryz.results37 (Z.RV.tmp rfl Z.RV.nil) ?_
    exact ⟨rfl, (Sep.PL_open.2 ⟨b, hS.sub (L' := .blk gl 66 [.int .i64 L.ep, .int .i64 L.lag, .int .i64 L.acked, .map (some b)] :: .mp Tryz.prog 3 b (L.l.map Sd.kvV) :: F) (by repeat (first | exact Sub.rest | exact Sub.nil | exact .skip .rest | exact .skip (.skip .rest) | exact .skip (.skip (.skip .rest)) | apply Sub.keep | refine Sub.cons (by repeat (first | exact At.here | apply At.next)) ?_ | apply Sub.skip))⟩)⟩
  | some x =>
    refine Z.eff (Z.lkO hS (some x.vV) rfl rfl (by repeat (first | exact At.here | apply At.next)) (key_int hI) (look_some hx) ?_) rfl
    repeat' (first|refine VP ?_|refine Sh.la hS ?_|refine Sh.lb ?_|refine Sh.lc ?_|refine Sh.su ?_|(refine Sh.sa hS ?_;clear hS;intro w hS)|((first|refine Sh.aa hS ?_|refine Sh.ab hS ?_|refine Sh.ac hS ?_);clear hS;intro g w hS hge)|refine Sh.ix ?_|refine Sh.up ?_|refine Sh.sl1 ?_|refine Sh.sl2 ?_|refine Sh.sl5 ?_|refine Sh.sl3 ?_|refine Sh.sl4 ?_|refine Sh.eq ?_|refine Sh.ne ?_|refine Sh.ix2 ?_|refine Sh.ix3 ?_|refine Z.bu rfl rfl ?_|refine Z.buA rfl rfl ?_|refine VM ?_|refine Z.pl (R.cap rfl rfl) ?_|refine Z.pl R.mf ?_|refine Z.pl (R.min2 rfl rfl) ?_|refine G1 ?_|refine G2 ?_|refine G3 ?_|refine G4 ?_|with_reducible (first|refine V0 ?_|refine Z.block ?_)|((with_reducible refine Z.blX ?_ ?_);rotate_left;rfl)|refine VT ?_|refine VF ?_|((first|refine GS ?_ ?_|refine VB ?_ ?_)<;>intro hb<;>(try simp only [J1,J2,J3,J4,J5,J6] at hb)<;>(try (exfalso;first|omega|exact hb trivial))))
    refine Z.eff (Z.dlm hS _ rfl rfl (by repeat (first | exact At.here | apply At.next)) (key_int hI) (del_sd hx) ?_) rfl
    clear hS; intro w hS
    repeat' (first|refine VP ?_|refine Sh.la hS ?_|refine Sh.lb ?_|refine Sh.lc ?_|refine Sh.su ?_|(refine Sh.sa hS ?_;clear hS;intro w hS)|((first|refine Sh.aa hS ?_|refine Sh.ab hS ?_|refine Sh.ac hS ?_);clear hS;intro g w hS hge)|refine Sh.ix ?_|refine Sh.up ?_|refine Sh.sl1 ?_|refine Sh.sl2 ?_|refine Sh.sl5 ?_|refine Sh.sl3 ?_|refine Sh.sl4 ?_|refine Sh.eq ?_|refine Sh.ne ?_|refine Sh.ix2 ?_|refine Sh.ix3 ?_|refine Z.bu rfl rfl ?_|refine Z.buA rfl rfl ?_|refine VM ?_|refine Z.pl (R.cap rfl rfl) ?_|refine Z.pl R.mf ?_|refine Z.pl (R.min2 rfl rfl) ?_|refine G1 ?_|refine G2 ?_|refine G3 ?_|refine G4 ?_|with_reducible (first|refine V0 ?_|refine Z.block ?_)|((with_reducible refine Z.blX ?_ ?_);rotate_left;rfl)|refine VT ?_|refine VF ?_|((first|refine GS ?_ ?_|refine VB ?_ ?_)<;>intro hb<;>(try simp only [J1,J2,J3,J4,J5,J6] at hb)<;>(try (exfalso;first|omega|exact hb trivial))))
    first | refine Z.done hS Tryz.results37 (Z.RV.tmp rfl Z.RV.nil) ?_ | refine Z.doneN hS Tryz.results37 (Z.RV.tmp rfl Z.RV.nil) ?_
    exact ⟨rfl, Sep.PL_open.2 ⟨b, hS.sb⟩⟩
theorem kint_sd (x : Sd) : kint x.kvV = x.cell := rfl
theorem sorted_cells {l : List Sd} (h : l.Pairwise fun a b => a.cell < b.cell) : ((l.map Sd.kvV).map kint).mergeSort Go.leI = l.map Sd.cell := by
  have e : (l.map Sd.kvV).map kint = l.map Sd.cell := by rw [List.map_map]; rfl
  rw [e]
  refine List.mergeSort_of_pairwise ?_
  rw [List.pairwise_map]
  exact h.imp fun {a b} h => by simp only [Go.leI, decide_eq_true_eq]; omega
set_option maxHeartbeats 1000000 in
theorem plcells_z (gl : Nat) (L : Ld) (r : World) (F : List Res) (w : World) (hS : Sep r [] (PL gl L :: F) w) (hok : L.ok) :
    Calls Tryz.prog 8 #[.pointer (some ⟨gl, 0, none⟩)] w fun e w' => ∃ A c, e = .returned (.slice A L.l.length c) ∧ Sep r [] (.sl 3 1 (.slice A L.l.length c) (L.l.map Sd.kc) :: PL gl L :: F) w' := by
  obtain ⟨b, hS⟩ := Sep.PL_open.1 hS
  have hlen := hok.len
  refine Z.enter Tryz.func8 Tryz.ntmps8 rfl rfl ?_
  repeat' (first|refine VP ?_|refine Sh.la hS ?_|refine Sh.lb ?_|refine Sh.lc ?_|refine Sh.su ?_|(refine Sh.sa hS ?_;clear hS;intro w hS)|((first|refine Sh.aa hS ?_|refine Sh.ab hS ?_|refine Sh.ac hS ?_);clear hS;intro g w hS hge)|refine Sh.ix ?_|refine Sh.up ?_|refine Sh.sl1 ?_|refine Sh.sl2 ?_|refine Sh.sl5 ?_|refine Sh.sl3 ?_|refine Sh.sl4 ?_|refine Sh.eq ?_|refine Sh.ne ?_|refine Sh.ix2 ?_|refine Sh.ix3 ?_|refine Z.bu rfl rfl ?_|refine Z.buA rfl rfl ?_|refine VM ?_|refine Z.pl (R.cap rfl rfl) ?_|refine Z.pl R.mf ?_|refine Z.pl (R.min2 rfl rfl) ?_|refine G1 ?_|refine G2 ?_|refine G3 ?_|refine G4 ?_|with_reducible (first|refine V0 ?_|refine Z.block ?_)|((with_reducible refine Z.blX ?_ ?_);rotate_left;rfl)|refine VT ?_|refine VF ?_|((first|refine GS ?_ ?_|refine VB ?_ ?_)<;>intro hb<;>(try simp only [J1,J2,J3,J4,J5,J6] at hb)<;>(try (exfalso;first|omega|exact hb trivial))))
  refine Z.eff (Z.cl (mkeys_z b _ _ _ hS) rfl ?_) rfl
  clear hS
  rintro e w ⟨gk, rfl, hS⟩
  refine ⟨_, rfl, ?_⟩
  repeat' (first|refine VP ?_|refine Sh.la hS ?_|refine Sh.lb ?_|refine Sh.lc ?_|refine Sh.su ?_|(refine Sh.sa hS ?_;clear hS;intro w hS)|((first|refine Sh.aa hS ?_|refine Sh.ab hS ?_|refine Sh.ac hS ?_);clear hS;intro g w hS hge)|refine Sh.ix ?_|refine Sh.up ?_|refine Sh.sl1 ?_|refine Sh.sl2 ?_|refine Sh.sl5 ?_|refine Sh.sl3 ?_|refine Sh.sl4 ?_|refine Sh.eq ?_|refine Sh.ne ?_|refine Sh.ix2 ?_|refine Sh.ix3 ?_|refine Z.bu rfl rfl ?_|refine Z.buA rfl rfl ?_|refine VM ?_|refine Z.pl (R.cap rfl rfl) ?_|refine Z.pl R.mf ?_|refine Z.pl (R.min2 rfl rfl) ?_|refine G1 ?_|refine G2 ?_|refine G3 ?_|refine G4 ?_|with_reducible (first|refine V0 ?_|refine Z.block ?_)|((with_reducible refine Z.blX ?_ ?_);rotate_left;rfl)|refine VT ?_|refine VF ?_|((first|refine GS ?_ ?_|refine VB ?_ ?_)<;>intro hb<;>(try simp only [J1,J2,J3,J4,J5,J6] at hb)<;>(try (exfalso;first|omega|exact hb trivial))))
  refine Z.eff (Z.cl (msorted_z gk b (L.l.map Sd.kvV) _ _ _ hS (by repeat (first | exact At.here | apply At.next)) (by rw [List.length_map]; omega)) rfl ?_) rfl
  clear hS
  rintro e w ⟨A, c, rfl, hS⟩
  refine ⟨_, rfl, ?_⟩
  rw [sorted_cells hok.sorted, List.length_map, List.map_map] at hS
  rw [List.length_map]
  repeat' (first|refine VP ?_|refine Sh.la hS ?_|refine Sh.lb ?_|refine Sh.lc ?_|refine Sh.su ?_|(refine Sh.sa hS ?_;clear hS;intro w hS)|((first|refine Sh.aa hS ?_|refine Sh.ab hS ?_|refine Sh.ac hS ?_);clear hS;intro g w hS hge)|refine Sh.ix ?_|refine Sh.up ?_|refine Sh.sl1 ?_|refine Sh.sl2 ?_|refine Sh.sl5 ?_|refine Sh.sl3 ?_|refine Sh.sl4 ?_|refine Sh.eq ?_|refine Sh.ne ?_|refine Sh.ix2 ?_|refine Sh.ix3 ?_|refine Z.bu rfl rfl ?_|refine Z.buA rfl rfl ?_|refine VM ?_|refine Z.pl (R.cap rfl rfl) ?_|refine Z.pl R.mf ?_|refine Z.pl (R.min2 rfl rfl) ?_|refine G1 ?_|refine G2 ?_|refine G3 ?_|refine G4 ?_|with_reducible (first|refine V0 ?_|refine Z.block ?_)|((with_reducible refine Z.blX ?_ ?_);rotate_left;rfl)|refine VT ?_|refine VF ?_|((first|refine GS ?_ ?_|refine VB ?_ ?_)<;>intro hb<;>(try simp only [J1,J2,J3,J4,J5,J6] at hb)<;>(try (exfalso;first|omega|exact hb trivial))))
  first | refine Z.done hS Tryz.results8 (Z.RV.tmp rfl Z.RV.nil) ?_ | refine Z.doneN hS Tryz.results8 (Z.RV.tmp rfl Z.RV.nil) ?_
  exact ⟨A, c, rfl, (Sep.PL_open.2 ⟨b, hS.sub (L' := .blk gl 66 [.int .i64 L.ep, .int .i64 L.lag, .int .i64 L.acked, .map (some b)] :: .mp Tryz.prog 3 b (L.l.map Sd.kvV) :: .sl 3 1 (.slice A L.l.length c) (L.l.map Sd.kc) :: F) (by repeat (first | exact Sub.rest | exact Sub.nil | exact .skip .rest | exact .skip (.skip .rest) | exact .skip (.skip (.skip .rest)) | apply Sub.keep | refine Sub.cons (by repeat (first | exact At.here | apply At.next)) ?_ | apply Sub.skip))⟩).swap⟩

/-! The calls of a leader. -/
structure La where
  kind : Int
  cell : Int
  n : Int
  flag : Bool
  m : He
def La.cells (a : La) : List Value := [.int .i64 a.kind, .int .i64 a.cell, .int .i64 a.n, .bool a.flag, .int .i64 a.m.ep, .int .i64 a.m.applied, .bool a.m.ok]
def La.val (a : La) : Value := .agg a.cells.toArray
theorem La.one (x : La) : x.cells.length = 7 ∧ ∀ u, u ∈ x.cells → u.oneCell' = true := ⟨rfl, by simp [La.cells, Value.oneCell']⟩
section
variable {H : Type} {enc : TypeId × Value → H} {w : World} {base : Nat} {spare : Nat → Bool} {held : Bool}
theorem field_bool {t : TypeId} {cs : List Value} {xs : List (DataW H × List MemPlace)} {i k n : Nat} (ht : Tryz.prog.underlying t = some .bool) (h1 : Tryz.prog.cellsOf t = 1) (hl : xs.length = n) (hi : i < n)
    (h : DataW.trod enc Tryz.prog w base spare held k t (cs.take (Tryz.prog.cellsOf t)) = xs[i]?) : ∃ z, cs.take 1 = [.bool z] := by
  rw [h1, List.getElem?_eq_getElem (by omega)] at h
  obtain ⟨z, hz, _⟩ := DataW.trod_bool ht h
  exact ⟨z, hz⟩
theorem field_intb {t : TypeId} {cs : List Value} {xs : List (DataW H × List MemPlace)} {i k n : Nat} (ht : Tryz.prog.underlying t = some (.int .i64)) (h1 : Tryz.prog.cellsOf t = 1) (hl : xs.length = n) (hi : i < n)
    (h : DataW.trod enc Tryz.prog w base spare held k t (cs.take (Tryz.prog.cellsOf t)) = xs[i]?) : ∃ z, cs.take 1 = [.int .i64 z] ∧ I64 z := by
  rw [h1, List.getElem?_eq_getElem (by omega)] at h
  obtain ⟨z, hz, _, hw⟩ := DataW.trod_int ht h
  refine ⟨z, hz, ?_⟩
  have e1 : IntKind.i64.min = -9223372036854775808 := rfl
  have e2 : IntKind.i64.max = 9223372036854775807 := rfl
  simp only [Lit.wf, IntKind.has, e1, e2, Bool.and_eq_true, decide_eq_true_eq] at hw
  exact hw
theorem Tryz.cellsB : Tryz.prog.cellsOf 4 = 1 := by kernel_rfl
set_option maxRecDepth 100000 in
theorem open_heard {n : Nat} {cs : List Value} {y : DataW H × List MemPlace} (h : DataW.trod enc Tryz.prog w base spare held n 43 cs = some y) : ∃ x : He, cs = x.cells := by
  obtain ⟨xs, k, _, _, hlen, hxl, hf⟩ := DataW.trod_struct Tryz.underlying43 h
  rw [show Tryz.prog.cellsOf 43 = 3 by kernel_rfl] at hlen
  match cs, hlen with
  | [c0, c1, c2], _ =>
    obtain ⟨z0, e0⟩ := field_int (cs := [c0, c1, c2]) Tryz.underlying3 Tryz.cellsI hxl (by decide) (hf 0 _ rfl)
    obtain ⟨z1, e1⟩ := field_int (cs := [c1, c2]) Tryz.underlying3 Tryz.cellsI hxl (by decide) (hf 1 _ rfl)
    obtain ⟨z2, e2⟩ := field_bool (cs := [c2]) Tryz.underlying4 Tryz.cellsB hxl (by decide) (hf 2 _ rfl)
    simp at e0 e1 e2
    exact ⟨⟨z0, z1, z2⟩, by simp [He.cells, *]⟩
set_option maxRecDepth 100000 in
theorem open_la {n : Nat} {cs : List Value} {y : DataW H × List MemPlace} (h : DataW.trod enc Tryz.prog w base spare held n 45 cs = some y) : ∃ x : La, cs = x.cells ∧ I64 x.cell := by
  obtain ⟨xs, k, _, _, hlen, hxl, hf⟩ := DataW.trod_struct Tryz.underlying45 h
  rw [show Tryz.prog.cellsOf 45 = 7 by kernel_rfl] at hlen
  match cs, hlen with
  | [c0, c1, c2, c3, c4, c5, c6], _ =>
    obtain ⟨z0, e0⟩ := field_int (cs := [c0, c1, c2, c3, c4, c5, c6]) Tryz.underlying3 Tryz.cellsI hxl (by decide) (hf 0 _ rfl)
    obtain ⟨z1, e1, hb1⟩ := field_intb (cs := [c1, c2, c3, c4, c5, c6]) Tryz.underlying3 Tryz.cellsI hxl (by decide) (hf 1 _ rfl)
    obtain ⟨z2, e2⟩ := field_int (cs := [c2, c3, c4, c5, c6]) Tryz.underlying3 Tryz.cellsI hxl (by decide) (hf 2 _ rfl)
    obtain ⟨z3, e3⟩ := field_bool (cs := [c3, c4, c5, c6]) Tryz.underlying4 Tryz.cellsB hxl (by decide) (hf 3 _ rfl)
    have hw := hf 4 _ rfl
    rw [List.getElem?_eq_getElem (by rw [hxl]; decide)] at hw
    rw [show Tryz.prog.cellsOf _ = 3 by kernel_rfl] at hw
    obtain ⟨x, hx⟩ := open_heard hw
    simp at e0 e1 e2 e3
    simp [He.cells] at hx
    exact ⟨⟨z0, z1, z2, z3, x⟩, by simp [La.cells, *], hb1⟩
set_option maxRecDepth 100000 in
theorem arg_las {v : Value} {d : DataW H} {p : List MemPlace} {b0 : Nat} (hv : Value.okWide Tryz.prog w .any b0 35 v) (h : DataW.Trod enc Tryz.prog w base spare held 35 v d p) :
    ∃ (l : List La) (A : Option Addr) (cap : Nat), v = .slice A l.length cap ∧ Rows' w 7 v (l.map La.cells) ∧ ∀ x, x ∈ l → I64 x.cell := by
  obtain ⟨a0, len, cap, rfl⟩ := okWide_slice Tryz.underlying35 hv
  obtain ⟨fuel, hf⟩ := h
  obtain ⟨l, hl, hr⟩ := rows_of (fun x : {x : La // I64 x.cell} => x.1.cells) Tryz.underlying35 (show Tryz.prog.cellsOf 45 = 7 by kernel_rfl) (by omega) (fun x => x.1.one)
    (fun n cs y h => by obtain ⟨x, hx, hr⟩ := open_la h; exact ⟨⟨x, hr⟩, hx⟩) hf
  subst hl
  refine ⟨l.map Subtype.val, a0, cap, by simp, ?_, fun x hx => ?_⟩
  · rw [List.map_map]
    exact hr
  · obtain ⟨y, _, rfl⟩ := List.mem_map.1 hx
    exact y.2
end
end Go.Proofs.YtmjdkgpckcdndaaGreat
