/-
  The sanity check of the statements about cells.
-/
import Derived.Test.YtahackdfjcgkhaaGreatNEy
import Derived.Test.YtahackdfjcgkhaaGreatYa
namespace Go.Proofs.YtahackdfjcgkhaaGreat
open Go.RowKit
set_option linter.unusedSimpArgs false
set_option linter.unusedVariables false
attribute [local irreducible] Res.blk Res.sl Res.all Res.ex Res.pure Res.star

theorem Sep.gate0 {r w : World} {F : List Res} {gg : Nat} {cell : Int} (hS : Sep r [] (.blk gg 123 [.int .i64 cell, .int .i64 0, .slice .none 0 0] :: F) w) : Sep r [] (GP gg ⟨cell, 0, []⟩ :: F) w :=
  Sep.GP_open.2 ⟨.none, 0, (Z.nilsl hS 46 5 .none).sub (by repeat (first | exact Sub.rest | exact Sub.nil | exact .skip .rest | exact .skip (.skip .rest) | exact .skip (.skip (.skip .rest)) | apply Sub.keep | refine Sub.cons (by repeat (first | exact At.here | apply At.next)) ?_ | apply Sub.skip))⟩
theorem pcgate_z (g gg : Nat) (cell ten : Int) (c : Cp) (r : World) (F : List Res) (w : World) (hS : Sep r [] (PC g cell ten (.pointer (some ⟨gg, 0, .none⟩)) c :: F) w) :
    Calls Tryz.prog 25 #[.pointer (some ⟨g, 0, .none⟩)] w fun e w' => e = .returned (.pointer (some ⟨gg, 0, .none⟩)) ∧ Sep r [] (PC g cell ten (.pointer (some ⟨gg, 0, .none⟩)) c :: F) w' := by
  obtain ⟨A, cap, gs, gq, gt, hS⟩ := Sep.PC_open.1 hS
  refine Z.enter Tryz.func25 Tryz.ntmps25 rfl rfl ?_
  repeat' (first|refine VP ?_|refine Sh.la hS ?_|refine Sh.lb ?_|refine Sh.lc ?_|refine Sh.su ?_|(refine Sh.sa hS ?_;clear hS;intro w hS)|((first|refine Sh.aa hS ?_|refine Sh.ab hS ?_|refine Sh.ac hS ?_);clear hS;intro g w hS hge)|refine Sh.ix ?_|refine Sh.up ?_|refine Sh.sl1 ?_|refine Sh.sl2 ?_|refine Sh.sl5 ?_|refine Sh.sl3 ?_|refine Sh.sl4 ?_|refine Sh.eq ?_|refine Sh.ne ?_|refine Sh.ix2 ?_|refine Sh.ix3 ?_|refine Z.bu rfl rfl ?_|refine Z.buA rfl rfl ?_|refine VM ?_|refine Z.pl (R.cap rfl rfl) ?_|refine Z.pl R.mf ?_|refine Z.pl (R.min2 rfl rfl) ?_|refine G1 ?_|refine G2 ?_|refine G3 ?_|refine G4 ?_|with_reducible (first|refine V0 ?_|refine Z.block ?_)|((with_reducible refine Z.blX ?_ ?_);rotate_left;rfl)|refine VT ?_|refine VF ?_|((first|refine GS ?_ ?_|refine VB ?_ ?_)<;>intro hb<;>(try simp only [J1,J2,J3,J4,J5,J6] at hb)<;>(try (exfalso;first|omega|exact hb trivial))))
  first | refine Z.done hS Tryz.results25 (Z.RV.tmp rfl Z.RV.nil) ?_ | refine Z.doneN hS Tryz.results25 (Z.RV.tmp rfl Z.RV.nil) ?_
  exact ⟨rfl, Sep.PC_open.2 ⟨A, cap, gs, gq, gt, hS.sb⟩⟩
theorem pccell_z (g : Nat) (cell ten : Int) (vg : Value) (c : Cp) (r : World) (F : List Res) (w : World) (hS : Sep r [] (PC g cell ten vg c :: F) w) :
    Calls Tryz.prog 50 #[.pointer (some ⟨g, 0, .none⟩)] w fun e w' => e = .returned (.int .i64 cell) ∧ Sep r [] (PC g cell ten vg c :: F) w' := by
  obtain ⟨A, cap, gs, gq, gt, hS⟩ := Sep.PC_open.1 hS
  refine Z.enter Tryz.func50 Tryz.ntmps50 rfl rfl ?_
  repeat' (first|refine VP ?_|refine Sh.la hS ?_|refine Sh.lb ?_|refine Sh.lc ?_|refine Sh.su ?_|(refine Sh.sa hS ?_;clear hS;intro w hS)|((first|refine Sh.aa hS ?_|refine Sh.ab hS ?_|refine Sh.ac hS ?_);clear hS;intro g w hS hge)|refine Sh.ix ?_|refine Sh.up ?_|refine Sh.sl1 ?_|refine Sh.sl2 ?_|refine Sh.sl5 ?_|refine Sh.sl3 ?_|refine Sh.sl4 ?_|refine Sh.eq ?_|refine Sh.ne ?_|refine Sh.ix2 ?_|refine Sh.ix3 ?_|refine Z.bu rfl rfl ?_|refine Z.buA rfl rfl ?_|refine VM ?_|refine Z.pl (R.cap rfl rfl) ?_|refine Z.pl R.mf ?_|refine Z.pl (R.min2 rfl rfl) ?_|refine G1 ?_|refine G2 ?_|refine G3 ?_|refine G4 ?_|with_reducible (first|refine V0 ?_|refine Z.block ?_)|((with_reducible refine Z.blX ?_ ?_);rotate_left;rfl)|refine VT ?_|refine VF ?_|((first|refine GS ?_ ?_|refine VB ?_ ?_)<;>intro hb<;>(try simp only [J1,J2,J3,J4,J5,J6] at hb)<;>(try (exfalso;first|omega|exact hb trivial))))
  first | refine Z.done hS Tryz.results50 (Z.RV.tmp rfl Z.RV.nil) ?_ | refine Z.doneN hS Tryz.results50 (Z.RV.tmp rfl Z.RV.nil) ?_
  exact ⟨rfl, Sep.PC_open.2 ⟨A, cap, gs, gq, gt, hS.sb⟩⟩
theorem pctenant_z (g : Nat) (cell ten : Int) (vg : Value) (c : Cp) (r : World) (F : List Res) (w : World) (hS : Sep r [] (PC g cell ten vg c :: F) w) :
    Calls Tryz.prog 51 #[.pointer (some ⟨g, 0, .none⟩)] w fun e w' => e = .returned (.int .i64 ten) ∧ Sep r [] (PC g cell ten vg c :: F) w' := by
  obtain ⟨A, cap, gs, gq, gt, hS⟩ := Sep.PC_open.1 hS
  refine Z.enter Tryz.func51 Tryz.ntmps51 rfl rfl ?_
  repeat' (first|refine VP ?_|refine Sh.la hS ?_|refine Sh.lb ?_|refine Sh.lc ?_|refine Sh.su ?_|(refine Sh.sa hS ?_;clear hS;intro w hS)|((first|refine Sh.aa hS ?_|refine Sh.ab hS ?_|refine Sh.ac hS ?_);clear hS;intro g w hS hge)|refine Sh.ix ?_|refine Sh.up ?_|refine Sh.sl1 ?_|refine Sh.sl2 ?_|refine Sh.sl5 ?_|refine Sh.sl3 ?_|refine Sh.sl4 ?_|refine Sh.eq ?_|refine Sh.ne ?_|refine Sh.ix2 ?_|refine Sh.ix3 ?_|refine Z.bu rfl rfl ?_|refine Z.buA rfl rfl ?_|refine VM ?_|refine Z.pl (R.cap rfl rfl) ?_|refine Z.pl R.mf ?_|refine Z.pl (R.min2 rfl rfl) ?_|refine G1 ?_|refine G2 ?_|refine G3 ?_|refine G4 ?_|with_reducible (first|refine V0 ?_|refine Z.block ?_)|((with_reducible refine Z.blX ?_ ?_);rotate_left;rfl)|refine VT ?_|refine VF ?_|((first|refine GS ?_ ?_|refine VB ?_ ?_)<;>intro hb<;>(try simp only [J1,J2,J3,J4,J5,J6] at hb)<;>(try (exfalso;first|omega|exact hb trivial))))
  first | refine Z.done hS Tryz.results51 (Z.RV.tmp rfl Z.RV.nil) ?_ | refine Z.doneN hS Tryz.results51 (Z.RV.tmp rfl Z.RV.nil) ?_
  exact ⟨rfl, Sep.PC_open.2 ⟨A, cap, gs, gq, gt, hS.sb⟩⟩
def a28P : Rq := ⟨0, 1, 1, 2, 0, ⟨#[97]⟩, ⟨#[120]⟩⟩
def a28Q : Rq := ⟨0, 1, 0, 1, 0, ⟨#[97]⟩, ⟨#[]⟩⟩
def a28D : Rq := ⟨0, 1, 3, 3, 0, ⟨#[97]⟩, ⟨#[]⟩⟩
def a28c : Cp := (exP .zero 0 1 3 a28P).c
def a28g : Ga := ⟨2, 0, [⟨2, 1, 0, 0, 10⟩]⟩
theorem a28_0 : giveP ⟨2, 0, []⟩ ⟨2, 1, 0, 0, 10⟩ = (a28g, 0) := by kernel_rfl
theorem a28_1 : exP .zero 0 (accs a28g.ws 0 3 0) 3 a28P = ⟨a28c, ⟨0, 1, 0, ⟨#[]⟩⟩⟩ := by kernel_rfl
theorem a28_2 : exP a28c 0 (accs a28g.ws 0 3 0) 3 a28P = ⟨a28c, ⟨0, 1, 0, ⟨#[]⟩⟩⟩ := by kernel_rfl
theorem a28_3 : exP a28c 0 (accs a28g.ws 0 3 0) 3 a28Q = ⟨a28c, ⟨0, 1, 0, ⟨#[120]⟩⟩⟩ := by kernel_rfl
theorem a28_4 : exP a28c 0 (accs a28g.ws 0 10 0) 10 a28Q = ⟨a28c, ⟨30, 0, 0, ⟨#[]⟩⟩⟩ := by kernel_rfl
theorem a28_5 : exP a28c 0 (accs a28g.ws 0 3 0) 3 a28D = ⟨a28c, ⟨32, 0, 0, ⟨#[]⟩⟩⟩ := by kernel_rfl
theorem a28_len : a28c.h.length = 1 := by kernel_rfl
theorem CG.zero : CG .zero := Good.cg .zero QOk.zero
theorem a28_cg : CG a28c := by
  have : a28c = (cApp .zero (chOf .zero 1 a28P)).1 := by kernel_rfl
  rw [this]
  exact (CG.zero.app _).1
theorem a28_ws : ∀ y, y ∈ a28g.ws → 1 ≤ y.epoch ∧ y.epoch ≤ 1048576 := by
  intro y hy
  rcases List.mem_cons.1 hy with rfl | hy
  · decide
  · cases hy
def blkO (T : Nat) : Nat → Nat → List Value → Res
  | 0, _, _ => .pure True
  | _ + 1, g, cs => .blk g T cs
def rep0 : List Value := [.int .i64 0, .int .i64 0, .int .i64 0, .string ⟨#[]⟩]
def stc : Nat → List Value → List Value
  | 0, _ => rep0
  | _ + 1, cs => cs
def cst28 : Nat → Cp
  | 0 => .zero
  | _ + 1 => a28c
abbrev S28 := Nat × Nat × Nat × Nat × Nat × Nat
def pp (g : Nat) : Value := .pointer (some ⟨g, 0, .none⟩)
def r28a : Rep := ⟨0, 1, 0, ⟨#[]⟩⟩
def r28b : Rep := ⟨0, 1, 0, ⟨#[120]⟩⟩
def r28c : Rep := ⟨30, 0, 0, ⟨#[]⟩⟩
def I28 (Ms : List Nat) (f0 : Nat → Value) (gp gg g2 g3 : Nat) (F : List Res) (r : World) : S28 → (Nat → Value) → World → Prop := fun (a, b4, b5, b6, b7, s) f w =>
  Same Ms f f0 ∧ (f 17 = pp gp ∧ f 20 = pp gp ∧ f 23 = pp gp ∧ f 26 = pp gp ∧ f 18 = a28P.val ∧ f 21 = a28P.val ∧ f 24 = a28Q.val ∧ f 27 = a28Q.val) ∧ (0 < a → f 19 = r28a.val) ∧ (1 < a → f 22 = r28a.val) ∧ (2 < a → f 25 = r28b.val) ∧ (3 < a → f 28 = r28c.val) ∧
    ∃ g4 g5 g6 g7, (b4 = 1 → f 4 = pp g4) ∧ (b5 = 1 → f 5 = pp g5) ∧ (b6 = 1 → f 6 = pp g6) ∧ (b7 = 1 → f 7 = pp g7) ∧
      Sep r [] (blkO 51 b4 g4 (stc s r28a.cells) :: blkO 51 b5 g5 (stc (s - 1) r28a.cells) :: blkO 51 b6 g6 (stc (s - 2) r28b.cells) :: blkO 51 b7 g7 (stc (s - 3) r28c.cells) :: PC gp 2 0 (pp gg) (cst28 a) :: GP gg a28g :: .blk g2 23 a28P.cells :: .blk g3 23 a28Q.cells :: F) w
def ok28 (x : S28) (i : Nat) : Bool :=
  let (a, b4, b5, b6, b7, s) := x
  (Nat.beq i 2 && (Nat.beq a 0 && Nat.beq s 0)) || ((Nat.beq i 5 && (Nat.beq a 1 && Nat.beq s 0)) || ((Nat.beq i 8 && (Nat.beq a 2 && Nat.beq s 0)) || ((Nat.beq i 11 && (Nat.beq a 3 && Nat.beq s 0)) ||
  ((Nat.beq i 12 && (Nat.beq b4 0 && Nat.beq s 0)) || ((Nat.beq i 13 && (Nat.beq b5 0 && Nat.beq s 0)) || ((Nat.beq i 14 && (Nat.beq b6 0 && Nat.beq s 0)) || ((Nat.beq i 15 && (Nat.beq b7 0 && Nat.beq s 0)) ||
  ((Nat.beq i 16 || (Nat.beq i 17 || (Nat.beq i 18 || Nat.beq i 19))) && (Nat.beq a 4 && (Nat.beq b4 1 && (Nat.beq b5 1 && (Nat.beq b6 1 && (Nat.beq b7 1 && Nat.beq i (s + 16))))))))))))))
def next28 (x : S28) (i : Nat) : S28 :=
  let (a, b4, b5, b6, b7, s) := x
  match i with
  | 2 | 5 | 8 | 11 => (a + 1, b4, b5, b6, b7, s)
  | 12 => (a, 1, b5, b6, b7, s)
  | 13 => (a, b4, 1, b6, b7, s)
  | 14 => (a, b4, b5, 1, b7, s)
  | 15 => (a, b4, b5, b6, 1, s)
  | _ => (a, b4, b5, b6, b7, s + 1)
def fin28 (x : S28) : Bool := Nat.beq x.2.2.2.2.2 4 && Nat.beq x.1 4 && (Nat.beq x.2.1 1 && Nat.beq x.2.2.1 1 && Nat.beq x.2.2.2.1 1 && Nat.beq x.2.2.2.2.1 1)
def ms28 (m0 : Nat) : List (Nat × Nat × S28) :=
  ([0, 1, 2, 3, 4].flatMap fun a => [0, 1].flatMap fun b4 => [0, 1].flatMap fun b5 => [0, 1].flatMap fun b6 => [0, 1].map fun b7 =>
    (4 - a + (1 - b4) + (1 - b5) + (1 - b6) + (1 - b7) + 4, m0 + (match a with | 0 => 0 | 1 => 4 | 2 => 36 | 3 => 292 | _ => 2340) + b4 * 4096 + b5 * 8192 + b6 * 16384 + b7 * 32768, (a, b4, b5, b6, b7, 0))) ++
  [(3, m0 + 2340 + 61440 + 65536, (4, 1, 1, 1, 1, 1)), (2, m0 + 2340 + 61440 + 65536 * 3, (4, 1, 1, 1, 1, 2)), (1, m0 + 2340 + 61440 + 65536 * 7, (4, 1, 1, 1, 1, 3)), (0, m0 + 2340 + 61440 + 65536 * 15, (4, 1, 1, 1, 1, 4))]
set_option maxHeartbeats 4000000 in
theorem awake28_z (r : World) (F : List Res) (w : World) (hS : Sep r [] F w) : Calls Tryz.prog 13 #[] w fun e w' => e = .returned (.bool true) ∧ Sep r [] F w' := by
  refine Z.enter Tryz.func13 Tryz.ntmps13 rfl rfl ?_
  repeat' (first|refine VP ?_|refine Sh.la hS ?_|refine Sh.lb ?_|refine Sh.lc ?_|refine Sh.su ?_|(refine Sh.sa hS ?_;clear hS;intro w hS)|((first|refine Sh.aa hS ?_|refine Sh.ab hS ?_|refine Sh.ac hS ?_);clear hS;intro g w hS hge)|refine Sh.ix ?_|refine Sh.up ?_|refine Sh.sl1 ?_|refine Sh.sl2 ?_|refine Sh.sl5 ?_|refine Sh.sl3 ?_|refine Sh.sl4 ?_|refine Sh.eq ?_|refine Sh.ne ?_|refine Sh.ix2 ?_|refine Sh.ix3 ?_|refine Z.bu rfl rfl ?_|refine Z.buA rfl rfl ?_|refine VM ?_|refine Z.pl (R.cap rfl rfl) ?_|refine Z.pl R.mf ?_|refine Z.pl (R.min2 rfl rfl) ?_|refine G1 ?_|refine G2 ?_|refine G3 ?_|refine G4 ?_|with_reducible (first|refine V0 ?_|refine Z.block ?_)|((with_reducible refine Z.blX ?_ ?_);rotate_left;rfl)|refine VT ?_|refine VF ?_|((first|refine GS ?_ ?_|refine VB ?_ ?_)<;>intro hb<;>(try simp only [J1,J2,J3,J4,J5,J6] at hb)<;>(try (exfalso;first|omega|exact hb trivial))))
  refine Z.eff (Z.cl (pcnew_z 2 0 _ _ _ hS) rfl ?_) rfl
  clear hS
  rintro e w ⟨gp, gg, rfl, hS⟩
  refine ⟨_, rfl, ?_⟩
  replace hS := (Sep.gate0 (hS.focus (R := .blk gg _ _) (by repeat (first | exact At.here | apply At.next)))).focus (R := PC gp _ _ _ _) (by repeat (first | exact At.here | apply At.next))
  repeat' (first|refine VP ?_|refine Sh.la hS ?_|refine Sh.lb ?_|refine Sh.lc ?_|refine Sh.su ?_|(refine Sh.sa hS ?_;clear hS;intro w hS)|((first|refine Sh.aa hS ?_|refine Sh.ab hS ?_|refine Sh.ac hS ?_);clear hS;intro g w hS hge)|refine Sh.ix ?_|refine Sh.up ?_|refine Sh.sl1 ?_|refine Sh.sl2 ?_|refine Sh.sl5 ?_|refine Sh.sl3 ?_|refine Sh.sl4 ?_|refine Sh.eq ?_|refine Sh.ne ?_|refine Sh.ix2 ?_|refine Sh.ix3 ?_|refine Z.bu rfl rfl ?_|refine Z.buA rfl rfl ?_|refine VM ?_|refine Z.pl (R.cap rfl rfl) ?_|refine Z.pl R.mf ?_|refine Z.pl (R.min2 rfl rfl) ?_|refine G1 ?_|refine G2 ?_|refine G3 ?_|refine G4 ?_|with_reducible (first|refine V0 ?_|refine Z.block ?_)|((with_reducible refine Z.blX ?_ ?_);rotate_left;rfl)|refine VT ?_|refine VF ?_|((first|refine GS ?_ ?_|refine VB ?_ ?_)<;>intro hb<;>(try simp only [J1,J2,J3,J4,J5,J6] at hb)<;>(try (exfalso;first|omega|exact hb trivial))))
  refine Z.eff (Z.cl (pcgate_z gp gg 2 0 .zero _ _ _ hS) rfl ?_) rfl
  clear hS
  rintro e w ⟨rfl, hS⟩
  refine ⟨_, rfl, ?_⟩
  repeat' (first|refine VP ?_|refine Sh.la hS ?_|refine Sh.lb ?_|refine Sh.lc ?_|refine Sh.su ?_|(refine Sh.sa hS ?_;clear hS;intro w hS)|((first|refine Sh.aa hS ?_|refine Sh.ab hS ?_|refine Sh.ac hS ?_);clear hS;intro g w hS hge)|refine Sh.ix ?_|refine Sh.up ?_|refine Sh.sl1 ?_|refine Sh.sl2 ?_|refine Sh.sl5 ?_|refine Sh.sl3 ?_|refine Sh.sl4 ?_|refine Sh.eq ?_|refine Sh.ne ?_|refine Sh.ix2 ?_|refine Sh.ix3 ?_|refine Z.bu rfl rfl ?_|refine Z.buA rfl rfl ?_|refine VM ?_|refine Z.pl (R.cap rfl rfl) ?_|refine Z.pl R.mf ?_|refine Z.pl (R.min2 rfl rfl) ?_|refine G1 ?_|refine G2 ?_|refine G3 ?_|refine G4 ?_|with_reducible (first|refine V0 ?_|refine Z.block ?_)|((with_reducible refine Z.blX ?_ ?_);rotate_left;rfl)|refine VT ?_|refine VF ?_|((first|refine GS ?_ ?_|refine VB ?_ ?_)<;>intro hb<;>(try simp only [J1,J2,J3,J4,J5,J6] at hb)<;>(try (exfalso;first|omega|exact hb trivial))))
  replace hS := hS.fo (R := GP gg _)
  refine Z.eff (Z.cl (ggive_z gg ⟨2, 0, []⟩ ⟨2, 1, 0, 0, 10⟩ _ _ _ hS (by simp) (by simp)) rfl ?_) rfl
  clear hS
  rintro e w ⟨rfl, hS⟩
  refine ⟨_, rfl, ?_⟩
  rw [a28_0] at hS ⊢
  repeat' (first|refine VP ?_|refine Sh.la hS ?_|refine Sh.lb ?_|refine Sh.lc ?_|refine Sh.su ?_|(refine Sh.sa hS ?_;clear hS;intro w hS)|((first|refine Sh.aa hS ?_|refine Sh.ab hS ?_|refine Sh.ac hS ?_);clear hS;intro g w hS hge)|refine Sh.ix ?_|refine Sh.up ?_|refine Sh.sl1 ?_|refine Sh.sl2 ?_|refine Sh.sl5 ?_|refine Sh.sl3 ?_|refine Sh.sl4 ?_|refine Sh.eq ?_|refine Sh.ne ?_|refine Sh.ix2 ?_|refine Sh.ix3 ?_|refine Z.bu rfl rfl ?_|refine Z.buA rfl rfl ?_|refine VM ?_|refine Z.pl (R.cap rfl rfl) ?_|refine Z.pl R.mf ?_|refine Z.pl (R.min2 rfl rfl) ?_|refine G1 ?_|refine G2 ?_|refine G3 ?_|refine G4 ?_|with_reducible (first|refine V0 ?_|refine Z.block ?_)|((with_reducible refine Z.blX ?_ ?_);rotate_left;rfl)|refine VT ?_|refine VF ?_|((first|refine GS ?_ ?_|refine VB ?_ ?_)<;>intro hb<;>(try simp only [J1,J2,J3,J4,J5,J6] at hb)<;>(try (exfalso;first|omega|exact hb trivial))))
  rename Nat => g3
  refine Z.cut [4, 5, 6, 7, 17, 18, 19, 20, 21, 22, 23, 24, 25, 26, 27, 28] (fun w s => ∃ g4 g5 g6 g7, s = [(4, pp g4), (5, pp g5), (6, pp g6), (7, pp g7)] ∧ Sep r [] (.blk g4 51 r28a.cells :: .blk g5 51 r28a.cells :: .blk g6 51 r28b.cells :: .blk g7 51 r28c.cells :: PC gp 2 0 (pp gg) a28c :: GP gg a28g :: F) w) ?_ ?_
  · replace hS := hS.sub (L' := PC gp 2 0 (pp gg) .zero :: GP gg a28g :: .blk g 23 a28P.cells :: .blk g3 23 a28Q.cells :: F) (by repeat (first | exact Sub.rest | exact Sub.nil | exact .skip .rest | exact .skip (.skip .rest) | exact .skip (.skip (.skip .rest)) | apply Sub.keep | refine Sub.cons (by repeat (first | exact At.here | apply At.next)) ?_ | apply Sub.skip))
    refine D.startS (Lr := [.blk g 23 a28P.cells, .blk g3 23 a28Q.cells]) (hS.sb) 19 20 (by kernel_rfl) rfl ?_
    replace hS := hS.drew
    refine Sh.dp 0 1 ?_
    refine Sh.dp 3 9 ?_
    refine Sh.dp 6 73 ?_
    refine Sh.dp 9 585 ?_
    refine Sh.dl 1 587 ?_
    refine Sh.dl 4 603 ?_
    refine Sh.dl 7 731 ?_
    refine Sh.dl 10 1755 ?_
    refine D.graph (I28 [4, 5, 6, 7, 17, 18, 19, 20, 21, 22, 23, 24, 25, 26, 27, 28] ?f0 gp gg g g3 F r) ok28 next28 fin28 (ms28 1755) (by kernel_rfl) ?_ ?hst ?hend 12 1755 (0, 0, 0, 0, 0, 0) _ _ (by simp [ms28]) ?hI
    case hI =>
      exact ⟨by repeat (first | with_reducible exact Same.refl | ((with_reducible refine Same.upd ?_ ?_); · rfl)), ⟨rfl, rfl, rfl, rfl, rfl, rfl, rfl, rfl⟩, by omega, by omega, by omega, by omega, 0, 0, 0, 0, by omega, by omega, by omega, by omega, Sep.pure_open.2 ⟨trivial, Sep.pure_open.2 ⟨trivial, Sep.pure_open.2 ⟨trivial, Sep.pure_open.2 ⟨trivial, hS⟩⟩⟩⟩⟩
    case hend =>
      rintro ⟨a, b4, b5, b6, b7, s⟩ f w hf ⟨hsm, ⟨h17, h20, h23, h26, h18, h21, h24, h27⟩, k1, k2, k3, k4, g4, g5, g6, g7, e4, e5, e6, e7, hS⟩
      simp only [fin28, Bool.and_eq_true, Nat.beq_eq] at hf
      obtain ⟨⟨rfl, rfl⟩, ⟨⟨rfl, rfl⟩, rfl⟩, rfl⟩ := hf
      exact Z.cutE [(4, pp g4), (5, pp g5), (6, pp g6), (7, pp g7)] (Same.trans hsm (by repeat (first | with_reducible exact Same.refl | ((with_reducible refine Same.upd ?_ ?_); · rfl)))) ⟨by rw [e4 rfl]; rfl, by rw [e5 rfl]; rfl, by rw [e6 rfl]; rfl, by rw [e7 rfl]; rfl, trivial⟩ ⟨g4, g5, g6, g7, rfl, hS.sb⟩
    case hst =>
      rintro ⟨a, b4, b5, b6, b7, s⟩ i f w hok ⟨hsm, ⟨h17, h20, h23, h26, h18, h21, h24, h27⟩, k1, k2, k3, k4, g4, g5, g6, g7, e4, e5, e6, e7, hS⟩
      simp only [ok28, Bool.or_eq_true, Bool.and_eq_true, Nat.beq_eq] at hok
      rcases hok with ⟨rfl, rfl, rfl⟩ | ⟨rfl, rfl, rfl⟩ | ⟨rfl, rfl, rfl⟩ | ⟨rfl, rfl, rfl⟩ | ⟨rfl, rfl, rfl⟩ | ⟨rfl, rfl, rfl⟩ | ⟨rfl, rfl, rfl⟩ | ⟨rfl, rfl, rfl⟩ | ⟨hi, rfl, rfl, rfl, rfl, rfl, hs⟩
      · refine ⟨_, rfl, rfl, Z.cl (pexec_z gp gg 2 0 .zero a28g 0 3 a28P _ _ _ ((hS.focus (R := GP gg a28g) (by repeat (first | exact At.here | apply At.next))).focus (R := PC gp 2 0 (pp gg) .zero) (by repeat (first | exact At.here | apply At.next))) CG.zero a28_ws (by decide) (by decide)) (by show [f 17, _, _, f 18] = _; rw [h17, h18]; rfl) ?_⟩
        rw [a28_1]
        rintro e w ⟨rfl, hS⟩
        exact ⟨_, rfl, .upd rfl hsm, ⟨h17, h20, h23, h26, h18, h21, h24, h27⟩, fun _ => rfl, by omega, by omega, by omega, g4, g5, g6, g7, e4, e5, e6, e7, hS.sb⟩
      · refine ⟨_, rfl, rfl, Z.cl (pexec_z gp gg 2 0 a28c a28g 0 3 a28P _ _ _ ((hS.focus (R := GP gg a28g) (by repeat (first | exact At.here | apply At.next))).focus (R := PC gp 2 0 (pp gg) a28c) (by repeat (first | exact At.here | apply At.next))) a28_cg a28_ws (by decide) (by decide)) (by show [f 20, _, _, f 21] = _; rw [h20, h21]; rfl) ?_⟩
        rw [a28_2]
        rintro e w ⟨rfl, hS⟩
        exact ⟨_, rfl, .upd rfl hsm, ⟨h17, h20, h23, h26, h18, h21, h24, h27⟩, fun _ => k1 (by omega), fun _ => rfl, by omega, by omega, g4, g5, g6, g7, e4, e5, e6, e7, hS.sb⟩
      · refine ⟨_, rfl, rfl, Z.cl (pexec_z gp gg 2 0 a28c a28g 0 3 a28Q _ _ _ ((hS.focus (R := GP gg a28g) (by repeat (first | exact At.here | apply At.next))).focus (R := PC gp 2 0 (pp gg) a28c) (by repeat (first | exact At.here | apply At.next))) a28_cg a28_ws (by decide) (by decide)) (by show [f 23, _, _, f 24] = _; rw [h23, h24]; rfl) ?_⟩
        rw [a28_3]
        rintro e w ⟨rfl, hS⟩
        exact ⟨_, rfl, .upd rfl hsm, ⟨h17, h20, h23, h26, h18, h21, h24, h27⟩, fun _ => k1 (by omega), fun _ => k2 (by omega), fun _ => rfl, by omega, g4, g5, g6, g7, e4, e5, e6, e7, hS.sb⟩
      · refine ⟨_, rfl, rfl, Z.cl (pexec_z gp gg 2 0 a28c a28g 0 10 a28Q _ _ _ ((hS.focus (R := GP gg a28g) (by repeat (first | exact At.here | apply At.next))).focus (R := PC gp 2 0 (pp gg) a28c) (by repeat (first | exact At.here | apply At.next))) a28_cg a28_ws (by decide) (by decide)) (by show [f 26, _, _, f 27] = _; rw [h26, h27]; rfl) ?_⟩
        rw [a28_4]
        rintro e w ⟨rfl, hS⟩
        exact ⟨_, rfl, .upd rfl hsm, ⟨h17, h20, h23, h26, h18, h21, h24, h27⟩, fun _ => k1 (by omega), fun _ => k2 (by omega), fun _ => k3 (by omega), fun _ => rfl, g4, g5, g6, g7, e4, e5, e6, e7, hS.sb⟩
      · refine ⟨_, rfl, rfl, Z.al hS fun g w hS _ => ?_⟩
        exact ⟨.upd rfl hsm, ⟨h17, h20, h23, h26, h18, h21, h24, h27⟩, k1, k2, k3, k4, g, g5, g6, g7, fun _ => rfl, e5, e6, e7, hS.sb⟩
      · refine ⟨_, rfl, rfl, Z.al hS fun g w hS _ => ?_⟩
        exact ⟨.upd rfl hsm, ⟨h17, h20, h23, h26, h18, h21, h24, h27⟩, k1, k2, k3, k4, g4, g, g6, g7, e4, fun _ => rfl, e6, e7, hS.sb⟩
      · refine ⟨_, rfl, rfl, Z.al hS fun g w hS _ => ?_⟩
        exact ⟨.upd rfl hsm, ⟨h17, h20, h23, h26, h18, h21, h24, h27⟩, k1, k2, k3, k4, g4, g5, g, g7, e4, e5, fun _ => rfl, e7, hS.sb⟩
      · refine ⟨_, rfl, rfl, Z.al hS fun g w hS _ => ?_⟩
        exact ⟨.upd rfl hsm, ⟨h17, h20, h23, h26, h18, h21, h24, h27⟩, k1, k2, k3, k4, g4, g5, g6, g, e4, e5, e6, fun _ => rfl, hS.sb⟩
      · rcases hi with rfl | rfl | rfl | rfl
        · obtain rfl : s = 0 := by omega
          refine ⟨_, rfl, rfl, Z.st (v := r28a.val) (cs' := r28a.cells) (hS.focus (R := .blk g4 51 rep0) (by repeat (first | exact At.here | apply At.next))) (e4 rfl) .here (k1 (by omega)) rfl fun w hS => ?_⟩
          exact ⟨hsm, ⟨h17, h20, h23, h26, h18, h21, h24, h27⟩, k1, k2, k3, k4, g4, g5, g6, g7, e4, e5, e6, e7, hS.sb⟩
        · obtain rfl : s = 1 := by omega
          refine ⟨_, rfl, rfl, Z.st (v := r28a.val) (cs' := r28a.cells) (hS.focus (R := .blk g5 51 rep0) (by repeat (first | exact At.here | apply At.next))) (e5 rfl) .here (k2 (by omega)) rfl fun w hS => ?_⟩
          exact ⟨hsm, ⟨h17, h20, h23, h26, h18, h21, h24, h27⟩, k1, k2, k3, k4, g4, g5, g6, g7, e4, e5, e6, e7, hS.sb⟩
        · obtain rfl : s = 2 := by omega
          refine ⟨_, rfl, rfl, Z.st (v := r28b.val) (cs' := r28b.cells) (hS.focus (R := .blk g6 51 rep0) (by repeat (first | exact At.here | apply At.next))) (e6 rfl) .here (k3 (by omega)) rfl fun w hS => ?_⟩
          exact ⟨hsm, ⟨h17, h20, h23, h26, h18, h21, h24, h27⟩, k1, k2, k3, k4, g4, g5, g6, g7, e4, e5, e6, e7, hS.sb⟩
        · obtain rfl : s = 3 := by omega
          refine ⟨_, rfl, rfl, Z.st (v := r28c.val) (cs' := r28c.cells) (hS.focus (R := .blk g7 51 rep0) (by repeat (first | exact At.here | apply At.next))) (e7 rfl) .here (k4 (by omega)) rfl fun w hS => ?_⟩
          exact ⟨hsm, ⟨h17, h20, h23, h26, h18, h21, h24, h27⟩, k1, k2, k3, k4, g4, g5, g6, g7, e4, e5, e6, e7, hS.sb⟩
    · rintro ⟨a, b4, b5, b6, b7, s⟩ f w ⟨_, _, _, _, _, _, g4, g5, g6, g7, _, _, _, _, hS⟩
      exact hS.sb
  clear hS
  rintro q1 w _ ⟨g4, g5, g6, g7, rfl, hS⟩
  repeat' (first|refine VP ?_|refine Sh.la hS ?_|refine Sh.lb ?_|refine Sh.lc ?_|refine Sh.su ?_|(refine Sh.sa hS ?_;clear hS;intro w hS)|((first|refine Sh.aa hS ?_|refine Sh.ab hS ?_|refine Sh.ac hS ?_);clear hS;intro g w hS hge)|refine Sh.ix ?_|refine Sh.up ?_|refine Sh.sl1 ?_|refine Sh.sl2 ?_|refine Sh.sl5 ?_|refine Sh.sl3 ?_|refine Sh.sl4 ?_|refine Sh.eq ?_|refine Sh.ne ?_|refine Sh.ix2 ?_|refine Sh.ix3 ?_|refine Z.bu rfl rfl ?_|refine Z.buA rfl rfl ?_|refine VM ?_|refine Z.pl (R.cap rfl rfl) ?_|refine Z.pl R.mf ?_|refine Z.pl (R.min2 rfl rfl) ?_|refine G1 ?_|refine G2 ?_|refine G3 ?_|refine G4 ?_|with_reducible (first|refine V0 ?_|refine Z.block ?_)|((with_reducible refine Z.blX ?_ ?_);rotate_left;rfl)|refine VT ?_|refine VF ?_|((first|refine GS ?_ ?_|refine VB ?_ ?_)<;>intro hb<;>(try simp only [J1,J2,J3,J4,J5,J6] at hb)<;>(try (exfalso;first|omega|exact hb trivial))))
  replace hS := hS.sub (L' := PC gp 2 0 (pp gg) a28c :: GP gg a28g :: .blk g4 51 r28a.cells :: .blk g5 51 r28a.cells :: .blk g6 51 r28b.cells :: .blk g7 51 r28c.cells :: F) (by repeat (first | exact Sub.rest | exact Sub.nil | exact .skip .rest | exact .skip (.skip .rest) | exact .skip (.skip (.skip .rest)) | apply Sub.keep | refine Sub.cons (by repeat (first | exact At.here | apply At.next)) ?_ | apply Sub.skip))
  refine Z.eff (Z.cl (pexec_z gp gg 2 0 a28c a28g 0 3 a28D _ _ _ hS a28_cg a28_ws (by decide) (by decide)) rfl ?_) rfl
  clear hS
  rintro e w ⟨rfl, hS⟩
  refine ⟨_, rfl, ?_⟩
  rw [a28_5] at hS ⊢
  repeat' (first|refine VP ?_|refine Sh.la hS ?_|refine Sh.lb ?_|refine Sh.lc ?_|refine Sh.su ?_|(refine Sh.sa hS ?_;clear hS;intro w hS)|((first|refine Sh.aa hS ?_|refine Sh.ab hS ?_|refine Sh.ac hS ?_);clear hS;intro g w hS hge)|refine Sh.ix ?_|refine Sh.up ?_|refine Sh.sl1 ?_|refine Sh.sl2 ?_|refine Sh.sl5 ?_|refine Sh.sl3 ?_|refine Sh.sl4 ?_|refine Sh.eq ?_|refine Sh.ne ?_|refine Sh.ix2 ?_|refine Sh.ix3 ?_|refine Z.bu rfl rfl ?_|refine Z.buA rfl rfl ?_|refine VM ?_|refine Z.pl (R.cap rfl rfl) ?_|refine Z.pl R.mf ?_|refine Z.pl (R.min2 rfl rfl) ?_|refine G1 ?_|refine G2 ?_|refine G3 ?_|refine G4 ?_|with_reducible (first|refine V0 ?_|refine Z.block ?_)|((with_reducible refine Z.blX ?_ ?_);rotate_left;rfl)|refine VT ?_|refine VF ?_|((first|refine GS ?_ ?_|refine VB ?_ ?_)<;>intro hb<;>(try simp only [J1,J2,J3,J4,J5,J6] at hb)<;>(try (exfalso;first|omega|exact hb trivial))))
  replace hS := hS.fo (R := PC gp _ _ _ _)
  refine Z.eff (Z.cl (pclen_z gp 2 0 _ a28c _ _ _ hS) rfl ?_) rfl
  clear hS
  rintro e w ⟨rfl, hS⟩
  refine ⟨_, rfl, ?_⟩
  rw [a28_len]
  repeat' (first|refine VP ?_|refine Sh.la hS ?_|refine Sh.lb ?_|refine Sh.lc ?_|refine Sh.su ?_|(refine Sh.sa hS ?_;clear hS;intro w hS)|((first|refine Sh.aa hS ?_|refine Sh.ab hS ?_|refine Sh.ac hS ?_);clear hS;intro g w hS hge)|refine Sh.ix ?_|refine Sh.up ?_|refine Sh.sl1 ?_|refine Sh.sl2 ?_|refine Sh.sl5 ?_|refine Sh.sl3 ?_|refine Sh.sl4 ?_|refine Sh.eq ?_|refine Sh.ne ?_|refine Sh.ix2 ?_|refine Sh.ix3 ?_|refine Z.bu rfl rfl ?_|refine Z.buA rfl rfl ?_|refine VM ?_|refine Z.pl (R.cap rfl rfl) ?_|refine Z.pl R.mf ?_|refine Z.pl (R.min2 rfl rfl) ?_|refine G1 ?_|refine G2 ?_|refine G3 ?_|refine G4 ?_|with_reducible (first|refine V0 ?_|refine Z.block ?_)|((with_reducible refine Z.blX ?_ ?_);rotate_left;rfl)|refine VT ?_|refine VF ?_|((first|refine GS ?_ ?_|refine VB ?_ ?_)<;>intro hb<;>(try simp only [J1,J2,J3,J4,J5,J6] at hb)<;>(try (exfalso;first|omega|exact hb trivial))))
  first | refine Z.done hS Tryz.results13 (Z.RV.tmp rfl Z.RV.nil) ?_ | refine Z.doneN hS Tryz.results13 (Z.RV.tmp rfl Z.RV.nil) ?_
  exact ⟨rfl, hS.sb⟩
end Go.Proofs.YtahackdfjcgkhaaGreat
