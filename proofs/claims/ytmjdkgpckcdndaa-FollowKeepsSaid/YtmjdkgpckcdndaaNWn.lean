/-
  The net of a home with two followers as a resource, and the walk of begin.
-/
import Derived.Test.YtmjdkgpckcdndaaNFwM
import Derived.Test.YtmjdkgpckcdndaaNWs
import Derived.Test.YtmjdkgpckcdndaaNWa
import Derived.Test.YtmjdkgpckcdndaaNWg
import Derived.Test.YtmjdkgpckcdndaaML
namespace Go.Proofs.Ytmjdkgpckcdndaa
open Go.RowKit
set_option linter.unusedSimpArgs false
set_option linter.unusedVariables false
attribute [local irreducible] Res.blk Res.sl Res.all Res.ex Res.pure Res.star

theorem advN_ge (l : List Int) (i : Nat) : ∀ q, i ≤ advN l i q
  | 0 => Nat.le_refl _
  | q + 1 => Nat.le_trans (advN_ge l i q) (by show _ ≤ adv l (advN l i q); unfold adv; split <;> omega)
theorem adv_ge (l : List Int) (i : Nat) : i ≤ adv l i := by unfold adv; split <;> omega
theorem textAdv_ge (l : List Int) (i : Nat) (lo n : Int) : i ≤ textAdv l i lo n := by
  unfold textAdv
  have h1 := advN_ge l (adv l (adv l i)) (textLen l i lo n).toNat
  have h2 := adv_ge l i
  have h3 := adv_ge l (adv l i)
  omega
theorem mkChange_ge (l : List Int) (i : Nat) (c : Cp) (ep : Int) : i ≤ (mkChange l i c ep).2 := by
  have h2 := adv_ge l i
  have h3 := adv_ge l (adv l i)
  unfold mkChange
  dsimp only
  split
  · have h4 := textAdv_ge l (adv l (adv l i)) 1 16
    have h5 := textAdv_ge l (textAdv l (adv l (adv l i)) 1 16) 0 64
    simp only
    omega
  · split
    · have h4 := adv_ge l (adv l (adv l i))
      simp only
      omega
    · split
      · have h4 := textAdv_ge l (adv l (adv l i)) 0 64
        simp only
        omega
      · have h4 := adv_ge l (adv l (adv l i))
        simp only
        omega
/-- The pointers of a net. -/
structure NP where
  gh : Nat
  gw : Nat
  gl : Nat
  c0 : Nat
  c1 : Nat
  f0 : Nat
  f1 : Nat
  vh : Value
  vw : Value
  v0 : Value
  v1 : Value
  A0 : Option Addr
  A1 : Option Addr
  B0 : Option Addr
  B1 : Option Addr
  k0 : Nat
  k1 : Nat
  m0 : Nat
  m1 : Nat
def NB (gx : Nat) (p : NP) (x : Net) (n0 n1 : Nat) : Res := .blk gx 79 [.pointer (some ⟨p.gh, 0, .none⟩), .pointer (some ⟨p.gw, 0, .none⟩), .pointer (some ⟨p.gl, 0, .none⟩), .pointer (some ⟨p.c0, 0, .none⟩), .pointer (some ⟨p.c1, 0, .none⟩), .pointer (some ⟨p.f0, 0, .none⟩), .pointer (some ⟨p.f1, 0, .none⟩), .slice p.A0 n0 p.k0, .slice p.A1 n1 p.k1, .slice p.B0 (x.he 0).length p.m0, .slice p.B1 (x.he 1).length p.m1, .int .i64 x.ep]
def NR (gx : Nat) (x : Net) (sv : Nat → List ShV) (p : NP) : List Res :=
  [NB gx p x (sv 0).length (sv 1).length, PC p.gh 1 0 p.vh x.home, CR p.gw 1 0 p.vw x.home, PL p.gl x.ld, PC p.c0 2 0 p.v0 (x.fo 0).c, PC p.c1 3 0 p.v1 (x.fo 1).c,
    .blk p.f0 102 [.pointer (some ⟨p.c0, 0, .none⟩), .int .i64 (x.fo 0).seen, .int .i64 (x.fo 0).agreed], .blk p.f1 102 [.pointer (some ⟨p.c1, 0, .none⟩), .int .i64 (x.fo 1).seen, .int .i64 (x.fo 1).agreed],
    .sl 28 4 (.slice p.A0 (sv 0).length p.k0) ((sv 0).map ShV.cells), .sl 28 4 (.slice p.A1 (sv 1).length p.k1) ((sv 1).map ShV.cells),
    .sl 53 3 (.slice p.B0 (x.he 0).length p.m0) ((x.he 0).map He.cells), .sl 53 3 (.slice p.B1 (x.he 1).length p.m1) ((x.he 1).map He.cells)]
def NTR (gx : Nat) (x : Net) (sv : Nat → List ShV) : Res := .ex fun p : NP => .all (NR gx x sv p)
theorem Sep.NT_open {r w : World} {M : List Nat} {F : List Res} {gx : Nat} {x : Net} {sv : Nat → List ShV} : Sep r M (NTR gx x sv :: F) w ↔ ∃ p, Sep r M (NR gx x sv p ++ F) w := by
  simp only [NTR, Sep.ex_open, Sep.all_open]
def ldsOf (ep lag ak : Int) (s0 s1 : Sd) : Ld := ⟨ep, lag, ak, [s0, s1]⟩
def net0 (h : List Ch) (ep lag ak : Int) (q0 q1 : Bool) (k0 k1 : Nat) : Net :=
  ⟨cpOf h, ep, lag, ak, fun i => cond (Nat.beq i 0) ⟨2, 0, h.length, q0⟩ ⟨3, 0, h.length, q1⟩, fun i => cond (Nat.beq i 0) ⟨cpOf (h.take k0), 0, 0⟩ ⟨cpOf (h.take k1), 0, 0⟩, fun _ => [], fun _ => []⟩
theorem net0_inv {h : List Ch} (hh : IsH h) (hl : h.length ≤ 60) {ep lag ak : Int} (hep : 1 ≤ ep ∧ ep ≤ 1000) (he : ∀ y, y ∈ h → y.epoch ≤ ep) (hlag : -1 ≤ lag ∧ lag ≤ 1000) (hak : 0 ≤ ak ∧ ak ≤ 4096) (q0 q1 : Bool) {k0 k1 : Nat} (h0 : k0 ≤ h.length) (h1 : k1 ≤ h.length) : NInv (net0 h ep lag ak q0 q1 k0 k1) 0 := by
  have hg := hh.good
  refine ⟨hg.1, ?_, hep, ?_, hlag, hak, ?_, ?_, ?_, ?_⟩
  · simp only [net0, hg.2.1]; omega
  · simp only [net0, hg.2.1]; exact he
  · intro i hi
    rcases (by omega : i = 0 ∨ i = 1) with rfl | rfl <;> rfl
  · intro i hi
    rcases (by omega : i = 0 ∨ i = 1) with rfl | rfl
    · refine ⟨k0, ?_⟩
      simp only [net0, hg.2.1]
      exact ⟨h0, rfl, by simp only [cond_true, Nat.beq]; omega, .inr ⟨rfl, by simp only [cond_true, Nat.beq]; omega, by simp, by simp⟩, Int.le_refl _, by simp only [cond_true, Nat.beq]; omega, by simp only [cond_true, Nat.beq]; omega, Int.le_refl _, by simp, by simp⟩
    · refine ⟨k1, ?_⟩
      simp only [net0, hg.2.1]
      exact ⟨h1, rfl, by simp only [cond_false, Nat.beq]; omega, .inr ⟨rfl, by simp only [cond_false, Nat.beq]; omega, by simp, by simp⟩, Int.le_refl _, by simp only [cond_false, Nat.beq]; omega, by simp only [cond_false, Nat.beq]; omega, Int.le_refl _, by simp, by simp⟩
  · intro i _; simp [net0]
  · intro i _; simp [net0]
set_option maxHeartbeats 8000000 in
set_option maxRecDepth 10000 in
theorem begin29_z (h : List Ch) (v : Value) (n0 n1 ep lag ak : Int) (q0 q1 : Bool) (r : World) (F : List Res) (w : World) (hS : Sep r [] F w) (hrd : Reads r F 8 v (h.map Ch.cells)) (hl : h.length ≤ 60) (hh : IsH h) (hok : newOk ep lag ak) :
    Calls Try.prog 34 #[v, .agg #[.int .i64 n0, .int .i64 n1], .int .i64 ep, .int .i64 lag, .int .i64 ak, .agg #[.bool q0, .bool q1]] w fun e w' => ∃ gx, e = .returned (.tuple #[.pointer (some ⟨gx, 0, .none⟩), .bool true]) ∧
      Sep r [] (NTR gx (net0 h ep lag ak q0 q1 (modN n0 ((h.length : Int) + 1)).toNat (modN n1 ((h.length : Int) + 1)).toNat) (fun _ => []) :: F) w' := by
  obtain ⟨A, ch, rfl, hch⟩ := (hrd [] w hS).mform
  have hm0 := modN_bd n0 ((h.length : Int) + 1) (by omega)
  have hm1 := modN_bd n1 ((h.length : Int) + 1) (by omega)
  generalize hm0' : modN n0 ((h.length : Int) + 1) = m0 at *
  generalize hm1' : modN n1 ((h.length : Int) + 1) = m1 at *
  refine Z.enter Try.func34 Try.ntmps34 rfl rfl ?_
  repeat' (first|refine VP ?_|refine Sh.la hS ?_|refine Sh.lb ?_|refine Sh.lc ?_|refine Sh.su ?_|(refine Sh.sa hS ?_;clear hS;intro w hS)|((first|refine Sh.aa hS ?_|refine Sh.ab hS ?_|refine Sh.ac hS ?_);clear hS;intro g w hS hge)|refine Sh.ix ?_|refine Sh.up ?_|refine Sh.sl1 ?_|refine Sh.sl2 ?_|refine Sh.sl5 ?_|refine Sh.sl3 ?_|refine Sh.sl4 ?_|refine Sh.eq ?_|refine Sh.ne ?_|refine Sh.ix2 ?_|refine Sh.ix3 ?_|refine Z.bu rfl rfl ?_|refine VM ?_|refine Z.pl (R.cap rfl rfl) ?_|refine Z.pl R.mf ?_|refine Z.pl (R.min2 rfl rfl) ?_|refine G1 ?_|refine G2 ?_|refine G3 ?_|refine G4 ?_|with_reducible (first|refine V0 ?_|refine Z.block ?_)|((with_reducible refine Z.blX ?_ ?_);rotate_left;rfl)|refine VT ?_|refine VF ?_|((first|refine GS ?_ ?_|refine VB ?_ ?_)<;>intro hb<;>(try simp only [J1,J2,J3,J4,J5,J6] at hb)<;>(try (exfalso;first|omega|exact hb trivial))))
  rename Nat => gx
  refine Z.eff (Z.cl (pcfold_ok 1 0 h _ _ _ _ hS (hrd.sub (by repeat (first | exact Sub.rest | exact Sub.nil | exact .skip .rest | exact .skip (.skip .rest) | exact .skip (.skip (.skip .rest)) | apply Sub.keep | refine Sub.cons (by repeat (first | exact At.here | apply At.next)) ?_ | apply Sub.skip))) (by omega) hh) rfl ?_) rfl
  clear hS
  rintro e w ⟨gh, gg, rfl, hS⟩
  refine ⟨_, rfl, ?_⟩
  repeat' (first|refine VP ?_|refine Sh.la hS ?_|refine Sh.lb ?_|refine Sh.lc ?_|refine Sh.su ?_|(refine Sh.sa hS ?_;clear hS;intro w hS)|((first|refine Sh.aa hS ?_|refine Sh.ab hS ?_|refine Sh.ac hS ?_);clear hS;intro g w hS hge)|refine Sh.ix ?_|refine Sh.up ?_|refine Sh.sl1 ?_|refine Sh.sl2 ?_|refine Sh.sl5 ?_|refine Sh.sl3 ?_|refine Sh.sl4 ?_|refine Sh.eq ?_|refine Sh.ne ?_|refine Sh.ix2 ?_|refine Sh.ix3 ?_|refine Z.bu rfl rfl ?_|refine VM ?_|refine Z.pl (R.cap rfl rfl) ?_|refine Z.pl R.mf ?_|refine Z.pl (R.min2 rfl rfl) ?_|refine G1 ?_|refine G2 ?_|refine G3 ?_|refine G4 ?_|with_reducible (first|refine V0 ?_|refine Z.block ?_)|((with_reducible refine Z.blX ?_ ?_);rotate_left;rfl)|refine VT ?_|refine VF ?_|((first|refine GS ?_ ?_|refine VB ?_ ?_)<;>intro hb<;>(try simp only [J1,J2,J3,J4,J5,J6] at hb)<;>(try (exfalso;first|omega|exact hb trivial))))
  refine Z.eff (Z.cl (rcfold_ok 1 0 h _ _ _ _ hS (hrd.sub (by repeat (first | exact Sub.rest | exact Sub.nil | exact .skip .rest | exact .skip (.skip .rest) | exact .skip (.skip (.skip .rest)) | apply Sub.keep | refine Sub.cons (by repeat (first | exact At.here | apply At.next)) ?_ | apply Sub.skip))) (by omega) hh) rfl ?_) rfl
  clear hS
  rintro e w ⟨gw, gg1, rfl, hS⟩
  refine ⟨_, rfl, ?_⟩
  repeat' (first|refine VP ?_|refine Sh.la hS ?_|refine Sh.lb ?_|refine Sh.lc ?_|refine Sh.su ?_|(refine Sh.sa hS ?_;clear hS;intro w hS)|((first|refine Sh.aa hS ?_|refine Sh.ab hS ?_|refine Sh.ac hS ?_);clear hS;intro g w hS hge)|refine Sh.ix ?_|refine Sh.up ?_|refine Sh.sl1 ?_|refine Sh.sl2 ?_|refine Sh.sl5 ?_|refine Sh.sl3 ?_|refine Sh.sl4 ?_|refine Sh.eq ?_|refine Sh.ne ?_|refine Sh.ix2 ?_|refine Sh.ix3 ?_|refine Z.bu rfl rfl ?_|refine VM ?_|refine Z.pl (R.cap rfl rfl) ?_|refine Z.pl R.mf ?_|refine Z.pl (R.min2 rfl rfl) ?_|refine G1 ?_|refine G2 ?_|refine G3 ?_|refine G4 ?_|with_reducible (first|refine V0 ?_|refine Z.block ?_)|((with_reducible refine Z.blX ?_ ?_);rotate_left;rfl)|refine VT ?_|refine VF ?_|((first|refine GS ?_ ?_|refine VB ?_ ?_)<;>intro hb<;>(try simp only [J1,J2,J3,J4,J5,J6] at hb)<;>(try (exfalso;first|omega|exact hb trivial))))
  refine Z.eff (Z.cl (plnew_z ep lag ak _ _ _ hS) rfl ?_) rfl
  clear hS
  rintro e w (⟨hno, _⟩ | ⟨_, gl, rfl, hS⟩)
  · exact absurd hok hno
  refine ⟨_, rfl, ?_⟩
  repeat' (first|refine VP ?_|refine Sh.la hS ?_|refine Sh.lb ?_|refine Sh.lc ?_|refine Sh.su ?_|(refine Sh.sa hS ?_;clear hS;intro w hS)|((first|refine Sh.aa hS ?_|refine Sh.ab hS ?_|refine Sh.ac hS ?_);clear hS;intro g w hS hge)|refine Sh.ix ?_|refine Sh.up ?_|refine Sh.sl1 ?_|refine Sh.sl2 ?_|refine Sh.sl5 ?_|refine Sh.sl3 ?_|refine Sh.sl4 ?_|refine Sh.eq ?_|refine Sh.ne ?_|refine Sh.ix2 ?_|refine Sh.ix3 ?_|refine Z.bu rfl rfl ?_|refine VM ?_|refine Z.pl (R.cap rfl rfl) ?_|refine Z.pl R.mf ?_|refine Z.pl (R.min2 rfl rfl) ?_|refine G1 ?_|refine G2 ?_|refine G3 ?_|refine G4 ?_|with_reducible (first|refine V0 ?_|refine Z.block ?_)|((with_reducible refine Z.blX ?_ ?_);rotate_left;rfl)|refine VT ?_|refine VF ?_|((first|refine GS ?_ ?_|refine VB ?_ ?_)<;>intro hb<;>(try simp only [J1,J2,J3,J4,J5,J6] at hb)<;>(try (exfalso;first|omega|exact hb trivial))))
  have hlo : -1 ≤ lag ∧ lag ≤ 1000 := by unfold newOk at hok; omega
  have hao : 0 ≤ ak ∧ ak ≤ 4096 := by unfold newOk at hok; omega
  have ha0 : addL ⟨ep, lag, ak, []⟩ 2 q0 h.length = (⟨ep, lag, ak, [⟨2, 0, h.length, q0⟩]⟩, 0) := by unfold addL; rw [if_neg (by omega)]; rfl
  have ha1 : addL ⟨ep, lag, ak, [⟨2, 0, h.length, q0⟩]⟩ 3 q1 h.length = (⟨ep, lag, ak, [⟨2, 0, h.length, q0⟩, ⟨3, 0, h.length, q1⟩]⟩, 0) := by unfold addL; rw [if_neg (by omega)]; rfl
  refine Z.unr 3 ?_
  repeat' (first|refine VP ?_|refine Sh.la hS ?_|refine Sh.lb ?_|refine Sh.lc ?_|refine Sh.su ?_|(refine Sh.sa hS ?_;clear hS;intro w hS)|((first|refine Sh.aa hS ?_|refine Sh.ab hS ?_|refine Sh.ac hS ?_);clear hS;intro g w hS hge)|refine Sh.ix ?_|refine Sh.up ?_|refine Sh.sl1 ?_|refine Sh.sl2 ?_|refine Sh.sl5 ?_|refine Sh.sl3 ?_|refine Sh.sl4 ?_|refine Sh.eq ?_|refine Sh.ne ?_|refine Sh.ix2 ?_|refine Sh.ix3 ?_|refine Z.bu rfl rfl ?_|refine VM ?_|refine Z.pl (R.cap rfl rfl) ?_|refine Z.pl R.mf ?_|refine Z.pl (R.min2 rfl rfl) ?_|refine G1 ?_|refine G2 ?_|refine G3 ?_|refine G4 ?_|with_reducible (first|refine V0 ?_|refine Z.block ?_)|((with_reducible refine Z.blX ?_ ?_);rotate_left;rfl)|refine VT ?_|refine VF ?_|((first|refine GS ?_ ?_|refine VB ?_ ?_)<;>intro hb<;>(try simp only [J1,J2,J3,J4,J5,J6] at hb)<;>(try (exfalso;first|omega|exact hb trivial))))
  refine D.startS hS 21 22 (by kernel_rfl) rfl ?_
  replace hS := hS.drew
  refine Sh.dp 0 1 ?_
  refine Sh.dp 1 3 ?_
  refine Sh.dp 2 7 ?_
  first | refine D.sum 3 15 rfl D.wantedN (by kernel_rfl) rfl (by constructor <;> omega) ?_ | refine D.sumW 3 15 rfl D.wantedN (by kernel_rfl) rfl ?_
  refine Sh.dp 4 31 ?_
  refine Sh.dp 5 63 ?_
  first | refine D.ixn 6 127 rfl D.wantedN (by kernel_rfl) rfl rfl rfl (by omega) ?_ | refine D.ix 6 127 rfl D.wantedN (by kernel_rfl) rfl rfl rfl (by omega) ?_ | refine D.ia 6 127 rfl D.wantedN (by kernel_rfl) rfl rfl rfl (by omega) ?_
  refine Sh.dp 8 383 ?_
  refine Sh.dp 9 895 ?_
  first | refine D.sum 10 1919 rfl D.wantedN (by kernel_rfl) rfl (by constructor <;> omega) ?_ | refine D.sumW 10 1919 rfl D.wantedN (by kernel_rfl) rfl ?_
  refine Sh.dp 18 264063 ?_
  refine Sh.dp 19 788351 ?_
  refine Sh.dl 7 788479 ?_
  refine D.eff 11 790527 rfl D.wantedN (by kernel_rfl) (by kernel_rfl) (fun _ _ h => h) ?_
  refine Z.cl (modS_z n0 ((h.length : Int) + 1) _ _ _ hS (by omega) (by omega)) rfl ?_
  clear hS
  rintro e w ⟨rfl, hS⟩
  refine ⟨_, rfl, ?_⟩
  rw [hm0']
  refine ⟨HM.s (hS.sb), ?_⟩
  refine D.pl 12 794623 rfl D.wantedN (by kernel_rfl) (R.upto rfl rfl rfl (by omega)) ?_
  refine D.eff 13 802815 rfl D.wantedN (by kernel_rfl) (by kernel_rfl) (fun _ _ h => h) ?_
  refine Z.cl (pcfold_ok 2 0 (h.take m0.toNat) _ _ _ _ hS (fun L w h => ((hrd.sub (by repeat (first | exact Sub.rest | exact Sub.nil | exact .skip .rest | exact .skip (.skip .rest) | exact .skip (.skip (.skip .rest)) | apply Sub.keep | refine Sub.cons (by repeat (first | exact At.here | apply At.next)) ?_ | apply Sub.skip))) L w h).mtake (by omega)) (by rw [List.length_take]; omega) (hh.take _)) rfl ?_
  clear hS
  rintro e w ⟨c0, gg2, rfl, hS⟩
  refine ⟨_, rfl, ?_⟩
  refine ⟨HM.s (hS.sb), ?_⟩
  refine Sh.dp 14 819199 ?_
  refine Sh.dp 15 851967 ?_
  refine Sh.dp 16 917503 ?_
  refine Sh.dp 17 1048575 ?_
  first | refine D.ixn 20 2097151 rfl D.wantedN (by kernel_rfl) rfl rfl rfl (by omega) ?_ | refine D.ix 20 2097151 rfl D.wantedN (by kernel_rfl) rfl rfl rfl (by omega) ?_ | refine D.ia 20 2097151 rfl D.wantedN (by kernel_rfl) rfl rfl rfl (by omega) ?_
  refine D.eff 21 4194303 rfl D.wantedN (by kernel_rfl) (by kernel_rfl) (fun _ _ h => h) ?_
  refine Z.st hS rfl (by repeat (first | exact At.here | apply At.next)) rfl rfl ?_
  clear hS; intro w hS
  refine ⟨HM.last (by kernel_rfl), ?_⟩
  refine D.done (by kernel_rfl) ?_
  repeat' (first|refine VP ?_|refine Sh.la hS ?_|refine Sh.lb ?_|refine Sh.lc ?_|refine Sh.su ?_|(refine Sh.sa hS ?_;clear hS;intro w hS)|((first|refine Sh.aa hS ?_|refine Sh.ab hS ?_|refine Sh.ac hS ?_);clear hS;intro g w hS hge)|refine Sh.ix ?_|refine Sh.up ?_|refine Sh.sl1 ?_|refine Sh.sl2 ?_|refine Sh.sl5 ?_|refine Sh.sl3 ?_|refine Sh.sl4 ?_|refine Sh.eq ?_|refine Sh.ne ?_|refine Sh.ix2 ?_|refine Sh.ix3 ?_|refine Z.bu rfl rfl ?_|refine VM ?_|refine Z.pl (R.cap rfl rfl) ?_|refine Z.pl R.mf ?_|refine Z.pl (R.min2 rfl rfl) ?_|refine G1 ?_|refine G2 ?_|refine G3 ?_|refine G4 ?_|with_reducible (first|refine V0 ?_|refine Z.block ?_)|((with_reducible refine Z.blX ?_ ?_);rotate_left;rfl)|refine VT ?_|refine VF ?_|((first|refine GS ?_ ?_|refine VB ?_ ?_)<;>intro hb<;>(try simp only [J1,J2,J3,J4,J5,J6] at hb)<;>(try (exfalso;first|omega|exact hb trivial))))
  refine D.startS (Lr := [.blk gx 79 _, .blk _ 72 [.bool q0, .bool q1]]) (hS.sb) 22 22 (by kernel_rfl) rfl ?_
  replace hS := hS.drew
  refine Sh.dp 0 1 ?_
  refine Sh.dp 1 3 ?_
  refine Sh.dp 2 7 ?_
  refine Sh.dp 3 15 ?_
  first | refine D.ixn 4 31 rfl D.wantedN (by kernel_rfl) rfl rfl rfl (by omega) ?_ | refine D.ix 4 31 rfl D.wantedN (by kernel_rfl) rfl rfl rfl (by omega) ?_ | refine D.ia 4 31 rfl D.wantedN (by kernel_rfl) rfl rfl rfl (by omega) ?_
  refine Sh.dl 5 63 ?_
  first | refine D.pr 6 127 rfl D.wantedN (by kernel_rfl) rfl ?_ | refine D.pl 6 127 rfl D.wantedN (by kernel_rfl) (R.eqa rfl rfl rfl rfl) ?_
  refine Sh.dp 7 255 ?_
  refine D.slot 90 rfl (fun hb => by exfalso; (try simp only [decide_eq_true_eq, decide_eq_false_iff_not, Bool.not_eq_true', Bool.not_eq_false', Int.not_lt, Int.not_le] at hb) <;> first | omega | exact hb trivial | cases hb) (fun hb => ?_)
  (try simp only [decide_eq_true_eq, decide_eq_false_iff_not, Bool.not_eq_true', Bool.not_eq_false', Int.not_lt, Int.not_le] at hb)
  refine Sh.dp 8 511 ?_
  refine Sh.dp 9 1023 ?_
  refine Sh.dp 10 2047 ?_
  refine Sh.dp 12 6143 ?_
  first | refine D.sum 13 14335 rfl (D.wantedT rfl rfl) (by kernel_rfl) rfl (by constructor <;> omega) ?_ | refine D.sumW 13 14335 rfl (D.wantedT rfl rfl) (by kernel_rfl) rfl ?_
  refine Sh.dp 14 30719 ?_
  first | refine D.ixn 15 63487 rfl (D.wantedT rfl rfl) (by kernel_rfl) rfl rfl rfl (by omega) ?_ | refine D.ix 15 63487 rfl (D.wantedT rfl rfl) (by kernel_rfl) rfl rfl rfl (by omega) ?_ | refine D.ia 15 63487 rfl (D.wantedT rfl rfl) (by kernel_rfl) rfl rfl rfl (by omega) ?_
  refine Sh.dp 17 194559 ?_
  refine Sh.dp 18 456703 ?_
  refine Sh.dl 11 458751 ?_
  refine Sh.dl 16 524287 ?_
  refine D.eff 19 1048575 rfl (D.wantedT rfl rfl) (by kernel_rfl) (by kernel_rfl) (fun _ _ h => h) ?_
  refine WE.guard ?_
  replace hS := hS.fo (R := PL gl _)
  refine Z.cl (pladd_z gl ⟨ep, lag, ak, []⟩ 2 q0 h.length _ _ _ hS ⟨by simp, by simp, hlo, hao⟩) rfl ?_
  clear hS
  rintro e w ⟨rfl, hS⟩
  refine ⟨_, rfl, ?_⟩
  rw [ha0] at hS ⊢
  refine ⟨HM.s (hS.sb), ?_⟩
  first | refine D.pr 20 2097151 rfl (D.wantedT rfl rfl) (by kernel_rfl) rfl ?_ | refine D.pl 20 2097151 rfl (D.wantedT rfl rfl) (by kernel_rfl) (R.nea rfl rfl rfl rfl) ?_
  refine Sh.dp 21 4194303 ?_
  refine D.done (by kernel_rfl) ?_
  repeat' (first|refine VP ?_|refine Sh.la hS ?_|refine Sh.lb ?_|refine Sh.lc ?_|refine Sh.su ?_|(refine Sh.sa hS ?_;clear hS;intro w hS)|((first|refine Sh.aa hS ?_|refine Sh.ab hS ?_|refine Sh.ac hS ?_);clear hS;intro g w hS hge)|refine Sh.ix ?_|refine Sh.up ?_|refine Sh.sl1 ?_|refine Sh.sl2 ?_|refine Sh.sl5 ?_|refine Sh.sl3 ?_|refine Sh.sl4 ?_|refine Sh.eq ?_|refine Sh.ne ?_|refine Sh.ix2 ?_|refine Sh.ix3 ?_|refine Z.bu rfl rfl ?_|refine VM ?_|refine Z.pl (R.cap rfl rfl) ?_|refine Z.pl R.mf ?_|refine Z.pl (R.min2 rfl rfl) ?_|refine G1 ?_|refine G2 ?_|refine G3 ?_|refine G4 ?_|with_reducible (first|refine V0 ?_|refine Z.block ?_)|((with_reducible refine Z.blX ?_ ?_);rotate_left;rfl)|refine VT ?_|refine VF ?_|((first|refine GS ?_ ?_|refine VB ?_ ?_)<;>intro hb<;>(try simp only [J1,J2,J3,J4,J5,J6] at hb)<;>(try (exfalso;first|omega|exact hb trivial))))
  refine D.startS hS 12 13 (by kernel_rfl) rfl ?_
  replace hS := hS.drew
  refine Sh.dp 0 1 ?_
  refine Sh.dp 1 3 ?_
  refine Sh.dp 2 7 ?_
  refine Sh.dp 3 15 ?_
  refine Sh.dp 4 31 ?_
  refine Sh.dp 5 63 ?_
  first | refine D.ixn 6 127 rfl D.wantedN (by kernel_rfl) rfl rfl rfl (by omega) ?_ | refine D.ix 6 127 rfl D.wantedN (by kernel_rfl) rfl rfl rfl (by omega) ?_ | refine D.ia 6 127 rfl D.wantedN (by kernel_rfl) rfl rfl rfl (by omega) ?_
  refine Sh.dp 9 639 ?_
  refine Sh.dp 10 1663 ?_
  refine Sh.dl 7 1791 ?_
  refine D.eff 8 2047 rfl D.wantedN (by kernel_rfl) (by kernel_rfl) (fun _ _ h => h) ?_
  refine Z.cl (pfnew_z c0 _ _ _ hS) rfl ?_
  clear hS
  rintro e w ⟨f0, rfl, hS⟩
  refine ⟨_, rfl, ?_⟩
  refine ⟨HM.s (hS.sb), ?_⟩
  first | refine D.ixn 11 4095 rfl D.wantedN (by kernel_rfl) rfl rfl rfl (by omega) ?_ | refine D.ix 11 4095 rfl D.wantedN (by kernel_rfl) rfl rfl rfl (by omega) ?_ | refine D.ia 11 4095 rfl D.wantedN (by kernel_rfl) rfl rfl rfl (by omega) ?_
  refine D.eff 12 8191 rfl D.wantedN (by kernel_rfl) (by kernel_rfl) (fun _ _ h => h) ?_
  refine Z.st hS rfl (by repeat (first | exact At.here | apply At.next)) rfl rfl ?_
  clear hS; intro w hS
  refine ⟨HM.last (by kernel_rfl), ?_⟩
  refine D.done (by kernel_rfl) ?_
  repeat' (first|refine VP ?_|refine Sh.la hS ?_|refine Sh.lb ?_|refine Sh.lc ?_|refine Sh.su ?_|(refine Sh.sa hS ?_;clear hS;intro w hS)|((first|refine Sh.aa hS ?_|refine Sh.ab hS ?_|refine Sh.ac hS ?_);clear hS;intro g w hS hge)|refine Sh.ix ?_|refine Sh.up ?_|refine Sh.sl1 ?_|refine Sh.sl2 ?_|refine Sh.sl5 ?_|refine Sh.sl3 ?_|refine Sh.sl4 ?_|refine Sh.eq ?_|refine Sh.ne ?_|refine Sh.ix2 ?_|refine Sh.ix3 ?_|refine Z.bu rfl rfl ?_|refine VM ?_|refine Z.pl (R.cap rfl rfl) ?_|refine Z.pl R.mf ?_|refine Z.pl (R.min2 rfl rfl) ?_|refine G1 ?_|refine G2 ?_|refine G3 ?_|refine G4 ?_|with_reducible (first|refine V0 ?_|refine Z.block ?_)|((with_reducible refine Z.blX ?_ ?_);rotate_left;rfl)|refine VT ?_|refine VF ?_|((first|refine GS ?_ ?_|refine VB ?_ ?_)<;>intro hb<;>(try simp only [J1,J2,J3,J4,J5,J6] at hb)<;>(try (exfalso;first|omega|exact hb trivial))))
  refine D.startS hS 21 22 (by kernel_rfl) rfl ?_
  replace hS := hS.drew
  refine Sh.dp 0 1 ?_
  refine Sh.dp 1 3 ?_
  refine Sh.dp 2 7 ?_
  first | refine D.sum 3 15 rfl D.wantedN (by kernel_rfl) rfl (by constructor <;> omega) ?_ | refine D.sumW 3 15 rfl D.wantedN (by kernel_rfl) rfl ?_
  refine Sh.dp 4 31 ?_
  refine Sh.dp 5 63 ?_
  first | refine D.ixn 6 127 rfl D.wantedN (by kernel_rfl) rfl rfl rfl (by omega) ?_ | refine D.ix 6 127 rfl D.wantedN (by kernel_rfl) rfl rfl rfl (by omega) ?_ | refine D.ia 6 127 rfl D.wantedN (by kernel_rfl) rfl rfl rfl (by omega) ?_
  refine Sh.dp 8 383 ?_
  refine Sh.dp 9 895 ?_
  first | refine D.sum 10 1919 rfl D.wantedN (by kernel_rfl) rfl (by constructor <;> omega) ?_ | refine D.sumW 10 1919 rfl D.wantedN (by kernel_rfl) rfl ?_
  refine Sh.dp 18 264063 ?_
  refine Sh.dp 19 788351 ?_
  refine Sh.dl 7 788479 ?_
  refine D.eff 11 790527 rfl D.wantedN (by kernel_rfl) (by kernel_rfl) (fun _ _ h => h) ?_
  refine Z.cl (modS_z n1 ((h.length : Int) + 1) _ _ _ hS (by omega) (by omega)) rfl ?_
  clear hS
  rintro e w ⟨rfl, hS⟩
  refine ⟨_, rfl, ?_⟩
  rw [hm1']
  refine ⟨HM.s (hS.sb), ?_⟩
  refine D.pl 12 794623 rfl D.wantedN (by kernel_rfl) (R.upto rfl rfl rfl (by omega)) ?_
  refine D.eff 13 802815 rfl D.wantedN (by kernel_rfl) (by kernel_rfl) (fun _ _ h => h) ?_
  refine Z.cl (pcfold_ok 3 0 (h.take m1.toNat) _ _ _ _ hS (fun L w h => ((hrd.sub (by repeat (first | exact Sub.rest | exact Sub.nil | exact .skip .rest | exact .skip (.skip .rest) | exact .skip (.skip (.skip .rest)) | apply Sub.keep | refine Sub.cons (by repeat (first | exact At.here | apply At.next)) ?_ | apply Sub.skip))) L w h).mtake (by omega)) (by rw [List.length_take]; omega) (hh.take _)) rfl ?_
  clear hS
  rintro e w ⟨c1, gg3, rfl, hS⟩
  refine ⟨_, rfl, ?_⟩
  refine ⟨HM.s (hS.sb), ?_⟩
  refine Sh.dp 14 819199 ?_
  refine Sh.dp 15 851967 ?_
  refine Sh.dp 16 917503 ?_
  refine Sh.dp 17 1048575 ?_
  first | refine D.ixn 20 2097151 rfl D.wantedN (by kernel_rfl) rfl rfl rfl (by omega) ?_ | refine D.ix 20 2097151 rfl D.wantedN (by kernel_rfl) rfl rfl rfl (by omega) ?_ | refine D.ia 20 2097151 rfl D.wantedN (by kernel_rfl) rfl rfl rfl (by omega) ?_
  refine D.eff 21 4194303 rfl D.wantedN (by kernel_rfl) (by kernel_rfl) (fun _ _ h => h) ?_
  refine Z.st hS rfl (by repeat (first | exact At.here | apply At.next)) rfl rfl ?_
  clear hS; intro w hS
  refine ⟨HM.last (by kernel_rfl), ?_⟩
  refine D.done (by kernel_rfl) ?_
  repeat' (first|refine VP ?_|refine Sh.la hS ?_|refine Sh.lb ?_|refine Sh.lc ?_|refine Sh.su ?_|(refine Sh.sa hS ?_;clear hS;intro w hS)|((first|refine Sh.aa hS ?_|refine Sh.ab hS ?_|refine Sh.ac hS ?_);clear hS;intro g w hS hge)|refine Sh.ix ?_|refine Sh.up ?_|refine Sh.sl1 ?_|refine Sh.sl2 ?_|refine Sh.sl5 ?_|refine Sh.sl3 ?_|refine Sh.sl4 ?_|refine Sh.eq ?_|refine Sh.ne ?_|refine Sh.ix2 ?_|refine Sh.ix3 ?_|refine Z.bu rfl rfl ?_|refine VM ?_|refine Z.pl (R.cap rfl rfl) ?_|refine Z.pl R.mf ?_|refine Z.pl (R.min2 rfl rfl) ?_|refine G1 ?_|refine G2 ?_|refine G3 ?_|refine G4 ?_|with_reducible (first|refine V0 ?_|refine Z.block ?_)|((with_reducible refine Z.blX ?_ ?_);rotate_left;rfl)|refine VT ?_|refine VF ?_|((first|refine GS ?_ ?_|refine VB ?_ ?_)<;>intro hb<;>(try simp only [J1,J2,J3,J4,J5,J6] at hb)<;>(try (exfalso;first|omega|exact hb trivial))))
  refine D.startS (Lr := [.blk gx 79 _, .blk _ 72 [.bool q0, .bool q1]]) (hS.sb) 22 22 (by kernel_rfl) rfl ?_
  replace hS := hS.drew
  refine Sh.dp 0 1 ?_
  refine Sh.dp 1 3 ?_
  refine Sh.dp 2 7 ?_
  refine Sh.dp 3 15 ?_
  first | refine D.ixn 4 31 rfl D.wantedN (by kernel_rfl) rfl rfl rfl (by omega) ?_ | refine D.ix 4 31 rfl D.wantedN (by kernel_rfl) rfl rfl rfl (by omega) ?_ | refine D.ia 4 31 rfl D.wantedN (by kernel_rfl) rfl rfl rfl (by omega) ?_
  refine Sh.dl 5 63 ?_
  first | refine D.pr 6 127 rfl D.wantedN (by kernel_rfl) rfl ?_ | refine D.pl 6 127 rfl D.wantedN (by kernel_rfl) (R.eqa rfl rfl rfl rfl) ?_
  refine Sh.dp 7 255 ?_
  refine D.slot 90 rfl (fun hb => by exfalso; (try simp only [decide_eq_true_eq, decide_eq_false_iff_not, Bool.not_eq_true', Bool.not_eq_false', Int.not_lt, Int.not_le] at hb) <;> first | omega | exact hb trivial | cases hb) (fun hb => ?_)
  (try simp only [decide_eq_true_eq, decide_eq_false_iff_not, Bool.not_eq_true', Bool.not_eq_false', Int.not_lt, Int.not_le] at hb)
  refine Sh.dp 8 511 ?_
  refine Sh.dp 9 1023 ?_
  refine Sh.dp 10 2047 ?_
  refine Sh.dp 12 6143 ?_
  first | refine D.sum 13 14335 rfl (D.wantedT rfl rfl) (by kernel_rfl) rfl (by constructor <;> omega) ?_ | refine D.sumW 13 14335 rfl (D.wantedT rfl rfl) (by kernel_rfl) rfl ?_
  refine Sh.dp 14 30719 ?_
  first | refine D.ixn 15 63487 rfl (D.wantedT rfl rfl) (by kernel_rfl) rfl rfl rfl (by omega) ?_ | refine D.ix 15 63487 rfl (D.wantedT rfl rfl) (by kernel_rfl) rfl rfl rfl (by omega) ?_ | refine D.ia 15 63487 rfl (D.wantedT rfl rfl) (by kernel_rfl) rfl rfl rfl (by omega) ?_
  refine Sh.dp 17 194559 ?_
  refine Sh.dp 18 456703 ?_
  refine Sh.dl 11 458751 ?_
  refine Sh.dl 16 524287 ?_
  refine D.eff 19 1048575 rfl (D.wantedT rfl rfl) (by kernel_rfl) (by kernel_rfl) (fun _ _ h => h) ?_
  refine WE.guard ?_
  replace hS := hS.fo (R := PL gl _)
  refine Z.cl (pladd_z gl ⟨ep, lag, ak, [⟨2, 0, h.length, q0⟩]⟩ 3 q1 h.length _ _ _ hS ⟨by simp, by simp [Sd.ok]; omega, hlo, hao⟩) rfl ?_
  clear hS
  rintro e w ⟨rfl, hS⟩
  refine ⟨_, rfl, ?_⟩
  rw [ha1] at hS ⊢
  refine ⟨HM.s (hS.sb), ?_⟩
  first | refine D.pr 20 2097151 rfl (D.wantedT rfl rfl) (by kernel_rfl) rfl ?_ | refine D.pl 20 2097151 rfl (D.wantedT rfl rfl) (by kernel_rfl) (R.nea rfl rfl rfl rfl) ?_
  refine Sh.dp 21 4194303 ?_
  refine D.done (by kernel_rfl) ?_
  repeat' (first|refine VP ?_|refine Sh.la hS ?_|refine Sh.lb ?_|refine Sh.lc ?_|refine Sh.su ?_|(refine Sh.sa hS ?_;clear hS;intro w hS)|((first|refine Sh.aa hS ?_|refine Sh.ab hS ?_|refine Sh.ac hS ?_);clear hS;intro g w hS hge)|refine Sh.ix ?_|refine Sh.up ?_|refine Sh.sl1 ?_|refine Sh.sl2 ?_|refine Sh.sl5 ?_|refine Sh.sl3 ?_|refine Sh.sl4 ?_|refine Sh.eq ?_|refine Sh.ne ?_|refine Sh.ix2 ?_|refine Sh.ix3 ?_|refine Z.bu rfl rfl ?_|refine VM ?_|refine Z.pl (R.cap rfl rfl) ?_|refine Z.pl R.mf ?_|refine Z.pl (R.min2 rfl rfl) ?_|refine G1 ?_|refine G2 ?_|refine G3 ?_|refine G4 ?_|with_reducible (first|refine V0 ?_|refine Z.block ?_)|((with_reducible refine Z.blX ?_ ?_);rotate_left;rfl)|refine VT ?_|refine VF ?_|((first|refine GS ?_ ?_|refine VB ?_ ?_)<;>intro hb<;>(try simp only [J1,J2,J3,J4,J5,J6] at hb)<;>(try (exfalso;first|omega|exact hb trivial))))
  refine D.startS hS 12 13 (by kernel_rfl) rfl ?_
  replace hS := hS.drew
  refine Sh.dp 0 1 ?_
  refine Sh.dp 1 3 ?_
  refine Sh.dp 2 7 ?_
  refine Sh.dp 3 15 ?_
  refine Sh.dp 4 31 ?_
  refine Sh.dp 5 63 ?_
  first | refine D.ixn 6 127 rfl D.wantedN (by kernel_rfl) rfl rfl rfl (by omega) ?_ | refine D.ix 6 127 rfl D.wantedN (by kernel_rfl) rfl rfl rfl (by omega) ?_ | refine D.ia 6 127 rfl D.wantedN (by kernel_rfl) rfl rfl rfl (by omega) ?_
  refine Sh.dp 9 639 ?_
  refine Sh.dp 10 1663 ?_
  refine Sh.dl 7 1791 ?_
  refine D.eff 8 2047 rfl D.wantedN (by kernel_rfl) (by kernel_rfl) (fun _ _ h => h) ?_
  refine Z.cl (pfnew_z c1 _ _ _ hS) rfl ?_
  clear hS
  rintro e w ⟨f1, rfl, hS⟩
  refine ⟨_, rfl, ?_⟩
  refine ⟨HM.s (hS.sb), ?_⟩
  first | refine D.ixn 11 4095 rfl D.wantedN (by kernel_rfl) rfl rfl rfl (by omega) ?_ | refine D.ix 11 4095 rfl D.wantedN (by kernel_rfl) rfl rfl rfl (by omega) ?_ | refine D.ia 11 4095 rfl D.wantedN (by kernel_rfl) rfl rfl rfl (by omega) ?_
  refine D.eff 12 8191 rfl D.wantedN (by kernel_rfl) (by kernel_rfl) (fun _ _ h => h) ?_
  refine Z.st hS rfl (by repeat (first | exact At.here | apply At.next)) rfl rfl ?_
  clear hS; intro w hS
  refine ⟨HM.last (by kernel_rfl), ?_⟩
  refine D.done (by kernel_rfl) ?_
  repeat' (first|refine VP ?_|refine Sh.la hS ?_|refine Sh.lb ?_|refine Sh.lc ?_|refine Sh.su ?_|(refine Sh.sa hS ?_;clear hS;intro w hS)|((first|refine Sh.aa hS ?_|refine Sh.ab hS ?_|refine Sh.ac hS ?_);clear hS;intro g w hS hge)|refine Sh.ix ?_|refine Sh.up ?_|refine Sh.sl1 ?_|refine Sh.sl2 ?_|refine Sh.sl5 ?_|refine Sh.sl3 ?_|refine Sh.sl4 ?_|refine Sh.eq ?_|refine Sh.ne ?_|refine Sh.ix2 ?_|refine Sh.ix3 ?_|refine Z.bu rfl rfl ?_|refine VM ?_|refine Z.pl (R.cap rfl rfl) ?_|refine Z.pl R.mf ?_|refine Z.pl (R.min2 rfl rfl) ?_|refine G1 ?_|refine G2 ?_|refine G3 ?_|refine G4 ?_|with_reducible (first|refine V0 ?_|refine Z.block ?_)|((with_reducible refine Z.blX ?_ ?_);rotate_left;rfl)|refine VT ?_|refine VF ?_|((first|refine GS ?_ ?_|refine VB ?_ ?_)<;>intro hb<;>(try simp only [J1,J2,J3,J4,J5,J6] at hb)<;>(try (exfalso;first|omega|exact hb trivial))))
  first | refine Z.done hS Try.results34 (Z.RV.tmp rfl (Z.RV.tmp rfl Z.RV.nil)) ?_ | refine Z.doneN hS Try.results34 (Z.RV.tmp rfl (Z.RV.tmp rfl Z.RV.nil)) ?_
  replace hS := Z.nilsl (Z.nilsl (Z.nilsl (Z.nilsl hS 28 4 none) 28 4 none) 53 3 none) 53 3 none
  refine ⟨gx, rfl, Sep.NT_open.2 ⟨⟨gh, gw, gl, c0, c1, f0, f1, .pointer (some ⟨gg, 0, .none⟩), .pointer (some ⟨gg1, 0, .none⟩), .pointer (some ⟨gg2, 0, .none⟩), .pointer (some ⟨gg3, 0, .none⟩), none, none, none, none, 0, 0, 0, 0⟩, ?_⟩⟩
  simp only [NR, NB, List.cons_append, List.nil_append]
  exact hS.sb
end Go.Proofs.Ytmjdkgpckcdndaa
