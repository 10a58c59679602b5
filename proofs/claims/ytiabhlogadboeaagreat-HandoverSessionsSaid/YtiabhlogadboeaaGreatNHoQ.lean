/-
  Two copies of a tenant, of the program and of the reference, as the statements about handovers make them.
-/
import Derived.Test.YtiabhlogadboeaaGreatNHoR
import Derived.Test.YtiabhlogadboeaaGreatNHoA
import Derived.OpenShut
namespace Go.Proofs.YtiabhlogadboeaaGreat
open Go.RowKit Go.ChangeShapes Go.WideShapes Go.ChangeAt
set_option linter.unusedSimpArgs false
set_option linter.unusedVariables false

section
variable {H : Type} {enc : TypeId × Value → H} {w : World} {base : Nat} {spare : Nat → Bool} {held : Bool}
set_option maxRecDepth 100000 in
/-- An argument of type bool. -/
theorem arg_bool {v : Value} {d : DataW H} {p : List MemPlace} {b0 : Nat} (hv : Value.okWide Tryz.prog w .any b0 4 v) (h : DataW.Trod enc Tryz.prog w base spare held 4 v d p) : ∃ b, v = .bool b := okWide_bool Tryz.underlying4 hv
set_option maxRecDepth 100000 in
/-- An argument of type [2]int. -/
theorem arg_pair {v : Value} {d : DataW H} {p : List MemPlace} {b0 : Nat} (hv : Value.okWide Tryz.prog w .any b0 23 v) (h : DataW.Trod enc Tryz.prog w base spare held 23 v d p) : ∃ y z, v = .agg #[.int .i64 y, .int .i64 z] ∧ i64ok y ∧ i64ok z := by
  have hs : ∃ cs, v = .agg cs := by
    simp only [Value.okWide, Tryz.underlying23] at hv
    obtain ⟨cs, h1, _⟩ := hv
    exact ⟨cs, h1⟩
  obtain ⟨cs, rfl⟩ := hs
  obtain ⟨fuel, hf⟩ := h
  obtain ⟨xs, k, _, _, hlen, hxl, hf⟩ := DataW.trod_array Tryz.underlying23 hf
  rw [show Tryz.prog.cellsOf 23 = 2 by kernel_rfl] at hlen
  obtain ⟨cs⟩ := cs
  simp only [Value.cells] at hlen hf
  match cs, hlen with
  | [d0, d1], _ =>
    have h0 := hf 0 (by decide)
    have h1 := hf 1 (by decide)
    rw [Tryz.cellsI] at h0 h1
    obtain ⟨z0, e0, b0⟩ := field_intb (i := 0) (cs := [d0, d1]) hxl (by decide) (by rw [Tryz.cellsI]; exact h0)
    obtain ⟨z1, e1, b1⟩ := field_intb (i := 1) (cs := [d1]) hxl (by decide) (by rw [Tryz.cellsI]; exact h1)
    simp at e0 e1
    subst e0 e1
    exact ⟨z0, z1, rfl, b0, b1⟩
end
/-- The history of the second copy. -/
def pairG (l : List Int) (n : Int) (m : List Int) (fk : Bool) : List Ch := if fk then (forkC (hist l).h n m).h else (hist l).h.take (modN n (((hist l).h.length : Int) + 1)).toNat
theorem pairG_isH (l : List Int) (n : Int) (m : List Int) (fk : Bool) : IsH (pairG l n m fk) ∧ (pairG l n m fk).length ≤ 90 := by
  have hH := hist_isH l
  have hl := hist_len l
  cases fk with
  | true =>
    obtain ⟨hg, ext, he, hle, _⟩ := hH.fork n m
    refine ⟨⟨_, hg, rfl⟩, ?_⟩
    show (forkC (hist l).h n m).h.length ≤ 90
    rw [he, List.length_append, List.length_take]
    omega
  | false =>
    refine ⟨hH.take _, ?_⟩
    show ((hist l).h.take _).length ≤ 90
    rw [List.length_take]
    omega
set_option maxHeartbeats 4000000 in
theorem pair_z (l : List Int) (A : Option Addr) (cap : Nat) (m : List Int) (A2 : Option Addr) (cap2 : Nat) (n : Int) (fk : Bool) (t0 t1 c0 c1 : Int) (r : World) (F : List Res) (w : World) (hS : Sep r [] F w) (hr0 : Rd r 1 A l.length (l.map (Value.int .i64))) (hr1 : Rd r 1 A2 m.length (m.map (Value.int .i64))) (h0 : l.length ≤ 150) (h1 : m.length ≤ 150) :
    Calls Tryz.prog 10 #[.slice A l.length cap, .slice A2 m.length cap2, .int .i64 n, .bool fk, .agg #[.int .i64 t0, .int .i64 t1], .agg #[.int .i64 c0, .int .i64 c1]] w fun e w' => ∃ ga gga gb ggb gv ggv gw ggw, e = .returned (.tuple #[.pointer (some ⟨ga, 0, .none⟩), .pointer (some ⟨gb, 0, .none⟩), .pointer (some ⟨gv, 0, .none⟩), .pointer (some ⟨gw, 0, .none⟩)]) ∧ Sep r [] (PC ga c0 t0 (.pointer (some ⟨gga, 0, .none⟩)) (cpOf (hist l).h) :: GP gga ⟨c0, 0, []⟩ :: PC gb c1 t1 (.pointer (some ⟨ggb, 0, .none⟩)) (cpOf (pairG l n m fk)) :: GP ggb ⟨c1, 0, []⟩ :: CR gv c0 t0 (.pointer (some ⟨ggv, 0, .none⟩)) (cpOf (hist l).h) :: GR ggv ⟨c0, 0, []⟩ :: CR gw c1 t1 (.pointer (some ⟨ggw, 0, .none⟩)) (cpOf (pairG l n m fk)) :: GR ggw ⟨c1, 0, []⟩ :: F) w' := by
  have hG := pairG_isH l n m fk
  have hH := hist_isH l
  have hHl := hist_len l
  have hep := hist_epochs l
  refine Z.enter Tryz.func10 Tryz.ntmps10 rfl rfl ?_
  repeat' (first|refine K ?_|(refine Sh.sa hS ?_;clear hS;intro w hS)|(refine K3 ?_;clear hS;intro g w hS hge)|((first|refine GS ?_ ?_|refine VB ?_ ?_)<;>intro hb<;>(try simp only [J1,J2,J3,J4,J5,J6] at hb)<;>(try (exfalso;first|omega|exact hb trivial))))
  rename Nat => g11
  refine Z.eff (Z.cl (history_z l A cap _ _ _ hS hr0 (by omega)) rfl ?_) rfl
  clear hS
  rintro e w ⟨vh, rfl, hS⟩
  refine ⟨_, rfl, ?_⟩
  unfold pairG at hG ⊢
  generalize (hist l).h = h at *
  obtain ⟨Ah, ch, rfl, hcap⟩ := (hS.slrows .here).mform
  repeat' (first|refine K ?_|(refine Sh.sa hS ?_;clear hS;intro w hS)|(refine K3 ?_;clear hS;intro g w hS hge)|((first|refine GS ?_ ?_|refine VB ?_ ?_)<;>intro hb<;>(try simp only [J1,J2,J3,J4,J5,J6] at hb)<;>(try (exfalso;first|omega|exact hb trivial))))
  refine Z.eff (Z.cl (modS_z n ((h.length : Int) + 1) _ _ _ hS (by omega) (by omega)) rfl ?_) rfl
  clear hS
  rintro e w ⟨rfl, hS⟩
  refine ⟨_, rfl, ?_⟩
  have hm := modN_bd n ((h.length : Int) + 1) (by omega)
  obtain ⟨k, hk⟩ := Int.eq_ofNat_of_zero_le hm.1
  rw [hk] at hm hG ⊢
  have hkl : k ≤ h.length := by omega
  repeat' (first|refine Kn ?_|(refine Sh.sa hS ?_;clear hS;intro w hS)|(refine K3 ?_;clear hS;intro g w hS hge)|((first|refine GS ?_ ?_|refine VB ?_ ?_)<;>intro hb<;>(try simp only [J1,J2,J3,J4,J5,J6] at hb)<;>(try (exfalso;first|omega|exact hb trivial))))
  refine Z.thN ?_
  refine Z.seq ?_
  refine Z.cut [17, 39, 40, 41, 42, 43] (fun w s => ∃ (gs : List Ch) (gn : Nat) (Ag : Option Addr) (cg : Nat) (X : Res), s = [(17, .slice Ag gn cg)] ∧ gn = gs.length ∧ (if fk then (forkC h n m).h else h.take (k : Int).toNat) = gs ∧ Reads r (.sl 90 8 (.slice Ah h.length ch) (h.map Ch.cells) :: X :: .blk g11 23 [.int .i64 c0, .int .i64 c1] :: .blk g 23 [.int .i64 t0, .int .i64 t1] :: F) 8 (.slice Ag gs.length cg) (gs.map Ch.cells) ∧ Sep r [] (.sl 90 8 (.slice Ah h.length ch) (h.map Ch.cells) :: X :: .blk g11 23 [.int .i64 c0, .int .i64 c1] :: .blk g 23 [.int .i64 t0, .int .i64 t1] :: F) w) ?_ ?_
  · repeat' (first|refine K ?_|(refine Sh.sa hS ?_;clear hS;intro w hS)|(refine K3 ?_;clear hS;intro g w hS hge)|((first|refine GS ?_ ?_|refine VB ?_ ?_)<;>intro hb<;>(try simp only [J1,J2,J3,J4,J5,J6] at hb)<;>(try (exfalso;first|omega|exact hb trivial))))
    · refine Z.eff (Z.cl (fork_z h (.slice Ah h.length ch) n m A2 cap2 _ _ _ hS (Reads.of_at (e := 90) (v := .slice Ah h.length ch) (by repeat (first | exact At.here | apply At.next))) hH (by omega) (fun x hx => by have := hep x hx; omega) hr1 h1) rfl ?_) rfl
      clear hS
      rintro e w ⟨v', rfl, hS⟩
      refine ⟨_, rfl, ?_⟩
      obtain ⟨Ag, cg, rfl, _⟩ := (hS.slrows .here).mform
      repeat' (first|refine K ?_|(refine Sh.sa hS ?_;clear hS;intro w hS)|(refine K3 ?_;clear hS;intro g w hS hge)|((first|refine GS ?_ ?_|refine VB ?_ ?_)<;>intro hb<;>(try simp only [J1,J2,J3,J4,J5,J6] at hb)<;>(try (exfalso;first|omega|exact hb trivial))))
      refine Z.cutE [(17, _)] (by repeat (first | with_reducible exact Same.refl | with_reducible exact Same.mix | ((with_reducible refine Same.upd ?_ ?_); · rfl) | ((with_reducible refine Same.cons ?_ ?_); · rfl) | with_reducible refine Same.nil ?_ | ((with_reducible refine Same.mixS ?_ ?_); · rfl))) (by repeat (first | exact trivial | refine ⟨rfl, ?_⟩)) ?_
      exact ⟨(forkC h n m).h, _, Ag, cg, .sl 90 8 (.slice Ag (forkC h n m).h.length cg) ((forkC h n m).h.map Ch.cells), rfl, rfl, by rw [if_pos hb], Reads.of_at (e := 90) (v := .slice Ag (forkC h n m).h.length cg) (.next .here), hS.sb⟩
    · refine Z.cutE [(17, _)] (by repeat (first | with_reducible exact Same.refl | with_reducible exact Same.mix | ((with_reducible refine Same.upd ?_ ?_); · rfl) | ((with_reducible refine Same.cons ?_ ?_); · rfl) | with_reducible refine Same.nil ?_ | ((with_reducible refine Same.mixS ?_ ?_); · rfl))) (by repeat (first | exact trivial | refine ⟨rfl, ?_⟩)) ?_
      exact ⟨h.take k, _, Ah, ch, .pure True, rfl, by rw [List.length_take]; simp; omega, by rw [if_neg (by rw [hb]; simp)]; rfl, fun L w hw => by have h3 := (hw.slrows (e := 90) (v := .slice Ah h.length ch) (at_app L .here)).mtake hkl; rw [List.length_take, Nat.min_eq_left hkl, List.map_take]; rw [List.map_take] at h3; exact h3, (Sep.pure_open.2 ⟨trivial, hS⟩).sub (by repeat (first | exact Sub.rest | exact Sub.nil | exact .skip .rest | exact .skip (.skip .rest) | exact .skip (.skip (.skip .rest)) | apply Sub.keep | refine Sub.cons (by repeat (first | exact At.here | apply At.next)) ?_ | apply Sub.skip))⟩
  clear hS
  rintro f0 w _ ⟨gs, gn, Ag, cg, X, rfl, rfl, hg, hrd, hS⟩
  rw [hg] at hG ⊢
  obtain ⟨hGH, hGl⟩ := hG
  repeat' (first|refine K ?_|(refine Sh.sa hS ?_;clear hS;intro w hS)|(refine K3 ?_;clear hS;intro g w hS hge)|((first|refine GS ?_ ?_|refine VB ?_ ?_)<;>intro hb<;>(try simp only [J1,J2,J3,J4,J5,J6] at hb)<;>(try (exfalso;first|omega|exact hb trivial))))
  refine Z.eff (Z.cl (pcfold_ok c0 t0 h (.slice Ah h.length ch) _ _ _ hS (Reads.of_at (e := 90) .here) (by omega) hH) rfl ?_) rfl
  clear hS
  rintro e w ⟨ga, gga, rfl, hS⟩
  refine ⟨_, rfl, ?_⟩
  replace hS := (Sep.gate0 (hS.focus (R := .blk gga _ _) (by repeat (first | exact At.here | apply At.next)))).focus (R := PC ga _ _ _ _) (by repeat (first | exact At.here | apply At.next))
  repeat' (first|refine K ?_|(refine Sh.sa hS ?_;clear hS;intro w hS)|(refine K3 ?_;clear hS;intro g w hS hge)|((first|refine GS ?_ ?_|refine VB ?_ ?_)<;>intro hb<;>(try simp only [J1,J2,J3,J4,J5,J6] at hb)<;>(try (exfalso;first|omega|exact hb trivial))))
  refine Z.eff (Z.cl (pcfold_ok c1 t1 gs (.slice Ag gs.length cg) _ _ _ hS (hrd.app [_, _]) (by omega) hGH) rfl ?_) rfl
  clear hS
  rintro e w ⟨gb, ggb, rfl, hS⟩
  refine ⟨_, rfl, ?_⟩
  replace hS := (Sep.gate0 (hS.focus (R := .blk ggb _ _) (by repeat (first | exact At.here | apply At.next)))).focus (R := PC gb _ _ _ _) (by repeat (first | exact At.here | apply At.next))
  repeat' (first|refine K ?_|(refine Sh.sa hS ?_;clear hS;intro w hS)|(refine K3 ?_;clear hS;intro g w hS hge)|((first|refine GS ?_ ?_|refine VB ?_ ?_)<;>intro hb<;>(try simp only [J1,J2,J3,J4,J5,J6] at hb)<;>(try (exfalso;first|omega|exact hb trivial))))
  refine Z.eff (Z.cl (rcfold_ok c0 t0 h (.slice Ah h.length ch) _ _ _ hS (Reads.of_at (e := 90) (v := .slice Ah h.length ch) (by repeat (first | exact At.here | apply At.next))) (by omega) hH) rfl ?_) rfl
  clear hS
  rintro e w ⟨gv, ggv, rfl, hS⟩
  refine ⟨_, rfl, ?_⟩
  replace hS := (Sep.gate1 (hS.focus (R := .blk ggv _ _) (by repeat (first | exact At.here | apply At.next)))).focus (R := CR gv _ _ _ _) (by repeat (first | exact At.here | apply At.next))
  repeat' (first|refine K ?_|(refine Sh.sa hS ?_;clear hS;intro w hS)|(refine K3 ?_;clear hS;intro g w hS hge)|((first|refine GS ?_ ?_|refine VB ?_ ?_)<;>intro hb<;>(try simp only [J1,J2,J3,J4,J5,J6] at hb)<;>(try (exfalso;first|omega|exact hb trivial))))
  refine Z.eff (Z.cl (rcfold_ok c1 t1 gs (.slice Ag gs.length cg) _ _ _ hS (hrd.app [_, _, _, _, _, _]) (by omega) hGH) rfl ?_) rfl
  clear hS
  rintro e w ⟨gw, ggw, rfl, hS⟩
  refine ⟨_, rfl, ?_⟩
  replace hS := (Sep.gate1 (hS.focus (R := .blk ggw _ _) (by repeat (first | exact At.here | apply At.next)))).focus (R := CR gw _ _ _ _) (by repeat (first | exact At.here | apply At.next))
  repeat' (first|refine K ?_|(refine Sh.sa hS ?_;clear hS;intro w hS)|(refine K3 ?_;clear hS;intro g w hS hge)|((first|refine GS ?_ ?_|refine VB ?_ ?_)<;>intro hb<;>(try simp only [J1,J2,J3,J4,J5,J6] at hb)<;>(try (exfalso;first|omega|exact hb trivial))))
  first | refine Z.done hS Tryz.results10 (Z.RV.tmp rfl (Z.RV.tmp rfl (Z.RV.tmp rfl (Z.RV.tmp rfl Z.RV.nil)))) ?_ | refine Z.doneN hS Tryz.results10 (Z.RV.tmp rfl (Z.RV.tmp rfl (Z.RV.tmp rfl (Z.RV.tmp rfl Z.RV.nil)))) ?_
  exact ⟨ga, gga, gb, ggb, gv, ggv, gw, ggw, rfl, hS.sb⟩
end Go.Proofs.YtiabhlogadboeaaGreat
