/-
  CellPlays: for every input the call returns true, and the arguments read afterwards as they read before.
-/
import Derived.Test.YtahackdfjcgkhaaGreatYd
import Derived.Test.YtahackdfjcgkhaaGreatNSx
import Derived.Test.YtahackdfjcgkhaaGreatNNx
import Derived.Test.YtahackdfjcgkhaaGreatH1
import Derived.Test.YtahackdfjcgkhaaGreatNAc
import Derived.Test.YtahackdfjcgkhaaGreatNRdP
namespace Go.Proofs.YtahackdfjcgkhaaGreat
open Go.RowKit Go.ChangeShapes Go.WideShapes Go.ChangeAt
set_option linter.unusedSimpArgs false
set_option linter.unusedVariables false
set_option maxHeartbeats 8000000 in
theorem plays28_z (z1 z2 : Int) (l : List Int) (A : Option Addr) (cap : Nat) (acts : List A8) (v : Value) (r : World) (hz1 : -9223372036854775808 ≤ z1 ∧ z1 ≤ 9223372036854775807) (hz2 : -9223372036854775808 ≤ z2 ∧ z2 ≤ 9223372036854775807) (hr0 : Rd r 1 A l.length (l.map (Value.int .i64))) (hra : Rows' r 23 v (acts.map A8.cells)) :
    Calls Tryz.prog 11 #[.int .i64 z1, .int .i64 z2, .slice A l.length cap, v] r fun e w' => e = .returned (.bool true) ∧ Chg [] r w' := by
  have hS := Sep.root r
  obtain ⟨Aa, ca, rfl, hca⟩ := hra.mform
  refine Z.enter Tryz.func11 Tryz.ntmps11 rfl rfl ?_
  repeat' (first|refine Kd ?_|(refine Sh.sa hS ?_;clear hS;intro w hS)|(refine K3 ?_;clear hS;intro g w hS hge)|((first|refine GS ?_ ?_|refine VB ?_ ?_)<;>intro hb<;>(try simp only [J1,J2,J3,J4,J5,J6] at hb)<;>(try (exfalso;first|omega|exact hb trivial))))
  refine Z.eff (Z.cl (awake28_z _ _ _ hS) rfl ?_) rfl
  clear hS
  rintro e w ⟨rfl, hS⟩
  refine ⟨_, rfl, ?_⟩
  repeat' (first|refine Kd ?_|(refine Sh.sa hS ?_;clear hS;intro w hS)|(refine K3 ?_;clear hS;intro g w hS hge)|((first|refine GS ?_ ?_|refine VB ?_ ?_)<;>intro hb<;>(try simp only [J1,J2,J3,J4,J5,J6] at hb)<;>(try (exfalso;first|omega|exact hb trivial))))
  refine Z.eff (Z.cl (lightS_z A l.length cap _ _ _ hS) rfl ?_) rfl
  clear hS
  rintro e w ⟨rfl, hS⟩
  refine ⟨_, rfl, ?_⟩
  repeat' (first|refine Kd ?_|(refine Sh.sa hS ?_;clear hS;intro w hS)|(refine K3 ?_;clear hS;intro g w hS hge)|((first|refine GS ?_ ?_|refine VB ?_ ?_)<;>intro hb<;>(try simp only [J1,J2,J3,J4,J5,J6] at hb)<;>(try (exfalso;first|omega|exact hb trivial))))
  · refine Dnt Tryz.results11 ?_
    exact ⟨rfl, hS.chg⟩
  rename _ ≤ (150 : Int) => hlt
  refine Z.eff (Z.cl (light28_z acts _ _ _ _ hS (Reads.root hra)) rfl ?_) rfl
  clear hS
  rintro e w ⟨b, rfl, hb40, hS⟩
  refine ⟨_, rfl, ?_⟩
  cases b
  · repeat' (first|refine Kd ?_|(refine Sh.sa hS ?_;clear hS;intro w hS)|(refine K3 ?_;clear hS;intro g w hS hge)|((first|refine GS ?_ ?_|refine VB ?_ ?_)<;>intro hb<;>(try simp only [J1,J2,J3,J4,J5,J6] at hb)<;>(try (exfalso;first|omega|exact hb trivial))))
    refine Dnt Tryz.results11 ?_
    exact ⟨rfl, hS.chg⟩
  replace hb40 := hb40 rfl
  repeat' (first|refine Kd ?_|(refine Sh.sa hS ?_;clear hS;intro w hS)|(refine K3 ?_;clear hS;intro g w hS hge)|((first|refine GS ?_ ?_|refine VB ?_ ?_)<;>intro hb<;>(try simp only [J1,J2,J3,J4,J5,J6] at hb)<;>(try (exfalso;first|omega|exact hb trivial))))
  refine Z.eff (Z.cl (modS_z z2 32 _ _ _ hS (by omega) (by omega)) rfl ?_) rfl
  clear hS
  rintro e w ⟨rfl, hS⟩
  refine ⟨_, rfl, ?_⟩
  generalize modN z2 32 = ten at *
  repeat' (first|refine Kd ?_|(refine Sh.sa hS ?_;clear hS;intro w hS)|(refine K3 ?_;clear hS;intro g w hS hge)|((first|refine GS ?_ ?_|refine VB ?_ ?_)<;>intro hb<;>(try simp only [J1,J2,J3,J4,J5,J6] at hb)<;>(try (exfalso;first|omega|exact hb trivial))))
  refine Z.eff (Z.cl (pcnew_z z1 ten _ _ _ hS) rfl ?_) rfl
  clear hS
  rintro e w ⟨gp, gg, rfl, hS⟩
  refine ⟨_, rfl, ?_⟩
  repeat' (first|refine Kd ?_|(refine Sh.sa hS ?_;clear hS;intro w hS)|(refine K3 ?_;clear hS;intro g w hS hge)|((first|refine GS ?_ ?_|refine VB ?_ ?_)<;>intro hb<;>(try simp only [J1,J2,J3,J4,J5,J6] at hb)<;>(try (exfalso;first|omega|exact hb trivial))))
  refine Z.eff (Z.cl (cnew_z z1 ten _ _ _ hS) rfl ?_) rfl
  clear hS
  rintro e w ⟨gr, gh, rfl, hS⟩
  refine ⟨_, rfl, ?_⟩
  replace hS := Sep.gate0 (hS.focus (R := .blk gg _ _) (by repeat (first | exact At.here | apply At.next)))
  replace hS := Sep.gate1 (hS.focus (R := .blk gh _ _) (by repeat (first | exact At.here | apply At.next)))
  repeat' (first|refine Kd ?_|(refine Sh.sa hS ?_;clear hS;intro w hS)|(refine K3 ?_;clear hS;intro g w hS hge)|((first|refine GS ?_ ?_|refine VB ?_ ?_)<;>intro hb<;>(try simp only [J1,J2,J3,J4,J5,J6] at hb)<;>(try (exfalso;first|omega|exact hb trivial))))
  replace hS := hS.fo (R := PC gp _ _ _ _)
  refine Z.eff (Z.cl (pccell_z gp z1 ten _ _ _ _ _ hS) rfl ?_) rfl
  clear hS
  rintro e w ⟨rfl, hS⟩
  refine ⟨_, rfl, ?_⟩
  repeat' (first|refine Kd ?_|(refine Sh.sa hS ?_;clear hS;intro w hS)|(refine K3 ?_;clear hS;intro g w hS hge)|((first|refine GS ?_ ?_|refine VB ?_ ?_)<;>intro hb<;>(try simp only [J1,J2,J3,J4,J5,J6] at hb)<;>(try (exfalso;first|omega|exact hb trivial))))
  replace hS := hS.fo (R := PC gp _ _ _ _)
  refine Z.eff (Z.cl (pctenant_z gp z1 ten _ _ _ _ _ hS) rfl ?_) rfl
  clear hS
  rintro e w ⟨rfl, hS⟩
  refine ⟨_, rfl, ?_⟩
  repeat' (first|refine Kd ?_|(refine Sh.sa hS ?_;clear hS;intro w hS)|(refine K3 ?_;clear hS;intro g w hS hge)|((first|refine GS ?_ ?_|refine VB ?_ ?_)<;>intro hb<;>(try simp only [J1,J2,J3,J4,J5,J6] at hb)<;>(try (exfalso;first|omega|exact hb trivial))))
  have hz := Good.zero.cg QOk.zero
  have hT0 : Two .zero .zero ⟨z1, 0, []⟩ ⟨z1, 0, []⟩ := ⟨hz, CRel.refl hz, Rel.new z1⟩
  replace hS := hS.sub (L' := PC gp z1 ten (.pointer (some ⟨gg, 0, .none⟩)) .zero :: GP gg ⟨z1, 0, []⟩ :: CR gr z1 ten (.pointer (some ⟨gh, 0, .none⟩)) .zero :: GR gh ⟨z1, 0, []⟩ :: []) (by repeat (first | exact Sub.rest | exact Sub.nil | exact .skip .rest | exact .skip (.skip .rest) | exact .skip (.skip (.skip .rest)) | apply Sub.keep | refine Sub.cons (by repeat (first | exact At.here | apply At.next)) ?_ | apply Sub.skip))
  refine Z.eff (Z.cl (do28_z gp gg gr gh z1 ten .zero .zero ⟨z1, 0, []⟩ ⟨z1, 0, []⟩ ⟨9, 0, 0, .zero, chZ, ⟨z1, 1, 0, 0, 30⟩⟩ _ _ _ hS hT0 (by simp [Cp.zero]) (by simp) (by simp)) rfl ?_) rfl
  clear hS
  rintro e w ⟨gp, gg, gr, gh, c, c', P, R, rfl, hT, hl1, hl2, hl3, hS⟩
  refine ⟨_, rfl, ?_⟩
  simp only [Cp.zero, List.length_nil] at hl1 hl2 hl3
  repeat' (first|refine Kd ?_|(refine Sh.sa hS ?_;clear hS;intro w hS)|(refine K3 ?_;clear hS;intro g w hS hge)|((first|refine GS ?_ ?_|refine VB ?_ ?_)<;>intro hb<;>(try simp only [J1,J2,J3,J4,J5,J6] at hb)<;>(try (exfalso;first|omega|exact hb trivial))))
  refine Z.eff (Z.cl (tnew_z l A cap hS hr0 (by omega)) rfl ?_) rfl
  clear hS
  rintro e w ⟨gx, rfl, hS⟩
  refine ⟨_, rfl, ?_⟩
  repeat' (first|refine Kd ?_|(refine Sh.sa hS ?_;clear hS;intro w hS)|(refine K3 ?_;clear hS;intro g w hS hge)|((first|refine GS ?_ ?_|refine VB ?_ ?_)<;>intro hb<;>(try simp only [J1,J2,J3,J4,J5,J6] at hb)<;>(try (exfalso;first|omega|exact hb trivial))))
  refine Z.lpS [9, 10, 11, 54, 55, 56, 57, 58, 59, 60, 61, 62, 63, 64, 65, 66, 67, 68, 69, 70, 71, 72, 73, 74, 75, 76, 77, 78] (fun m w s => ∃ (gp gg gr gh : Nat) (c c' : Cp) (P R : Ga) (j : Nat), s = [(9, .pointer (some ⟨gp, 0, .none⟩)), (10, .pointer (some ⟨gr, 0, .none⟩)), (11, .bool true)] ∧ Two c c' P R ∧ c.h.length ≤ 1 + j ∧ P.ws.length ≤ 1 + j ∧ R.ws.length ≤ 1 + j ∧ j ≤ l.length ∧ m = l.length - j ∧ Sep r [] (TpR r gx l j :: PC gp z1 ten (.pointer (some ⟨gg, 0, .none⟩)) c :: GP gg P :: CR gr z1 ten (.pointer (some ⟨gh, 0, .none⟩)) c' :: GR gh R :: []) w) _ [(9, .pointer (some ⟨gp, 0, .none⟩)), (10, .pointer (some ⟨gr, 0, .none⟩)), (11, .bool true)] (by repeat (first | exact trivial | refine ⟨rfl, ?_⟩)) ⟨gp, gg, gr, gh, c, c', P, R, 0, rfl, hT, by omega, by omega, by omega, by omega, rfl, hS.sb⟩ ?_
  clear hS hT hl1 hl2 hl3
  rintro m f0 w _ ⟨gp, gg, gr, gh, c, c', P, R, j, rfl, hT, hl1, hl2, hl3, hj, rfl, hS⟩
  have hcw := hT.c.cw hT.g
  have hle := hT.c.h
  have hce : epochOf c'.h ≤ 2000000 := by rw [hle]; have := hT.g.good.epoch; have e : (bare c).h = c.h := rfl; rw [e] at this; omega
  repeat' (first|refine Kd ?_|(refine Sh.sa hS ?_;clear hS;intro w hS)|(refine K3 ?_;clear hS;intro g w hS hge)|((first|refine GS ?_ ?_|refine VB ?_ ?_)<;>intro hb<;>(try simp only [J1,J2,J3,J4,J5,J6] at hb)<;>(try (exfalso;first|omega|exact hb trivial))))
  refine Z.eff (Z.cl (more_z hS) rfl ?_) rfl
  clear hS
  rintro e w ⟨rfl, hS⟩
  refine ⟨_, rfl, ?_⟩
  repeat' (first|refine Kd ?_|(refine Sh.sa hS ?_;clear hS;intro w hS)|(refine K3 ?_;clear hS;intro g w hS hge)|((first|refine GS ?_ ?_|refine VB ?_ ?_)<;>intro hb<;>(try simp only [J1,J2,J3,J4,J5,J6] at hb)<;>(try (exfalso;first|omega|exact hb trivial))))
  · rename j < l.length => hjl
    replace hS := (hS.focus (R := CR gr _ _ _ _) (by repeat (first | exact At.here | apply At.next))).focus (R := TpR r gx l j) (by repeat (first | exact At.here | apply At.next))
    refine Z.eff (Z.cl (next28_z gx gr z1 ten _ l j c' r _ _ hS hcw (by rw [hle]; omega) hce) rfl ?_) rfl
    clear hS
    rintro e w ⟨a, j2, rfl, hj2, hS⟩
    refine ⟨_, rfl, ?_⟩
    have hj2l : j2 ≤ l.length := hS.tape.le
    have hj2j := hj2.2 hjl
    repeat' (first|refine Kd ?_|(refine Sh.sa hS ?_;clear hS;intro w hS)|(refine K3 ?_;clear hS;intro g w hS hge)|((first|refine GS ?_ ?_|refine VB ?_ ?_)<;>intro hb<;>(try simp only [J1,J2,J3,J4,J5,J6] at hb)<;>(try (exfalso;first|omega|exact hb trivial))))
    replace hS := hS.sub (L' := PC gp z1 ten (.pointer (some ⟨gg, 0, .none⟩)) c :: GP gg P :: CR gr z1 ten (.pointer (some ⟨gh, 0, .none⟩)) c' :: GR gh R :: TpR r gx l j2 :: []) (by repeat (first | exact Sub.rest | exact Sub.nil | exact .skip .rest | exact .skip (.skip .rest) | exact .skip (.skip (.skip .rest)) | apply Sub.keep | refine Sub.cons (by repeat (first | exact At.here | apply At.next)) ?_ | apply Sub.skip))
    refine Z.eff (Z.cl (do28_z gp gg gr gh z1 ten c c' P R a _ _ _ hS hT (by omega) (by omega) (by omega)) rfl ?_) rfl
    clear hS
    rintro e w ⟨gp2, gg2, gr2, gh2, c2, c2', P2, R2, rfl, hT2, hm1, hm2, hm3, hS⟩
    refine ⟨_, rfl, ?_⟩
    repeat' (first|refine Kd ?_|(refine Sh.sa hS ?_;clear hS;intro w hS)|(refine K3 ?_;clear hS;intro g w hS hge)|((first|refine GS ?_ ?_|refine VB ?_ ?_)<;>intro hb<;>(try simp only [J1,J2,J3,J4,J5,J6] at hb)<;>(try (exfalso;first|omega|exact hb trivial))))
    refine Z.eff (Z.cl (same28_z gp2 gg2 gr2 gh2 z1 ten z1 ten c2 c2' P2 R2 _ _ _ hS hT2.g hT2.c hT2.w.closed.symm (by omega)) rfl ?_) rfl
    clear hS
    rintro e w ⟨rfl, hS⟩
    refine ⟨_, rfl, ?_⟩
    repeat' (first|refine Kd ?_|(refine Sh.sa hS ?_;clear hS;intro w hS)|(refine K3 ?_;clear hS;intro g w hS hge)|((first|refine GS ?_ ?_|refine VB ?_ ?_)<;>intro hb<;>(try simp only [J1,J2,J3,J4,J5,J6] at hb)<;>(try (exfalso;first|omega|exact hb trivial))))
    refine Sh.again (l.length - j2) [(9, .pointer (some ⟨gp2, 0, .none⟩)), (10, .pointer (some ⟨gr2, 0, .none⟩)), (11, .bool true)] ?_
    exact ⟨gp2, gg2, gr2, gh2, c2, c2', P2, R2, j2, rfl, hT2, by omega, by omega, by omega, hj2l, rfl, hS.sb⟩
  · refine Z.lpS [9, 10, 11, 13, 79, 80, 81, 82, 83, 84, 85, 86, 87, 88, 89, 90, 91, 92, 93, 94, 95, 96, 97, 98, 99, 100, 101, 102, 103, 104, 105, 106, 107, 108] (fun m w s => ∃ (gp gg gr gh : Nat) (c c' : Cp) (P R : Ga) (i : Nat), s = [(9, .pointer (some ⟨gp, 0, .none⟩)), (10, .pointer (some ⟨gr, 0, .none⟩)), (11, .bool true), (13, .int .i64 i)] ∧ Two c c' P R ∧ c.h.length ≤ 200 + i ∧ P.ws.length ≤ 200 + i ∧ R.ws.length ≤ 200 + i ∧ i ≤ acts.length ∧ m = acts.length - i ∧ Sep r [] (PC gp z1 ten (.pointer (some ⟨gg, 0, .none⟩)) c :: GP gg P :: CR gr z1 ten (.pointer (some ⟨gh, 0, .none⟩)) c' :: GR gh R :: []) w) _ [(9, .pointer (some ⟨gp, 0, .none⟩)), (10, .pointer (some ⟨gr, 0, .none⟩)), (11, .bool true), (13, .int .i64 (0 : Nat))] (by repeat (first | exact trivial | refine ⟨rfl, ?_⟩)) ⟨gp, gg, gr, gh, c, c', P, R, 0, rfl, hT, by omega, by omega, by omega, by omega, rfl, hS.sb⟩ ?_
    clear hS hT hl1 hl2 hl3 hcw hle hce
    rintro m f0 w _ ⟨gp, gg, gr, gh, c, c', P, R, i, rfl, hT, hl1, hl2, hl3, hi, rfl, hS⟩
    by_cases hlt2 : i < acts.length
    · obtain ⟨gb, o, rfl, _, hra2⟩ := (hra.ext hS.chg).mat (by omega) hlt2
      generalize acts[i] = a at *
      repeat' (first|refine Kd ?_|(refine Sh.sa hS ?_;clear hS;intro w hS)|(refine K3 ?_;clear hS;intro g w hS hge)|((first|refine GS ?_ ?_|refine VB ?_ ?_)<;>intro hb<;>(try simp only [J1,J2,J3,J4,J5,J6] at hb)<;>(try (exfalso;first|omega|exact hb trivial))))
      refine Z.eff (Z.cl (do28_z gp gg gr gh z1 ten c c' P R a _ _ _ hS hT (by omega) (by omega) (by omega)) rfl ?_) rfl
      clear hS
      rintro e w ⟨gp2, gg2, gr2, gh2, c2, c2', P2, R2, rfl, hT2, hm1, hm2, hm3, hS⟩
      refine ⟨_, rfl, ?_⟩
      repeat' (first|refine Kd ?_|(refine Sh.sa hS ?_;clear hS;intro w hS)|(refine K3 ?_;clear hS;intro g w hS hge)|((first|refine GS ?_ ?_|refine VB ?_ ?_)<;>intro hb<;>(try simp only [J1,J2,J3,J4,J5,J6] at hb)<;>(try (exfalso;first|omega|exact hb trivial))))
      refine Z.eff (Z.cl (same28_z gp2 gg2 gr2 gh2 z1 ten z1 ten c2 c2' P2 R2 _ _ _ hS hT2.g hT2.c hT2.w.closed.symm (by omega)) rfl ?_) rfl
      clear hS
      rintro e w ⟨rfl, hS⟩
      refine ⟨_, rfl, ?_⟩
      repeat' (first|refine Kd ?_|(refine Sh.sa hS ?_;clear hS;intro w hS)|(refine K3 ?_;clear hS;intro g w hS hge)|((first|refine GS ?_ ?_|refine VB ?_ ?_)<;>intro hb<;>(try simp only [J1,J2,J3,J4,J5,J6] at hb)<;>(try (exfalso;first|omega|exact hb trivial))))
      refine Sh.again (acts.length - (i + 1)) [(9, .pointer (some ⟨gp2, 0, .none⟩)), (10, .pointer (some ⟨gr2, 0, .none⟩)), (11, .bool true), (13, .int .i64 (i + 1 : Nat))] ?_
      exact ⟨gp2, gg2, gr2, gh2, c2, c2', P2, R2, i + 1, rfl, hT2, by omega, by omega, by omega, by omega, rfl, hS.sb⟩
    · repeat' (first|refine Kd ?_|(refine Sh.sa hS ?_;clear hS;intro w hS)|(refine K3 ?_;clear hS;intro g w hS hge)|((first|refine GS ?_ ?_|refine VB ?_ ?_)<;>intro hb<;>(try simp only [J1,J2,J3,J4,J5,J6] at hb)<;>(try (exfalso;first|omega|exact hb trivial))))
      refine Dnt Tryz.results11 ?_
      exact ⟨rfl, hS.chg⟩
set_option maxRecDepth 100000 in
theorem cellPlays_lifted (os : Os) (started : os.Started) (H : Type) (enc : TypeId × Value → H) :
    ReturnsInHanded {} Tryz.checked os 11 .any (Rows.cellPlaysSpec.pre6 enc Tryz.prog Tryz.f11 Rows.cellPlaysRow.domain false) (Rows.cellPlaysSpec.post enc Tryz.prog Tryz.f11 false Rows.cellPlaysRow.fresh Rows.cellPlaysRow.handsOn Rows.cellPlaysRow.again) := by
  refine returnsInHanded_of_change (C := Tryz.checked) Tryz.own started (by kernel_rfl) Tryz.func11
    (ChangeSpec.witness6 (enc := enc) (C := Tryz.checked) false ⟨#[], #[.int .i64 0, .int .i64 0, .slice none 0 0, .slice none 0 0], []⟩ 8 (by kernel_rfl) (by kernel_rfl) (by kernel_rfl) (by kernel_rfl)) ?_
  intro W base args ds gs before hval0 hW _ _
  have hval : ∀ (j : Nat) t v, Tryz.f11.params[j]? = some t → args[j]? = some v → Value.okWide Tryz.prog W .any base t v := hval0
  have hW0 := hW
  obtain ⟨p, q, hA0, hV, hpq, _, _⟩ := hW
  obtain ⟨la⟩ := args
  have hA : DataW.TrodAll enc Tryz.prog W 0 (fun _ => true) true [3, 3, 24, 84] la ds p := by have := hA0; rw [Tryz.params11] at this; exact this
  rw [Tryz.params11] at hval
  obtain ⟨v0, la0, d0, ds0, p0, q0, rfl, rfl, rfl, h0, hA⟩ := trodAll_cons hA
  obtain ⟨v1, la1, d1, ds1, p1, q1, rfl, rfl, rfl, h1, hA⟩ := trodAll_cons hA
  obtain ⟨v2, la2, d2, ds2, p2, q2, rfl, rfl, rfl, h2, hA⟩ := trodAll_cons hA
  obtain ⟨v3, la3, d3, ds3, p3, q3, rfl, rfl, rfl, h3, hA⟩ := trodAll_cons hA
  obtain ⟨rfl, rfl, rfl⟩ := trodAll_nil hA
  obtain ⟨z0, rfl, hr0⟩ := arg_int (hval 0 _ _ rfl rfl) h0
  obtain ⟨z1, rfl, hr1⟩ := arg_int (hval 1 _ _ rfl rfl) h1
  obtain ⟨l2, A2, cap2, rfl, hr2⟩ := arg_ints (hval 2 _ _ rfl rfl) h2
  obtain ⟨l3, A3, cap3, rfl, hr3⟩ := arg_acts8 (hval 3 _ _ rfl rfl) h3
  have fin : Calls Tryz.prog 11 _ W fun e W' => e = .returned (.bool true) ∧ Chg [] W W' := plays28_z z0 z1 l2 A2 cap2 l3 _ W hr0 hr1 hr2 hr3
  refine fin.mono fun e W' ⟨he, hc⟩ => ⟨_, he, ?_⟩
  exact law_post Tryz.laidOut (by rw [Tryz.params11]; intro t ht; simp only [List.mem_cons, List.not_mem_nil, or_false] at ht; rcases ht with rfl | rfl | rfl | rfl <;> exact ⟨by kernel_rfl, of_decide_eq_true (by kernel_rfl)⟩) rfl rfl Tryz.underlying4 rfl hW0 hc.below
theorem cellPlays_holds : Rows.CellPlaysSaid :=
  OpenClaim.holds_of_wide 11 Tryz.f11 rfl rfl rfl rfl rfl rfl rfl ⟨rfl, rfl, rfl, rfl, rfl⟩ rfl rfl rfl rfl rfl (by kernel_rfl) Tryz.func11 (by kernel_rfl)
    (of_decide_eq_true (by kernel_rfl)) (by unfold Func.isWrapper; rw [if_neg (of_decide_eq_false (by kernel_rfl))]; exact ⟨rfl, rfl⟩)
    (fun os started H enc _ => cellPlays_lifted os started H enc)
end Go.Proofs.YtahackdfjcgkhaaGreat
