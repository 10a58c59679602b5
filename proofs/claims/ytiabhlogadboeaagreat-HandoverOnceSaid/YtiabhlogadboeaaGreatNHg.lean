/-
  HandoverOnce: for every input the call returns true, and the arguments read afterwards as they read before.
-/
import Derived.Test.YtiabhlogadboeaaGreatNHoQ
import Derived.Test.YtiabhlogadboeaaGreatNHdP
import Derived.Test.YtiabhlogadboeaaGreatNTc
namespace Go.Proofs.YtiabhlogadboeaaGreat
open Go.RowKit Go.ChangeShapes Go.WideShapes Go.ChangeAt
set_option linter.unusedSimpArgs false
set_option linter.unusedVariables false

theorem sameM_self (m : Mf) : sameM m m = true := by simp [sameM, listsB]
theorem missM_self (ten key : Int) (c : Cp) : missM c (mfOf ten key c) = 0 := by
  unfold missM
  rw [if_pos]
  exact Int.le_refl _
theorem close_one {ep : Int} (h : 1 ≤ ep ∧ ep ≤ 1000) : (closeP ⟨1, 0, [(⟨1, ep, 0, 0, 50⟩ : Wi)]⟩ ep).1 = ⟨1, ep, []⟩ ∧ (closeP ⟨1, ep, []⟩ ep).1 = ⟨1, ep, []⟩ := by
  have h1 : 1 ≤ ep ∧ ep ≤ 1048576 := by omega
  have h2 : max 0 ep = ep := by omega
  constructor
  · unfold closeP
    rw [if_pos h1]
    simp only [h2]
    simp
  · unfold closeP
    rw [if_pos h1]
    simp
set_option maxHeartbeats 8000000 in
theorem once32_z (l : List Int) (A : Option Addr) (cap : Nat) (m : List Int) (A2 : Option Addr) (cap2 : Nat) (n : Int) (fk : Bool) (key : Int) (r : World) (hr0 : Rd r 1 A l.length (l.map (Value.int .i64))) (hr1 : Rd r 1 A2 m.length (m.map (Value.int .i64))) (_ : i64ok n) (_ : i64ok key) :
    Calls Tryz.prog 6 #[.slice A l.length cap, .slice A2 m.length cap2, .int .i64 n, .bool fk, .int .i64 key] r fun e w' => e = .returned (.bool true) ∧ Chg [] r w' := by
  have hS := Sep.root r
  have hpG := pairG_isH l n m fk
  have hpH := hist_isH l
  have hpl := hist_len l
  have hpe := epochOf_bd (B := 61) (by omega) (hist_epochs l)
  refine Z.enter Tryz.func6 Tryz.ntmps6 rfl rfl ?_
  repeat' (first|refine K ?_|(refine Sh.sa hS ?_;clear hS;intro w hS)|(refine K3 ?_;clear hS;intro g w hS hge)|((first|refine GS ?_ ?_|refine VB ?_ ?_)<;>intro hb<;>(try simp only [J1,J2,J3,J4,J5,J6] at hb)<;>(try (exfalso;first|omega|exact hb trivial))))
  refine Z.eff (Z.cl (awake32_z _ _ _ hS) rfl ?_) rfl
  clear hS
  rintro e w ⟨rfl, hS⟩
  refine ⟨_, rfl, ?_⟩
  repeat' (first|refine K ?_|(refine Sh.sa hS ?_;clear hS;intro w hS)|(refine K3 ?_;clear hS;intro g w hS hge)|((first|refine GS ?_ ?_|refine VB ?_ ?_)<;>intro hb<;>(try simp only [J1,J2,J3,J4,J5,J6] at hb)<;>(try (exfalso;first|omega|exact hb trivial))))
  refine Z.eff (Z.cl (lightS_z A l.length cap _ _ _ hS) rfl ?_) rfl
  clear hS
  rintro e w ⟨rfl, hS⟩
  refine ⟨_, rfl, ?_⟩
  repeat' (first|refine K ?_|(refine Sh.sa hS ?_;clear hS;intro w hS)|(refine K3 ?_;clear hS;intro g w hS hge)|((first|refine GS ?_ ?_|refine VB ?_ ?_)<;>intro hb<;>(try simp only [J1,J2,J3,J4,J5,J6] at hb)<;>(try (exfalso;first|omega|exact hb trivial))))
  · refine Dnt Tryz.results6 ?_
    exact ⟨rfl, hS.chg⟩
  rename _ ≤ (150 : Int) => hlt
  refine Z.eff (Z.cl (lightS_z A2 m.length cap2 _ _ _ hS) rfl ?_) rfl
  clear hS
  rintro e w ⟨rfl, hS⟩
  refine ⟨_, rfl, ?_⟩
  repeat' (first|refine K ?_|(refine Sh.sa hS ?_;clear hS;intro w hS)|(refine K3 ?_;clear hS;intro g w hS hge)|((first|refine GS ?_ ?_|refine VB ?_ ?_)<;>intro hb<;>(try simp only [J1,J2,J3,J4,J5,J6] at hb)<;>(try (exfalso;first|omega|exact hb trivial))))
  · refine Dnt Tryz.results6 ?_
    exact ⟨rfl, hS.chg⟩
  rename (m.length : Int) ≤ (150 : Int) => hlt2
  refine Z.eff (Z.cl (pair_z l A cap m A2 cap2 n fk 0 0 1 2 _ _ _ hS hr0 hr1 (by omega) (by omega)) rfl ?_) rfl
  clear hS
  rintro e w ⟨ga, gga, gb, ggb, gv, ggv, gw, ggw, rfl, hS⟩
  refine ⟨_, rfl, ?_⟩
  obtain ⟨hGH, hGl⟩ := hpG
  have hAh := hpH.good.2.1
  have hBh := hGH.good.2.1
  have hA := hpH.good.1.cg hpH.good.1.qok
  have hAr : (cpOf (hist l).h).q.r = [] := hpH.good.1.ok.2.2.2
  have hB := hGH.good.1.cg hGH.good.1.qok
  have hAl : (cpOf (hist l).h).h.length ≤ 60 := by rw [hAh]; omega
  have hBl : (cpOf (pairG l n m fk)).h.length ≤ 90 := by rw [hBh]; omega
  rw [← hAh] at hpe
  clear hAh hBh
  generalize cpOf (hist l).h = cA at *
  generalize cpOf (pairG l n m fk) = cB at *
  repeat' (first|refine K ?_|(refine Sh.sa hS ?_;clear hS;intro w hS)|(refine K3 ?_;clear hS;intro g w hS hge)|((first|refine GS ?_ ?_|refine VB ?_ ?_)<;>intro hb<;>(try simp only [J1,J2,J3,J4,J5,J6] at hb)<;>(try (exfalso;first|omega|exact hb trivial))))
  replace hS := hS.fo (R := PC ga _ _ _ _)
  refine Z.eff (Z.cl (pcepoch_z ga 1 0 _ _ _ _ _ hS (by omega)) rfl ?_) rfl
  clear hS
  rintro e w ⟨rfl, hS⟩
  refine ⟨_, rfl, ?_⟩
  obtain ⟨ep, hep⟩ : ∃ ep, ep = epochOf cA.h + 1 := ⟨_, rfl⟩
  have hep1 : 1 ≤ ep ∧ ep ≤ 62 := by omega
  repeat' (first|refine K ?_|(refine Sh.sa hS ?_;clear hS;intro w hS)|(refine K3 ?_;clear hS;intro g w hS hge)|((first|refine GS ?_ ?_|refine VB ?_ ?_)<;>intro hb<;>(try simp only [J1,J2,J3,J4,J5,J6] at hb)<;>(try (exfalso;first|omega|exact hb trivial))))
  rw [← hep]
  replace hS := hS.fo (R := PC ga _ _ _ _)
  refine Z.eff (Z.cl (pcgate_z ga gga 1 0 _ _ _ _ hS) rfl ?_) rfl
  clear hS
  rintro e w ⟨rfl, hS⟩
  refine ⟨_, rfl, ?_⟩
  have hok1 : okW (⟨1, ep, 0, 0, 50⟩ : Wi) := by unfold okW; simp only; omega
  have hok2 : okW (⟨2, ep + 1, 0, 6, 60⟩ : Wi) := by unfold okW; simp only; omega
  have hok3 : okW (⟨1, ep, 0, 0, 60⟩ : Wi) := by unfold okW; simp only; omega
  obtain ⟨hgp, _⟩ := gave (z := 1) hok1 rfl
  obtain ⟨hgp2, _⟩ := gave (z := 2) hok2 rfl
  have hgp3 : giveP ⟨1, ep, []⟩ (⟨1, ep, 0, 0, 60⟩ : Wi) = (⟨1, ep, []⟩, 7) := by unfold giveP; rw [if_pos hok3, if_pos rfl, if_pos (Int.le_refl _)]
  obtain ⟨hcl1, hcl2⟩ := close_one (ep := ep) (by omega)
  repeat' (first|refine K ?_|(refine Sh.sa hS ?_;clear hS;intro w hS)|(refine K3 ?_;clear hS;intro g w hS hge)|((first|refine GS ?_ ?_|refine VB ?_ ?_)<;>intro hb<;>(try simp only [J1,J2,J3,J4,J5,J6] at hb)<;>(try (exfalso;first|omega|exact hb trivial))))
  replace hS := hS.fo (R := GP gga _)
  refine Z.eff (Z.cl (ggive_z gga ⟨1, 0, []⟩ (⟨1, ep, 0, 0, 50⟩ : Wi) _ _ _ hS (by simp) (by simp)) rfl ?_) rfl
  clear hS
  rintro e w ⟨rfl, hS⟩
  refine ⟨_, rfl, ?_⟩
  rw [hgp] at hS ⊢
  repeat' (first|refine K ?_|(refine Sh.sa hS ?_;clear hS;intro w hS)|(refine K3 ?_;clear hS;intro g w hS hge)|((first|refine GS ?_ ?_|refine VB ?_ ?_)<;>intro hb<;>(try simp only [J1,J2,J3,J4,J5,J6] at hb)<;>(try (exfalso;first|omega|exact hb trivial))))
  rename Nat => g16
  have hac5 : accs [(⟨1, ep, 0, 0, 50⟩ : Wi)] 0 5 0 = ep := by simp [accs]; omega
  have hac6 : accs [(⟨2, ep + 1, 0, 6, 60⟩ : Wi)] 0 6 0 = ep + 1 := by simp [accs]; omega
  have hw1 : ∀ y, y ∈ (⟨1, 0, [(⟨1, ep, 0, 0, 50⟩ : Wi)]⟩ : Ga).ws → 1 ≤ y.epoch ∧ y.epoch ≤ 1048576 := by intro y hy; simp at hy; subst hy; simp only; omega
  have hw2 : ∀ y, y ∈ (⟨2, 0, [(⟨2, ep + 1, 0, 6, 60⟩ : Wi)]⟩ : Ga).ws → 1 ≤ y.epoch ∧ y.epoch ≤ 1048576 := by intro y hy; simp at hy; subst hy; simp only; omega
  have hw3 : ∀ y, y ∈ (⟨1, ep, []⟩ : Ga).ws → 1 ≤ y.epoch ∧ y.epoch ≤ 1048576 := by intro y hy; simp at hy
  replace hS := (hS.focus (R := GP gga _) (by repeat (first | exact At.here | apply At.next))).focus (R := PC ga _ _ _ _) (by repeat (first | exact At.here | apply At.next))
  refine Z.eff (Z.cl (pexec_z ga gga 1 0 cA ⟨1, 0, [(⟨1, ep, 0, 0, 50⟩ : Wi)]⟩ 0 5 takeQ _ _ _ hS hA hw1 (by simp) (by omega)) rfl ?_) rfl
  clear hS
  rintro e w ⟨rfl, hS⟩
  refine ⟨_, rfl, ?_⟩
  simp only at hS ⊢
  rw [hac5] at hS ⊢
  obtain ⟨h1, hcE, hEh, h30, hmf⟩ := once32 hA hAr (ep := ep) ⟨hep1.1, by omega⟩ (by omega) _ rfl
  generalize exP cA 0 ep 5 takeQ = E at *
  obtain ⟨cE, pE⟩ := E
  simp only at h1 hcE hEh h30 hmf hS ⊢
  rw [← hEh] at h1 hmf
  obtain ⟨hD, hDh, _, hDs⟩ := cpOf_cg hcE
  have hEl : cE.h.length ≤ 60 := by rw [hEh]; omega
  have hDl : (cpOf cE.h).h.length ≤ 60 := by rw [hDh]; omega
  repeat' (first|refine K ?_|(refine Sh.sa hS ?_;clear hS;intro w hS)|(refine K3 ?_;clear hS;intro g w hS hge)|((first|refine GS ?_ ?_|refine VB ?_ ?_)<;>intro hb<;>(try simp only [J1,J2,J3,J4,J5,J6] at hb)<;>(try (exfalso;first|omega|exact hb trivial))))
  rename Nat => g17
  replace hS := ((hS.focus (R := PC gb _ _ _ _) (by repeat (first | exact At.here | apply At.next))).focus (R := GP gga _) (by repeat (first | exact At.here | apply At.next))).focus (R := PC ga _ _ _ _) (by repeat (first | exact At.here | apply At.next))
  have hbad : badT 0 0 1 2 ep = false := by
    have : 1 ≤ ep ∧ ep ≤ 1048576 := by omega
    simp [badT, this]
  have ht0 : i64ok 0 := by unfold i64ok; omega
  have hMok := mfOf_ok (ten := 0) (key := key) hcE ht0 (by omega)
  have hchk : checkM 0 key (cpOf cE.h) (mfOf 0 key cE) 19 18 = 0 := by rw [← hmf, mfOf_self]
  have hmis : missM (cpOf cE.h) (mfOf 0 key cE) = 0 := by rw [← hmf, missM_self]
  refine Z.eff (Z.cl (ptransfer_z ga gga gb 1 0 2 0 _ cE cB ⟨1, 0, [(⟨1, ep, 0, 0, 50⟩ : Wi)]⟩ ep key _ _ _ hS hcE hB (by omega) (by omega) (by simp) ht0 false hbad) rfl ?_) rfl
  clear hS
  rintro e w ⟨vk, vi, vs, rfl, hS⟩
  refine ⟨_, rfl, ?_⟩
  rw [show trM false 0 key cE = mfOf 0 key cE from rfl, show trC false cB (cpOf cE.h) = cpOf cE.h from rfl, show trG false ⟨1, 0, [(⟨1, ep, 0, 0, 50⟩ : Wi)]⟩ (closeP ⟨1, 0, [(⟨1, ep, 0, 0, 50⟩ : Wi)]⟩ ep).1 = (closeP ⟨1, 0, [(⟨1, ep, 0, 0, 50⟩ : Wi)]⟩ ep).1 from rfl, hcl1] at hS
  rw [show trM false 0 key cE = mfOf 0 key cE from rfl, show trE false = 0 from rfl]
  obtain ⟨M, hM⟩ : ∃ M, M = mfOf 0 key cE := ⟨_, rfl⟩
  rw [← hM] at hS hMok hchk hmis ⊢
  obtain ⟨D1, e1, rfl, _⟩ := (hS.slrows (e := 9) (v := vk) (by repeat (first | exact At.here | apply At.next))).mform
  obtain ⟨D2, e2, rfl, _⟩ := (hS.slrows (e := 3) (v := vi) (by repeat (first | exact At.here | apply At.next))).mform
  obtain ⟨D3, e3, rfl, _⟩ := (hS.slrows (e := 3) (v := vs) (by repeat (first | exact At.here | apply At.next))).mform
  repeat' (first|refine K ?_|(refine Sh.sa hS ?_;clear hS;intro w hS)|(refine K3 ?_;clear hS;intro g w hS hge)|((first|refine GS ?_ ?_|refine VB ?_ ?_)<;>intro hb<;>(try simp only [J1,J2,J3,J4,J5,J6] at hb)<;>(try (exfalso;first|omega|exact hb trivial))))
  rename Nat => g18
  replace hS := ((hS.focus (R := PC gb _ _ _ _) (by repeat (first | exact At.here | apply At.next))).focus (R := GP gga _) (by repeat (first | exact At.here | apply At.next))).focus (R := PC ga _ _ _ _) (by repeat (first | exact At.here | apply At.next))
  refine Z.eff (Z.cl (ptransfer_z ga gga gb 1 0 2 0 _ cE (cpOf cE.h) ⟨1, ep, []⟩ ep key _ _ _ hS hcE hD (by omega) (by omega) (by simp) ht0 false hbad) rfl ?_) rfl
  clear hS
  rintro e w ⟨uk, ui, us, rfl, hS⟩
  refine ⟨_, rfl, ?_⟩
  rw [show trM false 0 key cE = mfOf 0 key cE from rfl, show trC false (cpOf cE.h) (cpOf cE.h) = cpOf cE.h from rfl, show trG false ⟨1, ep, []⟩ (closeP ⟨1, ep, []⟩ ep).1 = (closeP ⟨1, ep, []⟩ ep).1 from rfl, hcl2, ← hM] at hS
  rw [show trM false 0 key cE = mfOf 0 key cE from rfl, show trE false = 0 from rfl, ← hM]
  obtain ⟨E1, f1, rfl, _⟩ := (hS.slrows (e := 9) (v := uk) (by repeat (first | exact At.here | apply At.next))).mform
  obtain ⟨E2, f2, rfl, _⟩ := (hS.slrows (e := 3) (v := ui) (by repeat (first | exact At.here | apply At.next))).mform
  obtain ⟨E3, f3, rfl, _⟩ := (hS.slrows (e := 3) (v := us) (by repeat (first | exact At.here | apply At.next))).mform
  repeat' (first|refine K ?_|(refine Sh.sa hS ?_;clear hS;intro w hS)|(refine K3 ?_;clear hS;intro g w hS hge)|((first|refine GS ?_ ?_|refine VB ?_ ?_)<;>intro hb<;>(try simp only [J1,J2,J3,J4,J5,J6] at hb)<;>(try (exfalso;first|omega|exact hb trivial))))
  rename Nat => g20
  refine Z.eff (Z.cl (psameM_z M M _ _ _ _ _ _ _ _ _ hS ⟨Reads.of_at (e := 9) (v := .slice D1 M.keys.length e1) (by repeat (first | exact At.here | apply At.next)), Reads.of_at (e := 3) (v := .slice D2 M.items.length e2) (by repeat (first | exact At.here | apply At.next)), Reads.of_at (e := 3) (v := .slice D3 M.sessions.length e3) (by repeat (first | exact At.here | apply At.next))⟩ ⟨Reads.of_at (e := 9) (v := .slice E1 M.keys.length f1) (by repeat (first | exact At.here | apply At.next)), Reads.of_at (e := 3) (v := .slice E2 M.items.length f2) (by repeat (first | exact At.here | apply At.next)), Reads.of_at (e := 3) (v := .slice E3 M.sessions.length f3) (by repeat (first | exact At.here | apply At.next))⟩ hMok.few hMok.few) rfl ?_) rfl
  clear hS
  rintro e w ⟨rfl, hS⟩
  refine ⟨_, rfl, ?_⟩
  rw [sameM_self]
  repeat' (first|refine K ?_|(refine Sh.sa hS ?_;clear hS;intro w hS)|(refine K3 ?_;clear hS;intro g w hS hge)|((first|refine GS ?_ ?_|refine VB ?_ ?_)<;>intro hb<;>(try simp only [J1,J2,J3,J4,J5,J6] at hb)<;>(try (exfalso;first|omega|exact hb trivial))))
  replace hS := (hS.focus (R := PC gb _ _ _ _) (by repeat (first | exact At.here | apply At.next))).focus (R := PC ga _ _ _ _) (by repeat (first | exact At.here | apply At.next))
  refine Z.eff (Z.cl (pcsame_z ga gb 1 0 2 0 _ _ cE (cpOf cE.h) _ _ _ hS (by omega) (by omega)) rfl ?_) rfl
  clear hS
  rintro e w ⟨rfl, hS⟩
  refine ⟨_, rfl, ?_⟩
  rw [show decide ((0 : Int) = 0 ∧ cE.h = (cpOf cE.h).h) = true from by simp [hDh]]
  repeat' (first|refine K ?_|(refine Sh.sa hS ?_;clear hS;intro w hS)|(refine K3 ?_;clear hS;intro g w hS hge)|((first|refine GS ?_ ?_|refine VB ?_ ?_)<;>intro hb<;>(try simp only [J1,J2,J3,J4,J5,J6] at hb)<;>(try (exfalso;first|omega|exact hb trivial))))
  replace hS := hS.fo (R := PC gb _ _ _ _)
  refine Z.eff (Z.cl (pcheck_z gb 2 0 _ (cpOf cE.h) M _ _ _ key _ _ _ hS ⟨Reads.of_at (e := 9) (v := .slice D1 M.keys.length e1) (by repeat (first | exact At.here | apply At.next)), Reads.of_at (e := 3) (v := .slice D2 M.items.length e2) (by repeat (first | exact At.here | apply At.next)), Reads.of_at (e := 3) (v := .slice D3 M.sessions.length e3) (by repeat (first | exact At.here | apply At.next))⟩ hMok hD (by omega) ht0) rfl ?_) rfl
  clear hS
  rintro e w ⟨rfl, hS⟩
  refine ⟨_, rfl, ?_⟩
  rw [hchk]
  repeat' (first|refine K ?_|(refine Sh.sa hS ?_;clear hS;intro w hS)|(refine K3 ?_;clear hS;intro g w hS hge)|((first|refine GS ?_ ?_|refine VB ?_ ?_)<;>intro hb<;>(try simp only [J1,J2,J3,J4,J5,J6] at hb)<;>(try (exfalso;first|omega|exact hb trivial))))
  replace hS := hS.fo (R := PC gb _ _ _ _)
  refine Z.eff (Z.cl (pmissing_z gb 2 0 _ (cpOf cE.h) M D1 D2 D3 _ _ _ e1 e2 e3 _ _ _ hS hMok.l) rfl ?_) rfl
  clear hS
  rintro e w ⟨rfl, hS⟩
  refine ⟨_, rfl, ?_⟩
  rw [hmis]
  repeat' (first|refine K ?_|(refine Sh.sa hS ?_;clear hS;intro w hS)|(refine K3 ?_;clear hS;intro g w hS hge)|((first|refine GS ?_ ?_|refine VB ?_ ?_)<;>intro hb<;>(try simp only [J1,J2,J3,J4,J5,J6] at hb)<;>(try (exfalso;first|omega|exact hb trivial))))
  replace hS := (hS.focus (R := GP gga _) (by repeat (first | exact At.here | apply At.next))).focus (R := PC ga _ _ _ _) (by repeat (first | exact At.here | apply At.next))
  refine Z.eff (Z.cl (pexec_z ga gga 1 0 cE ⟨1, ep, []⟩ 0 6 takeQ _ _ _ hS hcE hw3 (by simp) (by omega)) rfl ?_) rfl
  clear hS
  rintro e w ⟨rfl, hS⟩
  refine ⟨_, rfl, ?_⟩
  simp only at hS ⊢
  rw [show accs [] 0 6 0 = 0 from rfl, h30] at hS ⊢
  simp only at hS ⊢
  repeat' (first|refine K ?_|(refine Sh.sa hS ?_;clear hS;intro w hS)|(refine K3 ?_;clear hS;intro g w hS hge)|((first|refine GS ?_ ?_|refine VB ?_ ?_)<;>intro hb<;>(try simp only [J1,J2,J3,J4,J5,J6] at hb)<;>(try (exfalso;first|omega|exact hb trivial))))
  replace hS := hS.fo (R := PC ga _ _ _ _)
  refine Z.eff (Z.cl (pcgate_z ga gga 1 0 _ _ _ _ hS) rfl ?_) rfl
  clear hS
  rintro e w ⟨rfl, hS⟩
  refine ⟨_, rfl, ?_⟩
  repeat' (first|refine K ?_|(refine Sh.sa hS ?_;clear hS;intro w hS)|(refine K3 ?_;clear hS;intro g w hS hge)|((first|refine GS ?_ ?_|refine VB ?_ ?_)<;>intro hb<;>(try simp only [J1,J2,J3,J4,J5,J6] at hb)<;>(try (exfalso;first|omega|exact hb trivial))))
  replace hS := hS.fo (R := GP gga _)
  refine Z.eff (Z.cl (ggive_z gga ⟨1, ep, []⟩ (⟨1, ep, 0, 0, 60⟩ : Wi) _ _ _ hS (by simp) (by simp)) rfl ?_) rfl
  clear hS
  rintro e w ⟨rfl, hS⟩
  refine ⟨_, rfl, ?_⟩
  rw [hgp3] at hS ⊢
  repeat' (first|refine K ?_|(refine Sh.sa hS ?_;clear hS;intro w hS)|(refine K3 ?_;clear hS;intro g w hS hge)|((first|refine GS ?_ ?_|refine VB ?_ ?_)<;>intro hb<;>(try simp only [J1,J2,J3,J4,J5,J6] at hb)<;>(try (exfalso;first|omega|exact hb trivial))))
  replace hS := hS.fo (R := PC gb _ _ _ _)
  refine Z.eff (Z.cl (pcgate_z gb ggb 2 0 _ _ _ _ hS) rfl ?_) rfl
  clear hS
  rintro e w ⟨rfl, hS⟩
  refine ⟨_, rfl, ?_⟩
  repeat' (first|refine K ?_|(refine Sh.sa hS ?_;clear hS;intro w hS)|(refine K3 ?_;clear hS;intro g w hS hge)|((first|refine GS ?_ ?_|refine VB ?_ ?_)<;>intro hb<;>(try simp only [J1,J2,J3,J4,J5,J6] at hb)<;>(try (exfalso;first|omega|exact hb trivial))))
  replace hS := hS.fo (R := GP ggb _)
  refine Z.eff (Z.cl (ggive_z ggb ⟨2, 0, []⟩ (⟨2, ep + 1, 0, 6, 60⟩ : Wi) _ _ _ hS (by simp) (by simp)) rfl ?_) rfl
  clear hS
  rintro e w ⟨rfl, hS⟩
  refine ⟨_, rfl, ?_⟩
  rw [hgp2] at hS ⊢
  repeat' (first|refine K ?_|(refine Sh.sa hS ?_;clear hS;intro w hS)|(refine K3 ?_;clear hS;intro g w hS hge)|((first|refine GS ?_ ?_|refine VB ?_ ?_)<;>intro hb<;>(try simp only [J1,J2,J3,J4,J5,J6] at hb)<;>(try (exfalso;first|omega|exact hb trivial))))
  refine D.startS (Lr := [.blk g16 77 takeQ.cells, .blk g17 79 pE.cells]) (hS.sb) 6 6 (by kernel_rfl) rfl ?_
  replace hS := hS.drew
  refine Sh.dp 0 1 ?_
  refine Sh.dl 1 3 ?_
  refine Sh.dl 3 11 ?_
  refine D.eff 2 15 rfl D.wantedN (by kernel_rfl) (by kernel_rfl) (fun _ _ h => h) ?_
  replace hS := (hS.focus (R := GP ggb _) (by repeat (first | exact At.here | apply At.next))).focus (R := PC gb _ _ _ _) (by repeat (first | exact At.here | apply At.next))
  refine Z.cl (pexec_z gb ggb 2 0 (cpOf cE.h) ⟨2, 0, [(⟨2, ep + 1, 0, 6, 60⟩ : Wi)]⟩ 0 6 takeQ _ _ _ hS hD hw2 (by simp) (by omega)) rfl ?_
  clear hS
  rintro e w ⟨rfl, hS⟩
  refine ⟨_, rfl, ?_⟩
  simp only at hS ⊢
  rw [hac6] at hS ⊢
  rw [h1]
  refine ⟨HM.s (hS.sb), ?_⟩
  first | refine D.pr 4 31 rfl D.wantedN (by kernel_rfl) rfl ?_ | refine D.pl 4 31 rfl D.wantedN (by kernel_rfl) (R.eqa rfl rfl rfl rfl) ?_
  refine Sh.dp 5 63 ?_
  refine D.done (by kernel_rfl) ?_
  repeat' (first|refine K ?_|(refine Sh.sa hS ?_;clear hS;intro w hS)|(refine K3 ?_;clear hS;intro g w hS hge)|((first|refine GS ?_ ?_|refine VB ?_ ?_)<;>intro hb<;>(try simp only [J1,J2,J3,J4,J5,J6] at hb)<;>(try (exfalso;first|omega|exact hb trivial))))
  refine Dnt Tryz.results6 ?_
  exact ⟨by simp [Z.packR], hS.chg⟩
set_option maxRecDepth 100000 in
theorem handoverOnce_lifted (os : Os) (started : os.Started) (H : Type) (enc : TypeId × Value → H) :
    ReturnsInHanded {} Tryz.checked os 6 .any (Rows.handoverOnceSpec.pre6 enc Tryz.prog Tryz.f6 Rows.handoverOnceRow.domain false) (Rows.handoverOnceSpec.post enc Tryz.prog Tryz.f6 false Rows.handoverOnceRow.fresh Rows.handoverOnceRow.handsOn Rows.handoverOnceRow.again) := by
  refine returnsInHanded_of_change (C := Tryz.checked) Tryz.own started (by kernel_rfl) Tryz.func6
    (ChangeSpec.witness6 (enc := enc) (C := Tryz.checked) false ⟨#[], #[.slice none 0 0, .slice none 0 0, .int .i64 0, .bool false, .int .i64 0], []⟩ 8 (by kernel_rfl) (by kernel_rfl) (by kernel_rfl) (by kernel_rfl)) ?_
  intro W base args ds gs before hval0 hW _ _
  have hval : ∀ (j : Nat) t v, Tryz.f6.params[j]? = some t → args[j]? = some v → Value.okWide Tryz.prog W .any base t v := hval0
  have hW0 := hW
  obtain ⟨p, q, hA0, hV, hpq, _, _⟩ := hW
  obtain ⟨la⟩ := args
  have hA : DataW.TrodAll enc Tryz.prog W 0 (fun _ => true) true [22, 22, 3, 4, 3] la ds p := by have := hA0; rw [Tryz.params6] at this; exact this
  rw [Tryz.params6] at hval
  obtain ⟨v0, la0, d0, ds0, p0, q0, rfl, rfl, rfl, h0, hA⟩ := trodAll_cons hA
  obtain ⟨v1, la1, d1, ds1, p1, q1, rfl, rfl, rfl, h1, hA⟩ := trodAll_cons hA
  obtain ⟨v2, la2, d2, ds2, p2, q2, rfl, rfl, rfl, h2, hA⟩ := trodAll_cons hA
  obtain ⟨v3, la3, d3, ds3, p3, q3, rfl, rfl, rfl, h3, hA⟩ := trodAll_cons hA
  obtain ⟨v4, la4, d4, ds4, p4, q4, rfl, rfl, rfl, h4, hA⟩ := trodAll_cons hA
  obtain ⟨rfl, rfl, rfl⟩ := trodAll_nil hA
  obtain ⟨l0, A0, cap0, rfl, hr0⟩ := arg_ints (hval 0 _ _ rfl rfl) h0
  obtain ⟨l1, A1, cap1, rfl, hr1⟩ := arg_ints (hval 1 _ _ rfl rfl) h1
  obtain ⟨z2, rfl, hr2⟩ := arg_int (hval 2 _ _ rfl rfl) h2
  obtain ⟨b3, rfl⟩ := arg_bool (hval 3 _ _ rfl rfl) h3
  obtain ⟨z4, rfl, hr4⟩ := arg_int (hval 4 _ _ rfl rfl) h4
  have fin : Calls Tryz.prog 6 _ W fun e W' => e = .returned (.bool true) ∧ Chg [] W W' := once32_z l0 A0 cap0 l1 A1 cap1 z2 b3 z4 W hr0 hr1 hr2  hr4
  refine fin.mono fun e W' ⟨he, hc⟩ => ⟨_, he, ?_⟩
  exact law_post Tryz.laidOut (by rw [Tryz.params6]; intro t ht; simp only [List.mem_cons, List.not_mem_nil, or_false] at ht; rcases ht with rfl | rfl | rfl | rfl | rfl <;> exact ⟨by kernel_rfl, of_decide_eq_true (by kernel_rfl)⟩) rfl rfl Tryz.underlying4 rfl hW0 hc.below
theorem handoverOnce_holds : Rows.HandoverOnceSaid :=
  OpenClaim.holds_of_wide 6 Tryz.f6 rfl rfl rfl rfl rfl rfl rfl ⟨rfl, rfl, rfl, rfl, rfl⟩ rfl rfl rfl rfl rfl (by kernel_rfl) Tryz.func6 (by kernel_rfl)
    (of_decide_eq_true (by kernel_rfl)) (by unfold Func.isWrapper; rw [if_neg (of_decide_eq_false (by kernel_rfl))]; exact ⟨rfl, rfl⟩)
    (fun os started H enc _ => handoverOnce_lifted os started H enc)
end Go.Proofs.YtiabhlogadboeaaGreat
