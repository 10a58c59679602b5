/-
  HandoverSessions: for every input the call returns true, and the arguments read afterwards as they read before.
-/
import Derived.Test.YtiabhlogadboeaaGreatNHoQ
import Derived.Test.YtiabhlogadboeaaGreatNHdP
import Derived.Test.YtiabhlogadboeaaGreatNTc
namespace Go.Proofs.YtiabhlogadboeaaGreat
open Go.RowKit Go.ChangeShapes Go.WideShapes Go.ChangeAt
set_option linter.unusedSimpArgs false
set_option linter.unusedVariables false

set_option maxHeartbeats 8000000 in
theorem sessions_z (l : List Int) (A : Option Addr) (cap : Nat) (m : List Int) (A2 : Option Addr) (cap2 : Nat) (n client : Int) (r : World) (hr0 : Rd r 1 A l.length (l.map (Value.int .i64))) (hr1 : Rd r 1 A2 m.length (m.map (Value.int .i64))) (_ : i64ok n) (_ : i64ok client) :
    Calls Tryz.prog 5 #[.slice A l.length cap, .slice A2 m.length cap2, .int .i64 n, .int .i64 client] r fun e w' => e = .returned (.bool true) ∧ Chg [] r w' := by
  have hS := Sep.root r
  have hpG := pairG_isH l n m false
  have hpH := hist_isH l
  have hpl := hist_len l
  have hpe := epochOf_bd (B := 61) (by omega) (hist_epochs l)
  refine Z.enter Tryz.func5 Tryz.ntmps5 rfl rfl ?_
  repeat' (first|refine K ?_|(refine Sh.sa hS ?_;clear hS;intro w hS)|(refine K3 ?_;clear hS;intro g w hS hge)|((first|refine GS ?_ ?_|refine VB ?_ ?_)<;>intro hb<;>(try simp only [J1,J2,J3,J4,J5,J6] at hb)<;>(try (exfalso;first|omega|exact hb trivial))))
  refine Z.eff (Z.cl (awake32_z _ _ _ hS) rfl ?_) rfl
  clear hS
  rintro e w ⟨rfl, hS⟩
  refine ⟨_, rfl, ?_⟩
  repeat' (first|refine K ?_|(refine Sh.sa hS ?_;clear hS;intro w hS)|(refine K3 ?_;clear hS;intro g w hS hge)|((first|refine GS ?_ ?_|refine VB ?_ ?_)<;>intro hb<;>(try simp only [J1,J2,J3,J4,J5,J6] at hb)<;>(try (exfalso;first|omega|exact hb trivial))))
  refine Z.eff (Z.cl (lightS_z A l.length cap _ _ _ hS) rfl ?_) rfl
  clear hS
  rintro e w ⟨rfl, hS⟩
  refine ⟨_, rfl, ?_⟩
  repeat' (first|refine K ?_|(refine Sh.sa hS ?_;clear hS;intro w hS)|(refine K3 ?_;clear hS;intro g w hS hge)|((first|refine GS ?_ ?_|refine VB ?_ ?_)<;>intro hb<;>(try simp only [J1,J2,J3,J4,J5,J6] at hb)<;>(try (exfalso;first|omega|exact hb trivial))))
  · refine Dnt Tryz.results5 ?_
    exact ⟨rfl, hS.chg⟩
  rename _ ≤ (150 : Int) => hlt
  refine Z.eff (Z.cl (lightS_z A2 m.length cap2 _ _ _ hS) rfl ?_) rfl
  clear hS
  rintro e w ⟨rfl, hS⟩
  refine ⟨_, rfl, ?_⟩
  repeat' (first|refine K ?_|(refine Sh.sa hS ?_;clear hS;intro w hS)|(refine K3 ?_;clear hS;intro g w hS hge)|((first|refine GS ?_ ?_|refine VB ?_ ?_)<;>intro hb<;>(try simp only [J1,J2,J3,J4,J5,J6] at hb)<;>(try (exfalso;first|omega|exact hb trivial))))
  · refine Dnt Tryz.results5 ?_
    exact ⟨rfl, hS.chg⟩
  rename (m.length : Int) ≤ (150 : Int) => hlt2
  refine Z.eff (Z.cl (pair_z l A cap m A2 cap2 n false 0 0 1 2 _ _ _ hS hr0 hr1 (by omega) (by omega)) rfl ?_) rfl
  clear hS
  rintro e w ⟨ga, gga, gb, ggb, gv, ggv, gw, ggw, rfl, hS⟩
  refine ⟨_, rfl, ?_⟩
  obtain ⟨hGH, hGl⟩ := hpG
  have hAh := hpH.good.2.1
  have hBh := hGH.good.2.1
  have hA := hpH.good.1.cg hpH.good.1.qok
  have hB := hGH.good.1.cg hGH.good.1.qok
  have hAl : (cpOf (hist l).h).h.length ≤ 60 := by rw [hAh]; omega
  have hBl : (cpOf (pairG l n m false)).h.length ≤ 90 := by rw [hBh]; omega
  rw [← hAh] at hpe
  clear hAh hBh
  generalize cpOf (hist l).h = cA at *
  generalize cpOf (pairG l n m false) = cB at *
  repeat' (first|refine K ?_|(refine Sh.sa hS ?_;clear hS;intro w hS)|(refine K3 ?_;clear hS;intro g w hS hge)|((first|refine GS ?_ ?_|refine VB ?_ ?_)<;>intro hb<;>(try simp only [J1,J2,J3,J4,J5,J6] at hb)<;>(try (exfalso;first|omega|exact hb trivial))))
  replace hS := hS.fo (R := PC ga _ _ _ _)
  refine Z.eff (Z.cl (pcepoch_z ga 1 0 _ _ _ _ _ hS (by omega)) rfl ?_) rfl
  clear hS
  rintro e w ⟨rfl, hS⟩
  refine ⟨_, rfl, ?_⟩
  repeat' (first|refine K ?_|(refine Sh.sa hS ?_;clear hS;intro w hS)|(refine K3 ?_;clear hS;intro g w hS hge)|((first|refine GS ?_ ?_|refine VB ?_ ?_)<;>intro hb<;>(try simp only [J1,J2,J3,J4,J5,J6] at hb)<;>(try (exfalso;first|omega|exact hb trivial))))
  have hm := modN_bd client 8 (by omega)
  refine Z.eff (Z.cl (modS_z client 8 _ _ _ hS (by omega) (by omega)) rfl ?_) rfl
  clear hS
  rintro e w ⟨rfl, hS⟩
  refine ⟨_, rfl, ?_⟩
  generalize modN client 8 = kk at *
  obtain ⟨ep, hep⟩ : ∃ ep, ep = epochOf cA.h + 1 := ⟨_, rfl⟩
  rw [← hep]
  have hep1 : 1 ≤ ep ∧ ep ≤ 62 := by omega
  repeat' (first|refine K ?_|(refine Sh.sa hS ?_;clear hS;intro w hS)|(refine K3 ?_;clear hS;intro g w hS hge)|((first|refine GS ?_ ?_|refine VB ?_ ?_)<;>intro hb<;>(try simp only [J1,J2,J3,J4,J5,J6] at hb)<;>(try (exfalso;first|omega|exact hb trivial))))
  replace hS := hS.fo (R := PC ga _ _ _ _)
  refine Z.eff (Z.cl (pcgate_z ga gga 1 0 _ _ _ _ hS) rfl ?_) rfl
  clear hS
  rintro e w ⟨rfl, hS⟩
  refine ⟨_, rfl, ?_⟩
  have hok1 : okW (⟨1, ep, 0, 0, 50⟩ : Wi) := by unfold okW; simp only; omega
  have hok2 : okW (⟨2, ep + 1, 0, 6, 60⟩ : Wi) := by unfold okW; simp only; omega
  obtain ⟨hgp, _⟩ := gave (z := 1) hok1 rfl
  obtain ⟨hgp2, _⟩ := gave (z := 2) hok2 rfl
  repeat' (first|refine K ?_|(refine Sh.sa hS ?_;clear hS;intro w hS)|(refine K3 ?_;clear hS;intro g w hS hge)|((first|refine GS ?_ ?_|refine VB ?_ ?_)<;>intro hb<;>(try simp only [J1,J2,J3,J4,J5,J6] at hb)<;>(try (exfalso;first|omega|exact hb trivial))))
  replace hS := hS.fo (R := GP gga _)
  refine Z.eff (Z.cl (ggive_z gga ⟨1, 0, []⟩ (⟨1, ep, 0, 0, 50⟩ : Wi) _ _ _ hS (by simp) (by simp)) rfl ?_) rfl
  clear hS
  rintro e w ⟨rfl, hS⟩
  refine ⟨_, rfl, ?_⟩
  rw [hgp] at hS ⊢
  repeat' (first|refine K ?_|(refine Sh.sa hS ?_;clear hS;intro w hS)|(refine K3 ?_;clear hS;intro g w hS hge)|((first|refine GS ?_ ?_|refine VB ?_ ?_)<;>intro hb<;>(try simp only [J1,J2,J3,J4,J5,J6] at hb)<;>(try (exfalso;first|omega|exact hb trivial))))
  replace hS := hS.fo (R := PC ga _ _ _ _)
  refine Z.eff (Z.cl (pclasts_z ga 1 0 _ _ _ _ _ hS) rfl ?_) rfl
  clear hS
  rintro e w ⟨v3, rfl, hS⟩
  refine ⟨_, rfl, ?_⟩
  have hlen : (lastsL cA.t).length = 8 := by simp [lastsL]
  obtain ⟨A3, c3, rfl, _⟩ := (hS.slrows (e := 3) (v := v3) (by repeat (first | exact At.here | apply At.next))).mform
  obtain ⟨gx, o, hAe, _, hra⟩ := (hS.slrows (e := 3) (v := .slice A3 (lastsL cA.t).length c3) (by repeat (first | exact At.here | apply At.next))).mat (by omega) (q := (1 + kk - 1).toNat) (by rw [hlen]; omega)
  subst hAe
  rw [show (lastsL cA.t)[(1 + kk - 1).toNat]'(by rw [hlen]; omega) = cA.t.n (1 + kk - 1).toNat from by simp [lastsL]] at hra
  have hnl : cA.t.n (1 + kk - 1).toNat ≤ cA.h.length := hA.good.num _
  have hn0 : 0 ≤ cA.t.n (1 + kk - 1).toNat := (hA.ok.1 _).1
  obtain ⟨c2, p2, h1, hc2, hl2, h3, h4⟩ := sess_ok hA (cl := 1 + kk) (nu := cA.t.n (1 + kk - 1).toNat + 1) (ep := ep) (k := (⟨#[111, 110, 99, 101]⟩ : ByteArray)) (v := (⟨#[118]⟩ : ByteArray)) ⟨by omega, by omega⟩ rfl ⟨by decide, by decide⟩ (by decide) (by omega) ⟨hep1.1, by omega⟩ (by omega)
  repeat' (first|refine K ?_|(refine Sh.sa hS ?_;clear hS;intro w hS)|(refine K3 ?_;clear hS;intro g w hS hge)|((first|refine GS ?_ ?_|refine VB ?_ ?_)<;>intro hb<;>(try simp only [J1,J2,J3,J4,J5,J6] at hb)<;>(try (exfalso;first|omega|exact hb trivial))))
  rename Nat => g14
  have hac5 : accs [(⟨1, ep, 0, 0, 50⟩ : Wi)] 0 5 0 = ep := by simp [accs]; omega
  have hac6 : accs [(⟨2, ep + 1, 0, 6, 60⟩ : Wi)] 0 6 0 = ep + 1 := by simp [accs]; omega
  have hac7 : accs [(⟨2, ep + 1, 0, 6, 60⟩ : Wi)] 0 7 0 = ep + 1 := by simp [accs]; omega
  have hw1 : ∀ y, y ∈ (⟨1, 0, [(⟨1, ep, 0, 0, 50⟩ : Wi)]⟩ : Ga).ws → 1 ≤ y.epoch ∧ y.epoch ≤ 1048576 := by intro y hy; simp at hy; subst hy; simp only; omega
  have hw2 : ∀ y, y ∈ (⟨2, 0, [(⟨2, ep + 1, 0, 6, 60⟩ : Wi)]⟩ : Ga).ws → 1 ≤ y.epoch ∧ y.epoch ≤ 1048576 := by intro y hy; simp at hy; subst hy; simp only; omega
  replace hS := (hS.focus (R := GP gga _) (by repeat (first | exact At.here | apply At.next))).focus (R := PC ga _ _ _ _) (by repeat (first | exact At.here | apply At.next))
  refine Z.eff (Z.cl (pexec_z ga gga 1 0 cA ⟨1, 0, [(⟨1, ep, 0, 0, 50⟩ : Wi)]⟩ 0 5 (⟨0, 1 + kk, cA.t.n (1 + kk - 1).toNat + 1, 2, 0, (⟨#[111, 110, 99, 101]⟩ : ByteArray), (⟨#[118]⟩ : ByteArray)⟩ : Rq) _ _ _ hS hA hw1 (by simp) (by omega)) rfl ?_) rfl
  clear hS
  rintro e w ⟨rfl, hS⟩
  refine ⟨_, rfl, ?_⟩
  simp only at hS ⊢
  rw [hac5, h1] at hS ⊢
  simp only at hS ⊢
  repeat' (first|refine K ?_|(refine Sh.sa hS ?_;clear hS;intro w hS)|(refine K3 ?_;clear hS;intro g w hS hge)|((first|refine GS ?_ ?_|refine VB ?_ ?_)<;>intro hb<;>(try simp only [J1,J2,J3,J4,J5,J6] at hb)<;>(try (exfalso;first|omega|exact hb trivial))))
  rename Nat => g15
  replace hS := ((hS.focus (R := PC gb _ _ _ _) (by repeat (first | exact At.here | apply At.next))).focus (R := GP gga _) (by repeat (first | exact At.here | apply At.next))).focus (R := PC ga _ _ _ _) (by repeat (first | exact At.here | apply At.next))
  have hbad : badT 0 0 1 2 ep = false := by
    have : 1 ≤ ep ∧ ep ≤ 1048576 := by omega
    simp [badT, this]
  refine Z.eff (Z.cl (ptransfer_z ga gga gb 1 0 2 0 _ c2 cB ⟨1, 0, [(⟨1, ep, 0, 0, 50⟩ : Wi)]⟩ ep 1 _ _ _ hS hc2 hB (by omega) (by omega) (by simp) (by unfold i64ok; omega) false hbad) rfl ?_) rfl
  clear hS
  rintro e w ⟨vk, vi, vs, rfl, hS⟩
  refine ⟨_, rfl, ?_⟩
  rw [show trM false 0 1 c2 = mfOf 0 1 c2 from rfl, show trC false cB (cpOf c2.h) = cpOf c2.h from rfl] at hS
  rw [show trM false 0 1 c2 = mfOf 0 1 c2 from rfl, show trE false = 0 from rfl]
  obtain ⟨D1, e1, rfl, _⟩ := (hS.slrows (e := 9) (v := vk) (by repeat (first | exact At.here | apply At.next))).mform
  obtain ⟨D2, e2, rfl, _⟩ := (hS.slrows (e := 3) (v := vi) (by repeat (first | exact At.here | apply At.next))).mform
  obtain ⟨D3, e3, rfl, _⟩ := (hS.slrows (e := 3) (v := vs) (by repeat (first | exact At.here | apply At.next))).mform
  obtain ⟨hD, hDh, _, hDs⟩ := cpOf_cg hc2
  have hDl : (cpOf c2.h).h.length ≤ 61 := by rw [hDh]; omega
  repeat' (first|refine K ?_|(refine Sh.sa hS ?_;clear hS;intro w hS)|(refine K3 ?_;clear hS;intro g w hS hge)|((first|refine GS ?_ ?_|refine VB ?_ ?_)<;>intro hb<;>(try simp only [J1,J2,J3,J4,J5,J6] at hb)<;>(try (exfalso;first|omega|exact hb trivial))))
  replace hS := hS.fo (R := PC gb _ _ _ _)
  refine Z.eff (Z.cl (pcgate_z gb ggb 2 0 _ _ _ _ hS) rfl ?_) rfl
  clear hS
  rintro e w ⟨rfl, hS⟩
  refine ⟨_, rfl, ?_⟩
  repeat' (first|refine K ?_|(refine Sh.sa hS ?_;clear hS;intro w hS)|(refine K3 ?_;clear hS;intro g w hS hge)|((first|refine GS ?_ ?_|refine VB ?_ ?_)<;>intro hb<;>(try simp only [J1,J2,J3,J4,J5,J6] at hb)<;>(try (exfalso;first|omega|exact hb trivial))))
  replace hS := hS.fo (R := GP ggb _)
  refine Z.eff (Z.cl (ggive_z ggb ⟨2, 0, []⟩ (⟨2, ep + 1, 0, 6, 60⟩ : Wi) _ _ _ hS (by simp) (by simp)) rfl ?_) rfl
  clear hS
  rintro e w ⟨rfl, hS⟩
  refine ⟨_, rfl, ?_⟩
  rw [hgp2] at hS ⊢
  repeat' (first|refine K ?_|(refine Sh.sa hS ?_;clear hS;intro w hS)|(refine K3 ?_;clear hS;intro g w hS hge)|((first|refine GS ?_ ?_|refine VB ?_ ?_)<;>intro hb<;>(try simp only [J1,J2,J3,J4,J5,J6] at hb)<;>(try (exfalso;first|omega|exact hb trivial))))
  replace hS := hS.fo (R := PC gb _ _ _ _)
  refine Z.eff (Z.cl (pclen_z gb 2 0 _ _ _ _ _ hS) rfl ?_) rfl
  clear hS
  rintro e w ⟨rfl, hS⟩
  refine ⟨_, rfl, ?_⟩
  repeat' (first|refine K ?_|(refine Sh.sa hS ?_;clear hS;intro w hS)|(refine K3 ?_;clear hS;intro g w hS hge)|((first|refine GS ?_ ?_|refine VB ?_ ?_)<;>intro hb<;>(try simp only [J1,J2,J3,J4,J5,J6] at hb)<;>(try (exfalso;first|omega|exact hb trivial))))
  replace hS := (hS.focus (R := GP ggb _) (by repeat (first | exact At.here | apply At.next))).focus (R := PC gb _ _ _ _) (by repeat (first | exact At.here | apply At.next))
  refine Z.eff (Z.cl (pexec_z gb ggb 2 0 (cpOf c2.h) ⟨2, 0, [(⟨2, ep + 1, 0, 6, 60⟩ : Wi)]⟩ 0 6 (⟨0, 1 + kk, cA.t.n (1 + kk - 1).toNat + 1, 2, 0, (⟨#[111, 110, 99, 101]⟩ : ByteArray), (⟨#[118]⟩ : ByteArray)⟩ : Rq) _ _ _ hS hD hw2 (by simp) (by omega)) rfl ?_) rfl
  clear hS
  rintro e w ⟨rfl, hS⟩
  refine ⟨_, rfl, ?_⟩
  simp only at hS ⊢
  rw [hac6, h3] at hS ⊢
  simp only at hS ⊢
  rcases h4 with rfl | ⟨rfl, h5, h6, cE, h7, h8⟩
  · repeat' (first|refine K ?_|(refine Sh.sa hS ?_;clear hS;intro w hS)|(refine K3 ?_;clear hS;intro g w hS hge)|((first|refine GS ?_ ?_|refine VB ?_ ?_)<;>intro hb<;>(try simp only [J1,J2,J3,J4,J5,J6] at hb)<;>(try (exfalso;first|omega|exact hb trivial))))
    refine Dnt Tryz.results5 ?_
    exact ⟨by simp [Z.packR, errR], hS.chg⟩
  · have hlD : (cpOf c2.h).h.length = cA.h.length + 1 := by rw [hDh, h5]
    repeat' (first|refine K ?_|(refine Sh.sa hS ?_;clear hS;intro w hS)|(refine K3 ?_;clear hS;intro g w hS hge)|((first|refine GS ?_ ?_|refine VB ?_ ?_)<;>intro hb<;>(try simp only [J1,J2,J3,J4,J5,J6] at hb)<;>(try (exfalso;first|omega|exact hb trivial))))
    replace hS := hS.fo (R := PC gb _ _ _ _)
    refine Z.eff (Z.cl (pcget_z gb 2 0 _ (cpOf c2.h) (⟨#[111, 110, 99, 101]⟩ : ByteArray) _ _ _ hS hD.cok.ss (by decide)) rfl ?_) rfl
    clear hS
    rintro e w ⟨rfl, hS⟩
    refine ⟨_, rfl, ?_⟩
    rw [h6, getV_some]
    repeat' (first|refine K ?_|(refine Sh.sa hS ?_;clear hS;intro w hS)|(refine K3 ?_;clear hS;intro g w hS hge)|((first|refine GS ?_ ?_|refine VB ?_ ?_)<;>intro hb<;>(try simp only [J1,J2,J3,J4,J5,J6] at hb)<;>(try (exfalso;first|omega|exact hb trivial))))
    replace hS := (hS.focus (R := GP ggb _) (by repeat (first | exact At.here | apply At.next))).focus (R := PC gb _ _ _ _) (by repeat (first | exact At.here | apply At.next))
    refine Z.eff (Z.cl (pexec_z gb ggb 2 0 (cpOf c2.h) ⟨2, 0, [(⟨2, ep + 1, 0, 6, 60⟩ : Wi)]⟩ 0 7 ⟨0, 1 + kk, cA.t.n (1 + kk - 1).toNat + 1 + 1, 2, 0, (⟨#[111, 110, 99, 101]⟩ : ByteArray), (⟨#[118]⟩ : ByteArray)⟩ _ _ _ hS hD hw2 (by simp) (by omega)) rfl ?_) rfl
    clear hS
    rintro e w ⟨rfl, hS⟩
    refine ⟨_, rfl, ?_⟩
    simp only at hS ⊢
    rw [hac7, h7] at hS ⊢
    simp only at hS ⊢
    repeat' (first|refine K ?_|(refine Sh.sa hS ?_;clear hS;intro w hS)|(refine K3 ?_;clear hS;intro g w hS hge)|((first|refine GS ?_ ?_|refine VB ?_ ?_)<;>intro hb<;>(try simp only [J1,J2,J3,J4,J5,J6] at hb)<;>(try (exfalso;first|omega|exact hb trivial))))
    · replace hS := hS.fo (R := PC gb _ _ _ _)
      refine Z.eff (Z.cl (pclen_z gb 2 0 _ cE _ _ _ hS) rfl ?_) rfl
      clear hS
      rintro e w ⟨rfl, hS⟩
      refine ⟨_, rfl, ?_⟩
      repeat' (first|refine K ?_|(refine Sh.sa hS ?_;clear hS;intro w hS)|(refine K3 ?_;clear hS;intro g w hS hge)|((first|refine GS ?_ ?_|refine VB ?_ ?_)<;>intro hb<;>(try simp only [J1,J2,J3,J4,J5,J6] at hb)<;>(try (exfalso;first|omega|exact hb trivial))))
      all_goals (try (exfalso; first | omega | exact hb rfl | (simp at hb; done)))
      all_goals
        refine Dnt Tryz.results5 ?_
        exact ⟨by simp [Z.packR, putR, hlD, h8], hS.chg⟩
    · exfalso
      simp at hb
set_option maxRecDepth 100000 in
theorem handoverSessions_lifted (os : Os) (started : os.Started) (H : Type) (enc : TypeId × Value → H) :
    ReturnsInHanded {} Tryz.checked os 5 .any (Rows.handoverSessionsSpec.pre6 enc Tryz.prog Tryz.f5 Rows.handoverSessionsRow.domain false) (Rows.handoverSessionsSpec.post enc Tryz.prog Tryz.f5 false Rows.handoverSessionsRow.fresh Rows.handoverSessionsRow.handsOn Rows.handoverSessionsRow.again) := by
  refine returnsInHanded_of_change (C := Tryz.checked) Tryz.own started (by kernel_rfl) Tryz.func5
    (ChangeSpec.witness6 (enc := enc) (C := Tryz.checked) false ⟨#[], #[.slice none 0 0, .slice none 0 0, .int .i64 0, .int .i64 0], []⟩ 8 (by kernel_rfl) (by kernel_rfl) (by kernel_rfl) (by kernel_rfl)) ?_
  intro W base args ds gs before hval0 hW _ _
  have hval : ∀ (j : Nat) t v, Tryz.f5.params[j]? = some t → args[j]? = some v → Value.okWide Tryz.prog W .any base t v := hval0
  have hW0 := hW
  obtain ⟨p, q, hA0, hV, hpq, _, _⟩ := hW
  obtain ⟨la⟩ := args
  have hA : DataW.TrodAll enc Tryz.prog W 0 (fun _ => true) true [22, 22, 3, 3] la ds p := by have := hA0; rw [Tryz.params5] at this; exact this
  rw [Tryz.params5] at hval
  obtain ⟨v0, la0, d0, ds0, p0, q0, rfl, rfl, rfl, h0, hA⟩ := trodAll_cons hA
  obtain ⟨v1, la1, d1, ds1, p1, q1, rfl, rfl, rfl, h1, hA⟩ := trodAll_cons hA
  obtain ⟨v2, la2, d2, ds2, p2, q2, rfl, rfl, rfl, h2, hA⟩ := trodAll_cons hA
  obtain ⟨v3, la3, d3, ds3, p3, q3, rfl, rfl, rfl, h3, hA⟩ := trodAll_cons hA
  obtain ⟨rfl, rfl, rfl⟩ := trodAll_nil hA
  obtain ⟨l0, A0, cap0, rfl, hr0⟩ := arg_ints (hval 0 _ _ rfl rfl) h0
  obtain ⟨l1, A1, cap1, rfl, hr1⟩ := arg_ints (hval 1 _ _ rfl rfl) h1
  obtain ⟨z2, rfl, hr2⟩ := arg_int (hval 2 _ _ rfl rfl) h2
  obtain ⟨z3, rfl, hr3⟩ := arg_int (hval 3 _ _ rfl rfl) h3
  have fin : Calls Tryz.prog 5 _ W fun e W' => e = .returned (.bool true) ∧ Chg [] W W' := sessions_z l0 A0 cap0 l1 A1 cap1 z2 z3 W hr0 hr1 hr2 hr3
  refine fin.mono fun e W' ⟨he, hc⟩ => ⟨_, he, ?_⟩
  exact law_post Tryz.laidOut (by rw [Tryz.params5]; intro t ht; simp only [List.mem_cons, List.not_mem_nil, or_false] at ht; rcases ht with rfl | rfl | rfl | rfl <;> exact ⟨by kernel_rfl, of_decide_eq_true (by kernel_rfl)⟩) rfl rfl Tryz.underlying4 rfl hW0 hc.below
theorem handoverSessions_holds : Rows.HandoverSessionsSaid :=
  OpenClaim.holds_of_wide 5 Tryz.f5 rfl rfl rfl rfl rfl rfl rfl ⟨rfl, rfl, rfl, rfl, rfl⟩ rfl rfl rfl rfl rfl (by kernel_rfl) Tryz.func5 (by kernel_rfl)
    (of_decide_eq_true (by kernel_rfl)) (by unfold Func.isWrapper; rw [if_neg (of_decide_eq_false (by kernel_rfl))]; exact ⟨rfl, rfl⟩)
    (fun os started H enc _ => handoverSessions_lifted os started H enc)
end Go.Proofs.YtiabhlogadboeaaGreat
