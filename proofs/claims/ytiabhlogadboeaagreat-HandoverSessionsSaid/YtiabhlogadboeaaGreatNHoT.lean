/-
  Transfer, of the program and of the reference.
-/
import Derived.Test.YtiabhlogadboeaaGreatNHoK
import Derived.Test.YtiabhlogadboeaaGreatNLaw27
namespace Go.Proofs.YtiabhlogadboeaaGreat
open Go.RowKit
set_option linter.unusedSimpArgs false
set_option linter.unusedVariables false
attribute [local irreducible] Res.blk Res.sl Res.all Res.ex Res.pure Res.star

theorem com_take {α : Type} [DecidableEq α] : ∀ (l l' : List α), l'.take (comN l l') = l.take (comN l l') ∧ comN l l' ≤ l.length ∧ comN l l' ≤ l'.length
  | [], l' => by simp [comN]
  | a :: l, [] => by simp [comN]
  | a :: l, b :: l' => by
    unfold comN
    split
    · rename_i h
      subst h
      obtain ⟨h1, h2, h3⟩ := com_take l l'
      exact ⟨by rw [List.take_succ_cons, List.take_succ_cons, h1], by simpa using h2, by simpa using h3⟩
    · simp
theorem trunc_com {c : Cp} (hc : CG c) (h : List Ch) : (truncC c (comN h c.h : Nat)).1 = cpOf (h.take (comN h c.h)) := by
  have h1 := com_take h c.h
  unfold truncC
  rw [if_pos ⟨by omega, by omega⟩]
  show cpOf (c.h.take _) = _
  rw [Int.toNat_natCast, h1.1]
def Mf.zero : Mf := ⟨0, 0, 0, [], [], [], 0⟩
/-- Whether a transfer is refused. -/
def badT (ta tb ca cb ep : Int) : Bool := !decide (ta = tb) || (decide (ca = cb) || !decide (1 ≤ ep ∧ ep ≤ 1048576))
def trM (bad : Bool) (ten key : Int) (c : Cp) : Mf := if bad then Mf.zero else mfOf ten key c
def trG (bad : Bool) (G : Ga) (G' : Ga) : Ga := if bad then G else G'
def trC (bad : Bool) (c c' : Cp) : Cp := if bad then c else c'
def trE (bad : Bool) : Int := if bad then 1 else 0
theorem trZ {r w : World} {F : List Res} {ten key : Int} {c : Cp} (hS : Sep r [] F w) : Sep r [] (.sl 9 1 (.slice none 0 0) ((trM true ten key c).keys.map kC) :: .sl 3 1 (.slice none 0 0) ((trM true ten key c).items.map intC) :: .sl 3 1 (.slice none 0 0) ((trM true ten key c).sessions.map intC) :: F) w :=
  Z.nilsl (Z.nilsl (Z.nilsl hS 3 1 none) 3 1 none) 9 1 none
set_option maxHeartbeats 4000000 in
theorem ptransfer_z (ga gga gb : Nat) (ca ta cb tb : Int) (vgb : Value) (cA cB : Cp) (GA : Ga) (ep key : Int) (r : World) (F : List Res) (w : World) (hS : Sep r [] (PC ga ca ta (.pointer (some ⟨gga, 0, .none⟩)) cA :: GP gga GA :: PC gb cb tb vgb cB :: F) w)
    (hA : CG cA) (hB : CG cB) (hla : cA.h.length ≤ 1000) (hlb : cB.h.length ≤ 1000) (hg : GA.ws.length ≤ 100000) (ht : i64ok ta) (BAD : Bool) (hbad : badT ta tb ca cb ep = BAD) :
    Calls Tryz.prog 11 #[.pointer (some ⟨ga, 0, .none⟩), .pointer (some ⟨gb, 0, .none⟩), .int .i64 ep, .int .i64 key] w fun e w' => ∃ vk vi vs, e = .returned (.tuple #[(trM BAD ta key cA).val vk vi vs, .int .i64 (trE BAD)]) ∧ Sep r [] (.sl 9 1 vk ((trM BAD ta key cA).keys.map kC) :: .sl 3 1 vi ((trM BAD ta key cA).items.map intC) :: .sl 3 1 vs ((trM BAD ta key cA).sessions.map intC) :: PC ga ca ta (.pointer (some ⟨gga, 0, .none⟩)) cA :: GP gga (trG BAD GA (closeP GA ep).1) :: PC gb cb tb vgb (trC BAD cB (cpOf cA.h)) :: F) w' := by
  have hH := hA.isH
  have hcA : cA.h = cA.h := rfl
  refine Z.enter Tryz.func11 Tryz.ntmps11 rfl rfl ?_
  repeat' (first|refine K ?_|(refine Sh.sa hS ?_;clear hS;intro w hS)|(refine K3 ?_;clear hS;intro g w hS hge)|((first|refine GS ?_ ?_|refine VB ?_ ?_)<;>intro hb<;>(try simp only [J1,J2,J3,J4,J5,J6] at hb)<;>(try (exfalso;first|omega|exact hb trivial))))
  rename Nat => g8
  replace hS := hS.fo (R := PC ga _ _ _ _)
  refine Z.eff (Z.cl (pctenant_z ga ca ta _ _ _ _ _ hS) rfl ?_) rfl
  clear hS
  rintro e w ⟨rfl, hS⟩
  refine ⟨_, rfl, ?_⟩
  repeat' (first|refine K ?_|(refine Sh.sa hS ?_;clear hS;intro w hS)|(refine K3 ?_;clear hS;intro g w hS hge)|((first|refine GS ?_ ?_|refine VB ?_ ?_)<;>intro hb<;>(try simp only [J1,J2,J3,J4,J5,J6] at hb)<;>(try (exfalso;first|omega|exact hb trivial))))
  replace hS := hS.fo (R := PC gb _ _ _ _)
  refine Z.eff (Z.cl (pctenant_z gb cb tb _ _ _ _ _ hS) rfl ?_) rfl
  clear hS
  rintro e w ⟨rfl, hS⟩
  refine ⟨_, rfl, ?_⟩
  repeat' (first|refine K ?_|(refine Sh.sa hS ?_;clear hS;intro w hS)|(refine K3 ?_;clear hS;intro g w hS hge)|((first|refine GS ?_ ?_|refine VB ?_ ?_)<;>intro hb<;>(try simp only [J1,J2,J3,J4,J5,J6] at hb)<;>(try (exfalso;first|omega|exact hb trivial))))
  · have e : BAD = true := by rw [← hbad]; simp [badT, hb]
    subst e
    first | refine Z.done hS Tryz.results11 (Z.RV.cell rfl (by repeat (first | exact At.here | apply At.next)) rfl (Z.RV.tmp rfl Z.RV.nil)) ?_ | refine Z.doneN hS Tryz.results11 (Z.RV.cell rfl (by repeat (first | exact At.here | apply At.next)) rfl (Z.RV.tmp rfl Z.RV.nil)) ?_
    refine ⟨_, _, _, rfl, trZ ?_⟩
    exact hS.sb
  rename ta = tb => hten
  replace hS := hS.fo (R := PC ga _ _ _ _)
  refine Z.eff (Z.cl (pccell_z ga ca ta _ _ _ _ _ hS) rfl ?_) rfl
  clear hS
  rintro e w ⟨rfl, hS⟩
  refine ⟨_, rfl, ?_⟩
  repeat' (first|refine K ?_|(refine Sh.sa hS ?_;clear hS;intro w hS)|(refine K3 ?_;clear hS;intro g w hS hge)|((first|refine GS ?_ ?_|refine VB ?_ ?_)<;>intro hb<;>(try simp only [J1,J2,J3,J4,J5,J6] at hb)<;>(try (exfalso;first|omega|exact hb trivial))))
  replace hS := hS.fo (R := PC gb _ _ _ _)
  refine Z.eff (Z.cl (pccell_z gb cb tb _ _ _ _ _ hS) rfl ?_) rfl
  clear hS
  rintro e w ⟨rfl, hS⟩
  refine ⟨_, rfl, ?_⟩
  repeat' (first|refine K ?_|(refine Sh.sa hS ?_;clear hS;intro w hS)|(refine K3 ?_;clear hS;intro g w hS hge)|((first|refine GS ?_ ?_|refine VB ?_ ?_)<;>intro hb<;>(try simp only [J1,J2,J3,J4,J5,J6] at hb)<;>(try (exfalso;first|omega|exact hb trivial))))
  · have e : BAD = true := by rw [← hbad]; simp [badT, hb]
    subst e
    first | refine Z.done hS Tryz.results11 (Z.RV.cell rfl (by repeat (first | exact At.here | apply At.next)) rfl (Z.RV.tmp rfl Z.RV.nil)) ?_ | refine Z.doneN hS Tryz.results11 (Z.RV.cell rfl (by repeat (first | exact At.here | apply At.next)) rfl (Z.RV.tmp rfl Z.RV.nil)) ?_
    refine ⟨_, _, _, rfl, trZ ?_⟩
    exact hS.sb
  rename ¬ ca = cb => hcell
  replace hS := hS.fo (R := PC ga _ _ _ _)
  refine Z.eff (Z.cl (pcgate_z ga gga ca ta _ _ _ _ hS) rfl ?_) rfl
  clear hS
  rintro e w ⟨rfl, hS⟩
  refine ⟨_, rfl, ?_⟩
  repeat' (first|refine K ?_|(refine Sh.sa hS ?_;clear hS;intro w hS)|(refine K3 ?_;clear hS;intro g w hS hge)|((first|refine GS ?_ ?_|refine VB ?_ ?_)<;>intro hb<;>(try simp only [J1,J2,J3,J4,J5,J6] at hb)<;>(try (exfalso;first|omega|exact hb trivial))))
  replace hS := hS.fo (R := GP gga _)
  refine Z.eff (Z.cl (gclose_f gga GA ep _ _ _ hS hg) rfl ?_) rfl
  clear hS
  rintro e w ⟨rfl, hS⟩
  refine ⟨_, rfl, ?_⟩
  repeat' (first|refine K ?_|(refine Sh.sa hS ?_;clear hS;intro w hS)|(refine K3 ?_;clear hS;intro g w hS hge)|((first|refine GS ?_ ?_|refine VB ?_ ?_)<;>intro hb<;>(try simp only [J1,J2,J3,J4,J5,J6] at hb)<;>(try (exfalso;first|omega|exact hb trivial))))
  · have hep : ¬ (1 ≤ ep ∧ ep ≤ 1048576) := by
      intro h
      unfold closeP at hb
      rw [if_pos h] at hb
      exact hb rfl
    have e : BAD = true := by rw [← hbad]; simp [badT, hten, hcell, hep]
    have e2 : closeP GA ep = (GA, 1) := by unfold closeP; rw [if_neg hep]
    rw [e2] at hS ⊢
    subst e
    first | refine Z.done hS Tryz.results11 (Z.RV.cell rfl (by repeat (first | exact At.here | apply At.next)) rfl (Z.RV.tmp rfl Z.RV.nil)) ?_ | refine Z.doneN hS Tryz.results11 (Z.RV.cell rfl (by repeat (first | exact At.here | apply At.next)) rfl (Z.RV.tmp rfl Z.RV.nil)) ?_
    refine ⟨_, _, _, rfl, trZ ?_⟩
    exact hS.sb
  have hep : 1 ≤ ep ∧ ep ≤ 1048576 := by
    by_cases h : 1 ≤ ep ∧ ep ≤ 1048576
    · exact h
    · unfold closeP at hb
      rw [if_neg h] at hb
      cases hb
  have e : BAD = false := by rw [← hbad]; simp [badT, hten, hcell, hep]
  subst e
  replace hS := hS.fo (R := PC ga _ _ _ _)
  refine Z.eff (Z.cl (phist_z ga ca ta _ cA 0 _ _ _ hS (by omega)) rfl ?_) rfl
  clear hS
  rintro e w ⟨A1, c1, rfl, hS⟩
  refine ⟨_, rfl, ?_⟩
  rw [show histB cA.h 0 = cA.h from rfl] at hS ⊢
  repeat' (first|refine K ?_|(refine Sh.sa hS ?_;clear hS;intro w hS)|(refine K3 ?_;clear hS;intro g w hS hge)|((first|refine GS ?_ ?_|refine VB ?_ ?_)<;>intro hb<;>(try simp only [J1,J2,J3,J4,J5,J6] at hb)<;>(try (exfalso;first|omega|exact hb trivial))))
  replace hS := hS.fo (R := PC gb _ _ _ _)
  refine Z.eff (Z.cl (phist_z gb cb tb _ cB 0 _ _ _ hS (by omega)) rfl ?_) rfl
  clear hS
  rintro e w ⟨A2, c2, rfl, hS⟩
  refine ⟨_, rfl, ?_⟩
  rw [show histB cB.h 0 = cB.h from rfl] at hS ⊢
  repeat' (first|refine K ?_|(refine Sh.sa hS ?_;clear hS;intro w hS)|(refine K3 ?_;clear hS;intro g w hS hge)|((first|refine GS ?_ ?_|refine VB ?_ ?_)<;>intro hb<;>(try simp only [J1,J2,J3,J4,J5,J6] at hb)<;>(try (exfalso;first|omega|exact hb trivial))))
  refine Z.eff (Z.cl (pcommon_z cA.h cB.h _ _ _ _ _ hS (Reads.of_at (e := 90) (v := .slice A1 cA.h.length c1) (by repeat (first | exact At.here | apply At.next))) (Reads.of_at (e := 90) (v := .slice A2 cB.h.length c2) (by repeat (first | exact At.here | apply At.next))) (by omega) (by omega)) rfl ?_) rfl
  clear hS
  rintro e w ⟨rfl, hS⟩
  refine ⟨_, rfl, ?_⟩
  have hcom := com_take cA.h cB.h
  have htr := trunc_com hB cA.h
  generalize comN cA.h cB.h = k at *
  obtain ⟨_, hk, _⟩ := hcom
  repeat' (first|refine K ?_|(refine Sh.sa hS ?_;clear hS;intro w hS)|(refine K3 ?_;clear hS;intro g w hS hge)|((first|refine GS ?_ ?_|refine VB ?_ ?_)<;>intro hb<;>(try simp only [J1,J2,J3,J4,J5,J6] at hb)<;>(try (exfalso;first|omega|exact hb trivial))))
  replace hS := hS.fo (R := PC gb _ _ _ _)
  refine Z.eff (Z.cl (pctrunc_f gb cb tb _ cB (k : Int) _ _ _ hS hB.isH) rfl ?_) rfl
  clear hS
  rintro e w ⟨rfl, hS⟩
  refine ⟨_, rfl, ?_⟩
  rw [htr] at hS
  obtain ⟨h, hh⟩ : ∃ h, h = cA.h := ⟨_, rfl⟩
  rw [← hh] at hS hk hH hla ⊢
  have hcap : h.length ≤ c1 := by
    obtain ⟨_, c', e', hle⟩ := (hS.slrows (e := 90) (v := .slice A1 h.length c1) (by repeat (first | exact At.here | apply At.next))).mform
    injection e' with _ _ e3
    omega
  repeat' (first|refine K ?_|(refine Sh.sa hS ?_;clear hS;intro w hS)|(refine K3 ?_;clear hS;intro g w hS hge)|((first|refine GS ?_ ?_|refine VB ?_ ?_)<;>intro hb<;>(try simp only [J1,J2,J3,J4,J5,J6] at hb)<;>(try (exfalso;first|omega|exact hb trivial))))
  generalize hA2 : (if c1 = ((k : Nat) : Int).toNat then A1 else A1.map fun x => x.add (((k : Nat) : Int).toNat * 8)) = B2 at *
  refine Z.lpS [14, 49, 50, 51, 52, 53, 54, 55, 56] (fun m w s => ∃ i : Nat, s = [(49, .int .i64 i)] ∧ i ≤ h.length - k ∧ m = h.length - k - i ∧ Sep r [] (PC gb cb tb vgb (cpOf (h.take (k + i))) :: .sl 90 8 (.slice A1 h.length c1) (h.map Ch.cells) :: PC ga ca ta (.pointer (some ⟨gga, 0, .none⟩)) cA :: GP gga (closeP GA ep).1 :: .blk g8 36 [.int .i64 0, .int .i64 0, .int .i64 0, .slice none 0 0, .slice none 0 0, .slice none 0 0, .int .u64 0] :: F) w) _ [(49, .int .i64 (0 : Nat))] (by repeat (first | exact trivial | refine ⟨rfl, ?_⟩)) ⟨0, rfl, by omega, rfl, hS.sb⟩ ?_
  clear hS
  rintro m f0 w _ ⟨i, rfl, hi, rfl, hS⟩
  by_cases hlt2 : i < h.length - k
  · have h3 := (hS.slrows (e := 90) (v := .slice A1 h.length c1) (by repeat (first | exact At.here | apply At.next))).mdrop (q := k) hk
    rw [show (if c1 = k then A1 else A1.map fun x => x.add (k * 8)) = B2 from hA2] at h3
    obtain ⟨gx, o, hAe, _, hra⟩ := h3.mat (by omega) (q := i) (by rw [List.length_drop]; omega)
    subst hAe
    have hn := hH.next (j := k + i) (by omega)
    have hx : (h.drop k)[i]'(by rw [List.length_drop]; omega) = h[k + i]'(by omega) := by rw [List.getElem_drop]
    rw [hx] at hra
    generalize h[k + i]'(by omega) = x at *
    have hgj := (hH.take (k + i)).good
    repeat' (first|refine K ?_|(refine Sh.sa hS ?_;clear hS;intro w hS)|(refine K3 ?_;clear hS;intro g w hS hge)|((first|refine GS ?_ ?_|refine VB ?_ ?_)<;>intro hb<;>(try simp only [J1,J2,J3,J4,J5,J6] at hb)<;>(try (exfalso;first|omega|exact hb trivial))))
    replace hS := hS.fo (R := PC gb _ _ _ _)
    refine Z.eff (Z.cl (pcapply_z gb cb tb _ _ x _ _ _ hS hgj.1.cok (by rw [hgj.2.1, List.length_take]; omega)) rfl ?_) rfl
    clear hS
    rintro e w ⟨rfl, hS⟩
    refine ⟨_, rfl, ?_⟩
    rw [hn] at hS ⊢
    repeat' (first|refine K ?_|(refine Sh.sa hS ?_;clear hS;intro w hS)|(refine K3 ?_;clear hS;intro g w hS hge)|((first|refine GS ?_ ?_|refine VB ?_ ?_)<;>intro hb<;>(try simp only [J1,J2,J3,J4,J5,J6] at hb)<;>(try (exfalso;first|omega|exact hb trivial))))
    refine Sh.again (h.length - k - (i + 1)) [(49, .int .i64 (i + 1 : Nat))] ?_
    exact ⟨i + 1, rfl, by omega, rfl, by rw [← Nat.add_assoc]; exact hS.sb⟩
  · have e : k + i = h.length := by omega
    rw [e, List.take_length] at hS
    repeat' (first|refine K ?_|(refine Sh.sa hS ?_;clear hS;intro w hS)|(refine K3 ?_;clear hS;intro g w hS hge)|((first|refine GS ?_ ?_|refine VB ?_ ?_)<;>intro hb<;>(try simp only [J1,J2,J3,J4,J5,J6] at hb)<;>(try (exfalso;first|omega|exact hb trivial))))
    replace hS := hS.fo (R := PC ga _ _ _ _)
    refine Z.eff (Z.cl (pmake_z ga ca ta _ cA key _ _ _ hS hA (by rw [← hh]; omega) ht) rfl ?_) rfl
    clear hS
    rintro e w ⟨vk, vi, vs, rfl, hS⟩
    refine ⟨_, rfl, ?_⟩
    obtain ⟨D1, d1, rfl, _⟩ := (hS.slrows (e := 9) (v := vk) (by repeat (first | exact At.here | apply At.next))).mform
    obtain ⟨D2, d2, rfl, _⟩ := (hS.slrows (e := 3) (v := vi) (by repeat (first | exact At.here | apply At.next))).mform
    obtain ⟨D3, d3, rfl, _⟩ := (hS.slrows (e := 3) (v := vs) (by repeat (first | exact At.here | apply At.next))).mform
    repeat' (first|refine K ?_|(refine Sh.sa hS ?_;clear hS;intro w hS)|(refine K3 ?_;clear hS;intro g w hS hge)|((first|refine GS ?_ ?_|refine VB ?_ ?_)<;>intro hb<;>(try simp only [J1,J2,J3,J4,J5,J6] at hb)<;>(try (exfalso;first|omega|exact hb trivial))))
    first | refine Z.done hS Tryz.results11 (Z.RV.cell rfl (by repeat (first | exact At.here | apply At.next)) rfl (Z.RV.tmp rfl Z.RV.nil)) ?_ | refine Z.doneN hS Tryz.results11 (Z.RV.cell rfl (by repeat (first | exact At.here | apply At.next)) rfl (Z.RV.tmp rfl Z.RV.nil)) ?_
    subst hh
    exact ⟨_, _, _, rfl, hS.sb⟩
set_option maxHeartbeats 4000000 in
theorem rtransfer_z (ga gga gb : Nat) (ca ta cb tb : Int) (vgb : Value) (cA cB : Cp) (GA : Ga) (ep key : Int) (r : World) (F : List Res) (w : World) (hS : Sep r [] (CR ga ca ta (.pointer (some ⟨gga, 0, .none⟩)) cA :: GR gga GA :: CR gb cb tb vgb cB :: F) w)
    (hA : CG cA) (hB : CG cB) (hla : cA.h.length ≤ 1000) (hlb : cB.h.length ≤ 1000) (ht : i64ok ta) (BAD : Bool) (hbad : badT ta tb ca cb ep = BAD) :
    Calls Tryz.prog 12 #[.pointer (some ⟨ga, 0, .none⟩), .pointer (some ⟨gb, 0, .none⟩), .int .i64 ep, .int .i64 key] w fun e w' => ∃ vk vi vs, e = .returned (.tuple #[(trM BAD ta key cA).val vk vi vs, .int .i64 (trE BAD)]) ∧ Sep r [] (.sl 9 1 vk ((trM BAD ta key cA).keys.map kC) :: .sl 3 1 vi ((trM BAD ta key cA).items.map intC) :: .sl 3 1 vs ((trM BAD ta key cA).sessions.map intC) :: CR ga ca ta (.pointer (some ⟨gga, 0, .none⟩)) cA :: GR gga (trG BAD GA (closeR GA ep).1) :: CR gb cb tb vgb (trC BAD cB (cpOf cA.h)) :: F) w' := by
  have hH := hA.isH
  obtain ⟨vh, s1, q1, t1, vs1, vl1, vr1, hS⟩ := Sep.CR_open.1 hS
  obtain ⟨Ah, ch, rfl, hcap⟩ := (hS.slrows (e := 90) (v := vh) (by repeat (first | exact At.here | apply At.next))).mform
  replace hS := hS.focus (R := CR gb cb tb vgb cB) (by repeat (first | exact At.here | apply At.next))
  obtain ⟨uh, s2, q2, t2, vs2, vl2, vr2, hS⟩ := Sep.CR_open.1 hS
  obtain ⟨Bh, bh, rfl, _⟩ := (hS.slrows (e := 90) (v := uh) (by repeat (first | exact At.here | apply At.next))).mform
  refine Z.enter Tryz.func12 Tryz.ntmps12 rfl rfl ?_
  repeat' (first|refine K ?_|(refine Sh.sa hS ?_;clear hS;intro w hS)|(refine K3 ?_;clear hS;intro g w hS hge)|((first|refine GS ?_ ?_|refine VB ?_ ?_)<;>intro hb<;>(try simp only [J1,J2,J3,J4,J5,J6] at hb)<;>(try (exfalso;first|omega|exact hb trivial))))
  rename Nat => g8
  replace hS : Sep r [] (.blk ga 54 [.int .i64 ca, .int .i64 ta, .slice Ah cA.h.length ch, .pointer (some ⟨s1, 0, .none⟩), .pointer (some ⟨q1, 0, .none⟩), .pointer (some ⟨t1, 0, .none⟩), .pointer (some ⟨gga, 0, .none⟩)] :: .blk gb 54 [.int .i64 cb, .int .i64 tb, .slice Bh cB.h.length bh, .pointer (some ⟨s2, 0, .none⟩), .pointer (some ⟨q2, 0, .none⟩), .pointer (some ⟨t2, 0, .none⟩), vgb] :: _) _ := (hS.focus (R := .blk gb 54 [.int .i64 cb, .int .i64 tb, .slice Bh cB.h.length bh, .pointer (some ⟨s2, 0, .none⟩), .pointer (some ⟨q2, 0, .none⟩), .pointer (some ⟨t2, 0, .none⟩), vgb]) (by repeat (first | exact At.here | apply At.next))).focus (R := .blk ga 54 [.int .i64 ca, .int .i64 ta, .slice Ah cA.h.length ch, .pointer (some ⟨s1, 0, .none⟩), .pointer (some ⟨q1, 0, .none⟩), .pointer (some ⟨t1, 0, .none⟩), .pointer (some ⟨gga, 0, .none⟩)]) (by repeat (first | exact At.here | apply At.next))
  refine Z.cut [14, 15, 16, 17, 18, 19, 20, 21, 22, 23, 24, 25, 26, 27, 28, 29, 30, 31, 32, 33] (fun w s => s = [(33, .bool (!decide (ta = tb) || decide (ca = cb)))] ∧ Sep r [] (.blk ga 54 [.int .i64 ca, .int .i64 ta, .slice Ah cA.h.length ch, .pointer (some ⟨s1, 0, .none⟩), .pointer (some ⟨q1, 0, .none⟩), .pointer (some ⟨t1, 0, .none⟩), .pointer (some ⟨gga, 0, .none⟩)] :: .sl 90 8 (.slice Ah cA.h.length ch) (cA.h.map Ch.cells) :: .blk s1 139 [vs1] :: .sl 188 3 vs1 (cA.s.map Ce.cells) :: .blk q1 144 [vl1, vr1, .int .i64 cA.q.most] :: .sl 114 2 vl1 (cA.q.l.map It.cells) :: .sl 126 4 vr1 (cA.q.r.map Le.cells) :: .blk t1 136 cA.t.cells.toList :: .blk gb 54 [.int .i64 cb, .int .i64 tb, .slice Bh cB.h.length bh, .pointer (some ⟨s2, 0, .none⟩), .pointer (some ⟨q2, 0, .none⟩), .pointer (some ⟨t2, 0, .none⟩), vgb] :: .sl 90 8 (.slice Bh cB.h.length bh) (cB.h.map Ch.cells) :: .blk s2 139 [vs2] :: .sl 188 3 vs2 (cB.s.map Ce.cells) :: .blk q2 144 [vl2, vr2, .int .i64 cB.q.most] :: .sl 114 2 vl2 (cB.q.l.map It.cells) :: .sl 126 4 vr2 (cB.q.r.map Le.cells) :: .blk t2 136 cB.t.cells.toList :: GR gga GA :: .blk g8 36 [.int .i64 0, .int .i64 0, .int .i64 0, .slice none 0 0, .slice none 0 0, .slice none 0 0, .int .u64 0] :: F) w) ?_ ?_
  · refine D.startS (Lr := [.blk ga 54 [.int .i64 ca, .int .i64 ta, .slice Ah cA.h.length ch, .pointer (some ⟨s1, 0, .none⟩), .pointer (some ⟨q1, 0, .none⟩), .pointer (some ⟨t1, 0, .none⟩), .pointer (some ⟨gga, 0, .none⟩)], .blk gb 54 [.int .i64 cb, .int .i64 tb, .slice Bh cB.h.length bh, .pointer (some ⟨s2, 0, .none⟩), .pointer (some ⟨q2, 0, .none⟩), .pointer (some ⟨t2, 0, .none⟩), vgb]]) (hS.sb) 20 20 (by kernel_rfl) rfl ?_
    replace hS := hS.drew
    refine Sh.dp 0 1 ?_
    refine Sh.dp 1 3 ?_
    refine Sh.dp 2 7 ?_
    refine Sh.dp 4 23 ?_
    refine Sh.dp 5 55 ?_
    refine Sh.dp 6 119 ?_
    refine Sh.dl 3 127 ?_
    refine Sh.dl 7 255 ?_
    first | refine D.pr 8 511 rfl D.wantedN (by kernel_rfl) rfl ?_ | refine D.pl 8 511 rfl D.wantedN (by kernel_rfl) (R.nea rfl rfl rfl rfl) ?_
    refine Sh.dp 9 1023 ?_
    refine D.slot 23 rfl (fun hb => ?_) (fun hb => ?_)
    · (try simp only [decide_eq_true_eq, decide_eq_false_iff_not, Bool.not_eq_true', Bool.not_eq_false', Int.not_lt, Int.not_le] at hb)
      refine D.skF 10 2047 rfl (by kernel_rfl) rfl rfl ?_
      refine D.skF 11 4095 rfl (by kernel_rfl) rfl rfl ?_
      refine D.skF 12 8191 rfl (by kernel_rfl) rfl rfl ?_
      refine D.skF 13 16383 rfl (by kernel_rfl) rfl rfl ?_
      refine D.skF 14 32767 rfl (by kernel_rfl) rfl rfl ?_
      refine D.skF 15 65535 rfl (by kernel_rfl) rfl rfl ?_
      refine D.skF 16 131071 rfl (by kernel_rfl) rfl rfl ?_
      refine D.skF 17 262143 rfl (by kernel_rfl) rfl rfl ?_
      refine D.skF 18 524287 rfl (by kernel_rfl) rfl rfl ?_
      refine Sh.dp 19 1048575 ?_
      refine D.done (by kernel_rfl) ?_
      refine Sh.cut [(33, _)] ?_
      exact ⟨by simp [hb], hS.sb⟩
    · (try simp only [decide_eq_true_eq, decide_eq_false_iff_not, Bool.not_eq_true', Bool.not_eq_false', Int.not_lt, Int.not_le] at hb)
      refine Sh.dp 10 2047 ?_
      refine Sh.dp 11 4095 ?_
      refine Sh.dp 12 8191 ?_
      refine Sh.dp 14 24575 ?_
      refine Sh.dp 15 57343 ?_
      refine Sh.dp 16 122879 ?_
      refine Sh.dl 13 131071 ?_
      refine Sh.dl 17 262143 ?_
      first | refine D.pr 18 524287 rfl (D.wantedT rfl rfl) (by kernel_rfl) rfl ?_ | refine D.pl 18 524287 rfl (D.wantedT rfl rfl) (by kernel_rfl) (R.eqa rfl rfl rfl rfl) ?_
      refine Sh.dp 19 1048575 ?_
      refine D.done (by kernel_rfl) ?_
      refine Sh.cut [(33, _)] ?_
      exact ⟨by simp [hb], hS.sb⟩
  clear hS
  rintro f0 w _ ⟨rfl, hS⟩
  repeat' (first|refine K ?_|(refine Sh.sa hS ?_;clear hS;intro w hS)|(refine K3 ?_;clear hS;intro g w hS hge)|((first|refine GS ?_ ?_|refine VB ?_ ?_)<;>intro hb<;>(try simp only [J1,J2,J3,J4,J5,J6] at hb)<;>(try (exfalso;first|omega|exact hb trivial))))
  · have e : BAD = true := by rw [← hbad]; simp only [badT, ← Bool.or_assoc, hb, Bool.true_or]
    subst e
    first | refine Z.done hS Tryz.results12 (Z.RV.cell rfl (by repeat (first | exact At.here | apply At.next)) rfl (Z.RV.tmp rfl Z.RV.nil)) ?_ | refine Z.doneN hS Tryz.results12 (Z.RV.cell rfl (by repeat (first | exact At.here | apply At.next)) rfl (Z.RV.tmp rfl Z.RV.nil)) ?_
    refine ⟨_, _, _, rfl, trZ ?_⟩
    have hS := Sep.CR_open.2 ⟨.slice Ah cA.h.length ch, s1, q1, t1, vs1, vl1, vr1, hS.sub (L' := .blk ga 54 [.int .i64 ca, .int .i64 ta, .slice Ah cA.h.length ch, .pointer (some ⟨s1, 0, .none⟩), .pointer (some ⟨q1, 0, .none⟩), .pointer (some ⟨t1, 0, .none⟩), .pointer (some ⟨gga, 0, .none⟩)] :: .sl 90 8 (.slice Ah cA.h.length ch) (cA.h.map Ch.cells) :: .blk s1 139 [vs1] :: .sl 188 3 vs1 (cA.s.map Ce.cells) :: .blk q1 144 [vl1, vr1, .int .i64 cA.q.most] :: .sl 114 2 vl1 (cA.q.l.map It.cells) :: .sl 126 4 vr1 (cA.q.r.map Le.cells) :: .blk t1 136 cA.t.cells.toList :: .blk gb 54 [.int .i64 cb, .int .i64 tb, .slice Bh cB.h.length bh, .pointer (some ⟨s2, 0, .none⟩), .pointer (some ⟨q2, 0, .none⟩), .pointer (some ⟨t2, 0, .none⟩), vgb] :: .sl 90 8 (.slice Bh cB.h.length bh) (cB.h.map Ch.cells) :: .blk s2 139 [vs2] :: .sl 188 3 vs2 (cB.s.map Ce.cells) :: .blk q2 144 [vl2, vr2, .int .i64 cB.q.most] :: .sl 114 2 vl2 (cB.q.l.map It.cells) :: .sl 126 4 vr2 (cB.q.r.map Le.cells) :: .blk t2 136 cB.t.cells.toList :: GR gga GA :: F) (by repeat (first | exact Sub.rest | exact Sub.nil | exact .skip .rest | exact .skip (.skip .rest) | exact .skip (.skip (.skip .rest)) | apply Sub.keep | refine Sub.cons (by repeat (first | exact At.here | apply At.next)) ?_ | apply Sub.skip))⟩
    have hS := hS.sub (L' := .blk gb 54 [.int .i64 cb, .int .i64 tb, .slice Bh cB.h.length bh, .pointer (some ⟨s2, 0, .none⟩), .pointer (some ⟨q2, 0, .none⟩), .pointer (some ⟨t2, 0, .none⟩), vgb] :: .sl 90 8 (.slice Bh cB.h.length bh) (cB.h.map Ch.cells) :: .blk s2 139 [vs2] :: .sl 188 3 vs2 (cB.s.map Ce.cells) :: .blk q2 144 [vl2, vr2, .int .i64 cB.q.most] :: .sl 114 2 vl2 (cB.q.l.map It.cells) :: .sl 126 4 vr2 (cB.q.r.map Le.cells) :: .blk t2 136 cB.t.cells.toList :: CR ga ca ta (.pointer (some ⟨gga, 0, .none⟩)) cA :: GR gga GA :: F) (by repeat (first | exact Sub.rest | exact Sub.nil | exact .skip .rest | exact .skip (.skip .rest) | exact .skip (.skip (.skip .rest)) | apply Sub.keep | refine Sub.cons (by repeat (first | exact At.here | apply At.next)) ?_ | apply Sub.skip))
    have hS := Sep.CR_open.2 ⟨.slice Bh cB.h.length bh, s2, q2, t2, vs2, vl2, vr2, hS⟩
    exact hS.sb
  rename (!decide (ta = tb) || decide (ca = cb)) = false => h1
  replace hS := hS.fo (R := GR gga _)
  refine Z.eff (Z.cl (rclose_f gga GA ep _ _ _ hS) rfl ?_) rfl
  clear hS
  rintro e w ⟨rfl, hS⟩
  refine ⟨_, rfl, ?_⟩
  repeat' (first|refine K ?_|(refine Sh.sa hS ?_;clear hS;intro w hS)|(refine K3 ?_;clear hS;intro g w hS hge)|((first|refine GS ?_ ?_|refine VB ?_ ?_)<;>intro hb<;>(try simp only [J1,J2,J3,J4,J5,J6] at hb)<;>(try (exfalso;first|omega|exact hb trivial))))
  · have hep : ¬ (1 ≤ ep ∧ ep ≤ 1048576) := by
      intro h
      unfold closeR at hb
      rw [if_pos h] at hb
      exact hb rfl
    have e : BAD = true := by rw [← hbad]; simp [badT, hep]
    have e2 : closeR GA ep = (GA, 1) := by unfold closeR; rw [if_neg hep]
    rw [e2] at hS ⊢
    subst e
    first | refine Z.done hS Tryz.results12 (Z.RV.cell rfl (by repeat (first | exact At.here | apply At.next)) rfl (Z.RV.tmp rfl Z.RV.nil)) ?_ | refine Z.doneN hS Tryz.results12 (Z.RV.cell rfl (by repeat (first | exact At.here | apply At.next)) rfl (Z.RV.tmp rfl Z.RV.nil)) ?_
    refine ⟨_, _, _, rfl, trZ ?_⟩
    replace hS := hS.focus (R := GR gga GA) (by repeat (first | exact At.here | apply At.next))
    have hS := Sep.CR_open.2 ⟨.slice Ah cA.h.length ch, s1, q1, t1, vs1, vl1, vr1, hS.sub (L' := .blk ga 54 [.int .i64 ca, .int .i64 ta, .slice Ah cA.h.length ch, .pointer (some ⟨s1, 0, .none⟩), .pointer (some ⟨q1, 0, .none⟩), .pointer (some ⟨t1, 0, .none⟩), .pointer (some ⟨gga, 0, .none⟩)] :: .sl 90 8 (.slice Ah cA.h.length ch) (cA.h.map Ch.cells) :: .blk s1 139 [vs1] :: .sl 188 3 vs1 (cA.s.map Ce.cells) :: .blk q1 144 [vl1, vr1, .int .i64 cA.q.most] :: .sl 114 2 vl1 (cA.q.l.map It.cells) :: .sl 126 4 vr1 (cA.q.r.map Le.cells) :: .blk t1 136 cA.t.cells.toList :: .blk gb 54 [.int .i64 cb, .int .i64 tb, .slice Bh cB.h.length bh, .pointer (some ⟨s2, 0, .none⟩), .pointer (some ⟨q2, 0, .none⟩), .pointer (some ⟨t2, 0, .none⟩), vgb] :: .sl 90 8 (.slice Bh cB.h.length bh) (cB.h.map Ch.cells) :: .blk s2 139 [vs2] :: .sl 188 3 vs2 (cB.s.map Ce.cells) :: .blk q2 144 [vl2, vr2, .int .i64 cB.q.most] :: .sl 114 2 vl2 (cB.q.l.map It.cells) :: .sl 126 4 vr2 (cB.q.r.map Le.cells) :: .blk t2 136 cB.t.cells.toList :: GR gga GA :: F) (by repeat (first | exact Sub.rest | exact Sub.nil | exact .skip .rest | exact .skip (.skip .rest) | exact .skip (.skip (.skip .rest)) | apply Sub.keep | refine Sub.cons (by repeat (first | exact At.here | apply At.next)) ?_ | apply Sub.skip))⟩
    have hS := hS.sub (L' := .blk gb 54 [.int .i64 cb, .int .i64 tb, .slice Bh cB.h.length bh, .pointer (some ⟨s2, 0, .none⟩), .pointer (some ⟨q2, 0, .none⟩), .pointer (some ⟨t2, 0, .none⟩), vgb] :: .sl 90 8 (.slice Bh cB.h.length bh) (cB.h.map Ch.cells) :: .blk s2 139 [vs2] :: .sl 188 3 vs2 (cB.s.map Ce.cells) :: .blk q2 144 [vl2, vr2, .int .i64 cB.q.most] :: .sl 114 2 vl2 (cB.q.l.map It.cells) :: .sl 126 4 vr2 (cB.q.r.map Le.cells) :: .blk t2 136 cB.t.cells.toList :: CR ga ca ta (.pointer (some ⟨gga, 0, .none⟩)) cA :: GR gga GA :: F) (by repeat (first | exact Sub.rest | exact Sub.nil | exact .skip .rest | exact .skip (.skip .rest) | exact .skip (.skip (.skip .rest)) | apply Sub.keep | refine Sub.cons (by repeat (first | exact At.here | apply At.next)) ?_ | apply Sub.skip))
    have hS := Sep.CR_open.2 ⟨.slice Bh cB.h.length bh, s2, q2, t2, vs2, vl2, vr2, hS⟩
    exact hS.sb
  have hep : 1 ≤ ep ∧ ep ≤ 1048576 := by
    by_cases h : 1 ≤ ep ∧ ep ≤ 1048576
    · exact h
    · unfold closeR at hb
      rw [if_neg h] at hb
      cases hb
  have e : BAD = false := by rw [← hbad]; unfold badT; rw [← Bool.or_assoc, h1]; simp [hep]
  subst e
  refine Z.cut [11, 45, 46, 47, 48, 49, 50, 51, 52, 53] (fun w s => s = [(11, .int .i64 (comN cA.h cB.h : Nat))] ∧ Sep r [] (.blk ga 54 [.int .i64 ca, .int .i64 ta, .slice Ah cA.h.length ch, .pointer (some ⟨s1, 0, .none⟩), .pointer (some ⟨q1, 0, .none⟩), .pointer (some ⟨t1, 0, .none⟩), .pointer (some ⟨gga, 0, .none⟩)] :: .sl 90 8 (.slice Ah cA.h.length ch) (cA.h.map Ch.cells) :: .blk s1 139 [vs1] :: .sl 188 3 vs1 (cA.s.map Ce.cells) :: .blk q1 144 [vl1, vr1, .int .i64 cA.q.most] :: .sl 114 2 vl1 (cA.q.l.map It.cells) :: .sl 126 4 vr1 (cA.q.r.map Le.cells) :: .blk t1 136 cA.t.cells.toList :: .blk gb 54 [.int .i64 cb, .int .i64 tb, .slice Bh cB.h.length bh, .pointer (some ⟨s2, 0, .none⟩), .pointer (some ⟨q2, 0, .none⟩), .pointer (some ⟨t2, 0, .none⟩), vgb] :: .sl 90 8 (.slice Bh cB.h.length bh) (cB.h.map Ch.cells) :: .blk s2 139 [vs2] :: .sl 188 3 vs2 (cB.s.map Ce.cells) :: .blk q2 144 [vl2, vr2, .int .i64 cB.q.most] :: .sl 114 2 vl2 (cB.q.l.map It.cells) :: .sl 126 4 vr2 (cB.q.r.map Le.cells) :: .blk t2 136 cB.t.cells.toList :: GR gga (closeR GA ep).1 :: .blk g8 36 [.int .i64 0, .int .i64 0, .int .i64 0, .slice none 0 0, .slice none 0 0, .slice none 0 0, .int .u64 0] :: F) w) ?_ ?_
  · refine D.startS (Lr := [.blk ga 54 [.int .i64 ca, .int .i64 ta, .slice Ah cA.h.length ch, .pointer (some ⟨s1, 0, .none⟩), .pointer (some ⟨q1, 0, .none⟩), .pointer (some ⟨t1, 0, .none⟩), .pointer (some ⟨gga, 0, .none⟩)], .blk gb 54 [.int .i64 cb, .int .i64 tb, .slice Bh cB.h.length bh, .pointer (some ⟨s2, 0, .none⟩), .pointer (some ⟨q2, 0, .none⟩), .pointer (some ⟨t2, 0, .none⟩), vgb]]) (hS.sb) 10 10 (by kernel_rfl) rfl ?_
    replace hS := hS.drew
    refine Sh.dp 0 1 ?_
    refine Sh.dp 1 3 ?_
    refine Sh.dp 2 7 ?_
    refine Sh.dp 4 23 ?_
    refine Sh.dp 5 55 ?_
    refine Sh.dp 6 119 ?_
    refine Sh.dl 3 127 ?_
    refine Sh.dl 7 255 ?_
    refine D.eff 8 511 rfl D.wantedN (by kernel_rfl) (by kernel_rfl) (fun _ _ h => h) ?_
    refine Z.cl (rcommon_z cA.h cB.h _ _ _ _ _ hS (Reads.of_at (e := 90) (v := .slice Ah cA.h.length ch) (by repeat (first | exact At.here | apply At.next))) (Reads.of_at (e := 90) (v := .slice Bh cB.h.length bh) (by repeat (first | exact At.here | apply At.next))) (by omega) (by omega)) rfl ?_
    clear hS
    rintro e w ⟨rfl, hS⟩
    refine ⟨_, rfl, ?_⟩
    refine ⟨HM.s (hS.sb), ?_⟩
    refine Sh.dp 9 1023 ?_
    refine D.done (by kernel_rfl) ?_
    refine Sh.cut [(11, _)] ?_
    exact ⟨rfl, hS.sb⟩
  clear hS
  rintro f0 w _ ⟨rfl, hS⟩
  have hcom := com_take cA.h cB.h
  have htr := trunc_com hB cA.h
  generalize comN cA.h cB.h = k at *
  obtain ⟨_, hk, _⟩ := hcom
  replace hS := hS.sub (L' := .blk gb 54 [.int .i64 cb, .int .i64 tb, .slice Bh cB.h.length bh, .pointer (some ⟨s2, 0, .none⟩), .pointer (some ⟨q2, 0, .none⟩), .pointer (some ⟨t2, 0, .none⟩), vgb] :: .sl 90 8 (.slice Bh cB.h.length bh) (cB.h.map Ch.cells) :: .blk s2 139 [vs2] :: .sl 188 3 vs2 (cB.s.map Ce.cells) :: .blk q2 144 [vl2, vr2, .int .i64 cB.q.most] :: .sl 114 2 vl2 (cB.q.l.map It.cells) :: .sl 126 4 vr2 (cB.q.r.map Le.cells) :: .blk t2 136 cB.t.cells.toList :: .blk ga 54 [.int .i64 ca, .int .i64 ta, .slice Ah cA.h.length ch, .pointer (some ⟨s1, 0, .none⟩), .pointer (some ⟨q1, 0, .none⟩), .pointer (some ⟨t1, 0, .none⟩), .pointer (some ⟨gga, 0, .none⟩)] :: .sl 90 8 (.slice Ah cA.h.length ch) (cA.h.map Ch.cells) :: .blk s1 139 [vs1] :: .sl 188 3 vs1 (cA.s.map Ce.cells) :: .blk q1 144 [vl1, vr1, .int .i64 cA.q.most] :: .sl 114 2 vl1 (cA.q.l.map It.cells) :: .sl 126 4 vr1 (cA.q.r.map Le.cells) :: .blk t1 136 cA.t.cells.toList :: GR gga (closeR GA ep).1 :: .blk g8 36 [.int .i64 0, .int .i64 0, .int .i64 0, .slice none 0 0, .slice none 0 0, .slice none 0 0, .int .u64 0] :: F) (by repeat (first | exact Sub.rest | exact Sub.nil | exact .skip .rest | exact .skip (.skip .rest) | exact .skip (.skip (.skip .rest)) | apply Sub.keep | refine Sub.cons (by repeat (first | exact At.here | apply At.next)) ?_ | apply Sub.skip))
  replace hS := Sep.CR_open.2 ⟨.slice Bh cB.h.length bh, s2, q2, t2, vs2, vl2, vr2, hS⟩
  repeat' (first|refine K ?_|(refine Sh.sa hS ?_;clear hS;intro w hS)|(refine K3 ?_;clear hS;intro g w hS hge)|((first|refine GS ?_ ?_|refine VB ?_ ?_)<;>intro hb<;>(try simp only [J1,J2,J3,J4,J5,J6] at hb)<;>(try (exfalso;first|omega|exact hb trivial))))
  refine Z.eff (Z.cl (rctrunc_f gb cb tb _ cB (k : Int) _ _ _ hS hB.isH (by omega)) rfl ?_) rfl
  clear hS
  rintro e w ⟨rfl, hS⟩
  refine ⟨_, rfl, ?_⟩
  rw [htr] at hS
  replace hS := hS.focus (R := .blk ga 54 [.int .i64 ca, .int .i64 ta, .slice Ah cA.h.length ch, .pointer (some ⟨s1, 0, .none⟩), .pointer (some ⟨q1, 0, .none⟩), .pointer (some ⟨t1, 0, .none⟩), .pointer (some ⟨gga, 0, .none⟩)]) (by repeat (first | exact At.here | apply At.next))
  repeat' (first|refine K ?_|(refine Sh.sa hS ?_;clear hS;intro w hS)|(refine K3 ?_;clear hS;intro g w hS hge)|((first|refine GS ?_ ?_|refine VB ?_ ?_)<;>intro hb<;>(try simp only [J1,J2,J3,J4,J5,J6] at hb)<;>(try (exfalso;first|omega|exact hb trivial))))
  generalize hA2 : (if ch = ((k : Nat) : Int).toNat then Ah else Ah.map fun x => x.add (((k : Nat) : Int).toNat * 8)) = B2 at *
  refine Z.lpS [13, 64, 65, 66, 67, 68, 69, 70, 71] (fun m w s => ∃ i : Nat, s = [(64, .int .i64 i)] ∧ i ≤ cA.h.length - k ∧ m = cA.h.length - k - i ∧ Sep r [] (CR gb cb tb vgb (cpOf (cA.h.take (k + i))) :: .blk ga 54 [.int .i64 ca, .int .i64 ta, .slice Ah cA.h.length ch, .pointer (some ⟨s1, 0, .none⟩), .pointer (some ⟨q1, 0, .none⟩), .pointer (some ⟨t1, 0, .none⟩), .pointer (some ⟨gga, 0, .none⟩)] :: .sl 90 8 (.slice Ah cA.h.length ch) (cA.h.map Ch.cells) :: .blk s1 139 [vs1] :: .sl 188 3 vs1 (cA.s.map Ce.cells) :: .blk q1 144 [vl1, vr1, .int .i64 cA.q.most] :: .sl 114 2 vl1 (cA.q.l.map It.cells) :: .sl 126 4 vr1 (cA.q.r.map Le.cells) :: .blk t1 136 cA.t.cells.toList :: GR gga (closeR GA ep).1 :: .blk g8 36 [.int .i64 0, .int .i64 0, .int .i64 0, .slice none 0 0, .slice none 0 0, .slice none 0 0, .int .u64 0] :: F) w) _ [(64, .int .i64 (0 : Nat))] (by repeat (first | exact trivial | refine ⟨rfl, ?_⟩)) ⟨0, rfl, by omega, rfl, hS.sb⟩ ?_
  clear hS
  rintro m f0 w _ ⟨i, rfl, hi, rfl, hS⟩
  by_cases hlt2 : i < cA.h.length - k
  · have h3 := (hS.slrows (e := 90) (v := .slice Ah cA.h.length ch) (by repeat (first | exact At.here | apply At.next))).mdrop (q := k) hk
    rw [show (if ch = k then Ah else Ah.map fun x => x.add (k * 8)) = B2 from hA2] at h3
    obtain ⟨gx, o, hAe, _, hra⟩ := h3.mat (by omega) (q := i) (by rw [List.length_drop]; omega)
    subst hAe
    have hn := hH.next (j := k + i) (by omega)
    have hx : (cA.h.drop k)[i]'(by rw [List.length_drop]; omega) = cA.h[k + i]'(by omega) := by rw [List.getElem_drop]
    rw [hx] at hra
    generalize cA.h[k + i]'(by omega) = x at *
    have hgj := (hH.take (k + i)).good
    have hcok := hgj.1.cok
    repeat' (first|refine K ?_|(refine Sh.sa hS ?_;clear hS;intro w hS)|(refine K3 ?_;clear hS;intro g w hS hge)|((first|refine GS ?_ ?_|refine VB ?_ ?_)<;>intro hb<;>(try simp only [J1,J2,J3,J4,J5,J6] at hb)<;>(try (exfalso;first|omega|exact hb trivial))))
    replace hS := hS.fo (R := CR gb _ _ _ _)
    refine Z.eff (Z.cl (capply_z gb cb tb _ _ x _ _ _ hS hcok.t (by rw [hgj.2.1, List.length_take]; omega) hcok.s hcok.l hcok.r) rfl ?_) rfl
    clear hS
    rintro e w ⟨rfl, hS⟩
    refine ⟨_, rfl, ?_⟩
    rw [hn] at hS ⊢
    repeat' (first|refine K ?_|(refine Sh.sa hS ?_;clear hS;intro w hS)|(refine K3 ?_;clear hS;intro g w hS hge)|((first|refine GS ?_ ?_|refine VB ?_ ?_)<;>intro hb<;>(try simp only [J1,J2,J3,J4,J5,J6] at hb)<;>(try (exfalso;first|omega|exact hb trivial))))
    refine Sh.again (cA.h.length - k - (i + 1)) [(64, .int .i64 (i + 1 : Nat))] ?_
    exact ⟨i + 1, rfl, by omega, rfl, by rw [← Nat.add_assoc]; exact hS.sb⟩
  · have e : k + i = cA.h.length := by omega
    rw [e, List.take_length] at hS
    replace hS := Sep.CR_open.2 ⟨.slice Ah cA.h.length ch, s1, q1, t1, vs1, vl1, vr1, hS.sub (L' := .blk ga 54 [.int .i64 ca, .int .i64 ta, .slice Ah cA.h.length ch, .pointer (some ⟨s1, 0, .none⟩), .pointer (some ⟨q1, 0, .none⟩), .pointer (some ⟨t1, 0, .none⟩), .pointer (some ⟨gga, 0, .none⟩)] :: .sl 90 8 (.slice Ah cA.h.length ch) (cA.h.map Ch.cells) :: .blk s1 139 [vs1] :: .sl 188 3 vs1 (cA.s.map Ce.cells) :: .blk q1 144 [vl1, vr1, .int .i64 cA.q.most] :: .sl 114 2 vl1 (cA.q.l.map It.cells) :: .sl 126 4 vr1 (cA.q.r.map Le.cells) :: .blk t1 136 cA.t.cells.toList :: CR gb cb tb vgb (cpOf cA.h) :: GR gga (closeR GA ep).1 :: .blk g8 36 [.int .i64 0, .int .i64 0, .int .i64 0, .slice none 0 0, .slice none 0 0, .slice none 0 0, .int .u64 0] :: F) (by repeat (first | exact Sub.rest | exact Sub.nil | exact .skip .rest | exact .skip (.skip .rest) | exact .skip (.skip (.skip .rest)) | apply Sub.keep | refine Sub.cons (by repeat (first | exact At.here | apply At.next)) ?_ | apply Sub.skip))⟩
    repeat' (first|refine K ?_|(refine Sh.sa hS ?_;clear hS;intro w hS)|(refine K3 ?_;clear hS;intro g w hS hge)|((first|refine GS ?_ ?_|refine VB ?_ ?_)<;>intro hb<;>(try simp only [J1,J2,J3,J4,J5,J6] at hb)<;>(try (exfalso;first|omega|exact hb trivial))))
    refine Z.eff (Z.cl (rmake_z ga ca ta _ cA key _ _ _ hS hA (by omega) ht) rfl ?_) rfl
    clear hS
    rintro e w ⟨vk, vi, vs, rfl, hS⟩
    refine ⟨_, rfl, ?_⟩
    obtain ⟨D1, d1, rfl, _⟩ := (hS.slrows (e := 9) (v := vk) (by repeat (first | exact At.here | apply At.next))).mform
    obtain ⟨D2, d2, rfl, _⟩ := (hS.slrows (e := 3) (v := vi) (by repeat (first | exact At.here | apply At.next))).mform
    obtain ⟨D3, d3, rfl, _⟩ := (hS.slrows (e := 3) (v := vs) (by repeat (first | exact At.here | apply At.next))).mform
    repeat' (first|refine K ?_|(refine Sh.sa hS ?_;clear hS;intro w hS)|(refine K3 ?_;clear hS;intro g w hS hge)|((first|refine GS ?_ ?_|refine VB ?_ ?_)<;>intro hb<;>(try simp only [J1,J2,J3,J4,J5,J6] at hb)<;>(try (exfalso;first|omega|exact hb trivial))))
    first | refine Z.done hS Tryz.results12 (Z.RV.cell rfl (by repeat (first | exact At.here | apply At.next)) rfl (Z.RV.tmp rfl Z.RV.nil)) ?_ | refine Z.doneN hS Tryz.results12 (Z.RV.cell rfl (by repeat (first | exact At.here | apply At.next)) rfl (Z.RV.tmp rfl Z.RV.nil)) ?_
    exact ⟨_, _, _, rfl, hS.sb⟩
end Go.Proofs.YtiabhlogadboeaaGreat
