/-
  The sanity check of the statements about handovers.
-/
import Derived.Test.YtiabhlogadboeaaGreatNHoT
import Derived.Test.YtiabhlogadboeaaGreatH1
import Derived.Test.YtiabhlogadboeaaGreatML
namespace Go.Proofs.YtiabhlogadboeaaGreat
open Go.RowKit
set_option linter.unusedSimpArgs false
set_option linter.unusedVariables false
attribute [local irreducible] Res.blk Res.sl Res.all Res.ex Res.pure Res.star

/-- History of a list that lies in a block of its own. -/
theorem history_new (l : List Int) (g : Nat) (T : TypeId) (cs : List Value) (hcs : cs = l.map (Value.int .i64)) (r : World) (F : List Res) (w : World) (hS : Sep r [] F w) {k : List Res} (ha : At F k (.blk g T cs)) (hl : l.length ≤ 150) :
    Calls Tryz.prog 19 #[.slice (some ⟨g, 0, .none⟩) l.length l.length] w fun e w' => ∃ v, e = .returned v ∧ Sep r [] (.sl 90 8 v ((hist l).h.map Ch.cells) :: F) w' := by
  have hb := hS.blk ha
  subst hcs
  have hr : Rd w 1 (some ⟨g, 0, .none⟩) l.length (l.map (Value.int .i64)) := by
    refine ⟨by simp, fun _ => ⟨_, rfl, fun j u hu => ?_⟩⟩
    rw [add_lit, hb.cell]
    simpa using hu
  exact (history_z l _ _ w [] w (Sep.root w) hr hl).mono fun e w' ⟨v, he, h⟩ => ⟨v, he, hS.over h⟩
/-! Bytes by a count that goes down: the kernel can reckon them. -/
def lebF : Nat → Nat → List Int
  | 0, _ => []
  | k + 1, u => if u < 128 then [(u : Int)] else ((u % 128 + 128 : Nat) : Int) :: lebF k (u / 128)
theorem leb_F : ∀ (k u : Nat), u < 128 ^ (k + 1) → leb u = lebF (k + 1) u
  | 0, u, h => by
    have h' : u < 128 := by simpa using h
    rw [leb_lt h']
    simp [lebF, h']
  | k + 1, u, h => by
    by_cases h1 : u < 128
    · rw [leb_lt h1]; simp [lebF, h1]
    · have h2 : u / 128 < 128 ^ (k + 1) := by
        rw [Nat.div_lt_iff_lt_mul (by omega)]
        rw [Nat.pow_succ] at h
        exact h
      rw [leb_ge h1, leb_F k _ h2]
      conv => rhs; unfold lebF
      rw [if_neg h1]
def putF (n : Int) : List Int := lebF 10 (codeZ n).toNat
theorem putL_F {n : Int} (h : i64ok n) : putL n = putF n := by
  have := codeZ_lt h
  have e : (128 : Nat) ^ (9 + 1) = 1180591620717411303424 := by decide
  exact leb_F 9 _ (by rw [e]; omega)
def mfF (m : Mf) : List Int := putF m.tenant ++ putF m.length ++ putF m.epoch ++ (putF m.keys.length ++ m.keys.flatMap fun s => putF s.size ++ bytL s) ++ (putF m.items.length ++ m.items.flatMap putF) ++ (putF m.sessions.length ++ m.sessions.flatMap putF)
theorem flat_congr {α : Type} {f g : α → List Int} : ∀ {l : List α}, (∀ x, x ∈ l → f x = g x) → l.flatMap f = l.flatMap g
  | [], _ => rfl
  | a :: l, h => by rw [List.flatMap_cons, List.flatMap_cons, h a (by simp), flat_congr fun x hx => h x (by simp [hx])]
theorem mfL_F {m : Mf} (h : m.ok) : mfL m = mfF m := by
  have k1 := h.kn
  have k2 := h.jn
  have k3 := h.sn
  unfold mfL mfF txtsL intsL
  rw [putL_F h.t, putL_F h.l, putL_F h.e, putL_F (len_ok (by omega)), putL_F (len_ok (by omega)), putL_F (len_ok (by omega)), flat_congr (g := putF) fun x hx => putL_F (h.j x hx), flat_congr (g := putF) fun x hx => putL_F (h.s x hx),
    flat_congr (l := m.keys) (g := fun s => putF s.size ++ bytL s) fun x hx => by unfold txtL; rw [putL_F (len_ok (by have := h.k x hx; omega))]]
def H30 : Cp := hist (List.replicate 30 0)
theorem H30_len : Nat.ble 3 H30.h.length = true := by kernel_rfl
theorem H30_le : Nat.ble H30.h.length 60 = true := by kernel_rfl
theorem H30_good : CG H30 := (hist_good _).cg (hist_good _).qok
/-- One change more than there are. -/
def mfN (m : Mf) : Mf := { m with length := m.length + 1 }
theorem mfL_N (m : Mf) (s : Int) : mfL (mfN { m with sum := s }) = mfL (mfN m) := rfl
theorem mfN_ok {m : Mf} (h : m.ok) (hl : m.length ≤ 100000) : (mfN m).ok := by
  have := h.l
  refine ⟨h.t, ?_, h.e, h.kn, h.k, h.jn, h.j, h.sn, h.s⟩
  unfold i64ok at this ⊢
  show _ ≤ m.length + 1 ∧ m.length + 1 ≤ _
  omega
theorem H30_sum : decide (sumF 5 (mfF (mf0 0 H30)) = sumF 5 (mfF (mfN (mf0 0 H30)))) = false := by kernel_rfl
theorem H30_cp : cpOf (hist (List.replicate 30 0)).h = H30 := (hist_good (List.replicate 30 0)).cpOf
theorem H30_h : (hist (List.replicate 30 0)).h = H30.h := rfl
attribute [irreducible] H30
theorem bad_of {c : Cp} (hc : CG c) (hle : c.h.length ≤ 60) (hs : sumF 5 (mfF (mf0 0 c)) ≠ sumF 5 (mfF (mfN (mf0 0 c)))) : checkM 0 5 c (mfN (mfOf 0 5 c)) 19 18 = 19 := by
  have h0 := mf_ok (ten := 0) hc (by unfold i64ok; omega) (by omega)
  have h1 := mfN_ok h0 (by show (c.h.length : Int) ≤ _; omega)
  unfold checkM
  rw [if_pos]
  intro e
  apply hs
  have e1 : (mfN (mfOf 0 5 c)).sum = sumF 5 (mfL (mf0 0 c)) := rfl
  have e2 : mfL (mfN (mfOf 0 5 c)) = mfL (mfN (mf0 0 c)) := mfL_N (mf0 0 c) (sumF 5 (mfL (mf0 0 c)))
  rw [e1, e2, mfL_F h0, mfL_F h1] at e
  exact e
theorem ne_of {a b : Int} (h : decide (a = b) = false) : a ≠ b := of_decide_eq_false h
theorem H30_ne : sumF 5 (mfF (mf0 0 H30)) ≠ sumF 5 (mfF (mfN (mf0 0 H30))) := by
  have h := H30_sum
  generalize sumF 5 (mfF (mf0 0 H30)) = a at h ⊢
  generalize sumF 5 (mfF (mfN (mf0 0 H30))) = b at h ⊢
  exact ne_of h
theorem H30_60 : H30.h.length ≤ 60 := by
  have h := H30_le
  generalize H30.h.length = a at h ⊢
  exact Nat.le_of_ble_eq_true h
theorem H30_bad : checkM 0 5 H30 (mfN (mfOf 0 5 H30)) 19 18 = 19 := by
  have h1 := H30_good
  have h2 := H30_60
  have h3 := H30_ne
  generalize H30 = c at h1 h2 h3 ⊢
  exact bad_of h1 h2 h3
set_option maxHeartbeats 1000000 in
theorem ptransfer_same (ga : Nat) (ca ta : Int) (vg : Value) (cA : Cp) (ep key : Int) (r : World) (F : List Res) (w : World) (hS : Sep r [] (PC ga ca ta vg cA :: F) w) :
    Calls Tryz.prog 11 #[.pointer (some ⟨ga, 0, .none⟩), .pointer (some ⟨ga, 0, .none⟩), .int .i64 ep, .int .i64 key] w fun e w' => e = .returned (.tuple #[Mf.zero.val (.slice none 0 0) (.slice none 0 0) (.slice none 0 0), .int .i64 1]) ∧ Sep r [] (PC ga ca ta vg cA :: F) w' := by
  refine Z.enter Tryz.func11 Tryz.ntmps11 rfl rfl ?_
  repeat' (first|refine K ?_|(refine Sh.sa hS ?_;clear hS;intro w hS)|(refine K3 ?_;clear hS;intro g w hS hge)|((first|refine GS ?_ ?_|refine VB ?_ ?_)<;>intro hb<;>(try simp only [J1,J2,J3,J4,J5,J6] at hb)<;>(try (exfalso;first|omega|exact hb trivial))))
  replace hS := hS.fo (R := PC ga _ _ _ _)
  refine Z.eff (Z.cl (pctenant_z ga ca ta _ _ _ _ _ hS) rfl ?_) rfl
  clear hS
  rintro e w ⟨rfl, hS⟩
  refine ⟨_, rfl, ?_⟩
  repeat' (first|refine K ?_|(refine Sh.sa hS ?_;clear hS;intro w hS)|(refine K3 ?_;clear hS;intro g w hS hge)|((first|refine GS ?_ ?_|refine VB ?_ ?_)<;>intro hb<;>(try simp only [J1,J2,J3,J4,J5,J6] at hb)<;>(try (exfalso;first|omega|exact hb trivial))))
  refine Z.eff (Z.cl (pctenant_z ga ca ta _ _ _ _ _ hS) rfl ?_) rfl
  clear hS
  rintro e w ⟨rfl, hS⟩
  refine ⟨_, rfl, ?_⟩
  repeat' (first|refine K ?_|(refine Sh.sa hS ?_;clear hS;intro w hS)|(refine K3 ?_;clear hS;intro g w hS hge)|((first|refine GS ?_ ?_|refine VB ?_ ?_)<;>intro hb<;>(try simp only [J1,J2,J3,J4,J5,J6] at hb)<;>(try (exfalso;first|omega|exact hb trivial))))
  all_goals try (exfalso; exact hb rfl; done)
  refine Z.eff (Z.cl (pccell_z ga ca ta _ _ _ _ _ hS) rfl ?_) rfl
  clear hS
  rintro e w ⟨rfl, hS⟩
  refine ⟨_, rfl, ?_⟩
  repeat' (first|refine K ?_|(refine Sh.sa hS ?_;clear hS;intro w hS)|(refine K3 ?_;clear hS;intro g w hS hge)|((first|refine GS ?_ ?_|refine VB ?_ ?_)<;>intro hb<;>(try simp only [J1,J2,J3,J4,J5,J6] at hb)<;>(try (exfalso;first|omega|exact hb trivial))))
  refine Z.eff (Z.cl (pccell_z ga ca ta _ _ _ _ _ hS) rfl ?_) rfl
  clear hS
  rintro e w ⟨rfl, hS⟩
  refine ⟨_, rfl, ?_⟩
  repeat' (first|refine K ?_|(refine Sh.sa hS ?_;clear hS;intro w hS)|(refine K3 ?_;clear hS;intro g w hS hge)|((first|refine GS ?_ ?_|refine VB ?_ ?_)<;>intro hb<;>(try simp only [J1,J2,J3,J4,J5,J6] at hb)<;>(try (exfalso;first|omega|exact hb trivial))))
  all_goals try (exfalso; exact hb rfl; done)
  first | refine Z.done hS Tryz.results11 (Z.RV.cell rfl (by repeat (first | exact At.here | apply At.next)) rfl (Z.RV.tmp rfl Z.RV.nil)) ?_ | refine Z.doneN hS Tryz.results11 (Z.RV.cell rfl (by repeat (first | exact At.here | apply At.next)) rfl (Z.RV.tmp rfl Z.RV.nil)) ?_
  exact ⟨rfl, hS.sb⟩
set_option maxHeartbeats 4000000 in
theorem awake32_z (r : World) (F : List Res) (w : World) (hS : Sep r [] F w) : Calls Tryz.prog 7 #[] w fun e w' => e = .returned (.bool true) ∧ Sep r [] F w' := by
  have hc := H30_good
  have hlen : 3 ≤ H30.h.length := Nat.le_of_ble_eq_true H30_len
  have hle : H30.h.length ≤ 60 := Nat.le_of_ble_eq_true H30_le
  have hbad := H30_bad
  have ht0 : i64ok 0 := by unfold i64ok; omega
  have hml : (mfOf 0 5 H30).length = H30.h.length := rfl
  have hok := mfOf_ok (ten := 0) (key := 5) hc ht0 (by omega)
  have hok2 := mfN_ok hok (by rw [hml]; omega)
  refine Z.enter Tryz.func7 Tryz.ntmps7 rfl rfl ?_
  repeat' (first|refine K ?_|(refine Sh.sa hS ?_;clear hS;intro w hS)|(refine K3 ?_;clear hS;intro g w hS hge)|((first|refine GS ?_ ?_|refine VB ?_ ?_)<;>intro hb<;>(try simp only [J1,J2,J3,J4,J5,J6] at hb)<;>(try (exfalso;first|omega|exact hb trivial))))
  refine Z.eff (Z.mks (l := 30) (c := 30) hS rfl rfl rfl (by omega) (by decide) (by unfold maxLen; omega) ?_) rfl
  clear hS; intro gz w hS _
  repeat' (first|refine K ?_|(refine Sh.sa hS ?_;clear hS;intro w hS)|(refine K3 ?_;clear hS;intro g w hS hge)|((first|refine GS ?_ ?_|refine VB ?_ ?_)<;>intro hb<;>(try simp only [J1,J2,J3,J4,J5,J6] at hb)<;>(try (exfalso;first|omega|exact hb trivial))))
  refine Z.eff (Z.cl (history_new (List.replicate 30 0) gz _ _ rfl _ _ _ hS .here (by simp)) rfl ?_) rfl
  clear hS
  rintro e w ⟨v, rfl, hS⟩
  refine ⟨_, rfl, ?_⟩
  have hH := hist_isH (List.replicate 30 0)
  have hcp := H30_cp
  have hhl : (hist (List.replicate 30 0)).h.length ≤ 60 := by rw [H30_h]; exact hle
  generalize (hist (List.replicate 30 0)).h = h at *
  repeat' (first|refine K ?_|(refine Sh.sa hS ?_;clear hS;intro w hS)|(refine K3 ?_;clear hS;intro g w hS hge)|((first|refine GS ?_ ?_|refine VB ?_ ?_)<;>intro hb<;>(try simp only [J1,J2,J3,J4,J5,J6] at hb)<;>(try (exfalso;first|omega|exact hb trivial))))
  refine Z.eff (Z.cl (pcfold_ok 1 0 h v _ _ _ hS (Reads.of_at .here) (by omega) hH) rfl ?_) rfl
  clear hS
  rintro e w ⟨gc, gg, rfl, hS⟩
  refine ⟨_, rfl, ?_⟩
  rw [hcp] at hS
  generalize H30 = c at *
  repeat' (first|refine K ?_|(refine Sh.sa hS ?_;clear hS;intro w hS)|(refine K3 ?_;clear hS;intro g w hS hge)|((first|refine GS ?_ ?_|refine VB ?_ ?_)<;>intro hb<;>(try simp only [J1,J2,J3,J4,J5,J6] at hb)<;>(try (exfalso;first|omega|exact hb trivial))))
  refine Z.eff (Z.cl (pmake_z gc 1 0 _ c 5 _ _ _ hS hc (by omega) ht0) rfl ?_) rfl
  clear hS
  rintro e w ⟨vk, vi, vs, rfl, hS⟩
  refine ⟨_, rfl, ?_⟩
  obtain ⟨D1, d1, rfl, _⟩ := (hS.slrows (e := 9) (v := vk) (by repeat (first | exact At.here | apply At.next))).mform
  obtain ⟨D2, d2, rfl, _⟩ := (hS.slrows (e := 3) (v := vi) (by repeat (first | exact At.here | apply At.next))).mform
  obtain ⟨D3, d3, rfl, _⟩ := (hS.slrows (e := 3) (v := vs) (by repeat (first | exact At.here | apply At.next))).mform
  repeat' (first|refine K ?_|(refine Sh.sa hS ?_;clear hS;intro w hS)|(refine K3 ?_;clear hS;intro g w hS hge)|((first|refine GS ?_ ?_|refine VB ?_ ?_)<;>intro hb<;>(try simp only [J1,J2,J3,J4,J5,J6] at hb)<;>(try (exfalso;first|omega|exact hb trivial))))
  rename Nat => g5
  replace hS := hS.fo (R := PC gc _ _ _ _)
  refine Z.eff (Z.cl (ptransfer_same gc 1 0 _ c 1 5 _ _ _ hS) rfl ?_) rfl
  clear hS
  rintro e w ⟨rfl, hS⟩
  refine ⟨_, rfl, ?_⟩
  repeat' (first|refine K ?_|(refine Sh.sa hS ?_;clear hS;intro w hS)|(refine K3 ?_;clear hS;intro g w hS hge)|((first|refine GS ?_ ?_|refine VB ?_ ?_)<;>intro hb<;>(try simp only [J1,J2,J3,J4,J5,J6] at hb)<;>(try (exfalso;first|omega|exact hb trivial))))
  refine D.startS (Lr := [.blk g5 36 ((mfN (mfOf 0 5 c)).cells (.slice D1 (mfOf 0 5 c).keys.length d1) (.slice D2 (mfOf 0 5 c).items.length d2) (.slice D3 (mfOf 0 5 c).sessions.length d3)), .blk _ 36 ((mfOf 0 5 c).cells (.slice D1 (mfOf 0 5 c).keys.length d1) (.slice D2 (mfOf 0 5 c).items.length d2) (.slice D3 (mfOf 0 5 c).sessions.length d3))]) (hS.sb) 27 27 (by kernel_rfl) rfl ?_
  replace hS := hS.drew
  refine Sh.dp 0 1 ?_
  refine D.eff 1 3 rfl D.wantedN (by kernel_rfl) (by kernel_rfl) (fun _ _ h => h) ?_
  replace hS := hS.fo (R := PC gc _ _ _ _)
  refine Z.cl (pclen_z gc 1 0 _ _ _ _ _ hS) rfl ?_
  clear hS
  rintro e w ⟨rfl, hS⟩
  refine ⟨_, rfl, ?_⟩
  refine ⟨HM.s (hS.sb), ?_⟩
  refine Sh.dp 2 7 ?_
  refine Sh.dp 3 15 ?_
  refine D.slot 33 rfl (fun hb => ?_) (fun hb => by exfalso; (try simp only [decide_eq_true_eq, decide_eq_false_iff_not, Bool.not_eq_true', Bool.not_eq_false', Int.not_lt, Int.not_le] at hb) <;> first | omega | exact hb trivial | cases hb | simp at hb)
  (try simp only [decide_eq_true_eq, decide_eq_false_iff_not, Bool.not_eq_true', Bool.not_eq_false', Int.not_lt, Int.not_le] at hb)
  refine Sh.dp 4 31 ?_
  refine Sh.dp 6 95 ?_
  refine Sh.dl 5 127 ?_
  refine D.eff 7 255 rfl (D.wantedT rfl rfl) (by kernel_rfl) (by kernel_rfl) (fun _ _ h => h) ?_
  refine WE.guard ?_
  replace hS := hS.fo (R := PC gc _ _ _ _)
  refine Z.cl (pclen_z gc 1 0 _ _ _ _ _ hS) rfl ?_
  clear hS
  rintro e w ⟨rfl, hS⟩
  refine ⟨_, rfl, ?_⟩
  refine ⟨HM.s (hS.sb), ?_⟩
  first | refine D.pr 8 511 rfl (D.wantedT rfl rfl) (by kernel_rfl) rfl ?_ | refine D.pl 8 511 rfl (D.wantedT rfl rfl) (by kernel_rfl) (R.eqa rfl rfl rfl rfl) ?_
  refine Sh.dp 9 1023 ?_
  refine Sh.dp 10 2047 ?_
  refine D.slot 40 rfl (fun hb => ?_) (fun hb => by exfalso; (try simp only [decide_eq_true_eq, decide_eq_false_iff_not, Bool.not_eq_true', Bool.not_eq_false', Int.not_lt, Int.not_le] at hb) <;> first | omega | exact hb trivial | cases hb | simp at hb)
  (try simp only [decide_eq_true_eq, decide_eq_false_iff_not, Bool.not_eq_true', Bool.not_eq_false', Int.not_lt, Int.not_le] at hb)
  refine Sh.dp 11 4095 ?_
  refine Sh.dl 12 8191 ?_
  refine D.eff 13 16383 rfl (D.wantedT rfl rfl) (by kernel_rfl) (by kernel_rfl) (fun _ _ h => h) ?_
  refine WE.guard ?_
  replace hS := hS.fo (R := PC gc _ _ _ _)
  refine Z.cl (pcheck_z gc 1 0 _ c (mfOf 0 5 c) _ _ _ 5 _ _ _ hS ⟨Reads.of_at (e := 9) (by repeat (first | exact At.here | apply At.next)), Reads.of_at (e := 3) (v := .slice D2 (mfOf 0 5 c).items.length d2) (by repeat (first | exact At.here | apply At.next)), Reads.of_at (e := 3) (v := .slice D3 (mfOf 0 5 c).sessions.length d3) (by repeat (first | exact At.here | apply At.next))⟩ hok hc (by omega) ht0) rfl ?_
  clear hS
  rintro e w ⟨rfl, hS⟩
  refine ⟨_, rfl, ?_⟩
  rw [mfOf_self]
  refine ⟨HM.s (hS.sb), ?_⟩
  first | refine D.pr 14 32767 rfl (D.wantedT rfl rfl) (by kernel_rfl) rfl ?_ | refine D.pl 14 32767 rfl (D.wantedT rfl rfl) (by kernel_rfl) (R.eqa rfl rfl rfl rfl) ?_
  refine Sh.dp 15 65535 ?_
  refine Sh.dp 16 131071 ?_
  refine D.slot 46 rfl (fun hb => ?_) (fun hb => by exfalso; (try simp only [decide_eq_true_eq, decide_eq_false_iff_not, Bool.not_eq_true', Bool.not_eq_false', Int.not_lt, Int.not_le] at hb) <;> first | omega | exact hb trivial | cases hb | simp at hb)
  (try simp only [decide_eq_true_eq, decide_eq_false_iff_not, Bool.not_eq_true', Bool.not_eq_false', Int.not_lt, Int.not_le] at hb)
  refine Sh.dp 17 262143 ?_
  refine Sh.dl 18 524287 ?_
  refine D.eff 19 1048575 rfl (D.wantedT rfl rfl) (by kernel_rfl) (by kernel_rfl) (fun _ _ h => h) ?_
  refine WE.guard ?_
  replace hS := hS.fo (R := PC gc _ _ _ _)
  refine Z.cl (pcheck_z gc 1 0 _ c (mfN (mfOf 0 5 c)) _ _ _ 5 _ _ _ hS ⟨Reads.of_at (e := 9) (by repeat (first | exact At.here | apply At.next)), Reads.of_at (e := 3) (v := .slice D2 (mfOf 0 5 c).items.length d2) (by repeat (first | exact At.here | apply At.next)), Reads.of_at (e := 3) (v := .slice D3 (mfOf 0 5 c).sessions.length d3) (by repeat (first | exact At.here | apply At.next))⟩ hok2 hc (by omega) ht0) rfl ?_
  clear hS
  rintro e w ⟨rfl, hS⟩
  refine ⟨_, rfl, ?_⟩
  rw [hbad]
  refine ⟨HM.s (hS.sb), ?_⟩
  first | refine D.pr 20 2097151 rfl (D.wantedT rfl rfl) (by kernel_rfl) rfl ?_ | refine D.pl 20 2097151 rfl (D.wantedT rfl rfl) (by kernel_rfl) (R.eqa rfl rfl rfl rfl) ?_
  refine Sh.dp 21 4194303 ?_
  refine Sh.dp 22 8388607 ?_
  refine D.slot 52 rfl (fun hb => ?_) (fun hb => by exfalso; (try simp only [decide_eq_true_eq, decide_eq_false_iff_not, Bool.not_eq_true', Bool.not_eq_false', Int.not_lt, Int.not_le] at hb) <;> first | omega | exact hb trivial | cases hb | simp at hb)
  (try simp only [decide_eq_true_eq, decide_eq_false_iff_not, Bool.not_eq_true', Bool.not_eq_false', Int.not_lt, Int.not_le] at hb)
  refine Sh.dp 23 16777215 ?_
  first | refine D.pr 24 33554431 rfl (D.wantedT rfl rfl) (by kernel_rfl) rfl ?_ | refine D.pl 24 33554431 rfl (D.wantedT rfl rfl) (by kernel_rfl) (R.eqa rfl rfl rfl rfl) ?_
  refine Sh.dp 25 67108863 ?_
  refine Sh.dp 26 134217727 ?_
  refine D.done (by kernel_rfl) ?_
  repeat' (first|refine K ?_|(refine Sh.sa hS ?_;clear hS;intro w hS)|(refine K3 ?_;clear hS;intro g w hS hge)|((first|refine GS ?_ ?_|refine VB ?_ ?_)<;>intro hb<;>(try simp only [J1,J2,J3,J4,J5,J6] at hb)<;>(try (exfalso;first|omega|exact hb trivial))))
  refine Dnt Tryz.results7 ?_
  exact ⟨rfl, hS.sb⟩
end Go.Proofs.YtiabhlogadboeaaGreat
