/-
  The store's sanity check; histories keep the rule.
  Fold of the reference's copy; the walk of Fork of the mill.
  Histories that match; common beginnings. No program in sight.
-/
import Derived.Test.YtiabhlogadboeaaGreatP1
import Derived.Test.YtiabhlogadboeaaGreatH1
import Derived.Test.YtiabhlogadboeaaGreatML
namespace Go.Proofs.YtiabhlogadboeaaGreat
open Go.RowKit
set_option linter.unusedSimpArgs false
set_option linter.unusedVariables false
attribute [local irreducible] Res.blk Res.sl Res.all Res.ex Res.pure Res.star

theorem badAt_congr {h h' : List Ch} {i : Nat} (he : ∀ j, j ≤ i → h[j]? = h'[j]?) : badAt h i = badAt h' i := by
  unfold badAt
  rw [he i (Nat.le_refl _)]
  cases i with
  | zero => rfl
  | succ j => simp only; rw [he j (by omega)]
theorem chk_ok {h : List Ch} (hh : ∀ i, badAt h i = false) : ∀ (m i : Nat), chk h m i = -1
  | 0, _ => rfl
  | m + 1, i => by rw [chk, hh i]; simpa using chk_ok hh m (i + 1)
theorem check_ok {h : List Ch} (hh : ∀ i, badAt h i = false) : checkN h = -1 := chk_ok hh _ _
theorem badAt_out {h : List Ch} {i : Nat} (hi : h.length ≤ i) : badAt h i = false := by
  unfold badAt
  rw [List.getElem?_eq_none hi]
theorem badAt_take {h : List Ch} (hh : ∀ i, badAt h i = false) (k : Nat) : ∀ i, badAt (h.take k) i = false := by
  intro i
  by_cases hi : i < k
  · rw [badAt_congr (h' := h) fun j hj => by rw [List.getElem?_take, if_pos (by omega)]]
    exact hh i
  · exact badAt_out (by rw [List.length_take]; omega)
theorem Good.lawful {c : Cp} (h : Good c) : ∀ i, badAt c.h i = false := by
  induction h with
  | zero => intro i; exact badAt_out (by simp [Cp.zero])
  | @app c x hc hx ih =>
    obtain ⟨hv, hs, he, _, _, _, e⟩ := cApp_ok hx
    rw [e]
    simp only
    intro i
    rcases Nat.lt_trichotomy i c.h.length with hi | rfl | hi
    · rw [badAt_congr (h' := c.h) fun j hj => by rw [List.getElem?_append_left (by omega)]]
      exact ih i
    · have hq : c.h.length < (c.h ++ [x]).length := by simp
      rw [badAt_eq hq]
      have e1 : (c.h ++ [x])[c.h.length] = x := by simp
      rw [e1]
      by_cases h0 : 0 < c.h.length
      · have e2 : (c.h ++ [x])[((c.h.length : Int) - 1).toNat]'(by simp; omega) = c.h[c.h.length - 1] := by
          rw [List.getElem_append_left (by omega)]
          congr 1
          omega
        rw [e2, ← epochOf_eq h0]
        have h3 : ¬ x.epoch < epochOf c.h := by omega
        simp [hv, hs, h3]
      · simp [hv, hs, h0]
    · exact badAt_out (by simp; omega)
theorem Good.valid {c : Cp} (h : Good c) : ∀ x, x ∈ c.h → validB x = true := by
  induction h with
  | zero => intro x hx; simp [Cp.zero] at hx
  | @app c y hc hx ih =>
    obtain ⟨hv, _, _, _, _, _, e⟩ := cApp_ok hx
    rw [e]
    intro x hx'
    simp only [List.mem_append, List.mem_singleton] at hx'
    rcases hx' with h1 | rfl
    · exact ih x h1
    · exact hv

/-! The sanity check. -/
def awA : Ch := ⟨1, 1, 1, 1, 1, 0, ⟨#[97]⟩, ⟨#[118]⟩⟩
def awD : Ch := ⟨1, 1, 4, 1, 1, 1, ⟨#[]⟩, ⟨#[]⟩⟩
theorem awA_ok : validB awA = true := by
  have h1 : keyB ⟨#[97]⟩ = true := by decide
  have h2 : valB ⟨#[118]⟩ = true := by decide
  simp [validB, restB, inB, awA, h1, h2]
theorem awD_bad : validB awD = false := by simp [validB, restB, inB, awD]
theorem awA_app : sApp [] awA = ([⟨⟨#[97]⟩, ⟨#[118]⟩, 1⟩], 0) := by
  have h1 : foundB [] awA.key = false := rfl
  simp [sApp, awA_ok, h1]
  simp [awA, fidx]
theorem awA_check : checkN [awA] = -1 := by
  have : badAt [awA] 0 = false := by simp [badAt, awA_ok]; rfl
  simp [checkN, chk, this]
end Go.Proofs.YtiabhlogadboeaaGreat

namespace Go.Proofs.YtiabhlogadboeaaGreat
open Go.RowKit
set_option linter.unusedSimpArgs false
set_option linter.unusedVariables false
attribute [local irreducible] Res.blk Res.sl Res.all Res.ex Res.pure Res.star

structure FdC where
  c : Cp
  n : Nat
  e : Int
/-- What Fold makes of a list. -/
def foldC : Cp → List Ch → Nat → FdC
  | c, [], i => ⟨c, i, 0⟩
  | c, x :: h, i => if (cApp c x).2 = 0 then foldC (cApp c x).1 h (i + 1) else ⟨c, i, (cApp c x).2⟩
theorem foldC_drop {c : Cp} {h : List Ch} {k i : Nat} (hk : k < h.length) : foldC c (h.drop k) i = if (cApp c h[k]).2 = 0 then foldC (cApp c h[k]).1 (h.drop (k + 1)) (i + 1) else ⟨c, i, (cApp c h[k]).2⟩ := by
  rw [List.drop_eq_getElem_cons hk]
  rfl
theorem foldC_snoc {h' : List Ch} : ∀ {h : List Ch} {c : Cp} {i : Nat}, (foldC c h i).e = 0 → foldC c (h ++ h') i = foldC (foldC c h i).c h' (foldC c h i).n
  | [], c, i, _ => rfl
  | y :: h, c, i, he => by
    simp only [foldC, List.cons_append] at he ⊢
    by_cases h0 : (cApp c y).2 = 0
    · simp only [if_pos h0] at he ⊢
      exact foldC_snoc he
    · rw [if_neg h0] at he
      exact absurd he h0
theorem Good.foldC {c : Cp} (h : Good c) : foldC .zero c.h 0 = ⟨c, c.h.length, 0⟩ := by
  induction h with
  | zero => rfl
  | @app c x hc hx ih =>
    obtain ⟨_, _, _, _, _, _, e⟩ := cApp_ok hx
    have e1 : (cApp c x).1.h = c.h ++ [x] := by rw [e]
    rw [e1, foldC_snoc (by rw [ih]), ih]
    simp [Go.Proofs.YtiabhlogadboeaaGreat.foldC, hx]
theorem Good.cut {c : Cp} (h : Good c) (k : Nat) : ∃ c', Good c' ∧ c'.h = c.h.take k := by
  induction h with
  | zero => exact ⟨.zero, .zero, by simp [Cp.zero]⟩
  | @app c x hc hx ih =>
    obtain ⟨_, _, _, _, _, _, e⟩ := cApp_ok hx
    have e1 : (cApp c x).1.h = c.h ++ [x] := by rw [e]
    by_cases hk : k ≤ c.h.length
    · obtain ⟨c', h1, h2⟩ := ih
      exact ⟨c', h1, by rw [e1, List.take_append_of_le_length hk]; exact h2⟩
    · refine ⟨(cApp c x).1, .app hc hx, ?_⟩
      rw [List.take_of_length_le (by rw [e1]; simp; omega)]
/-- A list that a copy accepts. -/
def IsH (h : List Ch) : Prop := ∃ c, Good c ∧ c.h = h
theorem IsH.take {h : List Ch} (hh : IsH h) (k : Nat) : IsH (h.take k) := by
  obtain ⟨c, hc, rfl⟩ := hh
  exact hc.cut k
def cpOf (h : List Ch) : Cp := (foldC .zero h 0).c
theorem Good.cpOf {c : Cp} (h : Good c) : cpOf c.h = c := by unfold Go.Proofs.YtiabhlogadboeaaGreat.cpOf; rw [h.foldC]
theorem IsH.good {h : List Ch} (hh : IsH h) : Good (cpOf h) ∧ (cpOf h).h = h ∧ foldC .zero h 0 = ⟨cpOf h, h.length, 0⟩ := by
  obtain ⟨c, hc, rfl⟩ := hh
  rw [hc.cpOf]
  exact ⟨hc, rfl, hc.foldC⟩
theorem epochOf_snoc (h : List Ch) (x : Ch) : epochOf (h ++ [x]) = x.epoch := by simp [epochOf]
theorem valid_epoch {x : Ch} (h : validB x = true) : 1 ≤ x.epoch := by
  simp only [validB, inB, Bool.and_eq_true, decide_eq_true_eq] at h
  exact h.1.1
theorem Good.epochs {c : Cp} (h : Good c) : ∀ x, x ∈ c.h → 1 ≤ x.epoch ∧ x.epoch ≤ epochOf c.h := by
  induction h with
  | zero => intro x hx; simp [Cp.zero] at hx
  | @app c y hc hx ih =>
    obtain ⟨hv, _, he, _, _, _, e⟩ := cApp_ok hx
    have e1 : (cApp c y).1.h = c.h ++ [y] := by rw [e]
    rw [e1, epochOf_snoc]
    intro x hx'
    simp only [List.mem_append, List.mem_singleton] at hx'
    rcases hx' with h1 | rfl
    · have := ih x h1; omega
    · exact ⟨valid_epoch hv, by omega⟩
theorem mkChange_epoch (l : List Int) (i : Nat) (c : Cp) (ep : Int) : (mkChange l i c ep).1.epoch = ep := by
  unfold mkChange
  simp only
  split
  · rfl
  · split
    · rfl
    · split <;> rfl
theorem growN_ext (l : List Int) : ∀ (k : Nat) (s : Cp × Int × Nat), ∃ ext, (growN l k s).1.h = s.1.h ++ ext ∧ ∀ x, x ∈ ext → s.2.1 ≤ x.epoch ∧ x.epoch ≤ s.2.1 + k
  | 0, s => ⟨[], by simp [growN], by simp⟩
  | k + 1, s => by
    unfold growN
    split
    · obtain ⟨ext, h1, h2⟩ := growN_ext l k (growStep l s)
      rw [h1]
      obtain ⟨ep, hep⟩ : ∃ ep, (if nxt l s.2.2 7 = 6 then s.2.1 + 1 else s.2.1) = ep := ⟨_, rfl⟩
      have hb : s.2.1 ≤ ep ∧ ep ≤ s.2.1 + 1 := by rw [← hep]; split <;> omega
      have e1 : (growStep l s).2.1 = ep := hep
      have e2 : (growStep l s).1 = (cApp s.1 (mkChange l (adv l s.2.2) s.1 ep).1).1 := by rw [← hep]; rfl
      rw [e1] at h2
      rw [e2]
      by_cases hx : (cApp s.1 (mkChange l (adv l s.2.2) s.1 ep).1).2 = 0
      · obtain ⟨_, _, _, _, _, _, e⟩ := cApp_ok hx
        refine ⟨(mkChange l (adv l s.2.2) s.1 ep).1 :: ext, by rw [e]; simp, fun x hx' => ?_⟩
        rcases List.mem_cons.1 hx' with rfl | hx'
        · rw [mkChange_epoch]; omega
        · have := h2 x hx'; omega
      · rw [cApp_bad hx]
        exact ⟨ext, rfl, fun x hx' => by have := h2 x hx'; omega⟩
    · exact ⟨[], by simp, by simp⟩
theorem hist_isH (l : List Int) : IsH (hist l).h := ⟨hist l, hist_good l, rfl⟩
theorem hist_epochs (l : List Int) : ∀ x, x ∈ (hist l).h → 1 ≤ x.epoch ∧ x.epoch ≤ 61 := by
  obtain ⟨ext, h1, h2⟩ := growN_ext l 60 (.zero, 1, 0)
  have e : (hist l).h = ext := by rw [show (hist l).h = (growN l 60 (.zero, 1, 0)).1.h from rfl, h1]; simp [Cp.zero]
  rw [e]
  intro x hx
  have := h2 x hx
  simp only at this
  omega
/-- The epoch with which a fork goes on, less one. -/
def forkEp (h : List Ch) : Int := if h.length = 0 then 1 else epochOf h
def forkC (h : List Ch) (n : Int) (l : List Int) : Cp := (growN l 30 (cpOf (h.take (modN n ((h.length : Int) + 1)).toNat), forkEp h + 1, 0)).1
theorem IsH.fork {h : List Ch} (hh : IsH h) (n : Int) (l : List Int) : Good (forkC h n l) ∧ ∃ ext, (forkC h n l).h = h.take (modN n ((h.length : Int) + 1)).toNat ++ ext ∧ ext.length ≤ 30 ∧ ∀ x, x ∈ ext → forkEp h + 1 ≤ x.epoch ∧ x.epoch ≤ forkEp h + 31 := by
  obtain ⟨h1, h2, _⟩ := (hh.take (modN n ((h.length : Int) + 1)).toNat).good
  obtain ⟨ext, h3, h4⟩ := growN_ext l 30 (cpOf (h.take (modN n ((h.length : Int) + 1)).toNat), forkEp h + 1, 0)
  have hg := growN_good l 30 (cpOf (h.take (modN n ((h.length : Int) + 1)).toNat), forkEp h + 1, 0) h1
  refine ⟨hg.1, ext, ?_, ?_, fun x hx => ?_⟩
  · rw [show (forkC h n l).h = (growN l 30 (cpOf (h.take (modN n ((h.length : Int) + 1)).toNat), forkEp h + 1, 0)).1.h from rfl, h3]
    simp only [h2]
  · have := hg.2
    rw [h3] at this
    simp only [List.length_append] at this
    omega
  · have := h4 x hx
    simp only at this
    omega
theorem IsH.epochs {h : List Ch} (hh : IsH h) : ∀ x, x ∈ h → 1 ≤ x.epoch ∧ x.epoch ≤ epochOf h := by
  obtain ⟨c, hc, rfl⟩ := hh
  exact hc.epochs
theorem IsH.fork_epochs {h : List Ch} (hh : IsH h) (n : Int) (l : List Int) {B : Int} (hB : 0 ≤ B) (hb : ∀ x, x ∈ h → x.epoch ≤ B) : ∀ x, x ∈ (forkC h n l).h → 1 ≤ x.epoch ∧ x.epoch ≤ B + 32 := by
  obtain ⟨_, ext, e, _, h4⟩ := hh.fork n l
  have hf : 1 ≤ forkEp h ∧ forkEp h ≤ B + 1 := by
    unfold forkEp
    split
    · omega
    · rename_i h0
      rw [epochOf_eq (by omega)]
      have h5 : h[h.length - 1]'(by omega) ∈ h := by simp
      have := hb _ h5
      have := (hh.epochs _ h5).1
      omega
  rw [e]
  intro x hx
  rcases List.mem_append.1 hx with h1 | h1
  · have h2 := List.mem_of_mem_take h1
    have := hb x h2
    have := (hh.epochs x h2).1
    omega
  · have := h4 x h1
    omega

set_option maxHeartbeats 1000000 in
theorem rcfold_z (cell ten : Int) (h : List Ch) (v : Value) (r : World) (F : List Res) (w : World) (hS : Sep r [] F w) (hrd : Reads r F 8 v (h.map Ch.cells)) (hl : h.length ≤ 1000) (R : FdC) (hR : foldC .zero h 0 = R) :
    Calls Tryz.prog 21 #[.int .i64 cell, .int .i64 ten, v] w fun ex w' =>
      (R.e = 0 ∧ ∃ g gg, ex = .returned (.tuple #[.pointer (some ⟨g, 0, none⟩), .int .i64 (h.length : Int), .int .i64 0]) ∧ Sep r [] (CR g cell ten (.pointer (some ⟨gg, 0, none⟩)) R.c :: .blk gg 47 [.int .i64 cell, .int .i64 0, .slice none 0 0] :: F) w') ∨
        (R.e ≠ 0 ∧ ex = .returned (.tuple #[.pointer none, .int .i64 (R.n : Int), .int .i64 R.e]) ∧ Sep r [] F w') := by
  obtain ⟨A, c, rfl, hc⟩ := (hrd [] w hS).mform
  refine Z.enter Tryz.func21 Tryz.ntmps21 rfl rfl ?_
  repeat' (first|refine K ?_|(refine Sh.sa hS ?_;clear hS;intro w hS)|(refine K3 ?_;clear hS;intro g w hS hge)|((first|refine GS ?_ ?_|refine VB ?_ ?_)<;>intro hb<;>(try simp only [J1,J2,J3,J4,J5,J6] at hb)<;>(try (exfalso;first|omega|exact hb trivial))))
  refine Z.eff (Z.cl (cnew_z cell ten _ _ _ hS) rfl ?_) rfl
  clear hS
  rintro e w ⟨g1, gg, rfl, hS⟩
  refine ⟨_, rfl, ?_⟩
  repeat' (first|refine K ?_|(refine Sh.sa hS ?_;clear hS;intro w hS)|(refine K3 ?_;clear hS;intro g w hS hge)|((first|refine GS ?_ ?_|refine VB ?_ ?_)<;>intro hb<;>(try simp only [J1,J2,J3,J4,J5,J6] at hb)<;>(try (exfalso;first|omega|exact hb trivial))))
  refine Z.lpS [6, 7, 8, 10, 11, 12, 18, 19, 20, 21, 22, 23, 24, 25, 26, 27, 28, 29, 30] (fun m w s => ∃ (k : Nat) (q : Cp), s = [(18, .int .i64 k)] ∧ k ≤ h.length ∧ Good q ∧ q.h.length ≤ k ∧ foldC q (h.drop k) k = R ∧ m = h.length - k ∧ Sep r [] (CR g1 cell ten (.pointer (some ⟨gg, 0, none⟩)) q :: .blk gg 47 [.int .i64 cell, .int .i64 0, .slice none 0 0] :: F) w) _ [(18, .int .i64 (0 : Nat))] (by repeat (first | exact trivial | refine ⟨rfl, ?_⟩)) ⟨0, .zero, rfl, by omega, .zero, by simp [Cp.zero], by simpa using hR, rfl, hS⟩ ?_
  clear hS
  rintro m f0 w _ ⟨k, q, rfl, hk, hq, hqk, hF, rfl, hS⟩
  by_cases hlt : k < h.length
  · obtain ⟨gb, o, rfl, _, hra⟩ := (hrd [_, _] w hS).mat (by omega) hlt
    rw [foldC_drop hlt] at hF
    have hgo := hq.ok
    have hst := hq.step h[k]
    repeat' (first|refine K ?_|(refine Sh.sa hS ?_;clear hS;intro w hS)|(refine K3 ?_;clear hS;intro g w hS hge)|((first|refine GS ?_ ?_|refine VB ?_ ?_)<;>intro hb<;>(try simp only [J1,J2,J3,J4,J5,J6] at hb)<;>(try (exfalso;first|omega|exact hb trivial))))
    replace hS := hS.fo (R := CR g1 _ _ _ _)
    refine Z.eff (Z.cl (capply_z g1 cell ten _ q h[k] _ _ _ hS hgo.1 (by omega) (by omega) (by omega) (by rw [hgo.2.2.2]; simp)) rfl ?_) rfl
    clear hS
    rintro e w ⟨rfl, hS⟩
    refine ⟨_, rfl, ?_⟩
    repeat' (first|refine K ?_|(refine Sh.sa hS ?_;clear hS;intro w hS)|(refine K3 ?_;clear hS;intro g w hS hge)|((first|refine GS ?_ ?_|refine VB ?_ ?_)<;>intro hb<;>(try simp only [J1,J2,J3,J4,J5,J6] at hb)<;>(try (exfalso;first|omega|exact hb trivial))))
    · refine Dnttt Tryz.results21 ?_
      rw [if_neg hb] at hF
      subst hF
      exact .inr ⟨hb, rfl, hS.sb⟩
    · refine Sh.again (h.length - (k + 1)) [(18, .int .i64 (k + 1 : Nat))] ?_
      rw [if_pos hb] at hF
      exact ⟨k + 1, _, rfl, by omega, hst.1, by omega, hF, rfl, hS.sb⟩
  · repeat' (first|refine K ?_|(refine Sh.sa hS ?_;clear hS;intro w hS)|(refine K3 ?_;clear hS;intro g w hS hge)|((first|refine GS ?_ ?_|refine VB ?_ ?_)<;>intro hb<;>(try simp only [J1,J2,J3,J4,J5,J6] at hb)<;>(try (exfalso;first|omega|exact hb trivial))))
    refine Dnttt Tryz.results21 ?_
    rw [List.drop_eq_nil_of_le (by omega)] at hF
    subst hF
    exact .inl ⟨rfl, _, _, rfl, hS⟩
theorem rcfold_ok (cell ten : Int) (h : List Ch) (v : Value) (r : World) (F : List Res) (w : World) (hS : Sep r [] F w) (hrd : Reads r F 8 v (h.map Ch.cells)) (hl : h.length ≤ 1000) (hh : IsH h) :
    Calls Tryz.prog 21 #[.int .i64 cell, .int .i64 ten, v] w fun ex w' => ∃ g gg, ex = .returned (.tuple #[.pointer (some ⟨g, 0, none⟩), .int .i64 (h.length : Int), .int .i64 0]) ∧ Sep r [] (CR g cell ten (.pointer (some ⟨gg, 0, none⟩)) (cpOf h) :: .blk gg 47 [.int .i64 cell, .int .i64 0, .slice none 0 0] :: F) w' :=
  (rcfold_z cell ten h v r F w hS hrd hl _ hh.good.2.2).mono fun _ _ hx => by
    rcases hx with ⟨_, hx⟩ | ⟨h0, _⟩
    · exact hx
    · exact absurd rfl h0

set_option maxHeartbeats 2000000 in
theorem fork_z (h : List Ch) (v : Value) (nn : Int) (l : List Int) (A : Option Addr) (cap : Nat) (r : World) (F : List Res) (w : World) (hS : Sep r [] F w) (hrd : Reads r F 8 v (h.map Ch.cells)) (hh : IsH h) (hl : h.length ≤ 900) (he : ∀ x, x ∈ h → x.epoch ≤ 900) (hr : Rd r 1 A l.length (l.map (Value.int .i64))) (hl' : l.length ≤ 150) :
    Calls Tryz.prog 37 #[v, .int .i64 nn, .slice A l.length cap] w fun e w' => ∃ v', e = .returned v' ∧ Sep r [] (.sl 90 8 v' ((forkC h nn l).h.map Ch.cells) :: F) w' := by
  obtain ⟨Ah, ch, rfl, hch⟩ := (hrd [] w hS).mform
  unfold forkC
  refine Z.enter Tryz.func37 Tryz.ntmps37 rfl rfl ?_
  repeat' (first|refine K ?_|(refine Sh.sa hS ?_;clear hS;intro w hS)|(refine K3 ?_;clear hS;intro g w hS hge)|((first|refine GS ?_ ?_|refine VB ?_ ?_)<;>intro hb<;>(try simp only [J1,J2,J3,J4,J5,J6] at hb)<;>(try (exfalso;first|omega|exact hb trivial))))
  refine Z.eff (Z.cl (modS_z nn ((h.length : Int) + 1) _ _ _ hS (by omega) (by omega)) rfl ?_) rfl
  clear hS
  rintro e w ⟨rfl, hS⟩
  refine ⟨_, rfl, ?_⟩
  have hk := modN_bd nn ((h.length : Int) + 1) (by omega)
  generalize modN nn ((h.length : Int) + 1) = k at *
  have hht := hh.take k.toNat
  have hgt := hht.good
  repeat' (first|refine K ?_|(refine Sh.sa hS ?_;clear hS;intro w hS)|(refine K3 ?_;clear hS;intro g w hS hge)|((first|refine GS ?_ ?_|refine VB ?_ ?_)<;>intro hb<;>(try simp only [J1,J2,J3,J4,J5,J6] at hb)<;>(try (exfalso;first|omega|exact hb trivial))))
  refine Z.eff (Z.cl (rcfold_ok 0 0 (h.take k.toNat) _ _ _ _ hS (fun L w hw => (hrd L w hw).mtake (show k.toNat ≤ h.length by omega)) (by rw [List.length_take]; omega) hht) rfl ?_) rfl
  clear hS
  rintro e w ⟨gc, gg, rfl, hS⟩
  refine ⟨_, rfl, ?_⟩
  have hcl : (cpOf (h.take k.toNat)).h.length ≤ 900 := by rw [hgt.2.1, List.length_take]; omega
  generalize cpOf (h.take k.toNat) = c at *
  by_cases h0 : 0 < h.length
  · have hq : ((h.length : Int) - 1).toNat < h.length := by omega
    have ep : forkEp h = h[((h.length : Int) - 1).toNat].epoch := by
      unfold forkEp
      rw [if_neg (by omega), epochOf_eq h0]
      congr 2
      omega
    have hep := he h[((h.length : Int) - 1).toNat] (by simp)
    have hep1 := (hh.epochs h[((h.length : Int) - 1).toNat] (by simp)).1
    obtain ⟨gb, o, rfl, _, hra⟩ := (hrd [_, _] _ hS).mat (by omega) hq
    rw [ep]
    generalize h[((h.length : Int) - 1).toNat] = y at *
    repeat' (first|refine K ?_|(refine Sh.sa hS ?_;clear hS;intro w hS)|(refine K3 ?_;clear hS;intro g w hS hge)|((first|refine GS ?_ ?_|refine VB ?_ ?_)<;>intro hb<;>(try simp only [J1,J2,J3,J4,J5,J6] at hb)<;>(try (exfalso;first|omega|exact hb trivial))))
    refine Z.eff (Z.cl (tnew_z l A cap hS hr hl') rfl ?_) rfl
    clear hS
    rintro e w ⟨ga, rfl, hS⟩
    refine ⟨_, rfl, ?_⟩
    repeat' (first|refine K ?_|(refine Sh.sa hS ?_;clear hS;intro w hS)|(refine K3 ?_;clear hS;intro g w hS hge)|((first|refine GS ?_ ?_|refine VB ?_ ?_)<;>intro hb<;>(try simp only [J1,J2,J3,J4,J5,J6] at hb)<;>(try (exfalso;first|omega|exact hb trivial))))
    refine Z.eff (Z.cl (grow_z ga gc 0 0 _ l 0 c (y.epoch + 1) 30 r _ _ hS hgt.1 (by omega) (by omega) (by omega) (by omega)) rfl ?_) rfl
    clear hS
    rintro e w ⟨rfl, hS⟩
    refine ⟨_, rfl, ?_⟩
    obtain ⟨vh, gs, gq, gt, vs, vl, vr, hS⟩ := Sep.CR_open.1 hS
    obtain ⟨Ah, ch, rfl, hch⟩ := (hS.slrows (.next .here)).mform
    repeat' (first|refine K ?_|(refine Sh.sa hS ?_;clear hS;intro w hS)|(refine K3 ?_;clear hS;intro g w hS hge)|((first|refine GS ?_ ?_|refine VB ?_ ?_)<;>intro hb<;>(try simp only [J1,J2,J3,J4,J5,J6] at hb)<;>(try (exfalso;first|omega|exact hb trivial))))
    refine Dnt Tryz.results37 ?_
    exact ⟨_, rfl, hS.sb⟩
  · have ep : forkEp h = 1 := by unfold forkEp; rw [if_pos (by omega)]
    rw [ep]
    repeat' (first|refine K ?_|(refine Sh.sa hS ?_;clear hS;intro w hS)|(refine K3 ?_;clear hS;intro g w hS hge)|((first|refine GS ?_ ?_|refine VB ?_ ?_)<;>intro hb<;>(try simp only [J1,J2,J3,J4,J5,J6] at hb)<;>(try (exfalso;first|omega|exact hb trivial))))
    refine Z.eff (Z.cl (tnew_z l A cap hS hr hl') rfl ?_) rfl
    clear hS
    rintro e w ⟨ga, rfl, hS⟩
    refine ⟨_, rfl, ?_⟩
    repeat' (first|refine K ?_|(refine Sh.sa hS ?_;clear hS;intro w hS)|(refine K3 ?_;clear hS;intro g w hS hge)|((first|refine GS ?_ ?_|refine VB ?_ ?_)<;>intro hb<;>(try simp only [J1,J2,J3,J4,J5,J6] at hb)<;>(try (exfalso;first|omega|exact hb trivial))))
    refine Z.eff (Z.cl (grow_z ga gc 0 0 _ l 0 c (1 + 1) 30 r _ _ hS hgt.1 (by omega) (by omega) (by omega) (by omega)) rfl ?_) rfl
    clear hS
    rintro e w ⟨rfl, hS⟩
    refine ⟨_, rfl, ?_⟩
    obtain ⟨vh, gs, gq, gt, vs, vl, vr, hS⟩ := Sep.CR_open.1 hS
    obtain ⟨Ah, ch, rfl, hch⟩ := (hS.slrows (.next .here)).mform
    repeat' (first|refine K ?_|(refine Sh.sa hS ?_;clear hS;intro w hS)|(refine K3 ?_;clear hS;intro g w hS hge)|((first|refine GS ?_ ?_|refine VB ?_ ?_)<;>intro hb<;>(try simp only [J1,J2,J3,J4,J5,J6] at hb)<;>(try (exfalso;first|omega|exact hb trivial))))
    refine Dnt Tryz.results37 ?_
    exact ⟨_, rfl, hS.sb⟩
end Go.Proofs.YtiabhlogadboeaaGreat

namespace Go.Proofs.YtiabhlogadboeaaGreat
open Go.RowKit
set_option linter.unusedSimpArgs false
set_option linter.unusedVariables false
attribute [local irreducible] Res.blk Res.sl Res.all Res.ex Res.pure Res.star

theorem IsH.lawful {h : List Ch} (hh : IsH h) : ∀ i, badAt h i = false := by
  obtain ⟨c, hc, rfl⟩ := hh
  exact hc.lawful
theorem IsH.seq {h : List Ch} (hh : IsH h) {i : Nat} (hi : i < h.length) : h[i].seq = (i : Int) + 1 := by
  have := hh.lawful i
  rw [badAt_eq hi] at this
  simp only [Bool.or_eq_false_iff, Bool.not_eq_false', decide_eq_true_eq] at this
  exact this.2.1
theorem matchB_at {h : List Ch} {i : Nat} (hi : i < h.length) (hs : h[i].seq = (i : Int) + 1) (e : Int) : matchB h ((i + 1 : Nat) : Int) e = decide (h[i].epoch = e) := by
  unfold matchB
  rw [if_neg (by omega), if_pos (by omega)]
  have : (((i + 1 : Nat) : Int) - 1).toNat = i := by omega
  rw [this, List.getElem?_eq_getElem hi]
  simp [hs]
theorem matchB_out {h : List Ch} {i : Nat} (hi : h.length ≤ i) (e : Int) : matchB h ((i + 1 : Nat) : Int) e = false := by
  unfold matchB
  rw [if_neg (by omega), if_neg (by omega)]
theorem comN_comm {α : Type} [DecidableEq α] : ∀ (a b : List α), comN a b = comN b a
  | [], b => by rw [nil_comN, comN_nil]
  | _ :: _, [] => rfl
  | x :: a, y :: b => by
    unfold comN
    by_cases h : x = y
    · subst h; simp [comN_comm a b]
    · rw [if_neg h, if_neg (fun e => h e.symm)]
theorem comN_le {α : Type} [DecidableEq α] : ∀ (a b : List α), comN a b ≤ a.length
  | [], b => by rw [nil_comN]; simp
  | _ :: _, [] => by rw [comN_nil]; simp
  | x :: a, y :: b => by
    unfold comN
    split
    · have := comN_le a b; simp only [List.length_cons]; omega
    · omega
/-- Two lists that agree up to an index and not at it. -/
theorem comN_eq {α : Type} [DecidableEq α] : ∀ {n : Nat} {a b : List α}, a.take n = b.take n → n ≤ a.length → n ≤ b.length → (∀ (h1 : n < a.length) (h2 : n < b.length), a[n] ≠ b[n]) → comN a b = n
  | 0, [], b, _, _, _, _ => by rw [nil_comN]
  | 0, _ :: _, [], _, _, _, _ => rfl
  | 0, x :: a, y :: b, _, _, _, h => by
    have : x ≠ y := h (by simp) (by simp)
    unfold comN
    rw [if_neg this]
  | n + 1, [], b, _, h1, _, _ => by simp at h1
  | n + 1, _ :: _, [], _, _, h2, _ => by simp at h2
  | n + 1, x :: a, y :: b, he, h1, h2, h => by
    simp only [List.take_succ_cons, List.cons.injEq] at he
    unfold comN
    rw [if_pos he.1, comN_eq he.2 (by simpa using h1) (by simpa using h2) (fun h3 h4 => by have := h (by simpa using h3) (by simpa using h4); simpa using this)]
/-- A history and its fork. -/
theorem fork_com {h : List Ch} (hh : IsH h) (n : Int) (l : List Int) : comN h (forkC h n l).h = (modN n ((h.length : Int) + 1)).toNat ∧
    ∀ i, i < h.length → matchB (forkC h n l).h ((i + 1 : Nat) : Int) (h[i]?.map (·.epoch) |>.getD 0) = decide (((i + 1 : Nat) : Int) ≤ (comN h (forkC h n l).h : Int)) := by
  have hk := modN_bd n ((h.length : Int) + 1) (by omega)
  obtain ⟨hg, ext, e, _, h4⟩ := hh.fork n l
  have hkl : (modN n ((h.length : Int) + 1)).toNat ≤ h.length := by omega
  generalize (modN n ((h.length : Int) + 1)).toNat = k at *
  have hf : IsH (forkC h n l).h := ⟨_, hg, rfl⟩
  generalize (forkC h n l).h = f at *
  have hfe : 0 < h.length → ∀ x, x ∈ h → x.epoch < forkEp h + 1 := fun h0 x hx => by
    have := (hh.epochs x hx).2
    unfold forkEp
    rw [if_neg (by omega)]
    omega
  have hne : ∀ (i : Nat) (h1 : i < h.length) (h2 : i < f.length), k ≤ i → h[i].epoch ≠ f[i].epoch := by
    intro i h1 h2 hki he
    have h5 := hfe (by omega) h[i] (by simp)
    have h6 : f[i] ∈ ext := by
      subst e
      rw [List.getElem_append_right (by rw [List.length_take]; omega)]
      simp
    have := h4 _ h6
    omega
  have hkf : k ≤ f.length := by rw [e]; simp; omega
  have hc : comN h f = k := by
    refine comN_eq ?_ hkl hkf fun h1 h2 he => hne k h1 h2 (Nat.le_refl _) (by rw [he])
    rw [e, List.take_append_of_le_length (by rw [List.length_take]; omega), List.take_take]
    simp
  refine ⟨hc, fun i hi => ?_⟩
  rw [hc, List.getElem?_eq_getElem hi]
  simp only [Option.map_some, Option.getD_some]
  by_cases hif : i < f.length
  · rw [matchB_at hif (hf.seq hif)]
    by_cases hik : i < k
    · have : f[i] = h[i] := by
        subst e
        rw [List.getElem_append_left (by rw [List.length_take]; omega), List.getElem_take]
      rw [this]
      have h7 : ((i + 1 : Nat) : Int) ≤ k := by omega
      rw [decide_eq_true h7, decide_eq_true rfl]
    · have h8 := hne i hi hif (by omega)
      have h7 : ¬ ((i + 1 : Nat) : Int) ≤ k := by omega
      rw [decide_eq_false h7, decide_eq_false (Ne.symm h8)]
  · rw [matchB_out (by omega)]
    have h7 : ¬ ((i + 1 : Nat) : Int) ≤ k := by omega
    rw [decide_eq_false h7]
end Go.Proofs.YtiabhlogadboeaaGreat
