/-
  What is wrong with a wave: the program's function and the reference's.
-/
import Derived.Test.YtmgpionlfemhdaaGreatNXa
namespace Go.Proofs.YtmgpionlfemhdaaGreat
open Go.RowKit
set_option linter.unusedSimpArgs false
set_option linter.unusedVariables false
attribute [local irreducible] Res.blk Res.sl Res.all Res.ex Res.pure Res.star

/-- What pairs returns. -/
def wrongP (c : Cfg) (s : Sta) (w : List Int) : Int := if w.any fun k => !decide (regOf c k = regOf c (w.headD 0)) then 11 else if w.any fun a => w.any fun b => conf c s a b then 4 else 0
def wrongR (c : Cfg) (s : Sta) (w : List Int) (first : Bool) : Int := if decide (c.blast < w.length) || first && decide (1 < w.length) then 14 else wrongP c s w
theorem nodup_take {w : List Int} : w.Nodup ↔ ∀ j (hj : j < w.length), w[j] ∉ w.take j := by
  constructor
  · intro h j hj hm
    obtain ⟨i, hi, e⟩ := List.mem_take_iff_getElem.1 hm
    have := List.pairwise_iff_getElem.1 h i j (by omega) hj (by omega)
    exact this e
  · intro h
    refine List.pairwise_iff_getElem.2 fun i j hi hj hij e => h j hj (List.mem_take_iff_getElem.2 ⟨i, by omega, e⟩)
theorem wrongB_bad {c : Cfg} {s : Sta} {w ahead : List Int} {first : Bool} {j : Nat} (hj : j < w.length) (h : inC c w[j] = false ∨ w[j] ∈ ahead ∨ w[j] ∈ w.take j) : wrongB c s w ahead first = 1 := by
  have hne : w ≠ [] := by rintro rfl; simp at hj
  unfold wrongB
  rw [if_neg hne, if_pos]
  rw [Bool.or_eq_true]
  rcases h with h | h | h
  · exact .inl (List.any_eq_true.2 ⟨_, List.getElem_mem hj, by simp [h]⟩)
  · exact .inl (List.any_eq_true.2 ⟨_, List.getElem_mem hj, by simp [h]⟩)
  · refine .inr ?_
    rw [Bool.not_eq_true', decide_eq_false_iff_not]
    exact fun hn => nodup_take.1 hn j hj h
theorem wrongB_pass {c : Cfg} {s : Sta} {w ahead : List Int} {first : Bool} (hne : w ≠ []) (h : ∀ j (hj : j < w.length), inC c w[j] = true ∧ w[j] ∉ ahead ∧ w[j] ∉ w.take j) : wrongB c s w ahead first = wrongR c s w first := by
  unfold wrongB wrongR wrongP
  rw [if_neg hne, if_neg]
  rw [Bool.or_eq_true, not_or]
  constructor
  · rw [List.any_eq_true]
    rintro ⟨x, hx, h2⟩
    obtain ⟨j, hj, rfl⟩ := List.mem_iff_getElem.1 hx
    obtain ⟨h3, h4, _⟩ := h j hj
    simp [h3, h4] at h2
  · rw [Bool.not_eq_true', decide_eq_false_iff_not, Decidable.not_not]
    exact nodup_take.2 fun j hj => (h j hj).2.2
theorem wrongP_reg {c : Cfg} {s : Sta} {w : List Int} {j : Nat} (hj : j < w.length) (h : regOf c w[j] ≠ regOf c (w.headD 0)) : wrongP c s w = 11 := by
  unfold wrongP
  rw [if_pos]
  exact List.any_eq_true.2 ⟨_, List.getElem_mem hj, by simpa using h⟩
theorem wrongP_conf {c : Cfg} {s : Sta} {w : List Int} {i j : Nat} (hr : ∀ j (hj : j < w.length), regOf c w[j] = regOf c (w.headD 0)) (hi : i < w.length) (hj : j < w.length) (h : conf c s w[i] w[j] = true) : wrongP c s w = 4 := by
  unfold wrongP
  rw [if_neg, if_pos]
  · exact List.any_eq_true.2 ⟨_, List.getElem_mem hi, List.any_eq_true.2 ⟨_, List.getElem_mem hj, h⟩⟩
  · rw [List.any_eq_true]
    rintro ⟨x, hx, h2⟩
    obtain ⟨j, hj, rfl⟩ := List.mem_iff_getElem.1 hx
    simp [hr j hj] at h2
theorem wrongP_zero {c : Cfg} {s : Sta} {w : List Int} (hr : ∀ j (hj : j < w.length), regOf c w[j] = regOf c (w.headD 0)) (h : ∀ i j (hi : i < w.length) (hj : j < w.length), conf c s w[i] w[j] = false) : wrongP c s w = 0 := by
  unfold wrongP
  rw [if_neg, if_neg]
  · rw [List.any_eq_true]
    rintro ⟨x, hx, h2⟩
    obtain ⟨y, hy, h2⟩ := List.any_eq_true.1 h2
    obtain ⟨i, hi, rfl⟩ := List.mem_iff_getElem.1 hx
    obtain ⟨j, hj, rfl⟩ := List.mem_iff_getElem.1 hy
    rw [h i j hi hj] at h2
    cases h2
  · rw [List.any_eq_true]
    rintro ⟨x, hx, h2⟩
    obtain ⟨j, hj, rfl⟩ := List.mem_iff_getElem.1 hx
    simp [hr j hj] at h2
theorem conf_tri {c : Cfg} {s : Sta} {w : List Int} (h : ∀ i j (hi : i < w.length) (hj : j < i), conf c s w[i] (w[j]'(by omega)) = false) : ∀ i j (hi : i < w.length) (hj : j < w.length), conf c s w[i] w[j] = false := fun i j hi hj => by
  rcases Nat.lt_trichotomy i j with h1 | h1 | h1
  · rw [conf_comm]
    exact h j i hj h1
  · subst h1
    exact conf_self ..
  · exact h i j hi h1
theorem headD_get {w : List Int} (h : 0 < w.length) : w[0] = w.headD 0 := by
  cases w with
  | nil => simp at h
  | cons a w => rfl
set_option maxHeartbeats 4000000 in
theorem pairs_z (c : Cfg) (a : CAd) (s : Sta) (b : SAd) (A : Option Addr) (l : List Int) (cap : Nat) (r : World) (F : List Res) (w : World) (hS : Sep r [] F w) (hr : CfR r F c a) (ho : c.ok) (hs : s.ok c) (hq : StC r F s c b) (hrd : Reads r F 1 (.slice A l.length cap) (l.map ztC)) (hl : l.length ≤ 100000) :
    Calls Tryz.prog 44 #[c.val a, s.vc c b, .slice A l.length cap] w fun e w' => e = .returned (.int .i64 (wrongP c s l)) ∧ Sep r [] F w' := by
  have hcap : l.length ≤ cap := by
    obtain ⟨_, _, hv, hc⟩ := (hrd [] w hS).mform
    injection hv with _ _ h3
    omega
  refine Z.enter Tryz.func44 Tryz.ntmps44 rfl rfl ?_
  repeat' (first|refine K ?_|(refine Sh.sa hS ?_;clear hS;intro w hS)|(refine K3 ?_;clear hS;intro g w hS hge)|((first|refine GS ?_ ?_|refine VB ?_ ?_)<;>intro hb<;>(try simp only [J1,J2,J3,J4,J5,J6] at hb)<;>(try (exfalso;first|omega|exact hb trivial))))
  rename_i gc _ _
  rename Nat => gs
  refine Z.lpS [6, 8, 15, 16, 17, 18, 19, 20, 21, 22, 23, 24, 25, 26, 27, 28] (fun m w z => ∃ i : Nat, z = [(15, .int .i64 i)] ∧ i ≤ l.length ∧ (∀ j (hj : j < l.length), j < i → regOf c l[j] = regOf c (l.headD 0)) ∧ m = l.length - i ∧ Sep r [] (.blk gs 34 (s.cc c b) :: .blk gc 30 (c.cl a) :: F) w) _ [(15, .int .i64 (0 : Nat))] (by repeat (first | exact trivial | refine ⟨rfl, ?_⟩)) ⟨0, rfl, by omega, fun j _ h => absurd h (by omega), rfl, hS.sb⟩ ?_
  clear hS
  rintro m f0 w _ ⟨i, rfl, hi, hall, rfl, hS⟩
  by_cases hlt : i < l.length
  · have h00 : 0 < l.length := by omega
    obtain ⟨gb, o, hAe, hra⟩ := int_get hrd [_, _] hS hlt
    subst hAe
    have hra0 : ∀ X, Sep r [] (.blk gs 34 (s.cc c b) :: .blk gc 30 (c.cl a) :: F) X → X.rangeAt gb (o + 0 * 1) (ztC (l.headD 0)) := fun X h => by rw [← headD_get h00]; exact int_geta hrd [_, _] h rfl h00
    have hbad := wrongP_reg (c := c) (s := s) hlt
    have hnx : regOf c l[i] = regOf c (l.headD 0) → ∀ j (hj : j < l.length), j < i + 1 → regOf c l[j] = regOf c (l.headD 0) := fun h j hj hji => by
      rcases Nat.lt_or_ge j i with h3 | h3
      · exact hall j hj h3
      · have : j = i := by omega
        subst this
        exact h
    generalize l[i] = x at *
    repeat' (first|refine K ?_|(refine Sh.sa hS ?_;clear hS;intro w hS)|(refine K3 ?_;clear hS;intro g w hS hge)|((first|refine GS ?_ ?_|refine VB ?_ ?_)<;>intro hb<;>(try simp only [J1,J2,J3,J4,J5,J6] at hb)<;>(try (exfalso;first|omega|exact hb trivial))))
    clear hra
    refine D.startS hS 9 9 (by kernel_rfl) rfl ?_
    replace hS := hS.drew
    refine Sh.dp 1 2 ?_
    refine Sh.dp 4 18 ?_
    first | refine D.ixn 5 50 rfl D.wantedN (by kernel_rfl) rfl rfl rfl (by omega) ?_ | refine D.ix 5 50 rfl D.wantedN (by kernel_rfl) rfl rfl rfl (by omega) ?_ | refine D.ia 5 50 rfl D.wantedN (by kernel_rfl) rfl rfl rfl (by omega) ?_
    refine Sh.dl 0 51 ?_
    refine Sh.dl 3 59 ?_
    refine D.ldR 6 123 rfl D.wantedN (by kernel_rfl) rfl hra0 rfl ?_
    refine D.eff 2 127 rfl D.wantedN (by kernel_rfl) (by kernel_rfl) (fun _ _ h => h) ?_
    refine Z.cl (pregion_z c a x _ _ _ hS (hr.app [_, _]) ho) rfl ?_
    clear hS
    rintro e w ⟨rfl, hS⟩
    refine ⟨_, rfl, ?_⟩
    refine ⟨HM.s (hS.sb), ?_⟩
    refine D.eff 7 255 rfl D.wantedN (by kernel_rfl) (by kernel_rfl) (fun _ _ h => h) ?_
    refine Z.cl (pregion_z c a (l.headD 0) _ _ _ hS (hr.app [_, _]) ho) rfl ?_
    clear hS
    rintro e w ⟨rfl, hS⟩
    refine ⟨_, rfl, ?_⟩
    refine ⟨HM.s (hS.sb), ?_⟩
    first | refine D.pr 8 511 rfl D.wantedN (by kernel_rfl) rfl ?_ | refine D.pl 8 511 rfl D.wantedN (by kernel_rfl) (R.nea rfl rfl rfl rfl) ?_
    refine D.done (by kernel_rfl) ?_
    repeat' (first|refine K ?_|(refine Sh.sa hS ?_;clear hS;intro w hS)|(refine K3 ?_;clear hS;intro g w hS hge)|((first|refine GS ?_ ?_|refine VB ?_ ?_)<;>intro hb<;>(try simp only [J1,J2,J3,J4,J5,J6] at hb)<;>(try (exfalso;first|omega|exact hb trivial))))
    · refine Dnt Tryz.results44 ?_
      rw [hbad (by first | exact hb | omega)]
      exact ⟨rfl, hS.sb⟩
    · refine Sh.again (l.length - (i + 1)) [(15, .int .i64 (i + 1 : Nat))] ?_
      exact ⟨i + 1, rfl, by omega, hnx (by first | exact hb | omega), rfl, hS⟩
  have hreg : ∀ j (hj : j < l.length), regOf c l[j] = regOf c (l.headD 0) := fun j hj => hall j hj (by omega)
  repeat' (first|refine K ?_|(refine Sh.sa hS ?_;clear hS;intro w hS)|(refine K3 ?_;clear hS;intro g w hS hge)|((first|refine GS ?_ ?_|refine VB ?_ ?_)<;>intro hb<;>(try simp only [J1,J2,J3,J4,J5,J6] at hb)<;>(try (exfalso;first|omega|exact hb trivial))))
  clear hall hi hlt hb
  refine Z.lpS [6, 9, 10, 12, 31, 32, 33, 34, 35, 36, 37, 38, 39, 40, 41, 42, 43, 44, 45, 46, 47, 48, 49, 50] (fun m w z => ∃ i : Nat, z = [(31, .int .i64 i)] ∧ i ≤ l.length ∧ (∀ p q (hp : p < l.length) (hq : q < p), p < i → conf c s l[p] (l[q]'(by omega)) = false) ∧ m = l.length - i ∧ Sep r [] (.blk gs 34 (s.cc c b) :: .blk gc 30 (c.cl a) :: F) w) _ [(31, .int .i64 (0 : Nat))] (by repeat (first | exact trivial | refine ⟨rfl, ?_⟩)) ⟨0, rfl, by omega, fun p q _ _ h => absurd h (by omega), rfl, hS.sb⟩ ?_
  clear hS
  rintro m f0 w _ ⟨i, rfl, hi, hall, rfl, hS⟩
  by_cases hlt : i < l.length
  · obtain ⟨gb, o, hAe, hra⟩ := int_get hrd [_, _] hS hlt
    subst hAe
    repeat' (first|refine K ?_|(refine Sh.sa hS ?_;clear hS;intro w hS)|(refine K3 ?_;clear hS;intro g w hS hge)|((first|refine GS ?_ ?_|refine VB ?_ ?_)<;>intro hb<;>(try simp only [J1,J2,J3,J4,J5,J6] at hb)<;>(try (exfalso;first|omega|exact hb trivial))))
    clear hra
    refine Z.lpS [6, 12, 40, 41, 42, 43, 44, 45, 46, 47, 48, 49] (fun m w z => ∃ j : Nat, z = [(40, .int .i64 j)] ∧ j ≤ i ∧ (∀ q (hq : q < j) (hqi : q < i), conf c s l[i] (l[q]'(by omega)) = false) ∧ m = i - j ∧ Sep r [] (.blk gs 34 (s.cc c b) :: .blk gc 30 (c.cl a) :: F) w) _ [(40, .int .i64 (0 : Nat))] (by repeat (first | exact trivial | refine ⟨rfl, ?_⟩)) ⟨0, rfl, by omega, fun q h => absurd h (by omega), rfl, hS.sb⟩ ?_
    clear hS
    rintro m f1 w _ ⟨j, rfl, hj, hno, rfl, hS⟩
    by_cases hjl : j < i
    · have hjl2 : j < l.length := by omega
      have hra := int_geta hrd [_, _] hS rfl hjl2
      have hbad := wrongP_conf (s := s) hreg hlt hjl2
      have hnx : conf c s l[i] l[j] = false → ∀ q (hq : q < j + 1) (hqi : q < i), conf c s l[i] (l[q]'(by omega)) = false := fun h q hq hqi => by
        rcases Nat.lt_or_ge q j with h3 | h3
        · exact hno q h3 hqi
        · have : q = j := by omega
          subst this
          exact h
      repeat' (first|refine K ?_|(refine Sh.sa hS ?_;clear hS;intro w hS)|(refine K3 ?_;clear hS;intro g w hS hge)|((first|refine GS ?_ ?_|refine VB ?_ ?_)<;>intro hb<;>(try simp only [J1,J2,J3,J4,J5,J6] at hb)<;>(try (exfalso;first|omega|exact hb trivial))))
      refine Z.eff (Z.cl (pconf_z c a s b l[i] l[j] _ _ _ hS ho hs (hq.app [_, _])) rfl ?_) rfl
      clear hS
      rintro e w ⟨rfl, hS⟩
      refine ⟨_, rfl, ?_⟩
      cases hcf : conf c s l[i] l[j]
      · repeat' (first|refine K ?_|(refine Sh.sa hS ?_;clear hS;intro w hS)|(refine K3 ?_;clear hS;intro g w hS hge)|((first|refine GS ?_ ?_|refine VB ?_ ?_)<;>intro hb<;>(try simp only [J1,J2,J3,J4,J5,J6] at hb)<;>(try (exfalso;first|omega|exact hb trivial))))
        refine Sh.again (i - (j + 1)) [(40, .int .i64 (j + 1 : Nat))] ?_
        exact ⟨j + 1, rfl, by omega, hnx hcf, rfl, hS⟩
      · repeat' (first|refine K ?_|(refine Sh.sa hS ?_;clear hS;intro w hS)|(refine K3 ?_;clear hS;intro g w hS hge)|((first|refine GS ?_ ?_|refine VB ?_ ?_)<;>intro hb<;>(try simp only [J1,J2,J3,J4,J5,J6] at hb)<;>(try (exfalso;first|omega|exact hb trivial))))
        refine Dnt Tryz.results44 ?_
        rw [hbad hcf]
        exact ⟨rfl, hS.sb⟩
    · repeat' (first|refine K ?_|(refine Sh.sa hS ?_;clear hS;intro w hS)|(refine K3 ?_;clear hS;intro g w hS hge)|((first|refine GS ?_ ?_|refine VB ?_ ?_)<;>intro hb<;>(try simp only [J1,J2,J3,J4,J5,J6] at hb)<;>(try (exfalso;first|omega|exact hb trivial))))
      refine Sh.again (l.length - (i + 1)) [(31, .int .i64 (i + 1 : Nat))] ?_
      refine ⟨i + 1, rfl, by omega, fun p q hp hq hpi => ?_, rfl, hS⟩
      rcases Nat.lt_or_ge p i with h3 | h3
      · exact hall p q hp hq h3
      · have : p = i := by omega
        subst this
        exact hno q (by omega) hq
  · repeat' (first|refine K ?_|(refine Sh.sa hS ?_;clear hS;intro w hS)|(refine K3 ?_;clear hS;intro g w hS hge)|((first|refine GS ?_ ?_|refine VB ?_ ?_)<;>intro hb<;>(try simp only [J1,J2,J3,J4,J5,J6] at hb)<;>(try (exfalso;first|omega|exact hb trivial))))
    refine Dnt Tryz.results44 ?_
    rw [wrongP_zero hreg (conf_tri fun p q hp hq => hall p q hp hq (by omega))]
    exact ⟨rfl, hS.sb⟩
set_option maxHeartbeats 8000000 in
theorem wrong_z (c : Cfg) (a : CAd) (s : Sta) (b : SAd) (A : Option Addr) (l : List Int) (cap : Nat) (A2 : Option Addr) (l2 : List Int) (cap2 : Nat) (first : Bool) (r : World) (F : List Res) (w : World) (hS : Sep r [] F w) (hr : CfR r F c a) (ho : c.ok) (hs : s.ok c) (hq : StC r F s c b) (hrd : Reads r F 1 (.slice A l.length cap) (l.map ztC)) (hl : l.length ≤ 100000) (hrd2 : Reads r F 1 (.slice A2 l2.length cap2) (l2.map ztC)) (hl2 : l2.length ≤ 100000) :
    Calls Tryz.prog 45 #[c.val a, s.vc c b, .slice A l.length cap, .slice A2 l2.length cap2, .bool first] w fun e w' => e = .returned (.int .i64 (wrongB c s l l2 first)) ∧ Sep r [] F w' := by
  have hcap : l.length ≤ cap := by
    obtain ⟨_, _, hv, hc⟩ := (hrd [] w hS).mform
    injection hv with _ _ h3
    omega
  have hbl := ho.b
  refine Z.enter Tryz.func45 Tryz.ntmps45 rfl rfl ?_
  repeat' (first|refine K ?_|(refine Sh.sa hS ?_;clear hS;intro w hS)|(refine K3 ?_;clear hS;intro g w hS hge)|((first|refine GS ?_ ?_|refine VB ?_ ?_)<;>intro hb<;>(try simp only [J1,J2,J3,J4,J5,J6] at hb)<;>(try (exfalso;first|omega|exact hb trivial))))
  · refine Dnt Tryz.results45 ?_
    have : l = [] := List.eq_nil_of_length_eq_zero (by omega)
    subst this
    exact ⟨rfl, hS.sb⟩
  have hne : l ≠ [] := by rintro rfl; exact hb rfl
  rename_i gc _ _
  rename Nat => gs
  refine Z.lpS [10, 11, 12, 24, 25, 26, 27, 28, 29, 30, 31, 32, 33, 34, 35, 36, 37, 38, 39, 40, 41, 42, 43, 44, 45] (fun m w z => ∃ i : Nat, z = [(24, .int .i64 i)] ∧ i ≤ l.length ∧ (∀ j (hj : j < l.length), j < i → inC c l[j] = true ∧ l[j] ∉ l2 ∧ l[j] ∉ l.take j) ∧ m = l.length - i ∧ Sep r [] (.blk gs 34 (s.cc c b) :: .blk gc 30 (c.cl a) :: F) w) _ [(24, .int .i64 (0 : Nat))] (by repeat (first | exact trivial | refine ⟨rfl, ?_⟩)) ⟨0, rfl, by omega, fun j _ h => absurd h (by omega), rfl, hS.sb⟩ ?_
  clear hS
  rintro m f0 w _ ⟨i, rfl, hi, hall, rfl, hS⟩
  by_cases hlt : i < l.length
  · obtain ⟨gb, o, hAe, hra⟩ := int_get hrd [_, _] hS hlt
    subst hAe
    have hbad := wrongB_bad (c := c) (s := s) (ahead := l2) (first := first) hlt
    have hnx : inC c l[i] = true → l[i] ∉ l2 → l[i] ∉ l.take i → ∀ j (hj : j < l.length), j < i + 1 → inC c l[j] = true ∧ l[j] ∉ l2 ∧ l[j] ∉ l.take j := fun h1 h2 h3 j hj hji => by
      rcases Nat.lt_or_ge j i with h4 | h4
      · exact hall j hj h4
      · have : j = i := by omega
        subst this
        exact ⟨h1, h2, h3⟩
    have htl : (l.take i).length = i := by simp; omega
    have hrt : Reads r F 1 (.slice (some ⟨gb, o, none⟩) (l.take i).length cap) ((l.take i).map ztC) := fun L w h => by rw [htl]; exact (hrd L w h).mtake (by omega)
    generalize l[i] = x at *
    repeat' (first|refine K ?_|(refine Sh.sa hS ?_;clear hS;intro w hS)|(refine K3 ?_;clear hS;intro g w hS hge)|((first|refine GS ?_ ?_|refine VB ?_ ?_)<;>intro hb<;>(try simp only [J1,J2,J3,J4,J5,J6] at hb)<;>(try (exfalso;first|omega|exact hb trivial))))
    refine Z.eff (Z.cl (rexists_z c a x _ _ _ hS ho) rfl ?_) rfl
    clear hS
    rintro e w ⟨rfl, hS⟩
    refine ⟨_, rfl, ?_⟩
    cases hic : inC c x
    · repeat' (first|refine K ?_|(refine Sh.sa hS ?_;clear hS;intro w hS)|(refine K3 ?_;clear hS;intro g w hS hge)|((first|refine GS ?_ ?_|refine VB ?_ ?_)<;>intro hb<;>(try simp only [J1,J2,J3,J4,J5,J6] at hb)<;>(try (exfalso;first|omega|exact hb trivial))))
      refine Dnt Tryz.results45 ?_
      rw [hbad (.inl hic)]
      exact ⟨rfl, hS.sb⟩
    · repeat' (first|refine K ?_|(refine Sh.sa hS ?_;clear hS;intro w hS)|(refine K3 ?_;clear hS;intro g w hS hge)|((first|refine GS ?_ ?_|refine VB ?_ ?_)<;>intro hb<;>(try simp only [J1,J2,J3,J4,J5,J6] at hb)<;>(try (exfalso;first|omega|exact hb trivial))))
      have hcz := count37_z _ (l.take i) cap x _ _ _ hS (hrt.app [_, _]) (by omega)
      rw [htl] at hcz
      refine Z.eff (Z.cl (hcz) rfl ?_) rfl
      clear hS
      rintro e w ⟨rfl, hS⟩
      refine ⟨_, rfl, ?_⟩
      clear hcz
      repeat' (first|refine K ?_|(refine Sh.sa hS ?_;clear hS;intro w hS)|(refine K3 ?_;clear hS;intro g w hS hge)|((first|refine GS ?_ ?_|refine VB ?_ ?_)<;>intro hb<;>(try simp only [J1,J2,J3,J4,J5,J6] at hb)<;>(try (exfalso;first|omega|exact hb trivial))))
      refine Z.eff (Z.cl (count37_z A2 l2 cap2 x _ _ _ hS (hrd2.app [_, _]) (by omega)) rfl ?_) rfl
      clear hS
      rintro e w ⟨rfl, hS⟩
      refine ⟨_, rfl, ?_⟩
      have hc1 : (l.take i).count x ≤ 100000 := Nat.le_trans List.count_le_length (by omega)
      have hc2 : l2.count x ≤ 100000 := Nat.le_trans List.count_le_length (by omega)
      repeat' (first|refine K ?_|(refine Sh.sa hS ?_;clear hS;intro w hS)|(refine K3 ?_;clear hS;intro g w hS hge)|((first|refine GS ?_ ?_|refine VB ?_ ?_)<;>intro hb<;>(try simp only [J1,J2,J3,J4,J5,J6] at hb)<;>(try (exfalso;first|omega|exact hb trivial))))
      · refine Dnt Tryz.results45 ?_
        rw [hbad (by
          by_cases h1 : x ∈ l2
          · exact .inr (.inl h1)
          · refine .inr (.inr (List.count_pos_iff.1 ?_))
            have := List.count_eq_zero.2 h1
            omega)]
        exact ⟨rfl, hS.sb⟩
      · refine Sh.again (l.length - (i + 1)) [(24, .int .i64 (i + 1 : Nat))] ?_
        exact ⟨i + 1, rfl, by omega, hnx hic (List.count_eq_zero.1 (by omega)) (List.count_eq_zero.1 (by omega)), rfl, hS⟩
  have hwp : wrongB c s l l2 first = wrongR c s l first := wrongB_pass hne fun j hj => hall j hj (by omega)
  rw [hwp]
  clear hwp hrd2 hl2
  have hbig : ¬ (c.blast < (l.length : Int) ∨ first = true ∧ 1 < l.length) → wrongR c s l first = wrongP c s l := fun h => by
    unfold wrongR
    rw [if_neg]
    simpa using h
  have hbig2 : (c.blast < (l.length : Int) ∨ first = true ∧ 1 < l.length) → wrongR c s l first = 14 := fun h => by
    unfold wrongR
    rw [if_pos]
    simpa using h
  clear hall hi
  by_cases hB : c.blast < (l.length : Int) ∨ first = true ∧ 1 < l.length
  · rw [hbig2 hB]
    repeat' (first|refine K ?_|(refine Sh.sa hS ?_;clear hS;intro w hS)|(refine K3 ?_;clear hS;intro g w hS hge)|((first|refine GS ?_ ?_|refine VB ?_ ?_)<;>intro hb<;>(try simp only [J1,J2,J3,J4,J5,J6] at hb)<;>(try (exfalso;first|omega|exact hb trivial))))
    · refine Dnt Tryz.results45 ?_
      exact ⟨rfl, hS.sb⟩
    · refine Dnt Tryz.results45 ?_
      exact ⟨rfl, hS.sb⟩
    · exfalso
      rcases hB with h | ⟨h, _⟩
      · omega
      · simp [h] at hb
  rw [hbig hB]
  repeat' (first|refine K ?_|(refine Sh.sa hS ?_;clear hS;intro w hS)|(refine K3 ?_;clear hS;intro g w hS hge)|((first|refine GS ?_ ?_|refine VB ?_ ?_)<;>intro hb<;>(try simp only [J1,J2,J3,J4,J5,J6] at hb)<;>(try (exfalso;first|omega|exact hb trivial))))
  · exact absurd (.inr ⟨by assumption, by omega⟩) hB
  all_goals
    clear hb hlt hbig hbig2 hB
    refine Z.lpS [10, 14, 61, 62, 63, 64, 65, 66, 67, 68, 69, 70, 71, 72, 73, 74] (fun m w z => ∃ i : Nat, z = [(61, .int .i64 i)] ∧ i ≤ l.length ∧ (∀ j (hj : j < l.length), j < i → regOf c l[j] = regOf c (l.headD 0)) ∧ m = l.length - i ∧ Sep r [] (.blk gs 34 (s.cc c b) :: .blk gc 30 (c.cl a) :: F) w) _ [(61, .int .i64 (0 : Nat))] (by repeat (first | exact trivial | refine ⟨rfl, ?_⟩)) ⟨0, rfl, by omega, fun j _ h => absurd h (by omega), rfl, hS.sb⟩ ?_
    clear hS
    rintro m f0 w _ ⟨i, rfl, hi, hall, rfl, hS⟩
    by_cases hlt : i < l.length
    · have h00 : 0 < l.length := by omega
      obtain ⟨gb, o, hAe, hra⟩ := int_get hrd [_, _] hS hlt
      subst hAe
      have hra0 : ∀ X, Sep r [] (.blk gs 34 (s.cc c b) :: .blk gc 30 (c.cl a) :: F) X → X.rangeAt gb (o + 0 * 1) (ztC (l.headD 0)) := fun X h => by rw [← headD_get h00]; exact int_geta hrd [_, _] h rfl h00
      have hbad := wrongP_reg (c := c) (s := s) hlt
      have hnx : regOf c l[i] = regOf c (l.headD 0) → ∀ j (hj : j < l.length), j < i + 1 → regOf c l[j] = regOf c (l.headD 0) := fun h j hj hji => by
        rcases Nat.lt_or_ge j i with h3 | h3
        · exact hall j hj h3
        · have : j = i := by omega
          subst this
          exact h
      generalize l[i] = x at *
      repeat' (first|refine K ?_|(refine Sh.sa hS ?_;clear hS;intro w hS)|(refine K3 ?_;clear hS;intro g w hS hge)|((first|refine GS ?_ ?_|refine VB ?_ ?_)<;>intro hb<;>(try simp only [J1,J2,J3,J4,J5,J6] at hb)<;>(try (exfalso;first|omega|exact hb trivial))))
      clear hra
      refine D.startS hS 9 9 (by kernel_rfl) rfl ?_
      replace hS := hS.drew
      refine Sh.dp 1 2 ?_
      refine Sh.dp 4 18 ?_
      first | refine D.ixn 5 50 rfl D.wantedN (by kernel_rfl) rfl rfl rfl (by omega) ?_ | refine D.ix 5 50 rfl D.wantedN (by kernel_rfl) rfl rfl rfl (by omega) ?_ | refine D.ia 5 50 rfl D.wantedN (by kernel_rfl) rfl rfl rfl (by omega) ?_
      refine Sh.dl 0 51 ?_
      refine Sh.dl 3 59 ?_
      refine D.ldR 6 123 rfl D.wantedN (by kernel_rfl) rfl hra0 rfl ?_
      refine D.eff 2 127 rfl D.wantedN (by kernel_rfl) (by kernel_rfl) (fun _ _ h => h) ?_
      refine Z.cl (rregion_z c a x _ _ _ hS (hr.app [_, _]) ho) rfl ?_
      clear hS
      rintro e w ⟨rfl, hS⟩
      refine ⟨_, rfl, ?_⟩
      refine ⟨HM.s (hS.sb), ?_⟩
      refine D.eff 7 255 rfl D.wantedN (by kernel_rfl) (by kernel_rfl) (fun _ _ h => h) ?_
      refine Z.cl (rregion_z c a (l.headD 0) _ _ _ hS (hr.app [_, _]) ho) rfl ?_
      clear hS
      rintro e w ⟨rfl, hS⟩
      refine ⟨_, rfl, ?_⟩
      refine ⟨HM.s (hS.sb), ?_⟩
      first | refine D.pr 8 511 rfl D.wantedN (by kernel_rfl) rfl ?_ | refine D.pl 8 511 rfl D.wantedN (by kernel_rfl) (R.nea rfl rfl rfl rfl) ?_
      refine D.done (by kernel_rfl) ?_
      repeat' (first|refine K ?_|(refine Sh.sa hS ?_;clear hS;intro w hS)|(refine K3 ?_;clear hS;intro g w hS hge)|((first|refine GS ?_ ?_|refine VB ?_ ?_)<;>intro hb<;>(try simp only [J1,J2,J3,J4,J5,J6] at hb)<;>(try (exfalso;first|omega|exact hb trivial))))
      · refine Dnt Tryz.results45 ?_
        rw [hbad (by first | exact hb | omega)]
        exact ⟨rfl, hS.sb⟩
      · refine Sh.again (l.length - (i + 1)) [(61, .int .i64 (i + 1 : Nat))] ?_
        exact ⟨i + 1, rfl, by omega, hnx (by first | exact hb | omega), rfl, hS⟩
    have hreg : ∀ j (hj : j < l.length), regOf c l[j] = regOf c (l.headD 0) := fun j hj => hall j hj (by omega)
    repeat' (first|refine K ?_|(refine Sh.sa hS ?_;clear hS;intro w hS)|(refine K3 ?_;clear hS;intro g w hS hge)|((first|refine GS ?_ ?_|refine VB ?_ ?_)<;>intro hb<;>(try simp only [J1,J2,J3,J4,J5,J6] at hb)<;>(try (exfalso;first|omega|exact hb trivial))))
    clear hall hi hlt hb
    refine Z.lpS [10, 16, 18, 77, 78, 79, 80, 81, 82, 83, 84, 85, 86, 87, 88, 89, 90, 91, 92, 93] (fun m w z => ∃ i : Nat, z = [(77, .int .i64 i)] ∧ i ≤ l.length ∧ (∀ p q (hp : p < l.length) (hq : q < l.length), p < i → conf c s l[p] l[q] = false) ∧ m = l.length - i ∧ Sep r [] (.blk gs 34 (s.cc c b) :: .blk gc 30 (c.cl a) :: F) w) _ [(77, .int .i64 (0 : Nat))] (by repeat (first | exact trivial | refine ⟨rfl, ?_⟩)) ⟨0, rfl, by omega, fun p q _ _ h => absurd h (by omega), rfl, hS.sb⟩ ?_
    clear hS
    rintro m f0 w _ ⟨i, rfl, hi, hall, rfl, hS⟩
    by_cases hlt : i < l.length
    · obtain ⟨gb, o, hAe, hra⟩ := int_get hrd [_, _] hS hlt
      subst hAe
      repeat' (first|refine K ?_|(refine Sh.sa hS ?_;clear hS;intro w hS)|(refine K3 ?_;clear hS;intro g w hS hge)|((first|refine GS ?_ ?_|refine VB ?_ ?_)<;>intro hb<;>(try simp only [J1,J2,J3,J4,J5,J6] at hb)<;>(try (exfalso;first|omega|exact hb trivial))))
      clear hra
      refine Z.lpS [10, 18, 83, 84, 85, 86, 87, 88, 89, 90, 91, 92] (fun m w z => ∃ j : Nat, z = [(83, .int .i64 j)] ∧ j ≤ l.length ∧ (∀ q (hq : q < l.length), q < j → conf c s l[i] l[q] = false) ∧ m = l.length - j ∧ Sep r [] (.blk gs 34 (s.cc c b) :: .blk gc 30 (c.cl a) :: F) w) _ [(83, .int .i64 (0 : Nat))] (by repeat (first | exact trivial | refine ⟨rfl, ?_⟩)) ⟨0, rfl, by omega, fun q _ h => absurd h (by omega), rfl, hS.sb⟩ ?_
      clear hS
      rintro m f1 w _ ⟨j, rfl, hj, hno, rfl, hS⟩
      by_cases hjl : j < l.length
      · have hra := int_geta hrd [_, _] hS rfl hjl
        have hbad := wrongP_conf (s := s) hreg hlt hjl
        have hnx : conf c s l[i] l[j] = false → ∀ q (hq : q < l.length), q < j + 1 → conf c s l[i] l[q] = false := fun h q hq hqj => by
          rcases Nat.lt_or_ge q j with h3 | h3
          · exact hno q hq h3
          · have : q = j := by omega
            subst this
            exact h
        repeat' (first|refine K ?_|(refine Sh.sa hS ?_;clear hS;intro w hS)|(refine K3 ?_;clear hS;intro g w hS hge)|((first|refine GS ?_ ?_|refine VB ?_ ?_)<;>intro hb<;>(try simp only [J1,J2,J3,J4,J5,J6] at hb)<;>(try (exfalso;first|omega|exact hb trivial))))
        refine Z.eff (Z.cl (rconf_z c a s b l[i] l[j] _ _ _ hS ho hs (hq.app [_, _])) rfl ?_) rfl
        clear hS
        rintro e w ⟨rfl, hS⟩
        refine ⟨_, rfl, ?_⟩
        cases hcf : conf c s l[i] l[j]
        · repeat' (first|refine K ?_|(refine Sh.sa hS ?_;clear hS;intro w hS)|(refine K3 ?_;clear hS;intro g w hS hge)|((first|refine GS ?_ ?_|refine VB ?_ ?_)<;>intro hb<;>(try simp only [J1,J2,J3,J4,J5,J6] at hb)<;>(try (exfalso;first|omega|exact hb trivial))))
          refine Sh.again (l.length - (j + 1)) [(83, .int .i64 (j + 1 : Nat))] ?_
          exact ⟨j + 1, rfl, by omega, hnx hcf, rfl, hS⟩
        · repeat' (first|refine K ?_|(refine Sh.sa hS ?_;clear hS;intro w hS)|(refine K3 ?_;clear hS;intro g w hS hge)|((first|refine GS ?_ ?_|refine VB ?_ ?_)<;>intro hb<;>(try simp only [J1,J2,J3,J4,J5,J6] at hb)<;>(try (exfalso;first|omega|exact hb trivial))))
          refine Dnt Tryz.results45 ?_
          rw [hbad hcf]
          exact ⟨rfl, hS.sb⟩
      · repeat' (first|refine K ?_|(refine Sh.sa hS ?_;clear hS;intro w hS)|(refine K3 ?_;clear hS;intro g w hS hge)|((first|refine GS ?_ ?_|refine VB ?_ ?_)<;>intro hb<;>(try simp only [J1,J2,J3,J4,J5,J6] at hb)<;>(try (exfalso;first|omega|exact hb trivial))))
        refine Sh.again (l.length - (i + 1)) [(77, .int .i64 (i + 1 : Nat))] ?_
        refine ⟨i + 1, rfl, by omega, fun p q hp hq hpi => ?_, rfl, hS⟩
        rcases Nat.lt_or_ge p i with h3 | h3
        · exact hall p q hp hq h3
        · have : p = i := by omega
          subst this
          exact hno q hq (by omega)
    · repeat' (first|refine K ?_|(refine Sh.sa hS ?_;clear hS;intro w hS)|(refine K3 ?_;clear hS;intro g w hS hge)|((first|refine GS ?_ ?_|refine VB ?_ ?_)<;>intro hb<;>(try simp only [J1,J2,J3,J4,J5,J6] at hb)<;>(try (exfalso;first|omega|exact hb trivial))))
      refine Dnt Tryz.results45 ?_
      rw [wrongP_zero hreg fun p q hp hq => hall p q hp hq (by omega)]
      exact ⟨rfl, hS.sb⟩
end Go.Proofs.YtmgpionlfemhdaaGreat
