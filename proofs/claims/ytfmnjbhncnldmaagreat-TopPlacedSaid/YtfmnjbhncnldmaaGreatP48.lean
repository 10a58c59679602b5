import Derived.Test.YtfmnjbhncnldmaaGreatP45
import Derived.Test.YtfmnjbhncnldmaaGreatP47
set_option linter.unusedSimpArgs false
set_option linter.unusedVariables false
namespace Go.Proofs.YtfmnjbhncnldmaaGreat
open Go.RowKit
attribute [local irreducible] Res.blk Res.sl Res.all Res.ex Res.pure Res.star
theorem tlight_z (A : Option Addr) (n cap : Nat) (r : World) (F : List Res) (w : World) (hS : Sep r [] F w) :
    Calls Tryz.prog 17 #[.slice A n cap] w fun e w' => e = .returned (.bool (decide ((n : Int) ≤ 200))) ∧ Sep r [] F w' := by
  refine Z.enter Tryz.func17 Tryz.ntmps17 rfl rfl ?_
  repeat' (first|refine K ?_|(refine Sh.sa hS ?_;clear hS;intro w hS)|(refine K3 ?_;clear hS;intro g w hS hge)|(refine KB ?_ ?_<;>intro hb<;>(try simp only [JJ] at hb)<;>(try exact JX))|fail)
  refine Dnt Tryz.results17 ?_
  exact ⟨rfl, hS⟩
theorem pow_7 {k : Nat} (h : k ≤ 7) : 1 ≤ IntKind.i64.wrap (1 * 2 ^ min (IntKind.u64.wrap (k : Int)).toNat IntKind.i64.bits) ∧ IntKind.i64.wrap (1 * 2 ^ min (IntKind.u64.wrap (k : Int)).toNat IntKind.i64.bits) ≤ 128 := by
  rcases (by omega : k = 0 ∨ k = 1 ∨ k = 2 ∨ k = 3 ∨ k = 4 ∨ k = 5 ∨ k = 6 ∨ k = 7) with rfl | rfl | rfl | rfl | rfl | rfl | rfl | rfl <;> decide
def sgN (c : Cfg) (ps : List (Int × Int)) (g : Int) (t : Nat) : Bool := (List.range t).any fun q => decide (regOf c (ps.getD q (0, 0)).1 = g) && sgC c q
theorem sgN_succ {c : Cfg} {ps : List (Int × Int)} {g : Int} {t : Nat} (h : t < ps.length) : sgN c ps g (t + 1) = (sgN c ps g t || (decide (regOf c ps[t].1 = g) && sgC c t)) := by
  unfold sgN
  rw [List.range_succ, List.any_append]
  simp [List.getD_eq_getElem?_getD, h]
theorem sgN_iff {c : Cfg} {ps : List (Int × Int)} {g : Int} : sgN c ps g ps.length = true ↔ ∃ i, ∃ h : i < ps.length, regOf c ps[i].1 = g ∧ sgC c i = true := by
  unfold sgN
  rw [List.any_eq_true]
  constructor
  · rintro ⟨q, hq, h⟩
    have h1 := List.mem_range.1 hq
    simp only [Bool.and_eq_true, decide_eq_true_eq, List.getD_eq_getElem?_getD, List.getElem?_eq_getElem h1, Option.getD_some] at h
    exact ⟨q, h1, h⟩
  · rintro ⟨q, h1, h⟩
    refine ⟨q, List.mem_range.2 h1, ?_⟩
    simp only [Bool.and_eq_true, decide_eq_true_eq, List.getD_eq_getElem?_getD, List.getElem?_eq_getElem h1, Option.getD_some]
    exact h
theorem vN_take (l : List Nat) (k : Nat) : (vN l).take k = vN (l.take k) := by simp [vN]
theorem vN_drop (l : List Nat) (k : Nat) : (vN l).drop k = vN (l.drop k) := by simp [vN]
set_option maxHeartbeats 16000000 in
theorem topPlaced_z (l : List Int) (A : Option Addr) (cap : Nat) (l2 : List Int) (A2 : Option Addr) (cap2 : Nat) (r : World) (hr : Rows' r 1 (.slice A l.length cap) (l.map ztC)) (hr2 : Rows' r 1 (.slice A2 l2.length cap2) (l2.map ztC)) :
    Calls Tryz.prog 6 #[.slice A l.length cap, .slice A2 l2.length cap2] r fun e w' => e = .returned (.bool true) ∧ Chg [] r w' := by
  have hS := Sep.root r
  have hrd : Reads r [] 1 (.slice A l.length cap) (l.map ztC) := Reads.root hr
  have hrd2 : Reads r [] 1 (.slice A2 l2.length cap2) (l2.map ztC) := Reads.root hr2
  refine Z.enter Tryz.func6 Tryz.ntmps6 rfl rfl ?_
  repeat' (first|refine K ?_|(refine Sh.sa hS ?_;clear hS;intro w hS)|(refine K3 ?_;clear hS;intro g w hS hge)|(refine KB ?_ ?_<;>intro hb<;>(try simp only [JJ] at hb)<;>(try exact JX))|fail)
  refine Z.eff (Z.cl (awake_z _ _ _ hS) rfl ?_) rfl
  clear hS
  rintro e w ⟨rfl, hS⟩
  refine ⟨_, rfl, ?_⟩
  repeat' (first|refine K ?_|(refine Sh.sa hS ?_;clear hS;intro w hS)|(refine K3 ?_;clear hS;intro g w hS hge)|(refine KB ?_ ?_<;>intro hb<;>(try simp only [JJ] at hb)<;>(try exact JX))|fail)
  refine Z.eff (Z.cl (tlight_z A l.length cap _ _ _ hS) rfl ?_) rfl
  clear hS
  rintro e w ⟨rfl, hS⟩
  refine ⟨_, rfl, ?_⟩
  by_cases hl1 : (l.length : Int) ≤ 200
  rotate_left
  · rw [decide_eq_false hl1]
    repeat' (first|refine K ?_|(refine Sh.sa hS ?_;clear hS;intro w hS)|(refine K3 ?_;clear hS;intro g w hS hge)|(refine KB ?_ ?_<;>intro hb<;>(try simp only [JJ] at hb)<;>(try exact JX))|fail)
    refine Z.eff (Z.cl (awake_z _ _ _ hS) rfl ?_) rfl
    clear hS
    rintro e w ⟨rfl, hS⟩
    refine ⟨_, rfl, ?_⟩
    repeat' (first|refine K ?_|(refine Sh.sa hS ?_;clear hS;intro w hS)|(refine K3 ?_;clear hS;intro g w hS hge)|(refine KB ?_ ?_<;>intro hb<;>(try simp only [JJ] at hb)<;>(try exact JX))|fail)
    refine Dnt Tryz.results6 ?_
    exact ⟨rfl, hS.chg⟩
  rw [decide_eq_true hl1]
  by_cases hl2 : l2.length ≤ 20
  rotate_left
  · repeat' (first|refine K ?_|(refine Sh.sa hS ?_;clear hS;intro w hS)|(refine K3 ?_;clear hS;intro g w hS hge)|(refine KB ?_ ?_<;>intro hb<;>(try simp only [JJ] at hb)<;>(try exact JX))|fail)
    refine Z.eff (Z.cl (awake_z _ _ _ hS) rfl ?_) rfl
    clear hS
    rintro e w ⟨rfl, hS⟩
    refine ⟨_, rfl, ?_⟩
    repeat' (first|refine K ?_|(refine Sh.sa hS ?_;clear hS;intro w hS)|(refine K3 ?_;clear hS;intro g w hS hge)|(refine KB ?_ ?_<;>intro hb<;>(try simp only [JJ] at hb)<;>(try exact JX))|fail)
    refine Dnt Tryz.results6 ?_
    exact ⟨rfl, hS.chg⟩
  repeat' (first|refine K ?_|(refine Sh.sa hS ?_;clear hS;intro w hS)|(refine K3 ?_;clear hS;intro g w hS hge)|(refine KB ?_ ?_<;>intro hb<;>(try simp only [JJ] at hb)<;>(try exact JX))|fail)
  refine Z.eff (Z.cl (mconfigv_z A l cap _ _ _ hS hrd (by omega)) rfl ?_) rfl
  clear hS
  rintro e w ⟨c, a, rfl, hM, hS⟩
  refine ⟨_, rfl, ?_⟩
  have hv := hM.v
  have hk7 := hM.k
  have ht5 := hM.t
  have hg3 := hM.r
  have hrg := hv.ok.r
  have hpw := pow_7 hk7
  have hu := u64_pos (c.cells.length : Int)
  repeat' (first|refine K ?_|(refine Sh.sa hS ?_;clear hS;intro w hS)|(refine K3 ?_;clear hS;intro g w hS hge)|(refine KB ?_ ?_<;>intro hb<;>(try simp only [JJ] at hb)<;>(try exact JX))|fail)
  rename_i g5 _ _ _ _
  rename Nat => g6
  have hca : ∀ L, CfA r (L ++ [CfO c a]) c a := fun L => (CfA.of_co .here).app L
  refine Z.eff (Z.cl (splaces_z c a _ _ _ _ hS (hca [_, _]) hv hg3 ht5) rfl ?_) rfl
  clear hS
  rintro e w ⟨er, gp, ps, pA, pn, pc, rfl, hok, hS⟩
  refine ⟨_, rfl, ?_⟩
  rcases hok with (rfl | rfl) | ⟨rfl, ⟨rfl, rfl, rfl⟩, hG⟩
  · repeat' (first|refine K ?_|(refine Sh.sa hS ?_;clear hS;intro w hS)|(refine K3 ?_;clear hS;intro g w hS hge)|(refine KB ?_ ?_<;>intro hb<;>(try simp only [JJ] at hb)<;>(try exact JX))|fail)
    refine Dnt Tryz.results6 ?_
    exact ⟨rfl, hS.chg⟩
  · repeat' (first|refine K ?_|(refine Sh.sa hS ?_;clear hS;intro w hS)|(refine K3 ?_;clear hS;intro g w hS hge)|(refine KB ?_ ?_<;>intro hb<;>(try simp only [JJ] at hb)<;>(try exact JX))|fail)
    refine Dnt Tryz.results6 ?_
    exact ⟨rfl, hS.chg⟩
  have hpl := hG.len
  generalize hmk : IntKind.i64.wrap (1 * 2 ^ min (IntKind.u64.wrap (c.cells.length : Int)).toNat IntKind.i64.bits) - 1 = mk at *
  repeat' (first|refine K ?_|(refine Sh.sa hS ?_;clear hS;intro w hS)|(refine K3 ?_;clear hS;intro g w hS hge)|(refine KB ?_ ?_<;>intro hb<;>(try simp only [JJ] at hb)<;>(try exact JX))|fail)
  refine Z.eff (Z.cl (sanew_z c a _ _ _ hS (by omega) (by omega)) rfl ?_) rfl
  clear hS
  rintro e w ⟨b, rfl, hS⟩
  refine ⟨_, rfl, ?_⟩
  rw [← plSt_new hpl] at hS ⊢
  repeat' (first|refine K ?_|(refine Sh.sa hS ?_;clear hS;intro w hS)|(refine K3 ?_;clear hS;intro g w hS hge)|(refine KB ?_ ?_<;>intro hb<;>(try simp only [JJ] at hb)<;>(try exact JX))|fail)
  rename Nat => g9
  refine Z.eff (Z.mks (l := c.tenants.length) (c := c.tenants.length) hS rfl rfl rfl (Nat.le_refl _) (by show 8 * c.tenants.length ≤ 281474976710656; omega) (by unfold maxLen; omega) ?_) rfl
  clear hS; intro gl w hS _
  replace hS := mk_zero ztC 0 hS (by unfold maxLen; omega) zt_ok
  repeat' (first|refine K ?_|(refine Sh.sa hS ?_;clear hS;intro w hS)|(refine K3 ?_;clear hS;intro g w hS hge)|(refine KB ?_ ?_<;>intro hb<;>(try simp only [JJ] at hb)<;>(try exact JX))|fail)
  refine Z.lpS [11, 67, 68, 69, 70, 71, 72, 73, 74, 75, 76] (fun s w z => ∃ (i : Nat) (L : List Int), z = [(11, .int .i64 i)] ∧ i ≤ c.tenants.length ∧ (L.length = c.tenants.length ∧ ∀ q (h : q < L.length), q < i → L[q] = (q : Int)) ∧ s = c.tenants.length - i ∧ Sep r [] (.sl 3 1 (.slice (some ⟨gl, 0, none⟩) c.tenants.length c.tenants.length) (L.map ztC) :: .blk g9 69 ((plSt c ps []).cc c b) :: SO c (plSt c ps []) b :: .sl 92 2 (.slice (some ⟨gp, 0, none⟩) c.tenants.length c.tenants.length) (ps.map plR) :: .blk g6 84 (pbC c a mk true) :: .blk g5 55 (c.cl a) :: CfO c a :: []) w) _ [(11, .int .i64 (0 : Nat))] TrF ⟨0, List.replicate c.tenants.length 0, rfl, by omega, ⟨by simp, fun q _ h => absurd h (by omega)⟩, rfl, hS.sb⟩ ?_
  clear hS
  rintro s f0 w _ ⟨i, L, rfl, hi, ⟨hLl, hLq⟩, rfl, hS⟩
  by_cases hlt : i < c.tenants.length
  · repeat' (first|refine K ?_|(refine Sh.sa hS ?_;clear hS;intro w hS)|(refine K3 ?_;clear hS;intro g w hS hge)|(refine KB ?_ ?_<;>intro hb<;>(try simp only [JJ] at hb)<;>(try exact JX))|fail)
    refine Z.eff (Z.stF (sz := 1) (q := i) (j := 0) (i : Int) hS rfl AtF (by omega) rfl rfl rfl (by omega) rfl ?_) rfl
    clear hS; intro w hS
    repeat' (first|refine K ?_|(refine Sh.sa hS ?_;clear hS;intro w hS)|(refine K3 ?_;clear hS;intro g w hS hge)|(refine KB ?_ ?_<;>intro hb<;>(try simp only [JJ] at hb)<;>(try exact JX))|fail)
    refine Sh.again (c.tenants.length - (i + 1)) [(11, .int .i64 (i + 1 : Nat))] ?_
    refine ⟨i + 1, L.set i (i : Int), rfl, by omega, ⟨by simp [hLl], fun q hq hq2 => ?_⟩, rfl, hS.sb⟩
    rw [List.getElem_set]
    split
    · omega
    · exact hLq q (by simpa using hq) (by omega)
  have hL : L = vN (List.range c.tenants.length) := by
    apply List.ext_getElem
    · simp [vN, hLl]
    · intro q h1 h2
      rw [hLq q h1 (by omega)]
      simp [vN]
  subst hL
  clear hLq
  repeat' (first|refine K ?_|(refine Sh.sa hS ?_;clear hS;intro w hS)|(refine K3 ?_;clear hS;intro g w hS hge)|(refine KB ?_ ?_<;>intro hb<;>(try simp only [JJ] at hb)<;>(try exact JX))|fail)
  refine Z.lpS [4, 10, 12, 13, 14, 15, 16, 77, 78, 79, 80, 81, 82, 83, 84, 85, 86, 87, 88, 89, 90, 91, 92, 93, 94, 95, 96, 97, 98, 99, 100, 101, 102, 103, 104, 105, 106, 107, 108, 109, 110, 111, 112, 113, 114, 115, 116, 117, 118, 119, 120, 121, 122, 123, 124, 125, 126, 127, 128, 129, 130, 131, 132, 133] (fun s w z => ∃ (m lf : List Nat) (b : SAd) (B : Option Addr) (bc : Nat), z = [(10, .slice B (vN lf).length bc), (12, .int .i64 (m.length : Nat))] ∧ (m ++ lf).Perm (List.range c.tenants.length) ∧ s = lf.length ∧ Sep r [] (.sl 3 1 (.slice B (vN lf).length bc) ((vN lf).map ztC) :: .blk g9 69 ((plSt c ps m).cc c b) :: SO c (plSt c ps m) b :: .sl 92 2 (.slice (some ⟨gp, 0, none⟩) c.tenants.length c.tenants.length) (ps.map plR) :: .blk g6 84 (pbC c a mk true) :: .blk g5 55 (c.cl a) :: CfO c a :: []) w) c.tenants.length [(10, .slice (some ⟨gl, 0, none⟩) c.tenants.length c.tenants.length), (12, .int .i64 (0 : Nat))] TrF ⟨[], List.range c.tenants.length, b, some ⟨gl, 0, none⟩, c.tenants.length, by simp [vN], by simp, by simp, by rw [show (vN (List.range c.tenants.length)).length = c.tenants.length by simp [vN]]; exact hS.sb⟩ ?_
  clear hS
  rintro s f1 w _ ⟨m, lf, b, B, bc, rfl, hpm, hs, hS⟩
  subst s
  have hvl := vN_len lf
  by_cases hlf : 0 < lf.length
  · have hml : m.length + lf.length = c.tenants.length := by
      have := hpm.length_eq
      simpa using this
    repeat' (first|refine Kn ?_|(refine Sh.sa hS ?_;clear hS;intro w hS)|(refine K3 ?_;clear hS;intro g w hS hge)|(refine KB ?_ ?_<;>intro hb<;>(try simp only [JJ] at hb)<;>(try exact JX))|fail)
    refine Z.thN ?_
    repeat' (first|refine Kn ?_|(refine Sh.sa hS ?_;clear hS;intro w hS)|(refine K3 ?_;clear hS;intro g w hS hge)|(refine KB ?_ ?_<;>intro hb<;>(try simp only [JJ] at hb)<;>(try exact JX))|fail)
    refine Z.thN ?_
    repeat' (first|refine Kn ?_|(refine Sh.sa hS ?_;clear hS;intro w hS)|(refine K3 ?_;clear hS;intro g w hS hge)|(refine KB ?_ ?_<;>intro hb<;>(try simp only [JJ] at hb)<;>(try exact JX))|fail)
    refine Z.thN ?_
    refine Z.seq ?_
    refine Z.cut [13, 82, 83, 84, 85, 86, 87, 88, 89, 90, 91, 92] (fun w z => ∃ k : Nat, z = [(13, .int .i64 k)] ∧ k < lf.length ∧ Sep r [] (.sl 3 1 (.slice B (vN lf).length bc) ((vN lf).map ztC) :: .blk g9 69 ((plSt c ps m).cc c b) :: SO c (plSt c ps m) b :: .sl 92 2 (.slice (some ⟨gp, 0, none⟩) c.tenants.length c.tenants.length) (ps.map plR) :: .blk g6 84 (pbC c a mk true) :: .blk g5 55 (c.cl a) :: CfO c a :: []) w) ?_ ?_
    · by_cases hmo : m.length < l2.length
      · obtain ⟨gb, o, rfl, _, hra⟩ := (hrd2 [_, _, _, _, _, _, _] w hS).mat (by omega) (q := m.length) (by simpa using hmo)
        have hra2 : w.rangeAt gb (o + m.length * 1) (ztC l2[m.length]) := by simpa using hra
        clear hra
        generalize l2[m.length] = y at *
        repeat' (first|refine K ?_|(refine Sh.sa hS ?_;clear hS;intro w hS)|(refine K3 ?_;clear hS;intro g w hS hge)|(refine KB ?_ ?_<;>intro hb<;>(try simp only [JJ] at hb)<;>(try exact JX))|fail)
        refine Z.eff (Z.cl (mmod_z y (vN lf).length _ _ _ hS (by omega) (by omega)) rfl ?_) rfl
        clear hS
        rintro e w ⟨rfl, hS⟩
        refine ⟨_, rfl, ?_⟩
        have hb := modM_bd y (vN lf).length (by omega)
        obtain ⟨k, hk⟩ := Int.eq_ofNat_of_zero_le hb.1
        rw [hk] at hb ⊢
        repeat' (first|refine K ?_|(refine Sh.sa hS ?_;clear hS;intro w hS)|(refine K3 ?_;clear hS;intro g w hS hge)|(refine KB ?_ ?_<;>intro hb<;>(try simp only [JJ] at hb)<;>(try exact JX))|fail)
        refine Z.cutE [(13, _)] (by repeat (first | with_reducible exact Same.refl | with_reducible exact Same.mix | ((with_reducible refine Same.upd ?_ ?_); · rfl) | ((with_reducible refine Same.cons ?_ ?_); · rfl) | with_reducible refine Same.nil ?_ | ((with_reducible refine Same.mixS ?_ ?_); · rfl))) TrF ?_
        exact ⟨k, rfl, by omega, hS.sb⟩
      · repeat' (first|refine K ?_|(refine Sh.sa hS ?_;clear hS;intro w hS)|(refine K3 ?_;clear hS;intro g w hS hge)|(refine KB ?_ ?_<;>intro hb<;>(try simp only [JJ] at hb)<;>(try exact JX))|fail)
        refine Z.cutE [(13, _)] (by repeat (first | with_reducible exact Same.refl | with_reducible exact Same.mix | ((with_reducible refine Same.upd ?_ ?_); · rfl) | ((with_reducible refine Same.cons ?_ ?_); · rfl) | with_reducible refine Same.nil ?_ | ((with_reducible refine Same.mixS ?_ ?_); · rfl))) TrF ?_
        exact ⟨0, rfl, by omega, hS.sb⟩
    clear hS
    rintro f2 w _ ⟨k, rfl, hk, hS⟩
    obtain ⟨ht, hm, _⟩ := left_ok hpm hk
    have hpm2 := left_perm hpm hk
    have hkv : k < (vN lf).length := by omega
    have hlcl : (vN lf).length ≤ bc := by
      obtain ⟨_, _, e1, e2⟩ := (hS.slrows (e := 3) (v := .slice B (vN lf).length bc) AtF).mform
      injection e1 with _ _ e3
      subst e3
      simpa using e2
    have hel : (vN lf)[k] = ((lf[k] : Nat) : Int) := by simp [vN]
    obtain ⟨gb, o, hBe, _, hra⟩ := (hS.slrows (e := 3) (v := .slice B (vN lf).length bc) AtF).mat (by omega) (q := k) (by simpa using hkv)
    subst hBe
    have hra2 : w.rangeAt gb (o + k * 1) (ztC ((lf[k] : Nat) : Int)) := by
      rw [← hel]
      simpa using hra
    clear hra hel
    have htl : (lf.take k ++ lf.drop (k + 1)).length = lf.length - 1 := by simp; omega
    have hvf : (vN lf).take k ++ (vN lf).drop (k + 1) = vN (lf.take k ++ lf.drop (k + 1)) := by rw [vN_take, vN_drop, vN_app]
    generalize lf[k] = t at *
    have ht2 : t < ps.length := by omega
    have hacc := pl_acc hv hG (m := m) (by omega) ht2 hm
    have hstp := plSt_step (c := c) ht2 hm
    have hso := plSt_ok hv hpl (fun i h => ⟨hG.h i h, hG.s i h, hG.ne h⟩) m
    have hso2 := plSt_ok hv hpl (fun i h => ⟨hG.h i h, hG.s i h, hG.ne h⟩) (t :: m)
    have hle : ∀ k (h : k < c.cells.length), (bookP c (plSt c ps (t :: m))).getD k 0 ≤ c.cells[k].cap := fun k h => Int.le_trans ((bookP_le hv hpl (t :: m)).2 k) (hG.cap k h)
    repeat' (first|refine K ?_|(refine Sh.sa hS ?_;clear hS;intro w hS)|(refine K3 ?_;clear hS;intro g w hS hge)|(refine KB ?_ ?_<;>intro hb<;>(try simp only [JJ] at hb)<;>(try exact JX))|fail)
    clear hra2
    refine Z.cut [10, 97, 98, 99, 100, 101, 102, 103, 104, 105, 106] (fun w z => ∃ (B' : Option Addr) (bc' : Nat), z = [(10, .slice B' (vN (lf.take k ++ lf.drop (k + 1))).length bc')] ∧ Sep r [] (.sl 3 1 (.slice B' (vN (lf.take k ++ lf.drop (k + 1))).length bc') ((vN (lf.take k ++ lf.drop (k + 1))).map ztC) :: .blk g9 69 ((plSt c ps m).cc c b) :: SO c (plSt c ps m) b :: .sl 92 2 (.slice (some ⟨gp, 0, none⟩) c.tenants.length c.tenants.length) (ps.map plR) :: .blk g6 84 (pbC c a mk true) :: .blk g5 55 (c.cl a) :: CfO c a :: []) w) ?_ ?_
    · refine D.startS (Lr := ([] : List Res)) (hS.sb) 11 11 (by kernel_rfl) rfl ?_
      replace hS := hS.drew
      refine Sh.dp 1 2 ?_
      refine Sh.dp 2 6 ?_
      refine D.pl 3 14 rfl D.wantedN (by kernel_rfl) (R.upto rfl rfl rfl (by omega)) ?_
      refine Sh.dp 5 46 ?_
      refine Sh.dp 6 110 ?_
      first | refine D.sum 7 238 rfl D.wantedN (by kernel_rfl) rfl (by constructor <;> omega) ?_ | refine D.sumW 7 238 rfl D.wantedN (by kernel_rfl) rfl ?_
      refine D.pl 8 494 rfl D.wantedN (by kernel_rfl) (R.since rfl rfl rfl (by omega)) ?_
      refine D.ef 0 495 ?_
      refine Z.bs hS rfl rfl rfl ?_
      clear hS; intro g w hS hge
      refine HMs ?_
      refine D.ef 4 511 ?_
      refine Z.ap0m (fc := ztC) hS rfl rfl rfl ((hS.slrows AtF).mtake (q := k) (by omega)) LnF LnF ?_
      clear hS; intro A4 c4 w hS
      refine HMs ?_
      refine D.ef 9 1023 ?_
      refine Z.apm (fc := ztC) hS rfl rfl rfl AtF ((hS.slrows AtF).mdrop (q := k + 1) (by omega)) LnF LnF ?_
      clear hS; intro A5 c5 w hS
      rw [← List.length_append, hvf] at hS ⊢
      refine HMs ?_
      refine Sh.dp 10 2047 ?_
      refine D.done (by kernel_rfl) ?_
      refine Sh.cut [(10, _)] ?_
      exact ⟨A5, c5, rfl, hS.sb⟩
    clear hS
    rintro f3 w _ ⟨B', bc', rfl, hS⟩
    have hrp : ∀ L W, Sep r [] L W → ∀ {k}, At L k (.sl 92 2 (.slice (some ⟨gp, 0, none⟩) c.tenants.length c.tenants.length) (ps.map plR)) → W.rangeAt gp (0 + t * 2) (plR ps[t]) := fun L W hW k ha => by
      have h3 := (hW.slrows ha).elem (q := t) (by omega) (by simpa using ht2)
      simpa using h3
    generalize ps[t] = p at *
    repeat' (first|refine K ?_|(refine Sh.sa hS ?_;clear hS;intro w hS)|(refine K3 ?_;clear hS;intro g w hS hge)|(refine KB ?_ ?_<;>intro hb<;>(try simp only [JJ] at hb)<;>(try exact JX))|fail)
    refine Z.cut [15, 16, 107, 108, 109, 110, 111, 112, 113, 114, 115, 116, 117, 118, 119, 120, 121, 122, 123, 124] (fun w z => ∃ (g15 : Nat) (b' : SAd), z = [(15, .pointer (some ⟨g15, 0, none⟩)), (16, .int .i64 0)] ∧ Sep r [] (.blk g15 69 ((plSt c ps (t :: m)).cc c b') :: SO c (plSt c ps (t :: m)) b' :: .sl 3 1 (.slice B' (vN (lf.take k ++ lf.drop (k + 1))).length bc') ((vN (lf.take k ++ lf.drop (k + 1))).map ztC) :: .blk g9 69 ((plSt c ps m).cc c b) :: SO c (plSt c ps m) b :: .sl 92 2 (.slice (some ⟨gp, 0, none⟩) c.tenants.length c.tenants.length) (ps.map plR) :: .blk g6 84 (pbC c a mk true) :: .blk g5 55 (c.cl a) :: CfO c a :: []) w) ?_ ?_
    · refine D.startS (Lr := (.blk g9 69 ((plSt c ps m).cc c b) :: SO c (plSt c ps m) b :: .sl 92 2 (.slice (some ⟨gp, 0, none⟩) c.tenants.length c.tenants.length) (ps.map plR) :: .blk g6 84 (pbC c a mk true) :: .blk g5 55 (c.cl a) :: CfO c a :: [])) (hS.sb) 19 21 (by kernel_rfl) rfl ?_
      replace hS := hS.drew
      refine Sh.dp 2 4 ?_
      refine Sh.dp 3 12 ?_
      refine Sh.dp 4 28 ?_
      first | refine D.ixn 5 60 rfl D.wantedN (by kernel_rfl) rfl rfl rfl (by omega) ?_ | refine D.ix 5 60 rfl D.wantedN (by kernel_rfl) rfl rfl rfl (by omega) ?_ | refine D.ia 5 60 rfl D.wantedN (by kernel_rfl) rfl rfl rfl (by omega) ?_
      refine Sh.dp 6 124 ?_
      refine Sh.dp 8 380 ?_
      refine Sh.dp 9 892 ?_
      first | refine D.ixn 10 1916 rfl D.wantedN (by kernel_rfl) rfl rfl rfl (by omega) ?_ | refine D.ix 10 1916 rfl D.wantedN (by kernel_rfl) rfl rfl rfl (by omega) ?_ | refine D.ia 10 1916 rfl D.wantedN (by kernel_rfl) rfl rfl rfl (by omega) ?_
      refine Sh.dp 11 3964 ?_
      refine Sh.dl 0 3965 ?_
      refine Sh.dl 1 3967 ?_
      refine D.ldE 7 4095 rfl D.wantedN (by kernel_rfl) rfl (fun W hW => hrp _ W hW (.next (.next .here))) rfl ?_
      refine D.ldE 12 8191 rfl D.wantedN (by kernel_rfl) rfl (fun W hW => hrp _ W hW (.next (.next .here))) rfl ?_
      first | refine D.bu 13 16383 rfl D.wantedN (by kernel_rfl) rfl rfl ?_ | refine D.buA 13 16383 rfl D.wantedN (by kernel_rfl) rfl rfl ?_
      refine D.each [14, 18] (by kernel_rfl) rfl ?_
      refine D.econs 14 32767 rfl D.wantedN (by kernel_rfl) (fun _ _ h => h) ?_ ?_
      · refine Z.cl (stapply_z c a (plSt c ps m) b (plE t p) _ _ _ hS (CfA.of_co AtF).cf hv hso (StC.of_so AtF) (by show 0 ≤ (m.length : Int) ∧ (m.length : Int) ≤ 5000; omega) (.inl rfl)) rfl ?_
        clear hS
        rintro e w ⟨cz, s', b', er, X, ⟨rfl, hi2, hz⟩, hS⟩
        refine ⟨_, rfl, ?_⟩
        obtain rfl : er = 0 := hi2.2 hacc
        obtain ⟨rfl, rfl, rfl⟩ := hz rfl
        rw [hstp] at hS ⊢
        refine HMs ?_
        refine Sh.dp 15 65535 ?_
        refine Sh.dp 16 131071 ?_
        refine Sh.dp 17 262143 ?_
        refine D.ef 18 524287 ?_
        refine Z.al hS ?_
        clear hS; intro g w hS hge
        refine HMs ?_
        refine D.ef 19 1048575 ?_
        refine Z.st hS rfl AtF rfl rfl ?_
        clear hS; intro w hS
        refine ⟨HM.last (by kernel_rfl), ?_⟩
        refine Sh.dp 20 2097151 ?_
        refine D.done (by kernel_rfl) ?_
        refine Sh.cut [(15, _), (16, _)] ?_
        exact ⟨_, b', rfl, hS.sb⟩
      refine D.econs 18 278527 rfl D.wantedN (by kernel_rfl) (fun _ _ h => h) ?_ ?_
      · refine Z.al hS ?_
        clear hS; intro g w hS hge
        refine HMs ?_
        refine D.ef 14 294911 ?_
        refine Z.cl (stapply_z c a (plSt c ps m) b (plE t p) _ _ _ hS (CfA.of_co AtF).cf hv hso (StC.of_so AtF) (by show 0 ≤ (m.length : Int) ∧ (m.length : Int) ≤ 5000; omega) (.inl rfl)) rfl ?_
        clear hS
        rintro e w ⟨cz, s', b', er, X, ⟨rfl, hi2, hz⟩, hS⟩
        refine ⟨_, rfl, ?_⟩
        obtain rfl : er = 0 := hi2.2 hacc
        obtain ⟨rfl, rfl, rfl⟩ := hz rfl
        rw [hstp] at hS ⊢
        refine HMs ?_
        refine Sh.dp 15 327679 ?_
        refine Sh.dp 16 393215 ?_
        refine Sh.dp 17 524287 ?_
        refine D.ef 19 1048575 ?_
        refine Z.st hS rfl AtF rfl rfl ?_
        clear hS; intro w hS
        refine ⟨HM.last (by kernel_rfl), ?_⟩
        refine Sh.dp 20 2097151 ?_
        refine D.done (by kernel_rfl) ?_
        refine Sh.cut [(15, _), (16, _)] ?_
        exact ⟨_, b', rfl, hS.sb⟩
      exact D.enil
    clear hS
    rintro f4 w _ ⟨g15, b', rfl, hS⟩
    repeat' (first|refine K ?_|(refine Sh.sa hS ?_;clear hS;intro w hS)|(refine K3 ?_;clear hS;intro g w hS hge)|(refine KB ?_ ?_<;>intro hb<;>(try simp only [JJ] at hb)<;>(try exact JX))|fail)
    refine Z.eff (Z.cl (twithin_z c a (plSt c ps (t :: m)) b' _ _ _ hS (CfA.of_co AtF).cf (StC.of_so AtF) hv hso2 hle) rfl ?_) rfl
    clear hS
    rintro e w ⟨rfl, hS⟩
    refine ⟨_, rfl, ?_⟩
    repeat' (first|refine K ?_|(refine Sh.sa hS ?_;clear hS;intro w hS)|(refine K3 ?_;clear hS;intro g w hS hge)|(refine KB ?_ ?_<;>intro hb<;>(try simp only [JJ] at hb)<;>(try exact JX))|fail)
    refine Sh.again (lf.length - 1) [(10, _), (12, .int .i64 ((t :: m).length : Nat))] ?_
    exact ⟨t :: m, lf.take k ++ lf.drop (k + 1), b', B', bc', rfl, hpm2, htl.symm, hS.sb⟩
  have hlf0 : lf = [] := List.length_eq_zero_iff.1 (by omega)
  subst hlf0
  have hall := left_all hpm
  have hall2 : ∀ i, i < ps.length → i ∈ m := fun i h => hall i (by omega)
  have hso := plSt_ok hv hpl (fun i h => ⟨hG.h i h, hG.s i h, hG.ne h⟩) m
  repeat' (first|refine K ?_|(refine Sh.sa hS ?_;clear hS;intro w hS)|(refine K3 ?_;clear hS;intro g w hS hge)|(refine KB ?_ ?_<;>intro hb<;>(try simp only [JJ] at hb)<;>(try exact JX))|fail)
  refine Z.lpS [4, 17, 18, 19, 134, 135, 136, 137, 138, 139, 140, 141, 142, 143, 144, 145, 146, 147, 148, 149, 150, 151, 152, 153, 154, 155, 156, 157, 158, 159, 160, 161, 162, 163, 164, 165, 166, 167, 168] (fun s w z => ∃ (g : Nat), z = [(17, .int .i64 g)] ∧ (g : Int) ≤ c.regions ∧ s = c.regions.toNat - g ∧ Sep r [] (.blk g9 69 ((plSt c ps m).cc c b) :: SO c (plSt c ps m) b :: .sl 92 2 (.slice (some ⟨gp, 0, none⟩) c.tenants.length c.tenants.length) (ps.map plR) :: .blk g6 84 (pbC c a mk true) :: .blk g5 55 (c.cl a) :: CfO c a :: []) w) _ [(17, .int .i64 (0 : Nat))] TrF ⟨0, rfl, by omega, rfl, hS.sb⟩ ?_
  clear hS
  rintro s f2 w _ ⟨g, rfl, hg, rfl, hS⟩
  by_cases hgl : (g : Int) < c.regions
  rotate_left
  · repeat' (first|refine K ?_|(refine Sh.sa hS ?_;clear hS;intro w hS)|(refine K3 ?_;clear hS;intro g w hS hge)|(refine KB ?_ ?_<;>intro hb<;>(try simp only [JJ] at hb)<;>(try exact JX))|fail)
    refine Dnt Tryz.results6 ?_
    exact ⟨rfl, hS.chg⟩
  repeat' (first|refine K ?_|(refine Sh.sa hS ?_;clear hS;intro w hS)|(refine K3 ?_;clear hS;intro g w hS hge)|(refine KB ?_ ?_<;>intro hb<;>(try simp only [JJ] at hb)<;>(try exact JX))|fail)
  refine Z.lpS [18, 19, 140, 141, 142, 143, 144, 145, 146, 147, 148, 149, 150, 151, 152, 153, 154, 155, 156, 157, 158, 159, 160, 161, 162] (fun s w z => ∃ (t : Nat), z = [(18, .bool (sgN c ps g t)), (19, .int .i64 t)] ∧ t ≤ c.tenants.length ∧ s = c.tenants.length - t ∧ Sep r [] (.blk g9 69 ((plSt c ps m).cc c b) :: SO c (plSt c ps m) b :: .sl 92 2 (.slice (some ⟨gp, 0, none⟩) c.tenants.length c.tenants.length) (ps.map plR) :: .blk g6 84 (pbC c a mk true) :: .blk g5 55 (c.cl a) :: CfO c a :: []) w) _ [(18, .bool false), (19, .int .i64 (0 : Nat))] TrF ⟨0, rfl, by omega, rfl, hS⟩ ?_
  clear hS
  rintro s f3 w _ ⟨t, rfl, ht, rfl, hS⟩
  by_cases htl : t < c.tenants.length
  · have ht2 : t < ps.length := by omega
    have hsu := sgN_succ (c := c) (g := (g : Int)) ht2
    have hrp : ∀ L W, Sep r [] L W → ∀ {k}, At L k (.sl 92 2 (.slice (some ⟨gp, 0, none⟩) c.tenants.length c.tenants.length) (ps.map plR)) → W.rangeAt gp (0 + t * 2) (plR ps[t]) := fun L W hW k ha => by
      have h3 := (hW.slrows ha).elem (q := t) (by omega) (by simpa using ht2)
      simpa using h3
    generalize ps[t] = p at *
    repeat' (first|refine K ?_|(refine Sh.sa hS ?_;clear hS;intro w hS)|(refine K3 ?_;clear hS;intro g w hS hge)|(refine KB ?_ ?_<;>intro hb<;>(try simp only [JJ] at hb)<;>(try exact JX))|fail)
    cases hsg : sgN c ps g t
    rotate_left
    · rw [hsg] at hsu
      refine D.startS (Lr := (.blk g9 69 ((plSt c ps m).cc c b) :: SO c (plSt c ps m) b :: .sl 92 2 (.slice (some ⟨gp, 0, none⟩) c.tenants.length c.tenants.length) (ps.map plR) :: .blk g6 84 (pbC c a mk true) :: .blk g5 55 (c.cl a) :: CfO c a :: [])) (hS.sb) 18 18 (by kernel_rfl) rfl ?_
      replace hS := hS.drew
      refine Sh.dp 0 1 ?_
      refine Sh.dp 1 3 ?_
      refine D.slot 147 rfl (fun hb => ?_) NoF
      (try simp only [JJ] at hb)
      refine D.skF 2 7 rfl (by kernel_rfl) rfl rfl ?_
      refine D.skF 3 15 rfl (by kernel_rfl) rfl rfl ?_
      refine D.skF 4 31 rfl (by kernel_rfl) rfl rfl ?_
      refine D.skF 5 63 rfl (by kernel_rfl) rfl rfl ?_
      refine D.skF 6 127 rfl (by kernel_rfl) rfl rfl ?_
      refine D.skF 7 255 rfl (by kernel_rfl) rfl rfl ?_
      refine D.skF 8 511 rfl (by kernel_rfl) rfl rfl ?_
      refine D.skF 9 1023 rfl (by kernel_rfl) rfl rfl ?_
      refine D.skF 10 2047 rfl (by kernel_rfl) rfl rfl ?_
      refine D.skF 11 4095 rfl (by kernel_rfl) rfl rfl ?_
      refine D.skU 12 8191 rfl (by kernel_rfl) rfl rfl ?_
      refine D.skU 13 16383 rfl (by kernel_rfl) rfl rfl ?_
      refine D.skU 14 32767 rfl (by kernel_rfl) rfl rfl ?_
      refine D.skF 15 65535 rfl (by kernel_rfl) rfl rfl ?_
      refine Sh.dp 16 131071 ?_
      refine Sh.dp 17 262143 ?_
      refine D.done (by kernel_rfl) ?_
      repeat' (first|refine K ?_|(refine Sh.sa hS ?_;clear hS;intro w hS)|(refine K3 ?_;clear hS;intro g w hS hge)|(refine KB ?_ ?_<;>intro hb<;>(try simp only [JJ] at hb)<;>(try exact JX))|fail)
      refine Sh.again (c.tenants.length - (t + 1)) [(18, _), (19, .int .i64 (t + 1 : Nat))] ?_
      exact ⟨t + 1, by rw [hsu]; rfl, by omega, rfl, hS.sb⟩
    rw [hsg] at hsu
    by_cases hre : regOf c p.1 = g
    rotate_left
    · refine D.startS (Lr := (.blk g9 69 ((plSt c ps m).cc c b) :: SO c (plSt c ps m) b :: .sl 92 2 (.slice (some ⟨gp, 0, none⟩) c.tenants.length c.tenants.length) (ps.map plR) :: .blk g6 84 (pbC c a mk true) :: .blk g5 55 (c.cl a) :: CfO c a :: [])) (hS.sb) 18 18 (by kernel_rfl) rfl ?_
      replace hS := hS.drew
      refine Sh.dp 0 1 ?_
      refine Sh.dp 1 3 ?_
      refine D.slot 147 rfl NoF (fun hb => ?_)
      (try simp only [JJ] at hb)
      refine Sh.dp 3 11 ?_
      refine Sh.dp 4 27 ?_
      first | refine D.ixn 5 59 rfl (D.wantedT rfl rfl) (by kernel_rfl) rfl rfl rfl (by omega) ?_ | refine D.ix 5 59 rfl (D.wantedT rfl rfl) (by kernel_rfl) rfl rfl rfl (by omega) ?_ | refine D.ia 5 59 rfl (D.wantedT rfl rfl) (by kernel_rfl) rfl rfl rfl (by omega) ?_
      refine Sh.dp 6 123 ?_
      refine Sh.dp 9 635 ?_
      refine Sh.dl 2 639 ?_
      refine D.ldE 7 767 rfl (D.wantedT rfl rfl) (by kernel_rfl) rfl (fun W hW => hrp _ W hW (.next (.next .here))) rfl ?_
      refine D.eff 8 1023 rfl (D.wantedT rfl rfl) (by kernel_rfl) (by kernel_rfl) (fun _ _ h => h) ?_
      refine WE.guard ?_
      refine Z.cl (pregion_z c a p.1 _ _ _ hS (CfA.of_co AtF).cf hv.ok) rfl ?_
      clear hS
      rintro e w ⟨rfl, hS⟩
      refine ⟨_, rfl, ?_⟩
      refine HMs ?_
      first | refine D.pr 10 2047 rfl (D.wantedT rfl rfl) (by kernel_rfl) rfl ?_ | refine D.pl 10 2047 rfl (D.wantedT rfl rfl) (by kernel_rfl) (R.eqa rfl rfl rfl rfl) ?_
      refine Sh.dp 11 4095 ?_
      refine D.slot 157 rfl NoF (fun hb => ?_)
      (try simp only [JJ] at hb)
      refine D.skF 12 8191 rfl (by kernel_rfl) rfl rfl ?_
      refine D.skF 13 16383 rfl (by kernel_rfl) rfl rfl ?_
      refine D.skF 14 32767 rfl (by kernel_rfl) rfl rfl ?_
      refine Sh.dp 15 65535 ?_
      refine Sh.dp 16 131071 ?_
      refine Sh.dp 17 262143 ?_
      refine D.done (by kernel_rfl) ?_
      repeat' (first|refine K ?_|(refine Sh.sa hS ?_;clear hS;intro w hS)|(refine K3 ?_;clear hS;intro g w hS hge)|(refine KB ?_ ?_<;>intro hb<;>(try simp only [JJ] at hb)<;>(try exact JX))|fail)
      refine Sh.again (c.tenants.length - (t + 1)) [(18, _), (19, .int .i64 (t + 1 : Nat))] ?_
      exact ⟨t + 1, by rw [hsu]; simp [Z.packR, hre], by omega, rfl, hS.sb⟩
    · refine D.startS (Lr := (.blk g9 69 ((plSt c ps m).cc c b) :: SO c (plSt c ps m) b :: .sl 92 2 (.slice (some ⟨gp, 0, none⟩) c.tenants.length c.tenants.length) (ps.map plR) :: .blk g6 84 (pbC c a mk true) :: .blk g5 55 (c.cl a) :: CfO c a :: [])) (hS.sb) 18 18 (by kernel_rfl) rfl ?_
      replace hS := hS.drew
      refine Sh.dp 0 1 ?_
      refine Sh.dp 1 3 ?_
      refine D.slot 147 rfl NoF (fun hb => ?_)
      (try simp only [JJ] at hb)
      refine Sh.dp 3 11 ?_
      refine Sh.dp 4 27 ?_
      first | refine D.ixn 5 59 rfl (D.wantedT rfl rfl) (by kernel_rfl) rfl rfl rfl (by omega) ?_ | refine D.ix 5 59 rfl (D.wantedT rfl rfl) (by kernel_rfl) rfl rfl rfl (by omega) ?_ | refine D.ia 5 59 rfl (D.wantedT rfl rfl) (by kernel_rfl) rfl rfl rfl (by omega) ?_
      refine Sh.dp 6 123 ?_
      refine Sh.dp 9 635 ?_
      refine Sh.dl 2 639 ?_
      refine D.ldE 7 767 rfl (D.wantedT rfl rfl) (by kernel_rfl) rfl (fun W hW => hrp _ W hW (.next (.next .here))) rfl ?_
      refine D.eff 8 1023 rfl (D.wantedT rfl rfl) (by kernel_rfl) (by kernel_rfl) (fun _ _ h => h) ?_
      refine WE.guard ?_
      refine Z.cl (pregion_z c a p.1 _ _ _ hS (CfA.of_co AtF).cf hv.ok) rfl ?_
      clear hS
      rintro e w ⟨rfl, hS⟩
      refine ⟨_, rfl, ?_⟩
      refine HMs ?_
      first | refine D.pr 10 2047 rfl (D.wantedT rfl rfl) (by kernel_rfl) rfl ?_ | refine D.pl 10 2047 rfl (D.wantedT rfl rfl) (by kernel_rfl) (R.eqa rfl rfl rfl rfl) ?_
      refine Sh.dp 11 4095 ?_
      refine D.slot 157 rfl (fun hb => ?_) NoF
      (try simp only [JJ] at hb)
      refine Sh.dp 13 12287 ?_
      refine Sh.dl 12 16383 ?_
      refine D.eff 14 32767 rfl (D.wantedT rfl rfl) (by kernel_rfl) (by kernel_rfl) (fun _ _ h => h) ?_
      refine WE.guard ?_
      refine Z.cl (rsingle_z c a mk true t _ _ _ hS (CfA.of_co AtF).cf hv hg3 htl) rfl ?_
      clear hS
      rintro e w ⟨rfl, hS⟩
      refine ⟨_, rfl, ?_⟩
      refine HMs ?_
      refine Sh.dp 15 65535 ?_
      refine Sh.dp 16 131071 ?_
      refine Sh.dp 17 262143 ?_
      refine D.done (by kernel_rfl) ?_
      repeat' (first|refine K ?_|(refine Sh.sa hS ?_;clear hS;intro w hS)|(refine K3 ?_;clear hS;intro g w hS hge)|(refine KB ?_ ?_<;>intro hb<;>(try simp only [JJ] at hb)<;>(try exact JX))|fail)
      refine Sh.again (c.tenants.length - (t + 1)) [(18, _), (19, .int .i64 (t + 1 : Nat))] ?_
      exact ⟨t + 1, by rw [hsu]; simp [Z.packR, hre], by omega, rfl, hS.sb⟩
  obtain rfl : t = c.tenants.length := by omega
  have hhd := pl_head hv hG hall2 (g := g) (by omega) hgl
  rw [← sgN_iff, hpl] at hhd
  repeat' (first|refine K ?_|(refine Sh.sa hS ?_;clear hS;intro w hS)|(refine K3 ?_;clear hS;intro g w hS hge)|(refine KB ?_ ?_<;>intro hb<;>(try simp only [JJ] at hb)<;>(try exact JX))|fail)
  refine Z.eff (Z.cl (ldheadroom_z c a (plSt c ps m) b g _ _ _ hS (CfA.of_co AtF).cf (StC.of_so AtF) hv hso ⟨by omega, hgl⟩) rfl ?_) rfl
  clear hS
  rintro e w ⟨z, rfl, hz, hS⟩
  refine ⟨_, rfl, ?_⟩
  rw [hhd] at hz
  have hze : z = !sgN c ps g c.tenants.length := by
    cases hsg : sgN c ps g c.tenants.length
    · rw [hsg] at hz
      exact hz.2 (by simp)
    · rw [hsg] at hz
      cases z
      · rfl
      · exact absurd rfl (hz.1 rfl)
  subst hze
  cases hsg : sgN c ps g c.tenants.length
  · repeat' (first|refine K ?_|(refine Sh.sa hS ?_;clear hS;intro w hS)|(refine K3 ?_;clear hS;intro g w hS hge)|(refine KB ?_ ?_<;>intro hb<;>(try simp only [JJ] at hb)<;>(try exact JX))|fail)
    refine Sh.again (c.regions.toNat - (g + 1)) [(17, .int .i64 (g + 1 : Nat))] ?_
    exact ⟨g + 1, rfl, by omega, rfl, hS.sb⟩
  · repeat' (first|refine K ?_|(refine Sh.sa hS ?_;clear hS;intro w hS)|(refine K3 ?_;clear hS;intro g w hS hge)|(refine KB ?_ ?_<;>intro hb<;>(try simp only [JJ] at hb)<;>(try exact JX))|fail)
    refine Sh.again (c.regions.toNat - (g + 1)) [(17, .int .i64 (g + 1 : Nat))] ?_
    exact ⟨g + 1, rfl, by omega, rfl, hS.sb⟩
end Go.Proofs.YtfmnjbhncnldmaaGreat
