import Derived.Test.YtfmnjbhncnldmaaGreatR03
import Derived.Test.YtfmnjbhncnldmaaGreatR06
import Derived.Test.YtfmnjbhncnldmaaGreatR12
import Derived.Test.YtfmnjbhncnldmaaGreatR14
import Derived.Test.YtfmnjbhncnldmaaGreatR17
import Derived.Test.YtfmnjbhncnldmaaGreatR18
set_option linter.unusedSimpArgs false
set_option linter.unusedVariables false
namespace Go.Proofs.YtfmnjbhncnldmaaGreat
open Go.RowKit
attribute [local irreducible] Res.blk Res.sl Res.all Res.ex Res.pure Res.star
theorem IsH.seqAt {h : List Ch} (hh : IsH h) {j : Nat} (hj : j < h.length) : h[j].seq = (j : Int) + 1 := by
  have h1 := hh.next hj
  have h2 := cApp_ok (c := cpOf (h.take j)) (x := h[j]) (by rw [h1])
  have h3 := (hh.take j).good.2.1
  have h4 := h2.2.1
  rw [h3, List.length_take] at h4
  omega
theorem comN_take : ∀ (h : List Ch) (j : Nat), j ≤ h.length → comN h (h.take j) = j
  | [], j, hj => by simp at hj; subst hj; rfl
  | x :: l, 0, _ => rfl
  | x :: l, j + 1, hj => by
    rw [List.take_succ_cons, comN, if_pos rfl, comN_take l j (by simpa using hj)]
def lostL (h : List Ch) (j a i : Nat) : List Ch := (h.take (min i a)).drop j
def keptL (h : List Ch) (j a i : Nat) : List Ch := h.take (min i (min j a))
theorem lostL_0 (h : List Ch) (j a : Nat) : lostL h j a 0 = [] := by simp [lostL]
theorem lostL_lo {h : List Ch} {j a i : Nat} (h1 : i < j) : lostL h j a (i + 1) = lostL h j a i := by
  unfold lostL
  rw [List.drop_eq_nil_of_le (by rw [List.length_take]; omega), List.drop_eq_nil_of_le (by rw [List.length_take]; omega)]
theorem lostL_in {h : List Ch} {j a i : Nat} (h1 : j ≤ i) (h2 : i < a) (h3 : i < h.length) : lostL h j a (i + 1) = lostL h j a i ++ [h[i]] := by
  unfold lostL
  rw [Nat.min_eq_left (by omega), Nat.min_eq_left (by omega), List.take_succ_eq_append_getElem h3, List.drop_append_of_le_length (by rw [List.length_take]; omega)]
theorem lostL_hi {h : List Ch} {j a i : Nat} (h2 : a ≤ i) : lostL h j a (i + 1) = lostL h j a i := by
  unfold lostL
  rw [Nat.min_eq_right (by omega), Nat.min_eq_right h2]
theorem lostL_len (h : List Ch) (j a i : Nat) : (lostL h j a i).length ≤ i := by unfold lostL; rw [List.length_drop, List.length_take]; omega
theorem keptL_in {h : List Ch} {j a i : Nat} (h1 : i < j) (h2 : i < a) (h3 : i < h.length) : keptL h j a (i + 1) = keptL h j a i ++ [h[i]] := by
  unfold keptL
  rw [Nat.min_eq_left (by omega), Nat.min_eq_left (by omega), List.take_succ_eq_append_getElem h3]
theorem keptL_hi {h : List Ch} {j a i : Nat} (h2 : j ≤ i ∨ a ≤ i) : keptL h j a (i + 1) = keptL h j a i := by
  show h.take (min (i + 1) (min j a)) = h.take (min i (min j a))
  congr 1
  omega
theorem keptL_len (h : List Ch) (j a i : Nat) : (keptL h j a i).length ≤ i := by unfold keptL; rw [List.length_take]; omega
def lossC (j : Int) (A : Option Addr) (n c : Nat) (d : Int) : List Value := [.int .i64 j, .slice A n c, .int .i64 d]
set_option maxHeartbeats 4000000 in
theorem foreport_z (h : List Ch) (j a : Nat) (v v' : Value) (r : World) (F : List Res) (w : World) (hS : Sep r [] F w) (hrd : Reads r F 8 v (h.map Ch.cells)) (hrd' : Reads r F 8 v' ((h.take j).map Ch.cells)) (hh : IsH h) (hj : j ≤ h.length) (hl : h.length ≤ 5000) :
    Calls Tryz.prog 53 #[.int .i64 (a : Nat), v, v'] w fun y w' => ∃ (A : Option Addr) (c : Nat) (d : Int), y = .returned (.agg (lossC j A (lostL h j a h.length).length c d).toArray) ∧ Sep r [] (.sl 149 8 (.slice A (lostL h j a h.length).length c) ((lostL h j a h.length).map Ch.cells) :: F) w' := by
  obtain ⟨Ah, ch, rfl, _⟩ := (hrd [] w hS).mform
  obtain ⟨Ak, ck, rfl, _⟩ := (hrd' [] w hS).mform
  refine Z.enter Tryz.func53 Tryz.ntmps53 rfl rfl ?_
  repeat' (first|refine K ?_|(refine Sh.sa hS ?_;clear hS;intro w hS)|(refine K3 ?_;clear hS;intro g w hS hge)|((first|refine GS ?_ ?_|refine VB ?_ ?_)<;>intro hb<;>(try simp only [JJ] at hb)<;>(try exact JX)))
  rename Nat => g6
  refine Z.eff (Z.cl (pcommon_z h (h.take j) _ _ _ _ _ hS (hrd.cons _) (hrd'.cons _) (by omega) (by rw [List.length_take]; omega)) rfl ?_) rfl
  clear hS
  rintro e w ⟨rfl, hS⟩
  refine ⟨_, rfl, ?_⟩
  rw [comN_take h j hj]
  repeat' (first|refine K ?_|(refine Sh.sa hS ?_;clear hS;intro w hS)|(refine K3 ?_;clear hS;intro g w hS hge)|((first|refine GS ?_ ?_|refine VB ?_ ?_)<;>intro hb<;>(try simp only [JJ] at hb)<;>(try exact JX)))
  rename Nat => g7
  replace hS := Z.nilsl hS 149 8 none
  refine Z.lpS [9, 16, 17, 18, 19, 20, 21, 22, 23, 24, 25, 26, 27, 28, 29, 30, 31, 32, 33, 34, 35, 36, 37, 38, 39, 40, 41] (fun m w z => ∃ (i : Nat) (A : Option Addr) (c : Nat) (d : Int), z = [(16, .int .i64 i)] ∧ i ≤ h.length ∧ 0 ≤ d ∧ d ≤ i ∧ m = h.length - i ∧ Sep r [] (.sl 149 8 (.slice A (lostL h j a i).length c) ((lostL h j a i).map Ch.cells) :: .blk g7 144 (lossC j A (lostL h j a i).length c d) :: .blk g6 144 (lossC 0 none 0 0 0) :: F) w) _ [(16, .int .i64 (0 : Nat))] (by repeat (first | exact trivial | refine ⟨rfl, ?_⟩)) ⟨0, none, 0, 0, rfl, by omega, by omega, by omega, rfl, by rw [lostL_0]; exact hS⟩ ?_
  clear hS
  rintro m f0 w _ ⟨i, A, c, d, rfl, hi, hd0, hd1, rfl, hS⟩
  by_cases hlt : i < h.length
  · obtain ⟨gb, ob, hA, _, hra⟩ := (hrd [_, _, _] w hS).mat (by omega) (q := i) (by simpa using hlt)
    subst hA
    have hra2 : w.rangeAt gb (ob + i * 8) h[i].cells := by simpa using hra
    clear hra
    have hsq := hh.seqAt hlt
    have hln := lostL_len h j a i
    have L1 := fun h1 => lostL_lo (h := h) (j := j) (a := a) (i := i) h1
    have L2 := fun h1 h2 => lostL_in (h := h) (j := j) (a := a) (i := i) h1 h2 hlt
    have L3 := fun h1 => lostL_hi (h := h) (j := j) (a := a) (i := i) h1
    generalize h[i] = x at *
    repeat' (first|refine K ?_|(refine Sh.sa hS ?_;clear hS;intro w hS)|(refine K3 ?_;clear hS;intro g w hS hge)|((first|refine GS ?_ ?_|refine VB ?_ ?_)<;>intro hb<;>(try simp only [JJ] at hb)<;>(try exact JX)))
    · refine Sh.again (h.length - (i + 1)) [(16, .int .i64 (i + 1 : Nat))] ?_
      exact ⟨i + 1, A, c, d, rfl, by omega, hd0, by omega, rfl, by rw [L1 (by omega)]; exact hS.sb⟩
    · generalize lostL h j a i = o at *
      refine Z.eff (Z.apm (fc := Ch.cells) (l := o) (l' := [x]) hS rfl rfl rfl AtF (hS.lit1 AtF rfl rfl) (by (try simp only [maxLen, List.length_take, List.length_drop, List.length_append, List.length_cons, List.length_nil, List.length_map]); omega) (by (try simp only [maxLen, List.length_take, List.length_drop, List.length_append, List.length_cons, List.length_nil, List.length_map]); omega) ?_) rfl
      clear hS; intro A2 c2 w hS
      rw [← List.length_append] at hS ⊢
      repeat' (first|refine K ?_|(refine Sh.sa hS ?_;clear hS;intro w hS)|(refine K3 ?_;clear hS;intro g w hS hge)|((first|refine GS ?_ ?_|refine VB ?_ ?_)<;>intro hb<;>(try simp only [JJ] at hb)<;>(try exact JX)))
      refine Sh.again (h.length - (i + 1)) [(16, .int .i64 (i + 1 : Nat))] ?_
      exact ⟨i + 1, A2, c2, d, rfl, by omega, hd0, by omega, rfl, by rw [L2 (by omega) (by omega)]; exact hS.sb⟩
    · refine Sh.again (h.length - (i + 1)) [(16, .int .i64 (i + 1 : Nat))] ?_
      exact ⟨i + 1, A, c, d + 1, rfl, by omega, by omega, by omega, rfl, by rw [L3 (by omega)]; exact hS.sb⟩
  · obtain rfl : i = h.length := by omega
    repeat' (first|refine K ?_|(refine Sh.sa hS ?_;clear hS;intro w hS)|(refine K3 ?_;clear hS;intro g w hS hge)|((first|refine GS ?_ ?_|refine VB ?_ ?_)<;>intro hb<;>(try simp only [JJ] at hb)<;>(try exact JX)))
    refine Dnc Tryz.results53 ?_
    exact ⟨A, c, d, rfl, hS.sb⟩
theorem fowithin_z (lag j : Int) (A : Option Addr) (n c : Nat) (d : Int) (hl : lag = -1 ∨ (n : Int) ≤ lag) (r : World) (F : List Res) (w : World) (hS : Sep r [] F w) :
    Calls Tryz.prog 54 #[.int .i64 lag, .agg (lossC j A n c d).toArray] w fun y w' => y = .returned (.bool true) ∧ Sep r [] F w' := by
  refine Z.enter Tryz.func54 Tryz.ntmps54 rfl rfl ?_
  repeat' (first|refine K ?_|(refine Sh.sa hS ?_;clear hS;intro w hS)|(refine K3 ?_;clear hS;intro g w hS hge)|((first|refine GS ?_ ?_|refine VB ?_ ?_)<;>intro hb<;>(try simp only [JJ] at hb)<;>(try exact JX)))
  all_goals
    refine Dnt Tryz.results54 ?_
    exact ⟨by simp [Z.packR]; try omega, hS.sb⟩
set_option maxHeartbeats 4000000 in
theorem fokept_z (h : List Ch) (j a : Nat) (v v' : Value) (r : World) (F : List Res) (w : World) (hS : Sep r [] F w) (hrd : Reads r F 8 v (h.map Ch.cells)) (hrd' : Reads r F 8 v' ((h.take j).map Ch.cells)) (hh : IsH h) (hj : j ≤ h.length) (hl : h.length ≤ 5000) :
    Calls Tryz.prog 55 #[.int .i64 (a : Nat), v, v'] w fun y w' => ∃ (A : Option Addr) (c : Nat), y = .returned (.slice A (keptL h j a h.length).length c) ∧ Sep r [] (.sl 149 8 (.slice A (keptL h j a h.length).length c) ((keptL h j a h.length).map Ch.cells) :: F) w' := by
  obtain ⟨Ah, ch, rfl, _⟩ := (hrd [] w hS).mform
  obtain ⟨Ak, ck, rfl, _⟩ := (hrd' [] w hS).mform
  refine Z.enter Tryz.func55 Tryz.ntmps55 rfl rfl ?_
  repeat' (first|refine K ?_|(refine Sh.sa hS ?_;clear hS;intro w hS)|(refine K3 ?_;clear hS;intro g w hS hge)|((first|refine GS ?_ ?_|refine VB ?_ ?_)<;>intro hb<;>(try simp only [JJ] at hb)<;>(try exact JX)))
  refine Z.eff (Z.cl (pcommon_z h (h.take j) _ _ _ _ _ hS hrd hrd' (by omega) (by rw [List.length_take]; omega)) rfl ?_) rfl
  clear hS
  rintro e w ⟨rfl, hS⟩
  refine ⟨_, rfl, ?_⟩
  rw [comN_take h j hj]
  repeat' (first|refine K ?_|(refine Sh.sa hS ?_;clear hS;intro w hS)|(refine K3 ?_;clear hS;intro g w hS hge)|((first|refine GS ?_ ?_|refine VB ?_ ?_)<;>intro hb<;>(try simp only [JJ] at hb)<;>(try exact JX)))
  replace hS := Z.nilsl hS 149 8 none
  refine Z.lpS [8, 10, 16, 17, 18, 19, 20, 21, 22, 23, 24, 25, 26, 27, 28, 29, 30, 31, 32, 33, 34] (fun m w z => ∃ (i : Nat) (A : Option Addr) (c : Nat), z = [(8, .slice A (keptL h j a i).length c), (16, .int .i64 i)] ∧ i ≤ h.length ∧ m = h.length - i ∧ Sep r [] (.sl 149 8 (.slice A (keptL h j a i).length c) ((keptL h j a i).map Ch.cells) :: F) w) _ [(8, .slice none 0 0), (16, .int .i64 (0 : Nat))] (by repeat (first | exact trivial | refine ⟨rfl, ?_⟩)) ⟨0, none, 0, by simp [keptL], by omega, rfl, by simpa [keptL] using hS⟩ ?_
  clear hS
  rintro m f0 w _ ⟨i, A, c, rfl, hi, rfl, hS⟩
  by_cases hlt : i < h.length
  · obtain ⟨gb, ob, hA, _, hra⟩ := (hrd [_] w hS).mat (by omega) (q := i) (by simpa using hlt)
    subst hA
    have hra2 : w.rangeAt gb (ob + i * 8) h[i].cells := by simpa using hra
    clear hra
    have hsq := hh.seqAt hlt
    have hln := keptL_len h j a i
    have L1 := fun h1 h2 => keptL_in (h := h) (j := j) (a := a) (i := i) h1 h2 hlt
    have L2 := fun h1 => keptL_hi (h := h) (j := j) (a := a) (i := i) h1
    generalize h[i] = x at *
    generalize ho : keptL h j a i = o at *
    by_cases hin : i < j ∧ i < a
    · repeat' (first|refine K ?_|(refine Sh.sa hS ?_;clear hS;intro w hS)|(refine K3 ?_;clear hS;intro g w hS hge)|((first|refine GS ?_ ?_|refine VB ?_ ?_)<;>intro hb<;>(try simp only [JJ] at hb)<;>(try exact JX)))
      refine Z.eff (Z.apm (fc := Ch.cells) (l := o) (l' := [x]) hS rfl rfl rfl AtF (hS.lit1 AtF rfl rfl) (by (try simp only [maxLen, List.length_take, List.length_drop, List.length_append, List.length_cons, List.length_nil, List.length_map]); omega) (by (try simp only [maxLen, List.length_take, List.length_drop, List.length_append, List.length_cons, List.length_nil, List.length_map]); omega) ?_) rfl
      clear hS; intro A2 c2 w hS
      rw [← List.length_append] at hS ⊢
      repeat' (first|refine K ?_|(refine Sh.sa hS ?_;clear hS;intro w hS)|(refine K3 ?_;clear hS;intro g w hS hge)|((first|refine GS ?_ ?_|refine VB ?_ ?_)<;>intro hb<;>(try simp only [JJ] at hb)<;>(try exact JX)))
      refine Sh.again (h.length - (i + 1)) [(8, _), (16, .int .i64 (i + 1 : Nat))] ?_
      exact ⟨i + 1, A2, c2, by rw [L1 hin.1 hin.2], by omega, rfl, by rw [L1 hin.1 hin.2]; exact hS.sb⟩
    · repeat' (first|refine K ?_|(refine Sh.sa hS ?_;clear hS;intro w hS)|(refine K3 ?_;clear hS;intro g w hS hge)|((first|refine GS ?_ ?_|refine VB ?_ ?_)<;>intro hb<;>(try simp only [JJ] at hb)<;>(try exact JX)))
      all_goals
        refine Sh.again (h.length - (i + 1)) [(8, .slice A o.length c), (16, .int .i64 (i + 1 : Nat))] ?_
        exact ⟨i + 1, A, c, by rw [L2 (by omega)], by omega, rfl, by rw [L2 (by omega)]; exact hS.sb⟩
  · obtain rfl : i = h.length := by omega
    repeat' (first|refine K ?_|(refine Sh.sa hS ?_;clear hS;intro w hS)|(refine K3 ?_;clear hS;intro g w hS hge)|((first|refine GS ?_ ?_|refine VB ?_ ?_)<;>intro hb<;>(try simp only [JJ] at hb)<;>(try exact JX)))
    refine Dnt Tryz.results55 ?_
    exact ⟨A, c, rfl, hS⟩
structure PQd where
  gh : Nat
  gg : Nat
  gl : Nat
  cA : Option Addr
  cc : Nat
  fA : Option Addr
  fc : Nat
  sA : Option Addr
  sc : Nat
  hA : Option Addr
  hc : Nat
def prC (q : PQd) (n : Nat) (nb : Nat → Int) (ak : Int) : List Value := [.pointer (some ⟨q.gh, 0, .none⟩), .pointer (some ⟨q.gl, 0, .none⟩), .slice q.cA n q.cc, .slice q.fA n q.fc, .slice q.sA n q.sc, .slice q.hA n q.hc, .int .i64 (nb 0), .int .i64 (nb 1), .int .i64 (nb 2), .int .i64 (nb 3), .int .i64 ak]
def pairG : Ga := ⟨0, 0, [⟨0, 1, 0, 0, 1000⟩]⟩
theorem pairG_ws : ∀ y, y ∈ pairG.ws → 1 ≤ y.epoch ∧ y.epoch ≤ 1048576 := by
  intro y hy
  rcases List.mem_cons.1 hy with rfl | hy
  · decide
  · cases hy
theorem pairG_acc : accs pairG.ws 0 5 0 = 1 := by kernel_rfl
theorem exP_h {c : Cp} (h : CG c) {x : Rq} (hop : x.op = 2 ∨ x.op = 4) (ten tk : Int) : CG (exP c ten 1 tk x).c ∧ ((exP c ten 1 tk x).c.h = c.h ∨ ∃ y : Ch, y.epoch ≤ 1 ∧ (exP c ten 1 tk x).c.h = c.h ++ [y]) := by
  unfold exP exQ
  split
  case isFalse => exact ⟨h, .inl rfl⟩
  case isTrue =>
    split
    case isFalse => exact ⟨h, .inl rfl⟩
    case isTrue =>
      rw [if_neg (by omega), if_neg (by omega)]
      unfold wrQ
      split
      · exact ⟨h, .inl rfl⟩
      split
      · split
        · exact ⟨h, .inl rfl⟩
        split
        · refine ⟨(h.app _).1, ?_⟩
          by_cases h0 : (cApp c (chOf c 1 x)).2 = 0
          · obtain ⟨_, _, _, _, _, _, e⟩ := cApp_ok h0
            exact .inr ⟨chOf c 1 x, Int.le_refl _, by rw [e]⟩
          · exact .inl (by rw [cApp_bad h0])
        · exact ⟨h, .inl rfl⟩
      · exact ⟨h, .inl rfl⟩
set_option maxHeartbeats 8000000 in
theorem pwr_z (gx : Nat) (q : PQd) (n : Nat) (nb : Nat → Int) (ak : Int) (c : Cp) (cl op : Int) (B : Int) (r : World) (F : List Res) (w : World) (hS : Sep r [] (.blk gx 42 (prC q n nb ak) :: PC q.gh 0 0 (.pointer (some ⟨q.gg, 0, .none⟩)) c :: GP q.gg pairG :: F) w) (hc : CG c) (hl : c.h.length ≤ 4000) (hnb : ∀ i, 0 ≤ nb i ∧ nb i ≤ B) (hB : B ≤ 1000) :
    Calls Tryz.prog 47 #[.pointer (some ⟨gx, 0, .none⟩), .int .i64 cl, .int .i64 op] w fun e w' => ∃ (nb' : Nat → Int) (c' : Cp), e = .returned (.tuple #[]) ∧ ((∀ i, 0 ≤ nb' i ∧ nb' i ≤ B + 1) ∧ CG c' ∧ (c'.h = c.h ∨ ∃ y : Ch, y.epoch ≤ 1 ∧ c'.h = c.h ++ [y])) ∧ Sep r [] (.blk gx 42 (prC q n nb' ak) :: PC q.gh 0 0 (.pointer (some ⟨q.gg, 0, .none⟩)) c' :: GP q.gg pairG :: F) w' := by
  have hm := modM_bd cl 4 (by omega)
  have hnb2 : ∀ i, 0 ≤ nb i ∧ nb i ≤ B + 1 := fun i => by have := hnb i; omega
  have key : ∀ m : Nat, ∀ i, 0 ≤ setN nb m (nb m + 1) i ∧ setN nb m (nb m + 1) i ≤ B + 1 := fun m i => by
    unfold setN
    split
    · have := hnb m; omega
    · exact hnb2 i
  have b0 := hnb 0
  have b1 := hnb 1
  have b2 := hnb 2
  have b3 := hnb 3
  refine Z.enter Tryz.func47 Tryz.ntmps47 rfl rfl ?_
  repeat' (first|refine K ?_|(refine Sh.sa hS ?_;clear hS;intro w hS)|(refine K3 ?_;clear hS;intro g w hS hge)|((first|refine GS ?_ ?_|refine VB ?_ ?_)<;>intro hb<;>(try simp only [JJ] at hb)<;>(try exact JX)))
  refine Z.eff (Z.cl (mmod_z cl 4 _ _ _ hS (by omega) (by omega)) rfl ?_) rfl
  clear hS
  rintro e w ⟨rfl, hS⟩
  refine ⟨_, rfl, ?_⟩
  generalize modM cl 4 = m at *
  rcases (by omega : m = 0 ∨ m = 1 ∨ m = 2 ∨ m = 3) with rfl | rfl | rfl | rfl
  · repeat' (first|refine Kn ?_|(refine Sh.sa hS ?_;clear hS;intro w hS)|(refine K3 ?_;clear hS;intro g w hS hge)|((first|refine GS ?_ ?_|refine VB ?_ ?_)<;>intro hb<;>(try simp only [JJ] at hb)<;>(try exact JX)))
    refine Z.thN ?_
    repeat' (first|refine Kn ?_|(refine Sh.sa hS ?_;clear hS;intro w hS)|(refine K3 ?_;clear hS;intro g w hS hge)|((first|refine GS ?_ ?_|refine VB ?_ ?_)<;>intro hb<;>(try simp only [JJ] at hb)<;>(try exact JX)))
    refine Z.thN ?_
    rename Nat => g7
    refine Z.seq ?_
    refine Z.cut [20, 21, 22, 23, 24] (fun w z => ∃ x : Rq, z = [] ∧ (x.op = 2 ∨ x.op = 4) ∧ Sep r [] (.blk g7 122 x.cells :: .blk gx 42 (prC q n nb ak) :: PC q.gh 0 0 (.pointer (some ⟨q.gg, 0, .none⟩)) c :: GP q.gg pairG :: F) w) ?_ ?_
    · repeat' (first|refine K ?_|(refine Sh.sa hS ?_;clear hS;intro w hS)|(refine K3 ?_;clear hS;intro g w hS hge)|((first|refine GS ?_ ?_|refine VB ?_ ?_)<;>intro hb<;>(try simp only [JJ] at hb)<;>(try exact JX)))
      · refine Sh.cut [] ?_
        exact ⟨⟨0, _, _, 4, 0, ⟨#[]⟩, _⟩, rfl, .inr rfl, hS.sb⟩
      · refine Sh.cut [] ?_
        exact ⟨⟨0, _, _, 2, 0, _, _⟩, rfl, .inl rfl, hS.sb⟩
    clear hS
    rintro f0 w _ ⟨x, rfl, hx, hS⟩
    obtain ⟨k1, k2⟩ := exP_h hc hx 0 5
    repeat' (first|refine K ?_|(refine Sh.sa hS ?_;clear hS;intro w hS)|(refine K3 ?_;clear hS;intro g w hS hge)|((first|refine GS ?_ ?_|refine VB ?_ ?_)<;>intro hb<;>(try simp only [JJ] at hb)<;>(try exact JX)))
    refine D.startS (Lr := [.blk g7 122 x.cells, .blk gx 42 (prC q n nb ak)]) (hS.sb) 8 8 (by kernel_rfl) rfl ?_
    replace hS := hS.drew
    refine Sh.dp 0 1 ?_
    refine Sh.dp 1 3 ?_
    refine Sh.dp 2 7 ?_
    refine Sh.dl 3 15 ?_
    refine Sh.dl 4 31 ?_
    refine D.eff 5 63 rfl D.wantedN (by kernel_rfl) (by kernel_rfl) (fun _ _ h => h) ?_
    replace hS := hS.fo (R := GP q.gg pairG)
    replace hS := hS.fo (R := PC q.gh 0 0 (.pointer (some ⟨q.gg, 0, .none⟩)) c)
    refine Z.cl (pexec_z q.gh q.gg 0 0 c pairG 0 5 x _ _ _ hS hc pairG_ws (by simp [pairG]) (by omega)) rfl ?_
    clear hS
    rintro e w ⟨rfl, hS⟩
    refine ⟨_, rfl, ?_⟩
    rw [pairG_acc] at hS ⊢
    refine ⟨HM.s (hS.sb), ?_⟩
    refine Sh.dp 6 127 ?_
    first | refine D.pr 7 255 rfl D.wantedN (by kernel_rfl) rfl ?_ | refine D.pl 7 255 rfl D.wantedN (by kernel_rfl) (R.eqa rfl rfl rfl rfl) ?_
    refine D.done (by kernel_rfl) ?_
    repeat' (first|refine K ?_|(refine Sh.sa hS ?_;clear hS;intro w hS)|(refine K3 ?_;clear hS;intro g w hS hge)|((first|refine GS ?_ ?_|refine VB ?_ ?_)<;>intro hb<;>(try simp only [JJ] at hb)<;>(try exact JX)))
    · refine D.startS (Lr := [.blk gx 42 (prC q n nb ak)]) (hS.sb) 10 11 (by kernel_rfl) rfl ?_
      replace hS := hS.drew
      refine Sh.dp 0 1 ?_
      refine Sh.dp 1 3 ?_
      refine Sh.dp 2 7 ?_
      refine Sh.dp 3 15 ?_
      first | refine D.ixn 4 31 rfl D.wantedN (by kernel_rfl) rfl rfl rfl (by omega) ?_ | refine D.ix 4 31 rfl D.wantedN (by kernel_rfl) rfl rfl rfl (by omega) ?_ | refine D.ia 4 31 rfl D.wantedN (by kernel_rfl) rfl rfl rfl (by omega) ?_
      refine Sh.dp 7 159 ?_
      refine Sh.dp 8 415 ?_
      refine Sh.dl 5 447 ?_
      first | refine D.sum 6 511 rfl D.wantedN (by kernel_rfl) rfl (by constructor <;> omega) ?_ | refine D.sumW 6 511 rfl D.wantedN (by kernel_rfl) rfl ?_
      first | refine D.ixn 9 1023 rfl D.wantedN (by kernel_rfl) rfl rfl rfl (by omega) ?_ | refine D.ix 9 1023 rfl D.wantedN (by kernel_rfl) rfl rfl rfl (by omega) ?_ | refine D.ia 9 1023 rfl D.wantedN (by kernel_rfl) rfl rfl rfl (by omega) ?_
      refine D.eff 10 2047 rfl D.wantedN (by kernel_rfl) (by kernel_rfl) (fun _ _ h => h) ?_
      refine Z.st hS rfl AtF rfl rfl ?_
      clear hS; intro w hS
      refine ⟨HM.last (by kernel_rfl), ?_⟩
      refine D.done (by kernel_rfl) ?_
      repeat' (first|refine K ?_|(refine Sh.sa hS ?_;clear hS;intro w hS)|(refine K3 ?_;clear hS;intro g w hS hge)|((first|refine GS ?_ ?_|refine VB ?_ ?_)<;>intro hb<;>(try simp only [JJ] at hb)<;>(try exact JX)))
      refine Dn Tryz.results47 ?_
      exact ⟨setN nb 0 (nb 0 + 1), _, rfl, ⟨key 0, k1, k2⟩, hS.sb⟩
    · refine Dn Tryz.results47 ?_
      exact ⟨nb, _, rfl, ⟨hnb2, k1, k2⟩, hS.sb⟩
  · repeat' (first|refine Kn ?_|(refine Sh.sa hS ?_;clear hS;intro w hS)|(refine K3 ?_;clear hS;intro g w hS hge)|((first|refine GS ?_ ?_|refine VB ?_ ?_)<;>intro hb<;>(try simp only [JJ] at hb)<;>(try exact JX)))
    refine Z.thN ?_
    repeat' (first|refine Kn ?_|(refine Sh.sa hS ?_;clear hS;intro w hS)|(refine K3 ?_;clear hS;intro g w hS hge)|((first|refine GS ?_ ?_|refine VB ?_ ?_)<;>intro hb<;>(try simp only [JJ] at hb)<;>(try exact JX)))
    refine Z.thN ?_
    rename Nat => g7
    refine Z.seq ?_
    refine Z.cut [20, 21, 22, 23, 24] (fun w z => ∃ x : Rq, z = [] ∧ (x.op = 2 ∨ x.op = 4) ∧ Sep r [] (.blk g7 122 x.cells :: .blk gx 42 (prC q n nb ak) :: PC q.gh 0 0 (.pointer (some ⟨q.gg, 0, .none⟩)) c :: GP q.gg pairG :: F) w) ?_ ?_
    · repeat' (first|refine K ?_|(refine Sh.sa hS ?_;clear hS;intro w hS)|(refine K3 ?_;clear hS;intro g w hS hge)|((first|refine GS ?_ ?_|refine VB ?_ ?_)<;>intro hb<;>(try simp only [JJ] at hb)<;>(try exact JX)))
      · refine Sh.cut [] ?_
        exact ⟨⟨0, _, _, 4, 0, ⟨#[]⟩, _⟩, rfl, .inr rfl, hS.sb⟩
      · refine Sh.cut [] ?_
        exact ⟨⟨0, _, _, 2, 0, _, _⟩, rfl, .inl rfl, hS.sb⟩
    clear hS
    rintro f0 w _ ⟨x, rfl, hx, hS⟩
    obtain ⟨k1, k2⟩ := exP_h hc hx 0 5
    repeat' (first|refine K ?_|(refine Sh.sa hS ?_;clear hS;intro w hS)|(refine K3 ?_;clear hS;intro g w hS hge)|((first|refine GS ?_ ?_|refine VB ?_ ?_)<;>intro hb<;>(try simp only [JJ] at hb)<;>(try exact JX)))
    refine D.startS (Lr := [.blk g7 122 x.cells, .blk gx 42 (prC q n nb ak)]) (hS.sb) 8 8 (by kernel_rfl) rfl ?_
    replace hS := hS.drew
    refine Sh.dp 0 1 ?_
    refine Sh.dp 1 3 ?_
    refine Sh.dp 2 7 ?_
    refine Sh.dl 3 15 ?_
    refine Sh.dl 4 31 ?_
    refine D.eff 5 63 rfl D.wantedN (by kernel_rfl) (by kernel_rfl) (fun _ _ h => h) ?_
    replace hS := hS.fo (R := GP q.gg pairG)
    replace hS := hS.fo (R := PC q.gh 0 0 (.pointer (some ⟨q.gg, 0, .none⟩)) c)
    refine Z.cl (pexec_z q.gh q.gg 0 0 c pairG 0 5 x _ _ _ hS hc pairG_ws (by simp [pairG]) (by omega)) rfl ?_
    clear hS
    rintro e w ⟨rfl, hS⟩
    refine ⟨_, rfl, ?_⟩
    rw [pairG_acc] at hS ⊢
    refine ⟨HM.s (hS.sb), ?_⟩
    refine Sh.dp 6 127 ?_
    first | refine D.pr 7 255 rfl D.wantedN (by kernel_rfl) rfl ?_ | refine D.pl 7 255 rfl D.wantedN (by kernel_rfl) (R.eqa rfl rfl rfl rfl) ?_
    refine D.done (by kernel_rfl) ?_
    repeat' (first|refine K ?_|(refine Sh.sa hS ?_;clear hS;intro w hS)|(refine K3 ?_;clear hS;intro g w hS hge)|((first|refine GS ?_ ?_|refine VB ?_ ?_)<;>intro hb<;>(try simp only [JJ] at hb)<;>(try exact JX)))
    · refine D.startS (Lr := [.blk gx 42 (prC q n nb ak)]) (hS.sb) 10 11 (by kernel_rfl) rfl ?_
      replace hS := hS.drew
      refine Sh.dp 0 1 ?_
      refine Sh.dp 1 3 ?_
      refine Sh.dp 2 7 ?_
      refine Sh.dp 3 15 ?_
      first | refine D.ixn 4 31 rfl D.wantedN (by kernel_rfl) rfl rfl rfl (by omega) ?_ | refine D.ix 4 31 rfl D.wantedN (by kernel_rfl) rfl rfl rfl (by omega) ?_ | refine D.ia 4 31 rfl D.wantedN (by kernel_rfl) rfl rfl rfl (by omega) ?_
      refine Sh.dp 7 159 ?_
      refine Sh.dp 8 415 ?_
      refine Sh.dl 5 447 ?_
      first | refine D.sum 6 511 rfl D.wantedN (by kernel_rfl) rfl (by constructor <;> omega) ?_ | refine D.sumW 6 511 rfl D.wantedN (by kernel_rfl) rfl ?_
      first | refine D.ixn 9 1023 rfl D.wantedN (by kernel_rfl) rfl rfl rfl (by omega) ?_ | refine D.ix 9 1023 rfl D.wantedN (by kernel_rfl) rfl rfl rfl (by omega) ?_ | refine D.ia 9 1023 rfl D.wantedN (by kernel_rfl) rfl rfl rfl (by omega) ?_
      refine D.eff 10 2047 rfl D.wantedN (by kernel_rfl) (by kernel_rfl) (fun _ _ h => h) ?_
      refine Z.st hS rfl AtF rfl rfl ?_
      clear hS; intro w hS
      refine ⟨HM.last (by kernel_rfl), ?_⟩
      refine D.done (by kernel_rfl) ?_
      repeat' (first|refine K ?_|(refine Sh.sa hS ?_;clear hS;intro w hS)|(refine K3 ?_;clear hS;intro g w hS hge)|((first|refine GS ?_ ?_|refine VB ?_ ?_)<;>intro hb<;>(try simp only [JJ] at hb)<;>(try exact JX)))
      refine Dn Tryz.results47 ?_
      exact ⟨setN nb 1 (nb 1 + 1), _, rfl, ⟨key 1, k1, k2⟩, hS.sb⟩
    · refine Dn Tryz.results47 ?_
      exact ⟨nb, _, rfl, ⟨hnb2, k1, k2⟩, hS.sb⟩
  · repeat' (first|refine Kn ?_|(refine Sh.sa hS ?_;clear hS;intro w hS)|(refine K3 ?_;clear hS;intro g w hS hge)|((first|refine GS ?_ ?_|refine VB ?_ ?_)<;>intro hb<;>(try simp only [JJ] at hb)<;>(try exact JX)))
    refine Z.thN ?_
    repeat' (first|refine Kn ?_|(refine Sh.sa hS ?_;clear hS;intro w hS)|(refine K3 ?_;clear hS;intro g w hS hge)|((first|refine GS ?_ ?_|refine VB ?_ ?_)<;>intro hb<;>(try simp only [JJ] at hb)<;>(try exact JX)))
    refine Z.thN ?_
    rename Nat => g7
    refine Z.seq ?_
    refine Z.cut [20, 21, 22, 23, 24] (fun w z => ∃ x : Rq, z = [] ∧ (x.op = 2 ∨ x.op = 4) ∧ Sep r [] (.blk g7 122 x.cells :: .blk gx 42 (prC q n nb ak) :: PC q.gh 0 0 (.pointer (some ⟨q.gg, 0, .none⟩)) c :: GP q.gg pairG :: F) w) ?_ ?_
    · repeat' (first|refine K ?_|(refine Sh.sa hS ?_;clear hS;intro w hS)|(refine K3 ?_;clear hS;intro g w hS hge)|((first|refine GS ?_ ?_|refine VB ?_ ?_)<;>intro hb<;>(try simp only [JJ] at hb)<;>(try exact JX)))
      · refine Sh.cut [] ?_
        exact ⟨⟨0, _, _, 4, 0, ⟨#[]⟩, _⟩, rfl, .inr rfl, hS.sb⟩
      · refine Sh.cut [] ?_
        exact ⟨⟨0, _, _, 2, 0, _, _⟩, rfl, .inl rfl, hS.sb⟩
    clear hS
    rintro f0 w _ ⟨x, rfl, hx, hS⟩
    obtain ⟨k1, k2⟩ := exP_h hc hx 0 5
    repeat' (first|refine K ?_|(refine Sh.sa hS ?_;clear hS;intro w hS)|(refine K3 ?_;clear hS;intro g w hS hge)|((first|refine GS ?_ ?_|refine VB ?_ ?_)<;>intro hb<;>(try simp only [JJ] at hb)<;>(try exact JX)))
    refine D.startS (Lr := [.blk g7 122 x.cells, .blk gx 42 (prC q n nb ak)]) (hS.sb) 8 8 (by kernel_rfl) rfl ?_
    replace hS := hS.drew
    refine Sh.dp 0 1 ?_
    refine Sh.dp 1 3 ?_
    refine Sh.dp 2 7 ?_
    refine Sh.dl 3 15 ?_
    refine Sh.dl 4 31 ?_
    refine D.eff 5 63 rfl D.wantedN (by kernel_rfl) (by kernel_rfl) (fun _ _ h => h) ?_
    replace hS := hS.fo (R := GP q.gg pairG)
    replace hS := hS.fo (R := PC q.gh 0 0 (.pointer (some ⟨q.gg, 0, .none⟩)) c)
    refine Z.cl (pexec_z q.gh q.gg 0 0 c pairG 0 5 x _ _ _ hS hc pairG_ws (by simp [pairG]) (by omega)) rfl ?_
    clear hS
    rintro e w ⟨rfl, hS⟩
    refine ⟨_, rfl, ?_⟩
    rw [pairG_acc] at hS ⊢
    refine ⟨HM.s (hS.sb), ?_⟩
    refine Sh.dp 6 127 ?_
    first | refine D.pr 7 255 rfl D.wantedN (by kernel_rfl) rfl ?_ | refine D.pl 7 255 rfl D.wantedN (by kernel_rfl) (R.eqa rfl rfl rfl rfl) ?_
    refine D.done (by kernel_rfl) ?_
    repeat' (first|refine K ?_|(refine Sh.sa hS ?_;clear hS;intro w hS)|(refine K3 ?_;clear hS;intro g w hS hge)|((first|refine GS ?_ ?_|refine VB ?_ ?_)<;>intro hb<;>(try simp only [JJ] at hb)<;>(try exact JX)))
    · refine D.startS (Lr := [.blk gx 42 (prC q n nb ak)]) (hS.sb) 10 11 (by kernel_rfl) rfl ?_
      replace hS := hS.drew
      refine Sh.dp 0 1 ?_
      refine Sh.dp 1 3 ?_
      refine Sh.dp 2 7 ?_
      refine Sh.dp 3 15 ?_
      first | refine D.ixn 4 31 rfl D.wantedN (by kernel_rfl) rfl rfl rfl (by omega) ?_ | refine D.ix 4 31 rfl D.wantedN (by kernel_rfl) rfl rfl rfl (by omega) ?_ | refine D.ia 4 31 rfl D.wantedN (by kernel_rfl) rfl rfl rfl (by omega) ?_
      refine Sh.dp 7 159 ?_
      refine Sh.dp 8 415 ?_
      refine Sh.dl 5 447 ?_
      first | refine D.sum 6 511 rfl D.wantedN (by kernel_rfl) rfl (by constructor <;> omega) ?_ | refine D.sumW 6 511 rfl D.wantedN (by kernel_rfl) rfl ?_
      first | refine D.ixn 9 1023 rfl D.wantedN (by kernel_rfl) rfl rfl rfl (by omega) ?_ | refine D.ix 9 1023 rfl D.wantedN (by kernel_rfl) rfl rfl rfl (by omega) ?_ | refine D.ia 9 1023 rfl D.wantedN (by kernel_rfl) rfl rfl rfl (by omega) ?_
      refine D.eff 10 2047 rfl D.wantedN (by kernel_rfl) (by kernel_rfl) (fun _ _ h => h) ?_
      refine Z.st hS rfl AtF rfl rfl ?_
      clear hS; intro w hS
      refine ⟨HM.last (by kernel_rfl), ?_⟩
      refine D.done (by kernel_rfl) ?_
      repeat' (first|refine K ?_|(refine Sh.sa hS ?_;clear hS;intro w hS)|(refine K3 ?_;clear hS;intro g w hS hge)|((first|refine GS ?_ ?_|refine VB ?_ ?_)<;>intro hb<;>(try simp only [JJ] at hb)<;>(try exact JX)))
      refine Dn Tryz.results47 ?_
      exact ⟨setN nb 2 (nb 2 + 1), _, rfl, ⟨key 2, k1, k2⟩, hS.sb⟩
    · refine Dn Tryz.results47 ?_
      exact ⟨nb, _, rfl, ⟨hnb2, k1, k2⟩, hS.sb⟩
  · repeat' (first|refine Kn ?_|(refine Sh.sa hS ?_;clear hS;intro w hS)|(refine K3 ?_;clear hS;intro g w hS hge)|((first|refine GS ?_ ?_|refine VB ?_ ?_)<;>intro hb<;>(try simp only [JJ] at hb)<;>(try exact JX)))
    refine Z.thN ?_
    repeat' (first|refine Kn ?_|(refine Sh.sa hS ?_;clear hS;intro w hS)|(refine K3 ?_;clear hS;intro g w hS hge)|((first|refine GS ?_ ?_|refine VB ?_ ?_)<;>intro hb<;>(try simp only [JJ] at hb)<;>(try exact JX)))
    refine Z.thN ?_
    rename Nat => g7
    refine Z.seq ?_
    refine Z.cut [20, 21, 22, 23, 24] (fun w z => ∃ x : Rq, z = [] ∧ (x.op = 2 ∨ x.op = 4) ∧ Sep r [] (.blk g7 122 x.cells :: .blk gx 42 (prC q n nb ak) :: PC q.gh 0 0 (.pointer (some ⟨q.gg, 0, .none⟩)) c :: GP q.gg pairG :: F) w) ?_ ?_
    · repeat' (first|refine K ?_|(refine Sh.sa hS ?_;clear hS;intro w hS)|(refine K3 ?_;clear hS;intro g w hS hge)|((first|refine GS ?_ ?_|refine VB ?_ ?_)<;>intro hb<;>(try simp only [JJ] at hb)<;>(try exact JX)))
      · refine Sh.cut [] ?_
        exact ⟨⟨0, _, _, 4, 0, ⟨#[]⟩, _⟩, rfl, .inr rfl, hS.sb⟩
      · refine Sh.cut [] ?_
        exact ⟨⟨0, _, _, 2, 0, _, _⟩, rfl, .inl rfl, hS.sb⟩
    clear hS
    rintro f0 w _ ⟨x, rfl, hx, hS⟩
    obtain ⟨k1, k2⟩ := exP_h hc hx 0 5
    repeat' (first|refine K ?_|(refine Sh.sa hS ?_;clear hS;intro w hS)|(refine K3 ?_;clear hS;intro g w hS hge)|((first|refine GS ?_ ?_|refine VB ?_ ?_)<;>intro hb<;>(try simp only [JJ] at hb)<;>(try exact JX)))
    refine D.startS (Lr := [.blk g7 122 x.cells, .blk gx 42 (prC q n nb ak)]) (hS.sb) 8 8 (by kernel_rfl) rfl ?_
    replace hS := hS.drew
    refine Sh.dp 0 1 ?_
    refine Sh.dp 1 3 ?_
    refine Sh.dp 2 7 ?_
    refine Sh.dl 3 15 ?_
    refine Sh.dl 4 31 ?_
    refine D.eff 5 63 rfl D.wantedN (by kernel_rfl) (by kernel_rfl) (fun _ _ h => h) ?_
    replace hS := hS.fo (R := GP q.gg pairG)
    replace hS := hS.fo (R := PC q.gh 0 0 (.pointer (some ⟨q.gg, 0, .none⟩)) c)
    refine Z.cl (pexec_z q.gh q.gg 0 0 c pairG 0 5 x _ _ _ hS hc pairG_ws (by simp [pairG]) (by omega)) rfl ?_
    clear hS
    rintro e w ⟨rfl, hS⟩
    refine ⟨_, rfl, ?_⟩
    rw [pairG_acc] at hS ⊢
    refine ⟨HM.s (hS.sb), ?_⟩
    refine Sh.dp 6 127 ?_
    first | refine D.pr 7 255 rfl D.wantedN (by kernel_rfl) rfl ?_ | refine D.pl 7 255 rfl D.wantedN (by kernel_rfl) (R.eqa rfl rfl rfl rfl) ?_
    refine D.done (by kernel_rfl) ?_
    repeat' (first|refine K ?_|(refine Sh.sa hS ?_;clear hS;intro w hS)|(refine K3 ?_;clear hS;intro g w hS hge)|((first|refine GS ?_ ?_|refine VB ?_ ?_)<;>intro hb<;>(try simp only [JJ] at hb)<;>(try exact JX)))
    · refine D.startS (Lr := [.blk gx 42 (prC q n nb ak)]) (hS.sb) 10 11 (by kernel_rfl) rfl ?_
      replace hS := hS.drew
      refine Sh.dp 0 1 ?_
      refine Sh.dp 1 3 ?_
      refine Sh.dp 2 7 ?_
      refine Sh.dp 3 15 ?_
      first | refine D.ixn 4 31 rfl D.wantedN (by kernel_rfl) rfl rfl rfl (by omega) ?_ | refine D.ix 4 31 rfl D.wantedN (by kernel_rfl) rfl rfl rfl (by omega) ?_ | refine D.ia 4 31 rfl D.wantedN (by kernel_rfl) rfl rfl rfl (by omega) ?_
      refine Sh.dp 7 159 ?_
      refine Sh.dp 8 415 ?_
      refine Sh.dl 5 447 ?_
      first | refine D.sum 6 511 rfl D.wantedN (by kernel_rfl) rfl (by constructor <;> omega) ?_ | refine D.sumW 6 511 rfl D.wantedN (by kernel_rfl) rfl ?_
      first | refine D.ixn 9 1023 rfl D.wantedN (by kernel_rfl) rfl rfl rfl (by omega) ?_ | refine D.ix 9 1023 rfl D.wantedN (by kernel_rfl) rfl rfl rfl (by omega) ?_ | refine D.ia 9 1023 rfl D.wantedN (by kernel_rfl) rfl rfl rfl (by omega) ?_
      refine D.eff 10 2047 rfl D.wantedN (by kernel_rfl) (by kernel_rfl) (fun _ _ h => h) ?_
      refine Z.st hS rfl AtF rfl rfl ?_
      clear hS; intro w hS
      refine ⟨HM.last (by kernel_rfl), ?_⟩
      refine D.done (by kernel_rfl) ?_
      repeat' (first|refine K ?_|(refine Sh.sa hS ?_;clear hS;intro w hS)|(refine K3 ?_;clear hS;intro g w hS hge)|((first|refine GS ?_ ?_|refine VB ?_ ?_)<;>intro hb<;>(try simp only [JJ] at hb)<;>(try exact JX)))
      refine Dn Tryz.results47 ?_
      exact ⟨setN nb 3 (nb 3 + 1), _, rfl, ⟨key 3, k1, k2⟩, hS.sb⟩
    · refine Dn Tryz.results47 ?_
      exact ⟨nb, _, rfl, ⟨hnb2, k1, k2⟩, hS.sb⟩
end Go.Proofs.YtfmnjbhncnldmaaGreat
