import Derived.Test.YtfmnjbhncnldmaaGreatP09
set_option linter.unusedSimpArgs false
set_option linter.unusedVariables false
namespace Go.Proofs.YtfmnjbhncnldmaaGreat
open Go.RowKit
attribute [local irreducible] Res.blk Res.sl Res.all Res.ex Res.pure Res.star
def codeZ (n : Int) : Int := if n < 0 then -2 * n - 1 else 2 * n
def leb (u : Nat) : List Int := if u < 128 then [(u : Int)] else ((u % 128 + 128 : Nat) : Int) :: leb (u / 128)
termination_by u
decreasing_by omega
def byC (z : Int) : List Value := [.int .u8 z]
def putL (n : Int) : List Int := leb (codeZ n).toNat
def mixF (h n : Int) : Int :=
  let y := IntKind.u64.wrap (bitZ .u64 (· ^^^ ·) h (IntKind.u64.wrap n) * 1099511628211)
  bitZ .u64 (· ^^^ ·) y (y.fdiv (2 ^ 29))
def sumF (key : Int) (b : List Int) : Int := mixF (b.foldl mixF (mixF 14695981039346656037 key)) b.length
def i64ok (n : Int) : Prop := -9223372036854775808 ≤ n ∧ n ≤ 9223372036854775807
theorem codeZ_lt {n : Int} (h : i64ok n) : 0 ≤ codeZ n ∧ codeZ n < 18446744073709551616 := by
  unfold i64ok at h
  unfold codeZ
  split <;> omega
theorem u64_wrap (z : Int) : IntKind.u64.wrap z = z % 18446744073709551616 := by
  simp [IntKind.wrap, IntKind.signed, IntKind.bits]
theorem codeP_neg {n : Int} (h : i64ok n) (hn : n < 0) : bitZ .u64 (· ^^^ ·) IntKind.u64.max (IntKind.u64.wrap (IntKind.u64.wrap n * 2 ^ min (1 : Int).toNat IntKind.u64.bits)) = codeZ n := by
  unfold i64ok at h
  have e1 : IntKind.u64.wrap (IntKind.u64.wrap n * 2 ^ min (1 : Int).toNat IntKind.u64.bits) = 2 * n + 18446744073709551616 := by
    rw [u64_wrap, u64_wrap]
    have : (2 : Int) ^ min (1 : Int).toNat IntKind.u64.bits = 2 := by decide
    rw [this]
    omega
  rw [e1]
  unfold codeZ
  rw [if_pos hn]
  unfold bitZ
  have e2 : BitVec.ofInt 64 18446744073709551615 = BitVec.allOnes 64 := by decide
  show IntKind.u64.wrap ((BitVec.ofInt 64 18446744073709551615 ^^^ BitVec.ofInt 64 (2 * n + 18446744073709551616)).toNat : Int) = _
  rw [e2, BitVec.allOnes_xor, BitVec.toNat_not, BitVec.toNat_ofInt, u64_wrap]
  omega
theorem codeP_pos {n : Int} (h : i64ok n) (hn : 0 ≤ n) : IntKind.u64.wrap (IntKind.u64.wrap n * 2 ^ min (1 : Int).toNat IntKind.u64.bits) = codeZ n := by
  unfold i64ok at h
  unfold codeZ
  rw [if_neg (by omega), u64_wrap, u64_wrap]
  have : (2 : Int) ^ min (1 : Int).toNat IntKind.u64.bits = 2 := by decide
  rw [this]
  omega
theorem u8_wrap (z : Int) : IntKind.u8.wrap z = z % 256 := by
  simp [IntKind.wrap, IntKind.signed, IntKind.bits]
set_option maxRecDepth 100000 in
theorem or128 : ∀ x : Fin 256, bitZ .u8 (· ||| ·) (x.val : Int) 128 = ((x.val % 128 + 128 : Nat) : Int) := by decide
theorem group_or (u : Nat) : bitZ .u8 (· ||| ·) (IntKind.u8.wrap (u : Int)) 128 = ((u % 128 + 128 : Nat) : Int) := by
  rw [u8_wrap]
  have h := or128 ⟨u % 256, Nat.mod_lt _ (by omega)⟩
  simp only at h
  have e : (u : Int) % 256 = ((u % 256 : Nat) : Int) := by omega
  rw [e, h]
  congr 2
  omega
theorem leb_lt {u : Nat} (h : u < 128) : leb u = [(u : Int)] := by unfold leb; rw [if_pos h]
theorem leb_ge {u : Nat} (h : ¬ u < 128) : leb u = ((u % 128 + 128 : Nat) : Int) :: leb (u / 128) := by rw [leb, if_neg h]
theorem leb_len : ∀ (k u : Nat), u < 128 ^ (k + 1) → (leb u).length ≤ k + 1
  | 0, u, h => by rw [leb_lt (by simpa using h)]; simp
  | k + 1, u, h => by
    by_cases h1 : u < 128
    · rw [leb_lt h1]; simp
    · rw [leb_ge h1]
      have h2 : u / 128 < 128 ^ (k + 1) := by
        rw [Nat.div_lt_iff_lt_mul (by omega)]
        rw [Nat.pow_succ] at h
        exact h
      have := leb_len k (u / 128) h2
      simp only [List.length_cons]
      omega
theorem putL_len {n : Int} (h : i64ok n) : (putL n).length ≤ 10 := by
  have := codeZ_lt h
  unfold putL
  refine leb_len 9 _ ?_
  have e : (128 : Nat) ^ (9 + 1) = 1180591620717411303424 := by decide
  rw [e]
  omega
def bOk (l : List Int) : Prop := ∀ x, x ∈ l → 0 ≤ x ∧ x < 256
theorem bOk.nil : bOk [] := by intro x h; cases h
theorem bOk.app {a b : List Int} (ha : bOk a) (hb : bOk b) : bOk (a ++ b) := by
  intro x h
  rcases List.mem_append.1 h with h | h
  · exact ha x h
  · exact hb x h
theorem leb_ok (u : Nat) : bOk (leb u) := by
  induction u using Nat.strongRecOn with
  | _ u ih =>
    by_cases h : u < 128
    · rw [leb_lt h]
      intro x hx
      rw [List.mem_singleton] at hx
      subst hx
      omega
    · rw [leb_ge h]
      intro x hx
      rcases List.mem_cons.1 hx with rfl | hx
      · omega
      · exact ih _ (by omega) x hx
theorem putL_ok (n : Int) : bOk (putL n) := leb_ok _
theorem fold_take {β : Type} (f : β → Int → β) (b : β) (l : List Int) {i : Nat} (hi : i < l.length) : f ((l.take i).foldl f b) l[i] = (l.take (i + 1)).foldl f b := by
  rw [List.take_succ_eq_append_getElem hi, List.foldl_append]
  simp
theorem shr7 (u : Nat) : (u : Int).fdiv (2 ^ min (7 : Int).toNat IntKind.u64.bits) = ((u / 128 : Nat) : Int) := by
  have e : (2 : Int) ^ min (7 : Int).toNat IntKind.u64.bits = 128 := by decide
  rw [e, Int.fdiv_eq_ediv_of_nonneg _ (by omega)]
  rfl
theorem wcode_z (n : Int) (hn : i64ok n) (w : World) : Calls Tryz.prog 444 #[.int .i64 n] w fun e w' => e = .returned (.int .u64 (codeZ n)) ∧ Chg [] w w' := by
  have hS := Sep.root w
  refine Z.enter Tryz.func444 Tryz.ntmps444 rfl rfl ?_
  repeat' (first|refine K ?_|(refine Sh.sa hS ?_;clear hS;intro w hS)|(refine K3 ?_;clear hS;intro g w hS hge)|(refine KB ?_ ?_<;>intro hb<;>(try simp only [JJ] at hb)<;>(try exact JX))|fail)
  · refine Dnt Tryz.results444 ?_
    exact ⟨congrArg (fun z => Ending.returned (Value.int .u64 z)) (codeP_neg hn (by omega)), hS.chg⟩
  · refine Dnt Tryz.results444 ?_
    exact ⟨congrArg (fun z => Ending.returned (Value.int .u64 z)) (codeP_pos hn (by omega)), hS.chg⟩
set_option maxHeartbeats 1000000 in
theorem wcopied_z (l : List Int) (v : Value) (k : Nat) (r : World) (F : List Res) (w : World) (hS : Sep r [] F w) (hrd : Reads r F 1 v (l.map byC)) (hl : l.length ≤ 1000000) (hk : k ≤ 1000000) :
    Calls Tryz.prog 428 #[v, .int .i64 k] w fun e w' => ∃ A c, e = .returned (.slice A l.length c) ∧ Sep r [] (.sl 5 1 (.slice A l.length c) (l.map byC) :: F) w' := by
  obtain ⟨A, c, rfl, hc⟩ := (hrd [] w hS).mform
  refine Z.enter Tryz.func428 Tryz.ntmps428 rfl rfl ?_
  repeat' (first|refine K ?_|(refine Sh.sa hS ?_;clear hS;intro w hS)|(refine K3 ?_;clear hS;intro g w hS hge)|(refine KB ?_ ?_<;>intro hb<;>(try simp only [JJ] at hb)<;>(try exact JX))|fail)
  refine Z.eff (Z.mks (bytes := 1) (l := 0) (c := l.length + k) hS rfl (congrArg (Value.int .i64) (Int.natCast_add l.length k).symm) rfl (Nat.zero_le _) (by show 1 * (l.length + k) ≤ 281474976710656; omega) (by unfold maxLen; omega) ?_) rfl
  clear hS; intro gz w hS _
  replace hS := mk_sl0 (sz := 1) (c := l.length + k) hS (by unfold maxLen; omega) (by rw [zerosL_ln]; rfl)
  repeat' (first|refine K ?_|(refine Sh.sa hS ?_;clear hS;intro w hS)|(refine K3 ?_;clear hS;intro g w hS hge)|(refine KB ?_ ?_<;>intro hb<;>(try simp only [JJ] at hb)<;>(try exact JX))|fail)
  refine Z.eff (Z.apm (l := []) (l' := l) hS rfl rfl rfl .here (hrd [_] w hS) LnF LnF ?_) rfl
  clear hS; intro A2 c2 w hS
  simp only [List.length_nil, Nat.zero_add, List.nil_append] at hS ⊢
  repeat' (first|refine K ?_|(refine Sh.sa hS ?_;clear hS;intro w hS)|(refine K3 ?_;clear hS;intro g w hS hge)|(refine KB ?_ ?_<;>intro hb<;>(try simp only [JJ] at hb)<;>(try exact JX))|fail)
  refine Dnt Tryz.results428 ?_
  exact ⟨A2, c2, rfl, hS⟩
theorem wcopied_i (l : List Int) (v : Value) (k : Int) (r : World) (F : List Res) (w : World) (hS : Sep r [] F w) (hrd : Reads r F 1 v (l.map byC)) (hl : l.length ≤ 1000000) (hk : 0 ≤ k ∧ k ≤ 1000000) :
    Calls Tryz.prog 428 #[v, .int .i64 k] w fun e w' => ∃ A c, e = .returned (.slice A l.length c) ∧ Sep r [] (.sl 5 1 (.slice A l.length c) (l.map byC) :: F) w' := by
  obtain ⟨q, rfl⟩ := Int.eq_ofNat_of_zero_le hk.1
  exact wcopied_z l v q r F w hS hrd hl (by omega)
set_option maxHeartbeats 1000000 in
theorem wput_z (l : List Int) (A : Option Addr) (c : Nat) (n : Int) (hn : i64ok n) (r : World) (F : List Res) (w : World) (hS : Sep r [] (.sl 5 1 (.slice A l.length c) (l.map byC) :: F) w) (hl : l.length ≤ 2000000) :
    Calls Tryz.prog 427 #[.slice A l.length c, .int .i64 n] w fun e w' => ∃ A' c', e = .returned (.slice A' (l ++ putL n).length c') ∧ Sep r [] (.sl 5 1 (.slice A' (l ++ putL n).length c') ((l ++ putL n).map byC) :: F) w' := by
  have hcz := codeZ_lt hn
  refine Z.enter Tryz.func427 Tryz.ntmps427 rfl rfl ?_
  repeat' (first|refine K ?_|(refine Sh.sa hS ?_;clear hS;intro w hS)|(refine K3 ?_;clear hS;intro g w hS hge)|(refine KB ?_ ?_<;>intro hb<;>(try simp only [JJ] at hb)<;>(try exact JX))|fail)
  refine Z.eff (Z.cl (wcode_z n hn _) rfl ?_) rfl
  rintro e w' ⟨rfl, hC⟩
  refine ⟨_, rfl, ?_⟩
  replace hS := hS.ext hC
  clear hC
  obtain ⟨u, hu⟩ := Int.eq_ofNat_of_zero_le hcz.1
  have hul : u < 18446744073709551616 := by omega
  have hpl : putL n = leb u := by unfold putL; rw [hu]; rfl
  rw [hu]
  repeat' (first|refine K ?_|(refine Sh.sa hS ?_;clear hS;intro w hS)|(refine K3 ?_;clear hS;intro g w hS hge)|(refine KB ?_ ?_<;>intro hb<;>(try simp only [JJ] at hb)<;>(try exact JX))|fail)
  refine Z.lpS [0, 5, 8, 9, 10, 11, 12, 13, 14, 15, 16, 17] (fun m w s => ∃ (l' : List Int) (u' : Nat) (A' : Option Addr) (c' : Nat), s = [(0, .slice A' l'.length c'), (5, .int .u64 (u' : Int))] ∧ l' ++ leb u' = l ++ leb u ∧ u' = m ∧ Sep r [] (.sl 5 1 (.slice A' l'.length c') (l'.map byC) :: F) w) _ [(0, .slice A l.length c), (5, .int .u64 (u : Int))] TrF ⟨l, u, A, c, rfl, rfl, rfl, hS⟩ ?_
  clear hS
  rintro m f0 w _ ⟨l', u', A', c', rfl, hlu, hum, hS⟩
  subst hum
  have hll := congrArg List.length hlu
  simp only [List.length_append] at hll
  have hlb := putL_len hn
  rw [hpl] at hlb
  repeat' (first|refine K ?_|(refine Sh.sa hS ?_;clear hS;intro w hS)|(refine K3 ?_;clear hS;intro g w hS hge)|(refine KB ?_ ?_<;>intro hb<;>(try simp only [JJ] at hb)<;>(try exact JX))|fail)
  · have hge : ¬ u' < 128 := by omega
    rw [leb_ge hge] at hlu hll
    rw [group_or] at hS
    simp only [List.length_cons] at hll
    refine Z.eff (Z.apm (l' := [((u' % 128 + 128 : Nat) : Int)]) hS rfl rfl rfl AtF (hS.lit1 AtF rfl rfl) LnF LnF ?_) rfl
    clear hS; intro A2 c2 w hS
    rw [← List.length_append] at hS ⊢
    repeat' (first|refine K ?_|(refine Sh.sa hS ?_;clear hS;intro w hS)|(refine K3 ?_;clear hS;intro g w hS hge)|(refine KB ?_ ?_<;>intro hb<;>(try simp only [JJ] at hb)<;>(try exact JX))|fail)
    rw [shr7]
    refine Sh.again (u' / 128) [(0, .slice A2 _ c2), (5, .int .u64 ((u' / 128 : Nat) : Int))] ?_
    exact ⟨l' ++ [((u' % 128 + 128 : Nat) : Int)], u' / 128, A2, c2, rfl, by rw [← hlu]; simp, rfl, hS.sb⟩
  · have hlt : u' < 128 := by omega
    rw [leb_lt hlt] at hlu hll
    have e8 : IntKind.u8.wrap (u' : Int) = (u' : Int) := by rw [u8_wrap]; omega
    rw [e8] at hS
    simp only [List.length_cons, List.length_nil] at hll
    refine Z.eff (Z.apm (l' := [(u' : Int)]) hS rfl rfl rfl AtF (hS.lit1 AtF rfl rfl) LnF LnF ?_) rfl
    clear hS; intro A2 c2 w hS
    rw [← List.length_append, hlu, ← hpl] at hS ⊢
    repeat' (first|refine K ?_|(refine Sh.sa hS ?_;clear hS;intro w hS)|(refine K3 ?_;clear hS;intro g w hS hge)|(refine KB ?_ ?_<;>intro hb<;>(try simp only [JJ] at hb)<;>(try exact JX))|fail)
    refine Dnt Tryz.results427 ?_
    exact ⟨A2, c2, rfl, hS.sb⟩
theorem wint_z (l : List Int) (v : Value) (n : Int) (hn : i64ok n) (r : World) (F : List Res) (w : World) (hS : Sep r [] F w) (hrd : Reads r F 1 v (l.map byC)) (hl : l.length ≤ 1000000) :
    Calls Tryz.prog 406 #[v, .int .i64 n] w fun e w' => ∃ A c, e = .returned (.slice A (l ++ putL n).length c) ∧ Sep r [] (.sl 5 1 (.slice A (l ++ putL n).length c) ((l ++ putL n).map byC) :: F) w' := by
  obtain ⟨A0, c0, rfl, _⟩ := (hrd [] w hS).mform
  refine Z.enter Tryz.func406 Tryz.ntmps406 rfl rfl ?_
  repeat' (first|refine K ?_|(refine Sh.sa hS ?_;clear hS;intro w hS)|(refine K3 ?_;clear hS;intro g w hS hge)|(refine KB ?_ ?_<;>intro hb<;>(try simp only [JJ] at hb)<;>(try exact JX))|fail)
  refine Z.eff (Z.cl (wcopied_i l (.slice A0 _ c0) 10 _ _ _ hS hrd hl (by omega)) rfl ?_) rfl
  clear hS
  rintro e w ⟨A, c, rfl, hS⟩
  refine ⟨_, rfl, ?_⟩
  repeat' (first|refine K ?_|(refine Sh.sa hS ?_;clear hS;intro w hS)|(refine K3 ?_;clear hS;intro g w hS hge)|(refine KB ?_ ?_<;>intro hb<;>(try simp only [JJ] at hb)<;>(try exact JX))|fail)
  refine Z.eff (Z.cl (wput_z l A c n hn _ _ _ hS (by omega)) rfl ?_) rfl
  clear hS
  rintro e w ⟨A, c, rfl, hS⟩
  refine ⟨_, rfl, ?_⟩
  repeat' (first|refine K ?_|(refine Sh.sa hS ?_;clear hS;intro w hS)|(refine K3 ?_;clear hS;intro g w hS hge)|(refine KB ?_ ?_<;>intro hb<;>(try simp only [JJ] at hb)<;>(try exact JX))|fail)
  refine Dnt Tryz.results406 ?_
  exact ⟨A, c, rfl, hS⟩
theorem dmix_z (h n : Int) (w : World) : Calls Tryz.prog 431 #[.int .u64 h, .int .i64 n] w fun e w' => e = .returned (.int .u64 (mixF h n)) ∧ Chg [] w w' := by
  have hS := Sep.root w
  refine Z.enter Tryz.func431 Tryz.ntmps431 rfl rfl ?_
  repeat' (first|refine K ?_|(refine Sh.sa hS ?_;clear hS;intro w hS)|(refine K3 ?_;clear hS;intro g w hS hge)|(refine KB ?_ ?_<;>intro hb<;>(try simp only [JJ] at hb)<;>(try exact JX))|fail)
  refine Dnt Tryz.results431 ?_
  exact ⟨rfl, hS.chg⟩
theorem dall_z (h : Int) (b : List Int) (v : Value) (r : World) (F : List Res) (w : World) (hS : Sep r [] F w) (hrd : Reads r F 1 v (b.map byC)) (hb0 : bOk b) (hl : b.length ≤ 1000000) :
    Calls Tryz.prog 430 #[.int .u64 h, v] w fun e w' => e = .returned (.int .u64 (mixF (b.foldl mixF h) b.length)) ∧ Sep r [] F w' := by
  obtain ⟨A2, c2, rfl, hc⟩ := (hrd [] w hS).mform
  refine Z.enter Tryz.func430 Tryz.ntmps430 rfl rfl ?_
  repeat' (first|refine K ?_|(refine Sh.sa hS ?_;clear hS;intro w hS)|(refine K3 ?_;clear hS;intro g w hS hge)|(refine KB ?_ ?_<;>intro hb<;>(try simp only [JJ] at hb)<;>(try exact JX))|fail)
  refine Z.lpS [0, 6, 9, 10, 11, 12, 13, 14, 15, 16, 17] (fun m w s => ∃ i : Nat, s = [(0, .int .u64 ((b.take i).foldl mixF h)), (9, .int .i64 i)] ∧ i ≤ b.length ∧ m = b.length - i ∧ Sep r [] F w) _ [(0, .int .u64 h), (9, .int .i64 (0 : Nat))] TrF ⟨0, rfl, by omega, rfl, hS⟩ ?_
  clear hS
  rintro m f0 w _ ⟨i, rfl, hile, rfl, hS⟩
  by_cases hlt : i < b.length
  · obtain ⟨gb, o, rfl, _, hra⟩ := (hrd [] w hS).mat (by omega) (q := i) hlt
    have hbi := hb0 b[i] (by simp)
    repeat' (first|refine K ?_|(refine Sh.sa hS ?_;clear hS;intro w hS)|(refine K3 ?_;clear hS;intro g w hS hge)|(refine KB ?_ ?_<;>intro hb<;>(try simp only [JJ] at hb)<;>(try exact JX))|fail)
    refine Z.eff (Z.cl (dmix_z ((b.take i).foldl mixF h) (IntKind.i64.wrap b[i]) _) rfl ?_) rfl
    rintro e w' ⟨rfl, hC⟩
    refine ⟨_, rfl, ?_⟩
    replace hS := hS.ext hC
    clear hC
    rw [Z.wrap_in (c := b[i]) (by omega) (by omega), fold_take mixF h b hlt]
    repeat' (first|refine K ?_|(refine Sh.sa hS ?_;clear hS;intro w hS)|(refine K3 ?_;clear hS;intro g w hS hge)|(refine KB ?_ ?_<;>intro hb<;>(try simp only [JJ] at hb)<;>(try exact JX))|fail)
    refine Sh.again (b.length - (i + 1)) [(0, .int .u64 ((b.take (i + 1)).foldl mixF h)), (9, .int .i64 (i + 1 : Nat))] ?_
    exact ⟨i + 1, rfl, by omega, rfl, hS⟩
  · have hi0 : i = b.length := by omega
    subst hi0
    repeat' (first|refine K ?_|(refine Sh.sa hS ?_;clear hS;intro w hS)|(refine K3 ?_;clear hS;intro g w hS hge)|(refine KB ?_ ?_<;>intro hb<;>(try simp only [JJ] at hb)<;>(try exact JX))|fail)
    refine Z.eff (Z.cl (dmix_z ((b.take b.length).foldl mixF h) b.length _) rfl ?_) rfl
    rintro e w' ⟨rfl, hC⟩
    refine ⟨_, rfl, ?_⟩
    replace hS := hS.ext hC
    clear hC
    repeat' (first|refine K ?_|(refine Sh.sa hS ?_;clear hS;intro w hS)|(refine K3 ?_;clear hS;intro g w hS hge)|(refine KB ?_ ?_<;>intro hb<;>(try simp only [JJ] at hb)<;>(try exact JX))|fail)
    refine Dnt Tryz.results430 ?_
    rw [List.take_length]
    exact ⟨rfl, hS⟩
theorem dsum_z (key : Int) (b : List Int) (v : Value) (r : World) (F : List Res) (w : World) (hS : Sep r [] F w) (hrd : Reads r F 1 v (b.map byC)) (hb0 : bOk b) (hl : b.length ≤ 1000000) :
    Calls Tryz.prog 411 #[.int .i64 key, v] w fun e w' => e = .returned (.int .u64 (sumF key b)) ∧ Sep r [] F w' := by
  obtain ⟨A0, c0, rfl, _⟩ := (hrd [] w hS).mform
  refine Z.enter Tryz.func411 Tryz.ntmps411 rfl rfl ?_
  repeat' (first|refine K ?_|(refine Sh.sa hS ?_;clear hS;intro w hS)|(refine K3 ?_;clear hS;intro g w hS hge)|(refine KB ?_ ?_<;>intro hb<;>(try simp only [JJ] at hb)<;>(try exact JX))|fail)
  refine Z.eff (Z.cl (dmix_z 14695981039346656037 key _) rfl ?_) rfl
  rintro e w' ⟨rfl, hC⟩
  refine ⟨_, rfl, ?_⟩
  replace hS := hS.ext hC
  clear hC
  repeat' (first|refine K ?_|(refine Sh.sa hS ?_;clear hS;intro w hS)|(refine K3 ?_;clear hS;intro g w hS hge)|(refine KB ?_ ?_<;>intro hb<;>(try simp only [JJ] at hb)<;>(try exact JX))|fail)
  refine Z.eff (Z.cl (dall_z (mixF 14695981039346656037 key) b (.slice A0 _ c0) _ _ _ hS hrd hb0 hl) rfl ?_) rfl
  clear hS
  rintro e w ⟨rfl, hS⟩
  refine ⟨_, rfl, ?_⟩
  repeat' (first|refine K ?_|(refine Sh.sa hS ?_;clear hS;intro w hS)|(refine K3 ?_;clear hS;intro g w hS hge)|(refine KB ?_ ?_<;>intro hb<;>(try simp only [JJ] at hb)<;>(try exact JX))|fail)
  refine Dnt Tryz.results411 ?_
  exact ⟨rfl, hS⟩
end Go.Proofs.YtfmnjbhncnldmaaGreat
