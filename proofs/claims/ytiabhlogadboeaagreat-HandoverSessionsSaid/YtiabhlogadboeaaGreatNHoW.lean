/-
  The walks of the bytes of numbers and texts, and of the sums of bytes.
-/
import Derived.Test.YtiabhlogadboeaaGreatNHoP
namespace Go.Proofs.YtiabhlogadboeaaGreat
open Go.RowKit
set_option linter.unusedSimpArgs false
set_option linter.unusedVariables false
attribute [local irreducible] Res.blk Res.sl Res.all Res.ex Res.pure Res.star

theorem byt_ok {l : List Int} : ∀ row, row ∈ l.map byC → row.length = 1 ∧ ∀ u, u ∈ row → u.oneCell' = true := by
  intro row hr
  obtain ⟨x, _, rfl⟩ := List.mem_map.1 hr
  exact ⟨rfl, by simp [byC, Value.oneCell']⟩
theorem shr7 (u : Nat) : (u : Int).fdiv (2 ^ min (7 : Int).toNat IntKind.u64.bits) = ((u / 128 : Nat) : Int) := by
  have e : (2 : Int) ^ min (7 : Int).toNat IntKind.u64.bits = 128 := by decide
  rw [e, Int.fdiv_eq_ediv_of_nonneg _ (by omega)]
  rfl
theorem wcode_z (n : Int) (hn : i64ok n) (w : World) : Calls Tryz.prog 162 #[.int .i64 n] w fun e w' => e = .returned (.int .u64 (codeZ n)) ∧ Chg [] w w' := by
  have hS := Sep.root w
  refine Z.enter Tryz.func162 Tryz.ntmps162 rfl rfl ?_
  repeat' (first|refine K ?_|(refine Sh.sa hS ?_;clear hS;intro w hS)|(refine K3 ?_;clear hS;intro g w hS hge)|((first|refine GS ?_ ?_|refine VB ?_ ?_)<;>intro hb<;>(try simp only [J1,J2,J3,J4,J5,J6] at hb)<;>(try (exfalso;first|omega|exact hb trivial))))
  · refine Dnt Tryz.results162 ?_
    exact ⟨congrArg (fun z => Ending.returned (Value.int .u64 z)) (codeP_neg hn (by omega)), hS.chg⟩
  · refine Dnt Tryz.results162 ?_
    exact ⟨congrArg (fun z => Ending.returned (Value.int .u64 z)) (codeP_pos hn (by omega)), hS.chg⟩
theorem rcode_z (n : Int) (hn : i64ok n) (w : World) : Calls Tryz.prog 141 #[.int .i64 n] w fun e w' => e = .returned (.int .u64 (codeZ n)) ∧ Chg [] w w' := by
  have hS := Sep.root w
  have hn2 := hn
  unfold i64ok at hn2
  refine Z.enter Tryz.func141 Tryz.ntmps141 rfl rfl ?_
  repeat' (first|refine K ?_|(refine Sh.sa hS ?_;clear hS;intro w hS)|(refine K3 ?_;clear hS;intro g w hS hge)|((first|refine GS ?_ ?_|refine VB ?_ ?_)<;>intro hb<;>(try simp only [J1,J2,J3,J4,J5,J6] at hb)<;>(try (exfalso;first|omega|exact hb trivial))))
  · refine Dnt Tryz.results141 ?_
    exact ⟨congrArg (fun z => Ending.returned (Value.int .u64 z)) (codeR_pos hn (by omega)), hS.chg⟩
  · have e := Z.wrap_in (c := 0 - (n + 1)) (by omega) (by omega)
    refine Dnt Tryz.results141 ?_
    refine ⟨?_, hS.chg⟩
    show Ending.returned (.int .u64 (IntKind.u64.wrap (IntKind.u64.wrap (2 * IntKind.u64.wrap (IntKind.i64.wrap (0 - (n + 1)))) + 1))) = _
    rw [e, show (0 : Int) - (n + 1) = -(n + 1) by omega, codeR_neg hn (by omega)]
set_option maxHeartbeats 1000000 in
theorem wcopied_z (l : List Int) (v : Value) (k : Nat) (r : World) (F : List Res) (w : World) (hS : Sep r [] F w) (hrd : Reads r F 1 v (l.map byC)) (hl : l.length ≤ 1000000) (hk : k ≤ 1000000) :
    Calls Tryz.prog 140 #[v, .int .i64 k] w fun e w' => ∃ A c, e = .returned (.slice A l.length c) ∧ Sep r [] (.sl 5 1 (.slice A l.length c) (l.map byC) :: F) w' := by
  obtain ⟨A, c, rfl, hc⟩ := (hrd [] w hS).mform
  refine Z.enter Tryz.func140 Tryz.ntmps140 rfl rfl ?_
  repeat' (first|refine K ?_|(refine Sh.sa hS ?_;clear hS;intro w hS)|(refine K3 ?_;clear hS;intro g w hS hge)|((first|refine GS ?_ ?_|refine VB ?_ ?_)<;>intro hb<;>(try simp only [J1,J2,J3,J4,J5,J6] at hb)<;>(try (exfalso;first|omega|exact hb trivial))))
  refine Z.eff (Z.mks (bytes := 1) (l := 0) (c := l.length + k) hS rfl (congrArg (Value.int .i64) (Int.natCast_add l.length k).symm) rfl (Nat.zero_le _) (by show 1 * (l.length + k) ≤ 281474976710656; omega) (by unfold maxLen; omega) ?_) rfl
  clear hS; intro gz w hS _
  replace hS := mk_sl0 (sz := 1) (c := l.length + k) hS (by unfold maxLen; omega) (by rw [zerosL_len]; rfl)
  repeat' (first|refine K ?_|(refine Sh.sa hS ?_;clear hS;intro w hS)|(refine K3 ?_;clear hS;intro g w hS hge)|((first|refine GS ?_ ?_|refine VB ?_ ?_)<;>intro hb<;>(try simp only [J1,J2,J3,J4,J5,J6] at hb)<;>(try (exfalso;first|omega|exact hb trivial))))
  refine Z.eff (Z.apm (l := []) (l' := l) hS rfl rfl rfl .here (hrd [_] w hS) (by (try simp only [maxLen, List.length_take, List.length_drop, List.length_append, List.length_cons, List.length_nil, List.length_map]); omega) (by (try simp only [maxLen, List.length_take, List.length_drop, List.length_append, List.length_cons, List.length_nil, List.length_map]); omega) ?_) rfl
  clear hS; intro A2 c2 w hS
  simp only [List.length_nil, Nat.zero_add, List.nil_append] at hS ⊢
  repeat' (first|refine K ?_|(refine Sh.sa hS ?_;clear hS;intro w hS)|(refine K3 ?_;clear hS;intro g w hS hge)|((first|refine GS ?_ ?_|refine VB ?_ ?_)<;>intro hb<;>(try simp only [J1,J2,J3,J4,J5,J6] at hb)<;>(try (exfalso;first|omega|exact hb trivial))))
  refine Dnt Tryz.results140 ?_
  exact ⟨A2, c2, rfl, hS⟩
theorem wcopied_i (l : List Int) (v : Value) (k : Int) (r : World) (F : List Res) (w : World) (hS : Sep r [] F w) (hrd : Reads r F 1 v (l.map byC)) (hl : l.length ≤ 1000000) (hk : 0 ≤ k ∧ k ≤ 1000000) :
    Calls Tryz.prog 140 #[v, .int .i64 k] w fun e w' => ∃ A c, e = .returned (.slice A l.length c) ∧ Sep r [] (.sl 5 1 (.slice A l.length c) (l.map byC) :: F) w' := by
  obtain ⟨q, rfl⟩ := Int.eq_ofNat_of_zero_le hk.1
  exact wcopied_z l v q r F w hS hrd hl (by omega)
set_option maxHeartbeats 1000000 in
theorem wput_z (l : List Int) (A : Option Addr) (c : Nat) (n : Int) (hn : i64ok n) (r : World) (F : List Res) (w : World) (hS : Sep r [] (.sl 5 1 (.slice A l.length c) (l.map byC) :: F) w) (hl : l.length ≤ 2000000) :
    Calls Tryz.prog 139 #[.slice A l.length c, .int .i64 n] w fun e w' => ∃ A' c', e = .returned (.slice A' (l ++ putL n).length c') ∧ Sep r [] (.sl 5 1 (.slice A' (l ++ putL n).length c') ((l ++ putL n).map byC) :: F) w' := by
  have hcz := codeZ_lt hn
  refine Z.enter Tryz.func139 Tryz.ntmps139 rfl rfl ?_
  repeat' (first|refine K ?_|(refine Sh.sa hS ?_;clear hS;intro w hS)|(refine K3 ?_;clear hS;intro g w hS hge)|((first|refine GS ?_ ?_|refine VB ?_ ?_)<;>intro hb<;>(try simp only [J1,J2,J3,J4,J5,J6] at hb)<;>(try (exfalso;first|omega|exact hb trivial))))
  refine Z.eff (Z.cl (wcode_z n hn _) rfl ?_) rfl
  rintro e w' ⟨rfl, hC⟩
  refine ⟨_, rfl, ?_⟩
  replace hS := hS.ext hC
  clear hC
  obtain ⟨u, hu⟩ := Int.eq_ofNat_of_zero_le hcz.1
  have hul : u < 18446744073709551616 := by omega
  have hpl : putL n = leb u := by unfold putL; rw [hu]; rfl
  rw [hu]
  repeat' (first|refine K ?_|(refine Sh.sa hS ?_;clear hS;intro w hS)|(refine K3 ?_;clear hS;intro g w hS hge)|((first|refine GS ?_ ?_|refine VB ?_ ?_)<;>intro hb<;>(try simp only [J1,J2,J3,J4,J5,J6] at hb)<;>(try (exfalso;first|omega|exact hb trivial))))
  refine Z.lpS [0, 5, 8, 9, 10, 11, 12, 13, 14, 15, 16, 17] (fun m w s => ∃ (l' : List Int) (u' : Nat) (A' : Option Addr) (c' : Nat), s = [(0, .slice A' l'.length c'), (5, .int .u64 (u' : Int))] ∧ l' ++ leb u' = l ++ leb u ∧ u' = m ∧ Sep r [] (.sl 5 1 (.slice A' l'.length c') (l'.map byC) :: F) w) _ [(0, .slice A l.length c), (5, .int .u64 (u : Int))] (by repeat (first | exact trivial | refine ⟨rfl, ?_⟩)) ⟨l, u, A, c, rfl, rfl, rfl, hS⟩ ?_
  clear hS
  rintro m f0 w _ ⟨l', u', A', c', rfl, hlu, hum, hS⟩
  subst hum
  have hll := congrArg List.length hlu
  simp only [List.length_append] at hll
  have hlb := putL_len hn
  rw [hpl] at hlb
  repeat' (first|refine K ?_|(refine Sh.sa hS ?_;clear hS;intro w hS)|(refine K3 ?_;clear hS;intro g w hS hge)|((first|refine GS ?_ ?_|refine VB ?_ ?_)<;>intro hb<;>(try simp only [J1,J2,J3,J4,J5,J6] at hb)<;>(try (exfalso;first|omega|exact hb trivial))))
  · have hge : ¬ u' < 128 := by omega
    rw [leb_ge hge] at hlu hll
    rw [group_or] at hS
    simp only [List.length_cons] at hll
    refine Z.eff (Z.apm (l' := [((u' % 128 + 128 : Nat) : Int)]) hS rfl rfl rfl (by repeat (first | exact At.here | apply At.next)) (hS.lit1 (by repeat (first | exact At.here | apply At.next)) rfl rfl) (by (try simp only [maxLen, List.length_take, List.length_drop, List.length_append, List.length_cons, List.length_nil, List.length_map]); omega) (by (try simp only [maxLen, List.length_take, List.length_drop, List.length_append, List.length_cons, List.length_nil, List.length_map]); omega) ?_) rfl
    clear hS; intro A2 c2 w hS
    rw [← List.length_append] at hS ⊢
    repeat' (first|refine K ?_|(refine Sh.sa hS ?_;clear hS;intro w hS)|(refine K3 ?_;clear hS;intro g w hS hge)|((first|refine GS ?_ ?_|refine VB ?_ ?_)<;>intro hb<;>(try simp only [J1,J2,J3,J4,J5,J6] at hb)<;>(try (exfalso;first|omega|exact hb trivial))))
    rw [shr7]
    refine Sh.again (u' / 128) [(0, .slice A2 _ c2), (5, .int .u64 ((u' / 128 : Nat) : Int))] ?_
    exact ⟨l' ++ [((u' % 128 + 128 : Nat) : Int)], u' / 128, A2, c2, rfl, by rw [← hlu]; simp, rfl, hS.sb⟩
  · have hlt : u' < 128 := by omega
    rw [leb_lt hlt] at hlu hll
    have e8 : IntKind.u8.wrap (u' : Int) = (u' : Int) := by rw [u8_wrap]; omega
    rw [e8] at hS
    simp only [List.length_cons, List.length_nil] at hll
    refine Z.eff (Z.apm (l' := [(u' : Int)]) hS rfl rfl rfl (by repeat (first | exact At.here | apply At.next)) (hS.lit1 (by repeat (first | exact At.here | apply At.next)) rfl rfl) (by (try simp only [maxLen, List.length_take, List.length_drop, List.length_append, List.length_cons, List.length_nil, List.length_map]); omega) (by (try simp only [maxLen, List.length_take, List.length_drop, List.length_append, List.length_cons, List.length_nil, List.length_map]); omega) ?_) rfl
    clear hS; intro A2 c2 w hS
    rw [← List.length_append, hlu, ← hpl] at hS ⊢
    repeat' (first|refine K ?_|(refine Sh.sa hS ?_;clear hS;intro w hS)|(refine K3 ?_;clear hS;intro g w hS hge)|((first|refine GS ?_ ?_|refine VB ?_ ?_)<;>intro hb<;>(try simp only [J1,J2,J3,J4,J5,J6] at hb)<;>(try (exfalso;first|omega|exact hb trivial))))
    refine Dnt Tryz.results139 ?_
    exact ⟨A2, c2, rfl, hS.sb⟩
theorem wint_z (l : List Int) (v : Value) (n : Int) (hn : i64ok n) (r : World) (F : List Res) (w : World) (hS : Sep r [] F w) (hrd : Reads r F 1 v (l.map byC)) (hl : l.length ≤ 1000000) :
    Calls Tryz.prog 97 #[v, .int .i64 n] w fun e w' => ∃ A c, e = .returned (.slice A (l ++ putL n).length c) ∧ Sep r [] (.sl 5 1 (.slice A (l ++ putL n).length c) ((l ++ putL n).map byC) :: F) w' := by
  obtain ⟨A0, c0, rfl, _⟩ := (hrd [] w hS).mform
  refine Z.enter Tryz.func97 Tryz.ntmps97 rfl rfl ?_
  repeat' (first|refine K ?_|(refine Sh.sa hS ?_;clear hS;intro w hS)|(refine K3 ?_;clear hS;intro g w hS hge)|((first|refine GS ?_ ?_|refine VB ?_ ?_)<;>intro hb<;>(try simp only [J1,J2,J3,J4,J5,J6] at hb)<;>(try (exfalso;first|omega|exact hb trivial))))
  refine Z.eff (Z.cl (wcopied_i l (.slice A0 _ c0) 10 _ _ _ hS hrd hl (by omega)) rfl ?_) rfl
  clear hS
  rintro e w ⟨A, c, rfl, hS⟩
  refine ⟨_, rfl, ?_⟩
  repeat' (first|refine K ?_|(refine Sh.sa hS ?_;clear hS;intro w hS)|(refine K3 ?_;clear hS;intro g w hS hge)|((first|refine GS ?_ ?_|refine VB ?_ ?_)<;>intro hb<;>(try simp only [J1,J2,J3,J4,J5,J6] at hb)<;>(try (exfalso;first|omega|exact hb trivial))))
  refine Z.eff (Z.cl (wput_z l A c n hn _ _ _ hS (by omega)) rfl ?_) rfl
  clear hS
  rintro e w ⟨A, c, rfl, hS⟩
  refine ⟨_, rfl, ?_⟩
  repeat' (first|refine K ?_|(refine Sh.sa hS ?_;clear hS;intro w hS)|(refine K3 ?_;clear hS;intro g w hS hge)|((first|refine GS ?_ ?_|refine VB ?_ ?_)<;>intro hb<;>(try simp only [J1,J2,J3,J4,J5,J6] at hb)<;>(try (exfalso;first|omega|exact hb trivial))))
  refine Dnt Tryz.results97 ?_
  exact ⟨A, c, rfl, hS⟩
theorem str_app (l : List Int) (n : Int) (s : ByteArray) : (l ++ putL n).map byC ++ (Go.Lib.strCells s).map (fun v => [v]) = (l ++ (putL n ++ bytL s)).map byC := by
  rw [bytL_cells, ← List.map_append, List.append_assoc]
theorem wtext_z (l : List Int) (v : Value) (s : ByteArray) (hs : s.size ≤ 100000) (r : World) (F : List Res) (w : World) (hS : Sep r [] F w) (hrd : Reads r F 1 v (l.map byC)) (hl : l.length ≤ 1000000) :
    Calls Tryz.prog 99 #[v, .string s] w fun e w' => ∃ A c, e = .returned (.slice A (l ++ txtL s).length c) ∧ Sep r [] (.sl 5 1 (.slice A (l ++ txtL s).length c) ((l ++ txtL s).map byC) :: F) w' := by
  have hp := putL_len (n := (s.size : Int)) (len_ok (by omega))
  have hp0 := putL_pos (s.size : Int)
  obtain ⟨A0, c0, rfl, _⟩ := (hrd [] w hS).mform
  refine Z.enter Tryz.func99 Tryz.ntmps99 rfl rfl ?_
  repeat' (first|refine K ?_|(refine Sh.sa hS ?_;clear hS;intro w hS)|(refine K3 ?_;clear hS;intro g w hS hge)|((first|refine GS ?_ ?_|refine VB ?_ ?_)<;>intro hb<;>(try simp only [J1,J2,J3,J4,J5,J6] at hb)<;>(try (exfalso;first|omega|exact hb trivial))))
  refine Z.eff (Z.cl (wcopied_i l (.slice A0 _ c0) (10 + (s.size : Int)) _ _ _ hS hrd hl (by omega)) rfl ?_) rfl
  clear hS
  rintro e w ⟨A, c, rfl, hS⟩
  refine ⟨_, rfl, ?_⟩
  repeat' (first|refine K ?_|(refine Sh.sa hS ?_;clear hS;intro w hS)|(refine K3 ?_;clear hS;intro g w hS hge)|((first|refine GS ?_ ?_|refine VB ?_ ?_)<;>intro hb<;>(try simp only [J1,J2,J3,J4,J5,J6] at hb)<;>(try (exfalso;first|omega|exact hb trivial))))
  refine Z.eff (Z.cl (wput_z l A c s.size (len_ok (by omega)) _ _ _ hS (by omega)) rfl ?_) rfl
  clear hS
  rintro e w ⟨A, c, rfl, hS⟩
  refine ⟨_, rfl, ?_⟩
  repeat' (first|refine K ?_|(refine Sh.sa hS ?_;clear hS;intro w hS)|(refine K3 ?_;clear hS;intro g w hS hge)|((first|refine GS ?_ ?_|refine VB ?_ ?_)<;>intro hb<;>(try simp only [J1,J2,J3,J4,J5,J6] at hb)<;>(try (exfalso;first|omega|exact hb trivial))))
  refine Z.eff (Z.apS hS rfl rfl rfl Tryz.underlying9 .here (by simp; omega) (by simp; omega) ?_) rfl
  clear hS; intro A c w hS
  rw [str_app] at hS
  have e : ((l ++ putL (s.size : Int)).map byC).length + s.size = (l ++ txtL s).length := by unfold txtL; simp only [List.length_map, List.length_append, bytL_len]; omega
  rw [e] at hS ⊢
  repeat' (first|refine K ?_|(refine Sh.sa hS ?_;clear hS;intro w hS)|(refine K3 ?_;clear hS;intro g w hS hge)|((first|refine GS ?_ ?_|refine VB ?_ ?_)<;>intro hb<;>(try simp only [J1,J2,J3,J4,J5,J6] at hb)<;>(try (exfalso;first|omega|exact hb trivial))))
  refine Dnt Tryz.results99 ?_
  exact ⟨A, c, rfl, hS⟩
set_option maxHeartbeats 1000000 in
theorem wints_z (l : List Int) (v : Value) (il : List Int) (v2 : Value) (r : World) (F : List Res) (w : World) (hS : Sep r [] F w) (hrd : Reads r F 1 v (l.map byC)) (hrd2 : Reads r F 1 v2 (il.map intC)) (hl : l.length ≤ 1000000) (hn : il.length ≤ 1000) (hi : ∀ x, x ∈ il → i64ok x) :
    Calls Tryz.prog 98 #[v, v2] w fun e w' => ∃ A c, e = .returned (.slice A (l ++ intsL il).length c) ∧ Sep r [] (.sl 5 1 (.slice A (l ++ intsL il).length c) ((l ++ intsL il).map byC) :: F) w' := by
  have hp := putL_len (n := (il.length : Int)) (len_ok (by omega))
  obtain ⟨A2, c2, rfl, hc⟩ := (hrd2 [] w hS).mform
  obtain ⟨A0, c0, rfl, _⟩ := (hrd [] w hS).mform
  refine Z.enter Tryz.func98 Tryz.ntmps98 rfl rfl ?_
  repeat' (first|refine K ?_|(refine Sh.sa hS ?_;clear hS;intro w hS)|(refine K3 ?_;clear hS;intro g w hS hge)|((first|refine GS ?_ ?_|refine VB ?_ ?_)<;>intro hb<;>(try simp only [J1,J2,J3,J4,J5,J6] at hb)<;>(try (exfalso;first|omega|exact hb trivial))))
  refine Z.eff (Z.cl (wcopied_i l (.slice A0 _ c0) (10 + (il.length : Int)) _ _ _ hS hrd hl (by omega)) rfl ?_) rfl
  clear hS
  rintro e w ⟨A, c, rfl, hS⟩
  refine ⟨_, rfl, ?_⟩
  repeat' (first|refine K ?_|(refine Sh.sa hS ?_;clear hS;intro w hS)|(refine K3 ?_;clear hS;intro g w hS hge)|((first|refine GS ?_ ?_|refine VB ?_ ?_)<;>intro hb<;>(try simp only [J1,J2,J3,J4,J5,J6] at hb)<;>(try (exfalso;first|omega|exact hb trivial))))
  refine Z.eff (Z.cl (wput_z l A c il.length (len_ok (by omega)) _ _ _ hS (by omega)) rfl ?_) rfl
  clear hS
  rintro e w ⟨A, c, rfl, hS⟩
  refine ⟨_, rfl, ?_⟩
  repeat' (first|refine K ?_|(refine Sh.sa hS ?_;clear hS;intro w hS)|(refine K3 ?_;clear hS;intro g w hS hge)|((first|refine GS ?_ ?_|refine VB ?_ ?_)<;>intro hb<;>(try simp only [J1,J2,J3,J4,J5,J6] at hb)<;>(try (exfalso;first|omega|exact hb trivial))))
  refine Z.lpS [5, 7, 18, 19, 20, 21, 22, 23, 24, 25] (fun m w s => ∃ (i : Nat) (l' : List Int) (A : Option Addr) (c : Nat), s = [(5, .slice A l'.length c), (18, .int .i64 i)] ∧ i ≤ il.length ∧ l' = (l ++ putL il.length) ++ (il.take i).flatMap putL ∧ m = il.length - i ∧ Sep r [] (.sl 5 1 (.slice A l'.length c) (l'.map byC) :: F) w) _ [(5, .slice A (l ++ putL il.length).length c), (18, .int .i64 (0 : Nat))] (by repeat (first | exact trivial | refine ⟨rfl, ?_⟩)) ⟨0, l ++ putL il.length, A, c, rfl, by omega, by simp, rfl, hS⟩ ?_
  clear hS
  rintro m f0 w _ ⟨i, l', A, c, rfl, hile, hl', rfl, hS⟩
  have hln : l'.length ≤ 1020000 := by
    have h1 := flatI_len (l := il.take i) fun x hx => hi x (List.mem_of_mem_take hx)
    rw [List.length_take] at h1
    rw [hl', List.length_append, List.length_append]
    omega
  by_cases hlt : i < il.length
  · obtain ⟨gb, o, rfl, _, hra⟩ := (hrd2 [_] w hS).mat (by omega) (q := i) hlt
    repeat' (first|refine K ?_|(refine Sh.sa hS ?_;clear hS;intro w hS)|(refine K3 ?_;clear hS;intro g w hS hge)|((first|refine GS ?_ ?_|refine VB ?_ ?_)<;>intro hb<;>(try simp only [J1,J2,J3,J4,J5,J6] at hb)<;>(try (exfalso;first|omega|exact hb trivial))))
    refine Z.eff (Z.cl (wput_z l' A c il[i] (hi _ (by simp)) _ _ _ hS (by omega)) rfl ?_) rfl
    clear hS
    rintro e w ⟨A', c', rfl, hS⟩
    refine ⟨_, rfl, ?_⟩
    repeat' (first|refine K ?_|(refine Sh.sa hS ?_;clear hS;intro w hS)|(refine K3 ?_;clear hS;intro g w hS hge)|((first|refine GS ?_ ?_|refine VB ?_ ?_)<;>intro hb<;>(try simp only [J1,J2,J3,J4,J5,J6] at hb)<;>(try (exfalso;first|omega|exact hb trivial))))
    refine Sh.again (il.length - (i + 1)) [(5, .slice A' (l' ++ putL il[i]).length c'), (18, .int .i64 (i + 1 : Nat))] ?_
    exact ⟨i + 1, _, A', c', rfl, by omega, by rw [hl', List.append_assoc, flatM_take putL il hlt], rfl, hS⟩
  · have hi0 : i = il.length := by omega
    repeat' (first|refine K ?_|(refine Sh.sa hS ?_;clear hS;intro w hS)|(refine K3 ?_;clear hS;intro g w hS hge)|((first|refine GS ?_ ?_|refine VB ?_ ?_)<;>intro hb<;>(try simp only [J1,J2,J3,J4,J5,J6] at hb)<;>(try (exfalso;first|omega|exact hb trivial))))
    refine Dnt Tryz.results98 ?_
    have e : l ++ intsL il = l' := by rw [hl', hi0, List.take_length]; unfold intsL; rw [List.append_assoc]
    rw [e]
    exact ⟨A, c, rfl, hS⟩
set_option maxHeartbeats 1000000 in
theorem rint_z (l : List Int) (v : Value) (n : Int) (hn : i64ok n) (r : World) (F : List Res) (w : World) (hS : Sep r [] F w) (hrd : Reads r F 1 v (l.map byC)) (hl : l.length ≤ 1000000) :
    Calls Tryz.prog 102 #[v, .int .i64 n] w fun e w' => ∃ A c, e = .returned (.slice A (l ++ putL n).length c) ∧ Sep r [] (.sl 5 1 (.slice A (l ++ putL n).length c) ((l ++ putL n).map byC) :: F) w' := by
  have hcz := codeZ_lt hn
  obtain ⟨A0, c0, rfl, hc⟩ := (hrd [] w hS).mform
  refine Z.enter Tryz.func102 Tryz.ntmps102 rfl rfl ?_
  repeat' (first|refine K ?_|(refine Sh.sa hS ?_;clear hS;intro w hS)|(refine K3 ?_;clear hS;intro g w hS hge)|((first|refine GS ?_ ?_|refine VB ?_ ?_)<;>intro hb<;>(try simp only [J1,J2,J3,J4,J5,J6] at hb)<;>(try (exfalso;first|omega|exact hb trivial))))
  replace hS := mk_sl0 (sz := 1) (c := 0) hS (by unfold maxLen; omega) rfl
  refine Z.eff (Z.apm (l := []) (l' := l) hS rfl rfl rfl .here (hrd [_] w hS) (by (try simp only [maxLen, List.length_take, List.length_drop, List.length_append, List.length_cons, List.length_nil, List.length_map]); omega) (by (try simp only [maxLen, List.length_take, List.length_drop, List.length_append, List.length_cons, List.length_nil, List.length_map]); omega) ?_) rfl
  clear hS; intro A c w hS
  simp only [List.length_nil, Nat.zero_add, List.nil_append] at hS ⊢
  repeat' (first|refine K ?_|(refine Sh.sa hS ?_;clear hS;intro w hS)|(refine K3 ?_;clear hS;intro g w hS hge)|((first|refine GS ?_ ?_|refine VB ?_ ?_)<;>intro hb<;>(try simp only [J1,J2,J3,J4,J5,J6] at hb)<;>(try (exfalso;first|omega|exact hb trivial))))
  refine Z.eff (Z.cl (rcode_z n hn _) rfl ?_) rfl
  rintro e w' ⟨rfl, hC⟩
  refine ⟨_, rfl, ?_⟩
  replace hS := hS.ext hC
  clear hC
  obtain ⟨u, hu⟩ := Int.eq_ofNat_of_zero_le hcz.1
  have hul : u < 18446744073709551616 := by omega
  have hpl : putL n = leb u := by unfold putL; rw [hu]; rfl
  rw [hu]
  repeat' (first|refine K ?_|(refine Sh.sa hS ?_;clear hS;intro w hS)|(refine K3 ?_;clear hS;intro g w hS hge)|((first|refine GS ?_ ?_|refine VB ?_ ?_)<;>intro hb<;>(try simp only [J1,J2,J3,J4,J5,J6] at hb)<;>(try (exfalso;first|omega|exact hb trivial))))
  refine Z.lpS [5, 6, 12, 13, 14, 15, 16, 17, 18, 19, 20, 21, 22] (fun m w s => ∃ (l' : List Int) (u' : Nat) (A' : Option Addr) (c' : Nat), s = [(5, .slice A' l'.length c'), (6, .int .u64 (u' : Int))] ∧ l' ++ leb u' = l ++ leb u ∧ u' = m ∧ u' < 18446744073709551616 ∧ Sep r [] (.sl 5 1 (.slice A' l'.length c') (l'.map byC) :: F) w) _ [(5, .slice A l.length c), (6, .int .u64 (u : Int))] (by repeat (first | exact trivial | refine ⟨rfl, ?_⟩)) ⟨l, u, A, c, rfl, rfl, rfl, hul, hS⟩ ?_
  clear hS
  rintro m f0 w _ ⟨l', u', A', c', rfl, hlu, hum, hu128, hS⟩
  subst hum
  have hll := congrArg List.length hlu
  simp only [List.length_append] at hll
  have hlb := putL_len hn
  rw [hpl] at hlb
  repeat' (first|refine K ?_|(refine Sh.sa hS ?_;clear hS;intro w hS)|(refine K3 ?_;clear hS;intro g w hS hge)|((first|refine GS ?_ ?_|refine VB ?_ ?_)<;>intro hb<;>(try simp only [J1,J2,J3,J4,J5,J6] at hb)<;>(try (exfalso;first|omega|exact hb trivial))))
  · have hge : ¬ u' < 128 := by omega
    rw [leb_ge hge] at hlu hll
    rw [group_add] at hS
    simp only [List.length_cons] at hll
    refine Z.eff (Z.apm (l' := [((u' % 128 + 128 : Nat) : Int)]) hS rfl rfl rfl (by repeat (first | exact At.here | apply At.next)) (hS.lit1 (by repeat (first | exact At.here | apply At.next)) rfl rfl) (by (try simp only [maxLen, List.length_take, List.length_drop, List.length_append, List.length_cons, List.length_nil, List.length_map]); omega) (by (try simp only [maxLen, List.length_take, List.length_drop, List.length_append, List.length_cons, List.length_nil, List.length_map]); omega) ?_) rfl
    clear hS; intro A2 c2 w hS
    rw [← List.length_append] at hS ⊢
    repeat' (first|refine K ?_|(refine Sh.sa hS ?_;clear hS;intro w hS)|(refine K3 ?_;clear hS;intro g w hS hge)|((first|refine GS ?_ ?_|refine VB ?_ ?_)<;>intro hb<;>(try simp only [J1,J2,J3,J4,J5,J6] at hb)<;>(try (exfalso;first|omega|exact hb trivial))))
    rw [quo128 u' hu128]
    refine Sh.again (u' / 128) [(5, .slice A2 _ c2), (6, .int .u64 ((u' / 128 : Nat) : Int))] ?_
    exact ⟨l' ++ [((u' % 128 + 128 : Nat) : Int)], u' / 128, A2, c2, rfl, by rw [← hlu]; simp, rfl, by omega, hS.sb⟩
  · have hlt : u' < 128 := by omega
    rw [leb_lt hlt] at hlu hll
    have e8 : IntKind.u8.wrap (u' : Int) = (u' : Int) := by rw [u8_wrap]; omega
    rw [e8] at hS
    simp only [List.length_cons, List.length_nil] at hll
    refine Z.eff (Z.apm (l' := [(u' : Int)]) hS rfl rfl rfl (by repeat (first | exact At.here | apply At.next)) (hS.lit1 (by repeat (first | exact At.here | apply At.next)) rfl rfl) (by (try simp only [maxLen, List.length_take, List.length_drop, List.length_append, List.length_cons, List.length_nil, List.length_map]); omega) (by (try simp only [maxLen, List.length_take, List.length_drop, List.length_append, List.length_cons, List.length_nil, List.length_map]); omega) ?_) rfl
    clear hS; intro A2 c2 w hS
    rw [← List.length_append, hlu, ← hpl] at hS ⊢
    repeat' (first|refine K ?_|(refine Sh.sa hS ?_;clear hS;intro w hS)|(refine K3 ?_;clear hS;intro g w hS hge)|((first|refine GS ?_ ?_|refine VB ?_ ?_)<;>intro hb<;>(try simp only [J1,J2,J3,J4,J5,J6] at hb)<;>(try (exfalso;first|omega|exact hb trivial))))
    refine Dnt Tryz.results102 ?_
    exact ⟨A2, c2, rfl, hS.sb⟩
theorem rtext_z (l : List Int) (v : Value) (s : ByteArray) (hs : s.size ≤ 100000) (r : World) (F : List Res) (w : World) (hS : Sep r [] F w) (hrd : Reads r F 1 v (l.map byC)) (hl : l.length ≤ 1000000) :
    Calls Tryz.prog 103 #[v, .string s] w fun e w' => ∃ A c, e = .returned (.slice A (l ++ txtL s).length c) ∧ Sep r [] (.sl 5 1 (.slice A (l ++ txtL s).length c) ((l ++ txtL s).map byC) :: F) w' := by
  have hp := putL_len (n := (s.size : Int)) (len_ok (by omega))
  have hp0 := putL_pos (s.size : Int)
  obtain ⟨A0, c0, rfl, _⟩ := (hrd [] w hS).mform
  refine Z.enter Tryz.func103 Tryz.ntmps103 rfl rfl ?_
  repeat' (first|refine K ?_|(refine Sh.sa hS ?_;clear hS;intro w hS)|(refine K3 ?_;clear hS;intro g w hS hge)|((first|refine GS ?_ ?_|refine VB ?_ ?_)<;>intro hb<;>(try simp only [J1,J2,J3,J4,J5,J6] at hb)<;>(try (exfalso;first|omega|exact hb trivial))))
  refine Z.eff (Z.cl (rint_z l (.slice A0 _ c0) (s.size : Int) (len_ok (by omega)) _ _ _ hS hrd hl) rfl ?_) rfl
  clear hS
  rintro e w ⟨A, c, rfl, hS⟩
  refine ⟨_, rfl, ?_⟩
  repeat' (first|refine K ?_|(refine Sh.sa hS ?_;clear hS;intro w hS)|(refine K3 ?_;clear hS;intro g w hS hge)|((first|refine GS ?_ ?_|refine VB ?_ ?_)<;>intro hb<;>(try simp only [J1,J2,J3,J4,J5,J6] at hb)<;>(try (exfalso;first|omega|exact hb trivial))))
  refine Z.eff (Z.apS hS rfl rfl rfl Tryz.underlying9 .here (by simp; omega) (by simp; omega) ?_) rfl
  clear hS; intro A c w hS
  rw [str_app] at hS
  have e : ((l ++ putL (s.size : Int)).map byC).length + s.size = (l ++ txtL s).length := by unfold txtL; simp only [List.length_map, List.length_append, bytL_len]; omega
  rw [e] at hS ⊢
  repeat' (first|refine K ?_|(refine Sh.sa hS ?_;clear hS;intro w hS)|(refine K3 ?_;clear hS;intro g w hS hge)|((first|refine GS ?_ ?_|refine VB ?_ ?_)<;>intro hb<;>(try simp only [J1,J2,J3,J4,J5,J6] at hb)<;>(try (exfalso;first|omega|exact hb trivial))))
  refine Dnt Tryz.results103 ?_
  exact ⟨A, c, rfl, hS⟩
theorem dmix_z (h n : Int) (w : World) : Calls Tryz.prog 96 #[.int .u64 h, .int .i64 n] w fun e w' => e = .returned (.int .u64 (mixF h n)) ∧ Chg [] w w' := by
  have hS := Sep.root w
  refine Z.enter Tryz.func96 Tryz.ntmps96 rfl rfl ?_
  repeat' (first|refine K ?_|(refine Sh.sa hS ?_;clear hS;intro w hS)|(refine K3 ?_;clear hS;intro g w hS hge)|((first|refine GS ?_ ?_|refine VB ?_ ?_)<;>intro hb<;>(try simp only [J1,J2,J3,J4,J5,J6] at hb)<;>(try (exfalso;first|omega|exact hb trivial))))
  refine Dnt Tryz.results96 ?_
  exact ⟨rfl, hS.chg⟩
theorem dall_z (h : Int) (b : List Int) (v : Value) (r : World) (F : List Res) (w : World) (hS : Sep r [] F w) (hrd : Reads r F 1 v (b.map byC)) (hb0 : bOk b) (hl : b.length ≤ 1000000) :
    Calls Tryz.prog 95 #[.int .u64 h, v] w fun e w' => e = .returned (.int .u64 (mixF (b.foldl mixF h) b.length)) ∧ Sep r [] F w' := by
  obtain ⟨A2, c2, rfl, hc⟩ := (hrd [] w hS).mform
  refine Z.enter Tryz.func95 Tryz.ntmps95 rfl rfl ?_
  repeat' (first|refine K ?_|(refine Sh.sa hS ?_;clear hS;intro w hS)|(refine K3 ?_;clear hS;intro g w hS hge)|((first|refine GS ?_ ?_|refine VB ?_ ?_)<;>intro hb<;>(try simp only [J1,J2,J3,J4,J5,J6] at hb)<;>(try (exfalso;first|omega|exact hb trivial))))
  refine Z.lpS [0, 6, 9, 10, 11, 12, 13, 14, 15, 16, 17] (fun m w s => ∃ i : Nat, s = [(0, .int .u64 ((b.take i).foldl mixF h)), (9, .int .i64 i)] ∧ i ≤ b.length ∧ m = b.length - i ∧ Sep r [] F w) _ [(0, .int .u64 h), (9, .int .i64 (0 : Nat))] (by repeat (first | exact trivial | refine ⟨rfl, ?_⟩)) ⟨0, rfl, by omega, rfl, hS⟩ ?_
  clear hS
  rintro m f0 w _ ⟨i, rfl, hile, rfl, hS⟩
  by_cases hlt : i < b.length
  · obtain ⟨gb, o, rfl, _, hra⟩ := (hrd [] w hS).mat (by omega) (q := i) hlt
    have hbi := hb0 b[i] (by simp)
    repeat' (first|refine K ?_|(refine Sh.sa hS ?_;clear hS;intro w hS)|(refine K3 ?_;clear hS;intro g w hS hge)|((first|refine GS ?_ ?_|refine VB ?_ ?_)<;>intro hb<;>(try simp only [J1,J2,J3,J4,J5,J6] at hb)<;>(try (exfalso;first|omega|exact hb trivial))))
    refine Z.eff (Z.cl (dmix_z ((b.take i).foldl mixF h) (IntKind.i64.wrap b[i]) _) rfl ?_) rfl
    rintro e w' ⟨rfl, hC⟩
    refine ⟨_, rfl, ?_⟩
    replace hS := hS.ext hC
    clear hC
    rw [Z.wrap_in (c := b[i]) (by omega) (by omega), fold_take mixF h b hlt]
    repeat' (first|refine K ?_|(refine Sh.sa hS ?_;clear hS;intro w hS)|(refine K3 ?_;clear hS;intro g w hS hge)|((first|refine GS ?_ ?_|refine VB ?_ ?_)<;>intro hb<;>(try simp only [J1,J2,J3,J4,J5,J6] at hb)<;>(try (exfalso;first|omega|exact hb trivial))))
    refine Sh.again (b.length - (i + 1)) [(0, .int .u64 ((b.take (i + 1)).foldl mixF h)), (9, .int .i64 (i + 1 : Nat))] ?_
    exact ⟨i + 1, rfl, by omega, rfl, hS⟩
  · have hi0 : i = b.length := by omega
    subst hi0
    repeat' (first|refine K ?_|(refine Sh.sa hS ?_;clear hS;intro w hS)|(refine K3 ?_;clear hS;intro g w hS hge)|((first|refine GS ?_ ?_|refine VB ?_ ?_)<;>intro hb<;>(try simp only [J1,J2,J3,J4,J5,J6] at hb)<;>(try (exfalso;first|omega|exact hb trivial))))
    refine Z.eff (Z.cl (dmix_z ((b.take b.length).foldl mixF h) b.length _) rfl ?_) rfl
    rintro e w' ⟨rfl, hC⟩
    refine ⟨_, rfl, ?_⟩
    replace hS := hS.ext hC
    clear hC
    repeat' (first|refine K ?_|(refine Sh.sa hS ?_;clear hS;intro w hS)|(refine K3 ?_;clear hS;intro g w hS hge)|((first|refine GS ?_ ?_|refine VB ?_ ?_)<;>intro hb<;>(try simp only [J1,J2,J3,J4,J5,J6] at hb)<;>(try (exfalso;first|omega|exact hb trivial))))
    refine Dnt Tryz.results95 ?_
    rw [List.take_length]
    exact ⟨rfl, hS⟩
theorem dsum_z (key : Int) (b : List Int) (v : Value) (r : World) (F : List Res) (w : World) (hS : Sep r [] F w) (hrd : Reads r F 1 v (b.map byC)) (hb0 : bOk b) (hl : b.length ≤ 1000000) :
    Calls Tryz.prog 58 #[.int .i64 key, v] w fun e w' => e = .returned (.int .u64 (sumF key b)) ∧ Sep r [] F w' := by
  obtain ⟨A0, c0, rfl, _⟩ := (hrd [] w hS).mform
  refine Z.enter Tryz.func58 Tryz.ntmps58 rfl rfl ?_
  repeat' (first|refine K ?_|(refine Sh.sa hS ?_;clear hS;intro w hS)|(refine K3 ?_;clear hS;intro g w hS hge)|((first|refine GS ?_ ?_|refine VB ?_ ?_)<;>intro hb<;>(try simp only [J1,J2,J3,J4,J5,J6] at hb)<;>(try (exfalso;first|omega|exact hb trivial))))
  refine Z.eff (Z.cl (dmix_z 14695981039346656037 key _) rfl ?_) rfl
  rintro e w' ⟨rfl, hC⟩
  refine ⟨_, rfl, ?_⟩
  replace hS := hS.ext hC
  clear hC
  repeat' (first|refine K ?_|(refine Sh.sa hS ?_;clear hS;intro w hS)|(refine K3 ?_;clear hS;intro g w hS hge)|((first|refine GS ?_ ?_|refine VB ?_ ?_)<;>intro hb<;>(try simp only [J1,J2,J3,J4,J5,J6] at hb)<;>(try (exfalso;first|omega|exact hb trivial))))
  refine Z.eff (Z.cl (dall_z (mixF 14695981039346656037 key) b (.slice A0 _ c0) _ _ _ hS hrd hb0 hl) rfl ?_) rfl
  clear hS
  rintro e w ⟨rfl, hS⟩
  refine ⟨_, rfl, ?_⟩
  repeat' (first|refine K ?_|(refine Sh.sa hS ?_;clear hS;intro w hS)|(refine K3 ?_;clear hS;intro g w hS hge)|((first|refine GS ?_ ?_|refine VB ?_ ?_)<;>intro hb<;>(try simp only [J1,J2,J3,J4,J5,J6] at hb)<;>(try (exfalso;first|omega|exact hb trivial))))
  refine Dnt Tryz.results58 ?_
  exact ⟨rfl, hS⟩
theorem emix_z (h n : Int) (w : World) : Calls Tryz.prog 143 #[.int .u64 h, .int .i64 n] w fun e w' => e = .returned (.int .u64 (mixF h n)) ∧ Chg [] w w' := by
  have hS := Sep.root w
  refine Z.enter Tryz.func143 Tryz.ntmps143 rfl rfl ?_
  repeat' (first|refine K ?_|(refine Sh.sa hS ?_;clear hS;intro w hS)|(refine K3 ?_;clear hS;intro g w hS hge)|((first|refine GS ?_ ?_|refine VB ?_ ?_)<;>intro hb<;>(try simp only [J1,J2,J3,J4,J5,J6] at hb)<;>(try (exfalso;first|omega|exact hb trivial))))
  refine Dnt Tryz.results143 ?_
  exact ⟨rfl, hS.chg⟩
theorem eall_z (h : Int) (b : List Int) (v : Value) (r : World) (F : List Res) (w : World) (hS : Sep r [] F w) (hrd : Reads r F 1 v (b.map byC)) (hb0 : bOk b) (hl : b.length ≤ 1000000) :
    Calls Tryz.prog 142 #[.int .u64 h, v] w fun e w' => e = .returned (.int .u64 (mixF (b.foldl mixF h) b.length)) ∧ Sep r [] F w' := by
  obtain ⟨A2, c2, rfl, hc⟩ := (hrd [] w hS).mform
  refine Z.enter Tryz.func142 Tryz.ntmps142 rfl rfl ?_
  repeat' (first|refine K ?_|(refine Sh.sa hS ?_;clear hS;intro w hS)|(refine K3 ?_;clear hS;intro g w hS hge)|((first|refine GS ?_ ?_|refine VB ?_ ?_)<;>intro hb<;>(try simp only [J1,J2,J3,J4,J5,J6] at hb)<;>(try (exfalso;first|omega|exact hb trivial))))
  refine Z.lpS [0, 5, 6, 7, 8, 9, 10, 11, 12, 13, 14, 15, 16, 17, 18] (fun m w s => ∃ i : Nat, s = [(0, .int .u64 ((b.take i).foldl mixF h)), (5, .int .i64 i)] ∧ i ≤ b.length ∧ m = b.length - i ∧ Sep r [] F w) _ [(0, .int .u64 h), (5, .int .i64 (0 : Nat))] (by repeat (first | exact trivial | refine ⟨rfl, ?_⟩)) ⟨0, rfl, by omega, rfl, hS⟩ ?_
  clear hS
  rintro m f0 w _ ⟨i, rfl, hile, rfl, hS⟩
  by_cases hlt : i < b.length
  · obtain ⟨gb, o, rfl, _, hra⟩ := (hrd [] w hS).mat (by omega) (q := i) hlt
    have hbi := hb0 b[i] (by simp)
    repeat' (first|refine K ?_|(refine Sh.sa hS ?_;clear hS;intro w hS)|(refine K3 ?_;clear hS;intro g w hS hge)|((first|refine GS ?_ ?_|refine VB ?_ ?_)<;>intro hb<;>(try simp only [J1,J2,J3,J4,J5,J6] at hb)<;>(try (exfalso;first|omega|exact hb trivial))))
    refine Z.eff (Z.cl (emix_z ((b.take i).foldl mixF h) (IntKind.i64.wrap b[i]) _) rfl ?_) rfl
    rintro e w' ⟨rfl, hC⟩
    refine ⟨_, rfl, ?_⟩
    replace hS := hS.ext hC
    clear hC
    rw [Z.wrap_in (c := b[i]) (by omega) (by omega), fold_take mixF h b hlt]
    repeat' (first|refine K ?_|(refine Sh.sa hS ?_;clear hS;intro w hS)|(refine K3 ?_;clear hS;intro g w hS hge)|((first|refine GS ?_ ?_|refine VB ?_ ?_)<;>intro hb<;>(try simp only [J1,J2,J3,J4,J5,J6] at hb)<;>(try (exfalso;first|omega|exact hb trivial))))
    refine Sh.again (b.length - (i + 1)) [(0, .int .u64 ((b.take (i + 1)).foldl mixF h)), (5, .int .i64 (i + 1 : Nat))] ?_
    exact ⟨i + 1, rfl, by omega, rfl, hS⟩
  · have hi0 : i = b.length := by omega
    subst hi0
    repeat' (first|refine K ?_|(refine Sh.sa hS ?_;clear hS;intro w hS)|(refine K3 ?_;clear hS;intro g w hS hge)|((first|refine GS ?_ ?_|refine VB ?_ ?_)<;>intro hb<;>(try simp only [J1,J2,J3,J4,J5,J6] at hb)<;>(try (exfalso;first|omega|exact hb trivial))))
    refine Z.eff (Z.cl (emix_z ((b.take b.length).foldl mixF h) b.length _) rfl ?_) rfl
    rintro e w' ⟨rfl, hC⟩
    refine ⟨_, rfl, ?_⟩
    replace hS := hS.ext hC
    clear hC
    repeat' (first|refine K ?_|(refine Sh.sa hS ?_;clear hS;intro w hS)|(refine K3 ?_;clear hS;intro g w hS hge)|((first|refine GS ?_ ?_|refine VB ?_ ?_)<;>intro hb<;>(try simp only [J1,J2,J3,J4,J5,J6] at hb)<;>(try (exfalso;first|omega|exact hb trivial))))
    refine Dnt Tryz.results142 ?_
    rw [List.take_length]
    exact ⟨rfl, hS⟩
theorem esum_z (key : Int) (b : List Int) (v : Value) (r : World) (F : List Res) (w : World) (hS : Sep r [] F w) (hrd : Reads r F 1 v (b.map byC)) (hb0 : bOk b) (hl : b.length ≤ 1000000) :
    Calls Tryz.prog 104 #[.int .i64 key, v] w fun e w' => e = .returned (.int .u64 (sumF key b)) ∧ Sep r [] F w' := by
  obtain ⟨A0, c0, rfl, _⟩ := (hrd [] w hS).mform
  refine Z.enter Tryz.func104 Tryz.ntmps104 rfl rfl ?_
  repeat' (first|refine K ?_|(refine Sh.sa hS ?_;clear hS;intro w hS)|(refine K3 ?_;clear hS;intro g w hS hge)|((first|refine GS ?_ ?_|refine VB ?_ ?_)<;>intro hb<;>(try simp only [J1,J2,J3,J4,J5,J6] at hb)<;>(try (exfalso;first|omega|exact hb trivial))))
  refine Z.eff (Z.cl (emix_z 14695981039346656037 key _) rfl ?_) rfl
  rintro e w' ⟨rfl, hC⟩
  refine ⟨_, rfl, ?_⟩
  replace hS := hS.ext hC
  clear hC
  repeat' (first|refine K ?_|(refine Sh.sa hS ?_;clear hS;intro w hS)|(refine K3 ?_;clear hS;intro g w hS hge)|((first|refine GS ?_ ?_|refine VB ?_ ?_)<;>intro hb<;>(try simp only [J1,J2,J3,J4,J5,J6] at hb)<;>(try (exfalso;first|omega|exact hb trivial))))
  refine Z.eff (Z.cl (eall_z (mixF 14695981039346656037 key) b (.slice A0 _ c0) _ _ _ hS hrd hb0 hl) rfl ?_) rfl
  clear hS
  rintro e w ⟨rfl, hS⟩
  refine ⟨_, rfl, ?_⟩
  repeat' (first|refine K ?_|(refine Sh.sa hS ?_;clear hS;intro w hS)|(refine K3 ?_;clear hS;intro g w hS hge)|((first|refine GS ?_ ?_|refine VB ?_ ?_)<;>intro hb<;>(try simp only [J1,J2,J3,J4,J5,J6] at hb)<;>(try (exfalso;first|omega|exact hb trivial))))
  refine Dnt Tryz.results104 ?_
  exact ⟨rfl, hS⟩
end Go.Proofs.YtiabhlogadboeaaGreat
