/-
  Waves as lists of lists that a program owns, or reads; which ones are the same.
-/
import Derived.Test.YtmgpionlfemhdaaGreatNUa
import Derived.Test.YtmgpionlfemhdaaGreatNXP
namespace Go.Proofs.YtmgpionlfemhdaaGreat
open Go.RowKit
set_option linter.unusedSimpArgs false
set_option linter.unusedVariables false
attribute [local irreducible] Res.blk Res.sl Res.all Res.ex Res.pure Res.star

/-- A wave, and where it lies. -/
structure Wv where
  l : List Int
  A : Option Addr
  c : Nat
def Wv.cells (x : Wv) : List Value := [.slice x.A x.l.length x.c]
def Wv.res (x : Wv) : Res := .sl 3 1 (.slice x.A x.l.length x.c) (x.l.map ztC)
/-- Waves of one's own. -/
def WO (B : Option Addr) (C : Nat) (W : List Wv) : Res := .all (.sl 22 1 (.slice B W.length C) (W.map Wv.cells) :: W.map Wv.res)
/-- Waves that are read. -/
structure WvR (r : World) (F : List Res) (B : Option Addr) (C : Nat) (W : List Wv) : Prop where
  out : Reads r F 1 (.slice B W.length C) (W.map Wv.cells)
  inn : ∀ x, x ∈ W → Reads r F 1 (.slice x.A x.l.length x.c) (x.l.map ztC)
theorem WvR.app {r : World} {F : List Res} {B : Option Addr} {C : Nat} {W : List Wv} (h : WvR r F B C W) (L : List Res) : WvR r (L ++ F) B C W := ⟨h.out.app L, fun x hx => (h.inn x hx).app L⟩
theorem at_mem {α : Type} {f : α → Res} {x : α} (F : List Res) : ∀ {W : List α}, x ∈ W → ∃ k, At (W.map f ++ F) k (f x)
  | w :: W, h => by
    rcases List.mem_cons.1 h with rfl | h
    · exact ⟨_, .here⟩
    · obtain ⟨k, hk⟩ := at_mem F h
      exact ⟨_, .next hk⟩
theorem at_idx {α : Type} {f : α → Res} (F : List Res) : ∀ {W : List α} {i : Nat} (hi : i < W.length), At (W.map f ++ F) ((W.eraseIdx i).map f ++ F) (f W[i])
  | w :: W, 0, _ => .here
  | w :: W, i + 1, hi => .next (at_idx F (W := W) (i := i) (by simpa using hi))
theorem sub_set {α : Type} {f : α → Res} (y : α) (F : List Res) : ∀ {W : List α} {i : Nat} (_ : i < W.length), Sub (f y :: ((W.eraseIdx i).map f ++ F)) ((W.set i y).map f ++ F)
  | w :: W, 0, _ => .rest
  | w :: W, i + 1, hi => .cons (.next .here) (sub_set y F (W := W) (i := i) (by simpa using hi))
theorem sub_snoc {α : Type} {f : α → Res} (y : α) (F : List Res) : ∀ {W : List α}, Sub (f y :: (W.map f ++ F)) ((W ++ [y]).map f ++ F)
  | [] => .rest
  | w :: W => .cons (.next .here) (sub_snoc y F (W := W))
theorem WvR.of_at {r : World} {F k : List Res} {B : Option Addr} {C : Nat} {W : List Wv} (h : At F k (WO B C W)) : WvR r F B C W :=
  ⟨fun L _ hW => (Sep.all_open.1 (hW.focus (at_app L h))).slrows .here, fun x hx L _ hW => by
    obtain ⟨k', hk'⟩ := at_mem (f := Wv.res) (L ++ k) hx
    exact (Sep.all_open.1 (hW.focus (at_app L h))).slrows (.next hk')⟩
section
variable {r w : World} {M : List Nat} {F : List Res} {B : Option Addr} {C n : Nat} {W : List Wv}
theorem WO.op (h : Sep r M (WO B C W :: F) w) : Sep r M (.sl 22 1 (.slice B W.length C) (W.map Wv.cells) :: (W.map Wv.res ++ F)) w := Sep.all_open.1 h
theorem WO.nil (h : Sep r M F w) (A : Option Addr) : Sep r M (WO A 0 [] :: F) w := Sep.all_open.2 (Z.nilsl h 22 1 A)
theorem WO.snoc (y : Wv) (h : Sep r M (y.res :: .sl 22 1 (.slice B n C) ((W ++ [y]).map Wv.cells) :: (W.map Wv.res ++ F)) w) (hn : n = (W ++ [y]).length) : Sep r M (WO B C (W ++ [y]) :: F) w := by
  subst hn
  exact Sep.all_open.2 (h.sub (.cons (.next .here) (sub_snoc (f := Wv.res) y F)))
theorem WO.set {i : Nat} (y : Wv) (hi : i < W.length) (h : Sep r M (y.res :: .sl 22 1 (.slice B W.length C) ((W.set i y).map Wv.cells) :: ((W.eraseIdx i).map Wv.res ++ F)) w) : Sep r M (WO B C (W.set i y) :: F) w := by
  have h2 : Sep r M ((.sl 22 1 (.slice B W.length C) ((W.set i y).map Wv.cells) :: (W.set i y).map Wv.res) ++ F) w := h.sub (.cons (.next .here) (sub_set (f := Wv.res) y F hi))
  unfold WO
  rw [List.length_set]
  exact Sep.all_open.2 h2
end
/-- A wave is read: where the list of waves lies, and what stands there. -/
theorem WvR.get {r w : World} {F : List Res} {B : Option Addr} {C : Nat} {W : List Wv} (h : WvR r F B C W) (L : List Res) (hS : Sep r [] (L ++ F) w) {i : Nat} (hi : i < W.length) : ∃ gb o, B = some ⟨gb, o, none⟩ ∧ w.rangeAt gb (o + i * 1) (W[i]).cells := by
  obtain ⟨gb, o, hA, _, hra⟩ := (h.out L w hS).mat (by omega) (q := i) (by simpa using hi)
  exact ⟨gb, o, hA, by simpa using hra⟩
theorem WvR.geta {r w : World} {F : List Res} {B : Option Addr} {C : Nat} {W : List Wv} (h : WvR r F B C W) (L : List Res) (hS : Sep r [] (L ++ F) w) {i gb o : Nat} (hB : B = some ⟨gb, o, none⟩) (hi : i < W.length) : w.rangeAt gb (o + i * 1) (W[i]).cells := by
  obtain ⟨gb', o', hA, hra⟩ := h.get L hS hi
  rw [hB] at hA
  injection hA with hA
  injection hA with h1 h2 _
  subst h1 h2
  exact hra
/-- A number of a list is read. -/
theorem int_get {r w : World} {F : List Res} {A : Option Addr} {c : Nat} {l : List Int} (h : Reads r F 1 (.slice A l.length c) (l.map ztC)) (L : List Res) (hS : Sep r [] (L ++ F) w) {i : Nat} (hi : i < l.length) : ∃ gb o, A = some ⟨gb, o, none⟩ ∧ w.rangeAt gb (o + i * 1) (ztC l[i]) := by
  obtain ⟨gb, o, hA, _, hra⟩ := (h L w hS).mat (by omega) (q := i) (by simpa using hi)
  exact ⟨gb, o, hA, by simpa using hra⟩
theorem int_geta {r w : World} {F : List Res} {A : Option Addr} {c : Nat} {l : List Int} (h : Reads r F 1 (.slice A l.length c) (l.map ztC)) (L : List Res) (hS : Sep r [] (L ++ F) w) {i gb o : Nat} (hA : A = some ⟨gb, o, none⟩) (hi : i < l.length) : w.rangeAt gb (o + i * 1) (ztC l[i]) := by
  obtain ⟨gb', o', hA', hra⟩ := int_get h L hS hi
  rw [hA] at hA'
  injection hA' with hA'
  injection hA' with h1 h2 _
  subst h1 h2
  exact hra
set_option maxHeartbeats 1000000 in
theorem count37_z (A : Option Addr) (l : List Int) (cap : Nat) (k : Int) (r : World) (F : List Res) (w : World) (hS : Sep r [] F w) (hrd : Reads r F 1 (.slice A l.length cap) (l.map ztC)) (hl : l.length ≤ 100000) :
    Calls Tryz.prog 38 #[.slice A l.length cap, .int .i64 k] w fun e w' => e = .returned (.int .i64 (l.count k : Nat)) ∧ Sep r [] F w' := by
  refine Z.enter Tryz.func38 Tryz.ntmps38 rfl rfl ?_
  repeat' (first|refine K ?_|(refine Sh.sa hS ?_;clear hS;intro w hS)|(refine K3 ?_;clear hS;intro g w hS hge)|((first|refine GS ?_ ?_|refine VB ?_ ?_)<;>intro hb<;>(try simp only [J1,J2,J3,J4,J5,J6] at hb)<;>(try (exfalso;first|omega|exact hb trivial))))
  refine Z.lpS [5, 7, 10, 11, 12, 13, 14, 15, 16, 17, 18, 19] (fun m w z => ∃ (i n : Nat), z = [(5, .int .i64 n), (10, .int .i64 i)] ∧ i ≤ l.length ∧ m = l.length - i ∧ n = (l.take i).count k ∧ Sep r [] F w) _ [(5, .int .i64 (0 : Nat)), (10, .int .i64 (0 : Nat))] (by repeat (first | exact trivial | refine ⟨rfl, ?_⟩)) ⟨0, 0, rfl, by omega, rfl, by simp, hS⟩ ?_
  clear hS
  rintro m f0 w _ ⟨i, n, rfl, hi, rfl, hn, hS⟩
  have hc : n ≤ i := by rw [hn]; exact Nat.le_trans List.count_le_length (by simp; omega)
  by_cases hlt : i < l.length
  · obtain ⟨gb, o, rfl, hra⟩ := int_get hrd [] hS hlt
    have e : (l.take (i + 1)).count k = n + if l[i] = k then 1 else 0 := by
      rw [List.take_succ_eq_append_getElem hlt, List.count_append, List.count_singleton, hn]
      simp
    repeat' (first|refine K ?_|(refine Sh.sa hS ?_;clear hS;intro w hS)|(refine K3 ?_;clear hS;intro g w hS hge)|((first|refine GS ?_ ?_|refine VB ?_ ?_)<;>intro hb<;>(try simp only [J1,J2,J3,J4,J5,J6] at hb)<;>(try (exfalso;first|omega|exact hb trivial))))
    · rw [if_pos hb] at e
      refine Sh.again (l.length - (i + 1)) [(5, .int .i64 (n + 1 : Nat)), (10, .int .i64 (i + 1 : Nat))] ?_
      exact ⟨i + 1, n + 1, rfl, by omega, rfl, e.symm, hS⟩
    · rw [if_neg hb] at e
      refine Sh.again (l.length - (i + 1)) [(5, .int .i64 (n : Nat)), (10, .int .i64 (i + 1 : Nat))] ?_
      exact ⟨i + 1, n, rfl, by omega, rfl, e.symm, hS⟩
  · have hi2 : i = l.length := by omega
    subst hi2
    rw [List.take_length] at hn
    subst hn
    repeat' (first|refine K ?_|(refine Sh.sa hS ?_;clear hS;intro w hS)|(refine K3 ?_;clear hS;intro g w hS hge)|((first|refine GS ?_ ?_|refine VB ?_ ?_)<;>intro hb<;>(try simp only [J1,J2,J3,J4,J5,J6] at hb)<;>(try (exfalso;first|omega|exact hb trivial))))
    refine Dnt Tryz.results38 ?_
    exact ⟨rfl, hS⟩
end Go.Proofs.YtmgpionlfemhdaaGreat
