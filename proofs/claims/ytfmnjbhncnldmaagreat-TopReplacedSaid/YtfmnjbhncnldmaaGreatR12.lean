import Derived.Test.YtfmnjbhncnldmaaGreatR02
import Derived.Test.YtfmnjbhncnldmaaGreatR06
import Derived.Test.YtfmnjbhncnldmaaGreatR07
import Derived.Test.YtfmnjbhncnldmaaGreatR08
import Derived.Test.YtfmnjbhncnldmaaGreatR11
set_option linter.unusedSimpArgs false
set_option linter.unusedVariables false
namespace Go.Proofs.YtfmnjbhncnldmaaGreat
open Go.RowKit
attribute [local irreducible] Res.blk Res.sl Res.all Res.ex Res.pure Res.star
theorem ch_ok {l : List Ch} : ∀ row, row ∈ l.map Ch.cells → row.length = 8 ∧ ∀ u, u ∈ row → u.oneCell' = true := by
  intro row hr
  obtain ⟨x, _, rfl⟩ := List.mem_map.1 hr
  exact ⟨rfl, by simp [Ch.cells, Value.oneCell']⟩
theorem ch_flat (l : List Ch) : (l.map Ch.cells).flatten.length = l.length * 8 := by rw [flatten_length fun row hr => (ch_ok row hr).1, List.length_map]
set_option maxHeartbeats 1000000 in
theorem ch_clone (l : List Ch) (v : Value) (r : World) (F : List Res) (w : World) (hS : Sep r [] F w) (hrd : Reads r F 8 v (l.map Ch.cells)) (hl : l.length ≤ 100000) :
    Calls Tryz.prog 112 #[v] w fun e w' => ∃ A c, e = .returned (.slice A l.length c) ∧ Sep r [] (.sl 149 8 (.slice A l.length c) (l.map Ch.cells) :: F) w' := by
  obtain ⟨_, A, c, hv, hnil, hc, _⟩ := hrd [] w hS
  simp only [List.length_map] at hv hc
  subst hv
  cases A with
  | none =>
    have hl0 : l = [] := by have := hnil rfl; exact List.eq_nil_of_length_eq_zero (by omega)
    subst hl0
    refine Z.enter Tryz.func112 Tryz.ntmps112 rfl rfl ?_
    repeat' (first|refine K ?_|(refine Sh.sa hS ?_;clear hS;intro w hS)|(refine K3 ?_;clear hS;intro g w hS hge)|((first|refine GS ?_ ?_|refine VB ?_ ?_)<;>intro hb<;>(try simp only [JJ] at hb)<;>(try exact JX)))
    refine Dnt Tryz.results112 ?_
    exact ⟨none, 0, rfl, Z.nilsl hS _ _ none⟩
  | some a =>
    refine Z.enter Tryz.func112 Tryz.ntmps112 rfl rfl ?_
    repeat' (first|refine K ?_|(refine Sh.sa hS ?_;clear hS;intro w hS)|(refine K3 ?_;clear hS;intro g w hS hge)|((first|refine GS ?_ ?_|refine VB ?_ ?_)<;>intro hb<;>(try simp only [JJ] at hb)<;>(try exact JX)))
    refine Z.eff (Z.ap0m hS rfl rfl rfl (hrd [_] _ hS) (by (try simp only [maxLen, List.length_take, List.length_drop, List.length_append, List.length_cons, List.length_nil, List.length_map]); omega) (by (try simp only [maxLen, List.length_take, List.length_drop, List.length_append, List.length_cons, List.length_nil, List.length_map]); omega) ?_) rfl
    clear hS; intro A' c' w hS
    repeat' (first|refine K ?_|(refine Sh.sa hS ?_;clear hS;intro w hS)|(refine K3 ?_;clear hS;intro g w hS hge)|((first|refine GS ?_ ?_|refine VB ?_ ?_)<;>intro hb<;>(try simp only [JJ] at hb)<;>(try exact JX)))
    refine Dnt Tryz.results112 ?_
    exact ⟨_, _, rfl, hS.sb⟩
set_option maxHeartbeats 1000000 in
theorem ch_index (p : Ch → Bool) (FC : FuncId) [HasF Tryz.prog FC] (caps : List Value) (l : List Ch) (v : Value) (r : World) (F : List Res) (w : World) (hS : Sep r [] F w) (hrd : Reads r F 8 v (l.map Ch.cells)) (hl : l.length ≤ 100000)
    (hp : ∀ (L : List Res) (w : World) (x : Ch), Sep r [] (L ++ F) w → Calls Tryz.prog FC (x.val :: caps).toArray w fun e w' => e = .returned (.bool (p x)) ∧ Sep r [] (L ++ F) w') :
    Calls Tryz.prog 115 #[v, .func (.func FC) #[] caps.toArray] w fun e w' => ∃ k : Int, e = .returned (.int .i64 k) ∧ Sep r [] F w' ∧ ((k = -1 ∧ ∀ x, x ∈ l → p x = false) ∨ ∃ (q : Nat) (hq : q < l.length), k = q ∧ p l[q] = true ∧ ∀ x, x ∈ l.take q → p x = false) := by
  obtain ⟨A, c, rfl, hc⟩ := (hrd [] w hS).mform
  refine Z.enter Tryz.func115 Tryz.ntmps115 rfl rfl ?_
  repeat' (first|refine K ?_|(refine Sh.sa hS ?_;clear hS;intro w hS)|(refine K3 ?_;clear hS;intro g w hS hge)|((first|refine GS ?_ ?_|refine VB ?_ ?_)<;>intro hb<;>(try simp only [JJ] at hb)<;>(try exact JX)))
  refine Z.lpS [4, 5, 8, 9, 10, 11, 12, 13, 14, 15, 16, 17, 18] (fun m w s => ∃ q : Nat, s = [(8, .int .i64 q)] ∧ q ≤ l.length ∧ (∀ x, x ∈ l.take q → p x = false) ∧ m = l.length - q ∧ Sep r [] F w) _ [(8, .int .i64 (0 : Nat))] (by repeat (first | exact trivial | refine ⟨rfl, ?_⟩)) ⟨0, rfl, by omega, by simp, rfl, hS⟩ ?_
  clear hS
  rintro m f0 w _ ⟨q, rfl, hq, hall, rfl, hS⟩
  by_cases hlt : q < l.length
  · obtain ⟨gb, o, rfl, _, hra⟩ := (hrd [] w hS).mat (by omega) hlt
    repeat' (first|refine K ?_|(refine Sh.sa hS ?_;clear hS;intro w hS)|(refine K3 ?_;clear hS;intro g w hS hge)|((first|refine GS ?_ ?_|refine VB ?_ ?_)<;>intro hb<;>(try simp only [JJ] at hb)<;>(try exact JX)))
    refine Z.eff (Z.clf rfl (hp [] w l[q] hS) rfl ?_) rfl
    clear hS
    rintro e w ⟨rfl, hS⟩
    refine ⟨_, rfl, ?_⟩
    repeat' (first|refine K ?_|(refine Sh.sa hS ?_;clear hS;intro w hS)|(refine K3 ?_;clear hS;intro g w hS hge)|((first|refine GS ?_ ?_|refine VB ?_ ?_)<;>intro hb<;>(try simp only [JJ] at hb)<;>(try exact JX)))
    · refine Dnt Tryz.results115 ?_
      exact ⟨q, rfl, hS, .inr ⟨q, hlt, rfl, hb, hall⟩⟩
    · refine Sh.again (l.length - (q + 1)) [(8, .int .i64 (q + 1 : Nat))] ?_
      refine ⟨q + 1, rfl, by omega, fun x hx => ?_, rfl, hS⟩
      rw [List.take_succ_eq_append_getElem hlt, List.mem_append] at hx
      rcases hx with hx | hx
      · exact hall x hx
      · simp at hx; subst hx; exact hb
  · repeat' (first|refine K ?_|(refine Sh.sa hS ?_;clear hS;intro w hS)|(refine K3 ?_;clear hS;intro g w hS hge)|((first|refine GS ?_ ?_|refine VB ?_ ?_)<;>intro hb<;>(try simp only [JJ] at hb)<;>(try exact JX)))
    refine Dnt Tryz.results115 ?_
    exact ⟨-1, rfl, hS, .inl ⟨rfl, fun x hx => hall x (by rw [List.take_of_length_le (by omega)]; exact hx)⟩⟩
set_option maxHeartbeats 4000000 in
theorem ch_cut (l : List Ch) (i : Nat) (A : Option Addr) (c : Nat) (r : World) (F : List Res) (w : World) (hS : Sep r [] (.sl 149 8 (.slice A l.length c) (l.map Ch.cells) :: F) w) (hi : i ≤ l.length) (hl : l.length ≤ 100000) :
    Calls Tryz.prog 207 #[.slice A l.length c, .int .i64 (i : Int), .int .i64 (l.length : Int)] w fun e w' => ∃ A' c', e = .returned (.slice A' (l.take i).length c') ∧ Sep r [] (.sl 149 8 (.slice A' (l.take i).length c') ((l.take i).map Ch.cells) :: F) w' := by
  have hnc : l.length ≤ c := by
    obtain ⟨A', c', e, h⟩ := (hS.slrows (e := 149) (v := .slice A l.length c) .here).mform
    cases e
    exact h
  by_cases h0 : i = l.length
  · subst h0
    refine Z.enter Tryz.func207 Tryz.ntmps207 rfl rfl ?_
    repeat' (first|refine K ?_|(refine Sh.sa hS ?_;clear hS;intro w hS)|(refine K3 ?_;clear hS;intro g w hS hge)|((first|refine GS ?_ ?_|refine VB ?_ ?_)<;>intro hb<;>(try simp only [JJ] at hb)<;>(try exact JX)))
    refine Z.pl (R.span3 rfl rfl rfl rfl rfl (by omega) (by omega) (by omega)) ?_
    repeat' (first|refine K ?_|(refine Sh.sa hS ?_;clear hS;intro w hS)|(refine K3 ?_;clear hS;intro g w hS hge)|((first|refine GS ?_ ?_|refine VB ?_ ?_)<;>intro hb<;>(try simp only [JJ] at hb)<;>(try exact JX)))
    refine Dnt Tryz.results207 ?_
    refine ⟨A, c, ?_, ?_⟩
    · rw [List.take_length]; rfl
    · rw [List.take_length]; exact hS
  have hlt : i < l.length := by omega
  have ei : (i : Int).toNat = i := rfl
  have ej : (l.length : Int).toNat = l.length := rfl
  obtain ⟨g0, cs, rfl, _, _, hcm, hcl, hct, _, hS⟩ := open_sl hS (by simp; omega)
  have hsub := fun a m h => sub_rows (c := Ch.cells) (sz := 8) (fun _ => rfl) (l := l) (cs := cs) hct a m h
  have hta : cs.take (i * 8) = ((l.take i).map Ch.cells).flatten := by have := hsub 0 i (by omega); simpa using this
  have hal : ((l.take i).map Ch.cells).flatten.length = i * 8 := by rw [ch_flat, List.length_take, Nat.min_eq_left (by omega)]
  have hfl : (l.take i).length = i := by rw [List.length_take, Nat.min_eq_left (by omega)]
  have hcc : l.length * 8 ≤ c * 8 := Nat.mul_le_mul_right _ hnc
  refine Z.enter Tryz.func207 Tryz.ntmps207 rfl rfl ?_
  repeat' (first|refine K ?_|(refine Sh.sa hS ?_;clear hS;intro w hS)|(refine K3 ?_;clear hS;intro g w hS hge)|((first|refine GS ?_ ?_|refine VB ?_ ?_)<;>intro hb<;>(try simp only [JJ] at hb)<;>(try exact JX)))
  refine Z.pl (R.span3 rfl rfl rfl rfl rfl (by omega) (by omega) (by omega)) ?_
  repeat' (first|refine K ?_|(refine Sh.sa hS ?_;clear hS;intro w hS)|(refine K3 ?_;clear hS;intro g w hS hge)|((first|refine GS ?_ ?_|refine VB ?_ ?_)<;>intro hb<;>(try simp only [JJ] at hb)<;>(try exact JX)))
  refine Z.cut [0, 20, 21, 22, 23, 24, 25, 26] (fun w s => s = [(0, .slice (some ⟨g0, 0, none⟩) (i + (l.length - l.length)) c)] ∧ Sep r [] (.blk g0 149 (cs.take (i * 8) ++ (([] : List (List Value))).flatten ++ cs.drop ((i + (l.length - l.length)) * 8)) :: F) w) ?_ ?_
  · by_cases hic : l.length < c
    · refine D.startS (Lr := ([] : List Res)) (hS.sb) 8 8 (by kernel_rfl) rfl ?_
      replace hS := hS.drew
      refine Sh.dp 0 1 ?_
      refine Sh.dp 1 3 ?_
      refine D.pl 2 7 rfl D.wantedN (by kernel_rfl) (R.upto rfl rfl rfl (by omega)) ?_
      refine Sh.dp 3 15 ?_
      refine Sh.dp 4 31 ?_
      refine D.pl 5 63 rfl D.wantedN (by kernel_rfl) (R.sinceL rfl rfl rfl (by omega) (by omega)) ?_
      refine D.eff 6 127 rfl D.wantedN (by kernel_rfl) (by kernel_rfl) (fun _ _ h => h) ?_
      refine Z.apf (ys := ([] : List (List Value))) hS rfl rfl rfl AtF (rows_mid (hS.bk) (by simp) (by simp) (Nat.le_refl _) (by rw [ej]; simp)) (by omega) (by rw [hcl, ei, ej]; omega) ?_
      clear hS; intro w hS
      refine ⟨HM.s (hS.sb), ?_⟩
      refine Sh.dp 7 255 ?_
      refine D.done (by kernel_rfl) ?_
      refine Sh.cut [(0, _)] ?_
      rw [ej, ei] at hS
      exact ⟨by rw [ej]; rfl, hS⟩
    · refine D.startS (Lr := ([] : List Res)) (hS.sb) 8 8 (by kernel_rfl) rfl ?_
      replace hS := hS.drew
      refine Sh.dp 0 1 ?_
      refine Sh.dp 1 3 ?_
      refine D.pl 2 7 rfl D.wantedN (by kernel_rfl) (R.upto rfl rfl rfl (by omega)) ?_
      refine Sh.dp 3 15 ?_
      refine Sh.dp 4 31 ?_
      refine D.pl 5 63 rfl D.wantedN (by kernel_rfl) (R.sinceE rfl rfl rfl (by omega) (by omega)) ?_
      refine D.eff 6 127 rfl D.wantedN (by kernel_rfl) (by kernel_rfl) (fun _ _ h => h) ?_
      refine Z.apf (ys := ([] : List (List Value))) hS rfl rfl rfl AtF (rows_mid (hS.bk) (by simp) (by simp) (Nat.le_refl _) (by rw [ej]; simp)) (by omega) (by rw [hcl, ei, ej]; omega) ?_
      clear hS; intro w hS
      refine ⟨HM.s (hS.sb), ?_⟩
      refine Sh.dp 7 255 ?_
      refine D.done (by kernel_rfl) ?_
      refine Sh.cut [(0, _)] ?_
      rw [ej, ei] at hS
      exact ⟨by rw [ej]; rfl, hS⟩
  clear hS
  rintro f1 w _ ⟨rfl, hS⟩
  repeat' (first|refine K ?_|(refine Sh.sa hS ?_;clear hS;intro w hS)|(refine K3 ?_;clear hS;intro g w hS hge)|((first|refine GS ?_ ?_|refine VB ?_ ?_)<;>intro hb<;>(try simp only [JJ] at hb)<;>(try exact JX)))
  refine Z.eff (Z.clr hS rfl rfl AtF (by simp only [List.length_append, List.length_take, List.length_drop, hcl, List.flatten_nil, List.length_nil]; omega) rfl ?_) rfl
  clear hS; intro w hS
  repeat' (first|refine K ?_|(refine Sh.sa hS ?_;clear hS;intro w hS)|(refine K3 ?_;clear hS;intro g w hS hge)|((first|refine GS ?_ ?_|refine VB ?_ ?_)<;>intro hb<;>(try simp only [JJ] at hb)<;>(try exact JX)))
  refine Dnt Tryz.results207 ?_
  have hnn : i + (l.length - l.length) = i := by omega
  refine ⟨some ⟨g0, 0, none⟩, c, by rw [hfl, hnn]; rfl, ?_⟩
  have h3 := close_sl (rows := (l.take i).map Ch.cells) (c := c) hS (by omega) hcm ?_ (by simp; omega) ?_ ch_ok
  · rw [List.length_map] at h3
    exact h3
  · simp only [List.length_append, List.length_take, List.length_drop, hcl, zerosL_len, List.length_cons, List.length_nil, List.flatten_nil]
    omega
  · rw [List.length_map, hfl, hta]
    have e2 : 0 + ((i + (l.length - l.length) : Nat) : Int).toNat * 8 = i * 8 := by omega
    rw [e2, List.flatten_nil, List.append_nil, List.append_assoc, List.take_append_of_le_length (by simp only [List.length_take, List.length_append, hal, List.length_drop, hcl]; omega), List.take_take, Nat.min_self]
    exact List.take_left' hal
theorem gnew0_z (cell : Int) (r : World) (F : List Res) (w : World) (hS : Sep r [] F w) : Calls Tryz.prog 98 #[.int .i64 cell] w fun e w' => ∃ g, e = .returned (.pointer (some ⟨g, 0, none⟩)) ∧ Sep r [] (.blk g 216 [.int .i64 cell, .int .i64 0, .slice none 0 0] :: F) w' := by
  refine Z.enter Tryz.func98 Tryz.ntmps98 rfl rfl ?_
  repeat' (first|refine K ?_|(refine Sh.sa hS ?_;clear hS;intro w hS)|(refine K3 ?_;clear hS;intro g w hS hge)|((first|refine GS ?_ ?_|refine VB ?_ ?_)<;>intro hb<;>(try simp only [JJ] at hb)<;>(try exact JX)))
  refine Dnt Tryz.results98 ?_
  exact ⟨_, rfl, hS⟩
structure COk (c : Cp) : Prop where
  t : c.t.ok
  ss : SSort c.s
  s : c.s.length ≤ 1000
  l : c.q.l.length ≤ 1000
  r : c.q.r.length ≤ 1000
theorem Good.ssort {c : Cp} (h : Good c) : SSort c.s := by
  induction h with
  | zero => simp [Cp.zero, SSort]
  | @app c x hc hx ih =>
    obtain ⟨_, _, _, _, _, _, e⟩ := cApp_ok hx
    rw [e]
    exact ih.app x
theorem Good.cok {c : Cp} (h : Good c) : COk c := by
  have hg := h.ok
  exact ⟨hg.1, h.ssort, by omega, by omega, by rw [hg.2.2.2]; simp⟩
def PC (g : Nat) (cell ten : Int) (vg : Value) (c : Cp) : Res := .ex fun A => .ex fun cap => .ex fun gs => .ex fun gq => .ex fun gt => .all [.blk g 162 [.int .i64 cell, .int .i64 ten, .slice A c.h.length cap, .pointer (some ⟨gs, 0, .none⟩), .pointer (some ⟨gq, 0, .none⟩), .pointer (some ⟨gt, 0, .none⟩), vg], .sl 149 8 (.slice A c.h.length cap) (c.h.map Ch.cells), PS gs c.s, PQ gq c.q, PT gt c.t]
theorem Sep.PC_open {r w : World} {M : List Nat} {F : List Res} {g : Nat} {cell ten : Int} {vg : Value} {c : Cp} : Sep r M (PC g cell ten vg c :: F) w ↔ ∃ A cap gs gq gt, Sep r M (.blk g 162 [.int .i64 cell, .int .i64 ten, .slice A c.h.length cap, .pointer (some ⟨gs, 0, .none⟩), .pointer (some ⟨gq, 0, .none⟩), .pointer (some ⟨gt, 0, .none⟩), vg] :: .sl 149 8 (.slice A c.h.length cap) (c.h.map Ch.cells) :: PS gs c.s :: PQ gq c.q :: PT gt c.t :: F) w := by
  simp only [PC, Sep.ex_open, Sep.all_open, List.cons_append, List.nil_append]
set_option maxHeartbeats 1000000 in
theorem pnone_z (r : World) (F : List Res) (w : World) (hS : Sep r [] F w) :
    Calls Tryz.prog 97 #[] w fun e w' => ∃ gs gq gt, e = .returned (.agg #[.pointer (some ⟨gs, 0, none⟩), .pointer (some ⟨gq, 0, none⟩), .pointer (some ⟨gt, 0, none⟩)]) ∧ Sep r [] (PS gs [] :: PQ gq .zero :: PT gt .zero :: F) w' := by
  refine Z.enter Tryz.func97 Tryz.ntmps97 rfl rfl ?_
  repeat' (first|refine K ?_|(refine Sh.sa hS ?_;clear hS;intro w hS)|(refine K3 ?_;clear hS;intro g w hS hge)|((first|refine GS ?_ ?_|refine VB ?_ ?_)<;>intro hb<;>(try simp only [JJ] at hb)<;>(try exact JX)))
  refine Z.eff (Z.cl (psnew_z _ _ _ hS) rfl ?_) rfl
  clear hS
  rintro e w ⟨gs, rfl, hS⟩
  refine ⟨_, rfl, ?_⟩
  repeat' (first|refine K ?_|(refine Sh.sa hS ?_;clear hS;intro w hS)|(refine K3 ?_;clear hS;intro g w hS hge)|((first|refine GS ?_ ?_|refine VB ?_ ?_)<;>intro hb<;>(try simp only [JJ] at hb)<;>(try exact JX)))
  refine Z.eff (Z.cl (pqnew_z _ _ _ hS) rfl ?_) rfl
  clear hS
  rintro e w ⟨gq, rfl, hS⟩
  refine ⟨_, rfl, ?_⟩
  repeat' (first|refine K ?_|(refine Sh.sa hS ?_;clear hS;intro w hS)|(refine K3 ?_;clear hS;intro g w hS hge)|((first|refine GS ?_ ?_|refine VB ?_ ?_)<;>intro hb<;>(try simp only [JJ] at hb)<;>(try exact JX)))
  refine Z.eff (Z.cl (pnew_z hS) rfl ?_) rfl
  clear hS
  rintro e w ⟨gt, rfl, hS⟩
  refine ⟨_, rfl, ?_⟩
  repeat' (first|refine K ?_|(refine Sh.sa hS ?_;clear hS;intro w hS)|(refine K3 ?_;clear hS;intro g w hS hge)|((first|refine GS ?_ ?_|refine VB ?_ ?_)<;>intro hb<;>(try simp only [JJ] at hb)<;>(try exact JX)))
  refine Dnc Tryz.results97 ?_
  exact ⟨_, _, _, rfl, hS.sb⟩
structure Fd3 where
  s : List Ce
  q : Qu
  t : Tab
  e : Int
def addS (s : List Ce) (q : Qu) (t : Tab) (x : Ch) : Fd3 :=
  if (tApp t x).2 = 0 then if (sApp s x).2 = 0 then ⟨(sApp s x).1, (qApp q x).1, (tApp t x).1, (qApp q x).2⟩ else ⟨(sApp s x).1, q, (tApp t x).1, (sApp s x).2⟩
  else ⟨s, q, (tApp t x).1, (tApp t x).2⟩
set_option maxHeartbeats 1000000 in
theorem padd_z (gs gq gt : Nat) (s : List Ce) (q : Qu) (t : Tab) (x : Ch) (r : World) (F : List Res) (w : World) (hS : Sep r [] (PS gs s :: PQ gq q :: PT gt t :: F) w) (hok : t.ok) (hs : SSort s) (h1 : s.length ≤ 1000) (h2 : q.l.length ≤ 1000) (h3 : q.r.length ≤ 1000) :
    Calls Tryz.prog 208 #[.agg #[.pointer (some ⟨gs, 0, none⟩), .pointer (some ⟨gq, 0, none⟩), .pointer (some ⟨gt, 0, none⟩)], x.val] w fun e w' => e = .returned (.int .i64 (addS s q t x).e) ∧ Sep r [] (PS gs (addS s q t x).s :: PQ gq (addS s q t x).q :: PT gt (addS s q t x).t :: F) w' := by
  unfold addS
  refine Z.enter Tryz.func208 Tryz.ntmps208 rfl rfl ?_
  repeat' (first|refine K ?_|(refine Sh.sa hS ?_;clear hS;intro w hS)|(refine K3 ?_;clear hS;intro g w hS hge)|((first|refine GS ?_ ?_|refine VB ?_ ?_)<;>intro hb<;>(try simp only [JJ] at hb)<;>(try exact JX)))
  replace hS := hS.fo (R := PT gt t)
  refine Z.eff (Z.cl (papply_z x _ rfl hS hok) rfl ?_) rfl
  clear hS
  rintro e w ⟨rfl, hS⟩
  refine ⟨_, rfl, ?_⟩
  repeat' (first|refine K ?_|(refine Sh.sa hS ?_;clear hS;intro w hS)|(refine K3 ?_;clear hS;intro g w hS hge)|((first|refine GS ?_ ?_|refine VB ?_ ?_)<;>intro hb<;>(try simp only [JJ] at hb)<;>(try exact JX)))
  · refine Dnt Tryz.results208 ?_
    rw [if_neg hb]
    exact ⟨rfl, hS.sb⟩
  rename (tApp t x).2 = 0 => ht
  replace hS := hS.fo (R := PS gs s)
  refine Z.eff (Z.cl (psapply_z gs s x _ _ _ hS hs h1) rfl ?_) rfl
  clear hS
  rintro e w ⟨rfl, hS⟩
  refine ⟨_, rfl, ?_⟩
  repeat' (first|refine K ?_|(refine Sh.sa hS ?_;clear hS;intro w hS)|(refine K3 ?_;clear hS;intro g w hS hge)|((first|refine GS ?_ ?_|refine VB ?_ ?_)<;>intro hb<;>(try simp only [JJ] at hb)<;>(try exact JX)))
  · refine Dnt Tryz.results208 ?_
    rw [if_pos ht, if_neg hb]
    exact ⟨rfl, hS.sb⟩
  rename (sApp s x).2 = 0 => hse
  replace hS := hS.fo (R := PQ gq q)
  refine Z.eff (Z.cl (pqapply_z gq q x _ _ _ hS h2 h3) rfl ?_) rfl
  clear hS
  rintro e w ⟨rfl, hS⟩
  refine ⟨_, rfl, ?_⟩
  repeat' (first|refine K ?_|(refine Sh.sa hS ?_;clear hS;intro w hS)|(refine K3 ?_;clear hS;intro g w hS hge)|((first|refine GS ?_ ?_|refine VB ?_ ?_)<;>intro hb<;>(try simp only [JJ] at hb)<;>(try exact JX)))
  refine Dnt Tryz.results208 ?_
  rw [if_pos ht, if_pos hse]
  exact ⟨rfl, hS.sb⟩
set_option maxHeartbeats 1000000 in
theorem pfcopy_z (gs gq gt : Nat) (s : List Ce) (q : Qu) (t : Tab) (r : World) (F : List Res) (w : World) (hS : Sep r [] (PS gs s :: PQ gq q :: PT gt t :: F) w) (h2 : q.l.length ≤ 1000) (h3 : q.r.length ≤ 1000) :
    Calls Tryz.prog 209 #[.agg #[.pointer (some ⟨gs, 0, none⟩), .pointer (some ⟨gq, 0, none⟩), .pointer (some ⟨gt, 0, none⟩)]] w fun e w' => ∃ gs' gq' gt', e = .returned (.agg #[.pointer (some ⟨gs', 0, none⟩), .pointer (some ⟨gq', 0, none⟩), .pointer (some ⟨gt', 0, none⟩)]) ∧ Sep r [] (PS gs' s :: PQ gq' q :: PT gt' t :: PS gs s :: PQ gq q :: PT gt t :: F) w' := by
  refine Z.enter Tryz.func209 Tryz.ntmps209 rfl rfl ?_
  repeat' (first|refine K ?_|(refine Sh.sa hS ?_;clear hS;intro w hS)|(refine K3 ?_;clear hS;intro g w hS hge)|((first|refine GS ?_ ?_|refine VB ?_ ?_)<;>intro hb<;>(try simp only [JJ] at hb)<;>(try exact JX)))
  refine D.startS hS 10 11 (by kernel_rfl) rfl ?_
  replace hS := hS.drew
  refine Sh.dp 0 1 ?_
  refine Sh.dp 3 9 ?_
  refine Sh.dp 6 73 ?_
  refine Sh.dl 1 75 ?_
  refine Sh.dl 4 91 ?_
  refine Sh.dl 7 219 ?_
  refine D.eff 2 223 rfl D.wantedN (by kernel_rfl) (by kernel_rfl) (fun _ _ h => h) ?_
  replace hS := hS.fo (R := PS gs s)
  refine Z.cl (pscopy_z gs s _ _ _ hS) rfl ?_
  clear hS
  rintro e w ⟨gs', rfl, hS⟩
  refine ⟨_, rfl, ?_⟩
  refine ⟨HM.s (hS.sb), ?_⟩
  refine D.eff 5 255 rfl D.wantedN (by kernel_rfl) (by kernel_rfl) (fun _ _ h => h) ?_
  replace hS := hS.fo (R := PQ gq q)
  refine Z.cl (pqcopy_z gq q _ _ _ hS h2 h3) rfl ?_
  clear hS
  rintro e w ⟨gq', rfl, hS⟩
  refine ⟨_, rfl, ?_⟩
  refine ⟨HM.s (hS.sb), ?_⟩
  refine D.eff 8 511 rfl D.wantedN (by kernel_rfl) (by kernel_rfl) (fun _ _ h => h) ?_
  replace hS := hS.fo (R := PT gt t)
  refine Z.cl (pcopy_z t gt _ _ _ hS) rfl ?_
  clear hS
  rintro e w ⟨gt', rfl, hS⟩
  refine ⟨_, rfl, ?_⟩
  refine ⟨HM.s (hS.sb), ?_⟩
  first | refine D.bu 9 1023 rfl D.wantedN (by kernel_rfl) rfl rfl ?_ | refine D.buA 9 1023 rfl D.wantedN (by kernel_rfl) rfl rfl ?_
  refine D.eff 10 2047 rfl D.wantedN (by kernel_rfl) (by kernel_rfl) (fun _ _ h => h) ?_
  refine Z.st hS rfl AtF rfl rfl ?_
  clear hS; intro w hS
  refine ⟨HM.last (by kernel_rfl), ?_⟩
  refine D.done (by kernel_rfl) ?_
  repeat' (first|refine K ?_|(refine Sh.sa hS ?_;clear hS;intro w hS)|(refine K3 ?_;clear hS;intro g w hS hge)|((first|refine GS ?_ ?_|refine VB ?_ ?_)<;>intro hb<;>(try simp only [JJ] at hb)<;>(try exact JX)))
  refine Dnc Tryz.results209 ?_
  exact ⟨_, _, _, rfl, hS.sb⟩
set_option maxHeartbeats 1000000 in
theorem pcnew_z (cell ten : Int) (r : World) (F : List Res) (w : World) (hS : Sep r [] F w) :
    Calls Tryz.prog 35 #[.int .i64 cell, .int .i64 ten] w fun e w' => ∃ g gg, e = .returned (.pointer (some ⟨g, 0, none⟩)) ∧
      Sep r [] (PC g cell ten (.pointer (some ⟨gg, 0, none⟩)) .zero :: .blk gg 216 [.int .i64 cell, .int .i64 0, .slice none 0 0] :: F) w' := by
  refine Z.enter Tryz.func35 Tryz.ntmps35 rfl rfl ?_
  repeat' (first|refine K ?_|(refine Sh.sa hS ?_;clear hS;intro w hS)|(refine K3 ?_;clear hS;intro g w hS hge)|((first|refine GS ?_ ?_|refine VB ?_ ?_)<;>intro hb<;>(try simp only [JJ] at hb)<;>(try exact JX)))
  refine Z.eff (Z.cl (pnone_z _ _ _ hS) rfl ?_) rfl
  clear hS
  rintro e w ⟨gs, gq, gt, rfl, hS⟩
  refine ⟨_, rfl, ?_⟩
  repeat' (first|refine K ?_|(refine Sh.sa hS ?_;clear hS;intro w hS)|(refine K3 ?_;clear hS;intro g w hS hge)|((first|refine GS ?_ ?_|refine VB ?_ ?_)<;>intro hb<;>(try simp only [JJ] at hb)<;>(try exact JX)))
  refine Z.eff (Z.cl (gnew0_z cell _ _ _ hS) rfl ?_) rfl
  clear hS
  rintro e w ⟨gg, rfl, hS⟩
  refine ⟨_, rfl, ?_⟩
  repeat' (first|refine K ?_|(refine Sh.sa hS ?_;clear hS;intro w hS)|(refine K3 ?_;clear hS;intro g w hS hge)|((first|refine GS ?_ ?_|refine VB ?_ ?_)<;>intro hb<;>(try simp only [JJ] at hb)<;>(try exact JX)))
  refine Dnt Tryz.results35 ?_
  replace hS := Z.nilsl hS 149 8 none
  exact ⟨_, _, rfl, Sep.PC_open.2 ⟨_, _, _, _, _, hS.sb⟩⟩
theorem plen_o (g : Nat) (v0 v1 v3 v4 v5 v6 : Value) (A : Option Addr) (n cap : Nat) (r : World) (F : List Res) (w : World) (hS : Sep r [] (.blk g 162 [v0, v1, .slice A n cap, v3, v4, v5, v6] :: F) w) :
    Calls Tryz.prog 14 #[.pointer (some ⟨g, 0, none⟩)] w fun e w' => e = .returned (.int .i64 (n : Int)) ∧ Sep r [] (.blk g 162 [v0, v1, .slice A n cap, v3, v4, v5, v6] :: F) w' := by
  refine Z.enter Tryz.func14 Tryz.ntmps14 rfl rfl ?_
  repeat' (first|refine K ?_|(refine Sh.sa hS ?_;clear hS;intro w hS)|(refine K3 ?_;clear hS;intro g w hS hge)|((first|refine GS ?_ ?_|refine VB ?_ ?_)<;>intro hb<;>(try simp only [JJ] at hb)<;>(try exact JX)))
  refine Dnt Tryz.results14 ?_
  exact ⟨rfl, hS⟩
theorem pclen_z (g : Nat) (cell ten : Int) (vg : Value) (c : Cp) (r : World) (F : List Res) (w : World) (hS : Sep r [] (PC g cell ten vg c :: F) w) :
    Calls Tryz.prog 14 #[.pointer (some ⟨g, 0, none⟩)] w fun e w' => e = .returned (.int .i64 (c.h.length : Int)) ∧ Sep r [] (PC g cell ten vg c :: F) w' := by
  obtain ⟨A, cap, gs, gq, gt, hS⟩ := Sep.PC_open.1 hS
  exact (plen_o g _ _ _ _ _ _ A _ cap r _ w hS).mono fun e w' ⟨he, hS⟩ => ⟨he, Sep.PC_open.2 ⟨A, cap, gs, gq, gt, hS⟩⟩
set_option maxHeartbeats 1000000 in
theorem pepoch_o (g : Nat) (v0 v1 vh v3 v4 v5 v6 : Value) (h : List Ch) (r : World) (F : List Res) (w : World) (hS : Sep r [] (.blk g 162 [v0, v1, vh, v3, v4, v5, v6] :: F) w) (hrd : Reads r F 8 vh (h.map Ch.cells)) (hl : h.length ≤ 5000) :
    Calls Tryz.prog 105 #[.pointer (some ⟨g, 0, none⟩)] w fun e w' => e = .returned (.int .i64 (epochOf h)) ∧ Sep r [] (.blk g 162 [v0, v1, vh, v3, v4, v5, v6] :: F) w' := by
  obtain ⟨A, c, rfl, hc⟩ := (hrd [_] w hS).mform
  refine Z.enter Tryz.func105 Tryz.ntmps105 rfl rfl ?_
  repeat' (first|refine K ?_|(refine Sh.sa hS ?_;clear hS;intro w hS)|(refine K3 ?_;clear hS;intro g w hS hge)|((first|refine GS ?_ ?_|refine VB ?_ ?_)<;>intro hb<;>(try simp only [JJ] at hb)<;>(try exact JX)))
  · refine Dnt Tryz.results105 ?_
    have : h = [] := List.eq_nil_of_length_eq_zero (by omega)
    exact ⟨by rw [this]; rfl, hS⟩
  · have h0 : 0 < h.length := by omega
    obtain ⟨gb, o, rfl, _, _⟩ := (hrd [_] w hS).mat (by omega) (q := h.length - 1) (by omega)
    have e0 : ((h.length : Int) - 1).toNat = h.length - 1 := by omega
    have hra : ∀ W, Sep r [] (.blk g 162 [v0, v1, .slice (some ⟨gb, o, none⟩) h.length c, v3, v4, v5, v6] :: F) W → W.rangeAt gb (o + ((h.length : Int) - 1).toNat * 8) (h[h.length - 1]'(by omega)).cells := fun W hW => by rw [e0]; exact (hrd [_] W hW).elem (by omega) (by omega)
    refine D.startS hS 14 14 (by kernel_rfl) rfl ?_
    replace hS := hS.drew
    refine Sh.dp 0 1 ?_
    refine Sh.dp 1 3 ?_
    refine Sh.dp 2 7 ?_
    refine Sh.dp 4 23 ?_
    refine Sh.dp 5 55 ?_
    refine Sh.dp 6 119 ?_
    refine Sh.dl 3 127 ?_
    refine Sh.dl 7 255 ?_
    refine Sh.dp 8 511 ?_
    first | refine D.sum 9 1023 rfl D.wantedN (by kernel_rfl) rfl (by constructor <;> omega) ?_ | refine D.sumW 9 1023 rfl D.wantedN (by kernel_rfl) rfl ?_
    first | refine D.ixn 10 2047 rfl D.wantedN (by kernel_rfl) rfl rfl rfl (by omega) ?_ | refine D.ix 10 2047 rfl D.wantedN (by kernel_rfl) rfl rfl rfl (by omega) ?_ | refine D.ia 10 2047 rfl D.wantedN (by kernel_rfl) rfl rfl rfl (by omega) ?_
    refine Sh.dp 11 4095 ?_
    refine D.ldE 12 8191 rfl D.wantedN (by kernel_rfl) rfl hra rfl ?_
    refine Sh.dp 13 16383 ?_
    refine D.done (by kernel_rfl) ?_
    repeat' (first|refine K ?_|(refine Sh.sa hS ?_;clear hS;intro w hS)|(refine K3 ?_;clear hS;intro g w hS hge)|((first|refine GS ?_ ?_|refine VB ?_ ?_)<;>intro hb<;>(try simp only [JJ] at hb)<;>(try exact JX)))
    refine Dnt Tryz.results105 ?_
    exact ⟨by rw [epochOf_eq h0]; rfl, hS⟩
def histB (h : List Ch) (n : Int) : List Ch := h.drop n.toNat
set_option maxHeartbeats 1000000 in
theorem phist_z (g : Nat) (cell ten : Int) (vg : Value) (c : Cp) (n : Int) (r : World) (F : List Res) (w : World) (hS : Sep r [] (PC g cell ten vg c :: F) w) (hl : c.h.length ≤ 5000) :
    Calls Tryz.prog 49 #[.pointer (some ⟨g, 0, none⟩), .int .i64 n] w fun e w' => ∃ A cap, e = .returned (.slice A (histB c.h n).length cap) ∧ Sep r [] (.sl 149 8 (.slice A (histB c.h n).length cap) ((histB c.h n).map Ch.cells) :: PC g cell ten vg c :: F) w' := by
  obtain ⟨A, cap, gs, gq, gt, hS⟩ := Sep.PC_open.1 hS
  unfold histB
  refine Z.enter Tryz.func49 Tryz.ntmps49 rfl rfl ?_
  repeat' (first|refine K ?_|(refine Sh.sa hS ?_;clear hS;intro w hS)|(refine K3 ?_;clear hS;intro g w hS hge)|((first|refine GS ?_ ?_|refine VB ?_ ?_)<;>intro hb<;>(try simp only [JJ] at hb)<;>(try exact JX)))
  · refine Dnt Tryz.results49 ?_
    have e : c.h.drop n.toNat = [] := List.drop_eq_nil_of_le (by omega)
    rw [e]
    replace hS := Sep.PC_open.2 ⟨A, cap, gs, gq, gt, hS⟩
    exact ⟨none, 0, rfl, Z.nilsl hS _ _ none⟩
  · have e : (max n 0).toNat = n.toNat := by omega
    refine Z.eff (Z.cl (ch_clone (c.h.drop (max n 0).toNat) _ _ _ _ hS (fun L w h => (h.slrows (e := 149) (v := .slice A c.h.length cap) (at_app L AtF)).mdrop (by omega)) (by simp; omega)) rfl ?_) rfl
    clear hS
    rintro e w ⟨A1, c1, rfl, hS⟩
    refine ⟨_, rfl, ?_⟩
    repeat' (first|refine K ?_|(refine Sh.sa hS ?_;clear hS;intro w hS)|(refine K3 ?_;clear hS;intro g w hS hge)|((first|refine GS ?_ ?_|refine VB ?_ ?_)<;>intro hb<;>(try simp only [JJ] at hb)<;>(try exact JX)))
    refine Dnt Tryz.results49 ?_
    rw [e] at hS ⊢
    exact ⟨A1, c1, rfl, (Sep.PC_open.2 ⟨A, cap, gs, gq, gt, hS.sub (L' := .blk g 162 [.int .i64 cell, .int .i64 ten, .slice A c.h.length cap, .pointer (some ⟨gs, 0, .none⟩), .pointer (some ⟨gq, 0, .none⟩), .pointer (some ⟨gt, 0, .none⟩), vg] :: .sl 149 8 (.slice A c.h.length cap) (c.h.map Ch.cells) :: PS gs c.s :: PQ gq c.q :: PT gt c.t :: .sl 149 8 (.slice A1 _ c1) _ :: F) SuF⟩).swap⟩
theorem addS_bad {s : List Ce} {q : Qu} {t : Tab} {x : Ch} (c : Cp) (hc : c = ⟨c.h, s, q, t⟩) (hv : validB x = true) (hq : x.seq = (c.h.length : Int) + 1 ∧ epochOf c.h ≤ x.epoch) : (cApp c x).2 = (addS s q t x).e ∧ ((addS s q t x).e ≠ 0 → (cApp c x).1 = c) ∧ ((addS s q t x).e = 0 → (cApp c x).1 = ⟨c.h ++ [x], (addS s q t x).s, (addS s q t x).q, (addS s q t x).t⟩) := by
  obtain ⟨h0, s0, q0, t0⟩ := c
  injection hc with _ h1 h2 h3
  subst h1 h2 h3
  unfold cApp addS
  rw [if_pos hv, if_pos hq]
  simp only
  by_cases ht : (tApp t0 x).2 = 0
  · rw [if_neg (by simpa using ht), if_pos ht]
    by_cases hs : (sApp s0 x).2 = 0
    · rw [if_neg (by simpa using hs), if_pos hs]
      by_cases hq' : (qApp q0 x).2 = 0
      · rw [if_neg (by simpa using hq')]
        simp [hq']
      · rw [if_pos hq']
        simp [hq']
    · rw [if_pos hs, if_neg hs]
      simp [hs]
  · rw [if_pos ht, if_neg ht]
    simp [ht]
set_option maxHeartbeats 4000000 in
theorem pcapply_z (g : Nat) (cell ten : Int) (vg : Value) (c : Cp) (x : Ch) (r : World) (F : List Res) (w : World) (hS : Sep r [] (PC g cell ten vg c :: F) w) (hok : COk c) (hl : c.h.length ≤ 4500) :
    Calls Tryz.prog 118 #[.pointer (some ⟨g, 0, none⟩), x.val] w fun e w' => e = .returned (.int .i64 (cApp c x).2) ∧ Sep r [] (PC g cell ten vg (cApp c x).1 :: F) w' := by
  obtain ⟨A, cap, gs, gq, gt, hS⟩ := Sep.PC_open.1 hS
  refine Z.enter Tryz.func118 Tryz.ntmps118 rfl rfl ?_
  repeat' (first|refine K ?_|(refine Sh.sa hS ?_;clear hS;intro w hS)|(refine K3 ?_;clear hS;intro g w hS hge)|((first|refine GS ?_ ?_|refine VB ?_ ?_)<;>intro hb<;>(try simp only [JJ] at hb)<;>(try exact JX)))
  rename Nat => gx
  refine Z.eff (Z.cl (svalid_any x _) rfl ?_) rfl
  rintro e w' ⟨rfl, hC⟩
  refine ⟨_, rfl, ?_⟩
  replace hS := hS.ext hC
  clear hC
  repeat' (first|refine K ?_|(refine Sh.sa hS ?_;clear hS;intro w hS)|(refine K3 ?_;clear hS;intro g w hS hge)|((first|refine GS ?_ ?_|refine VB ?_ ?_)<;>intro hb<;>(try simp only [JJ] at hb)<;>(try exact JX)))
  · refine Dnt Tryz.results118 ?_
    have e : cApp c x = (c, 1) := by simp [cApp, hb]
    rw [e]
    exact ⟨rfl, Sep.PC_open.2 ⟨_, _, _, _, _, hS.sb⟩⟩
  rename validB x = true => hv
  refine Z.cut [10, 11, 12, 13, 14, 15, 16, 17, 18, 19, 20, 21, 22] (fun w s => s = [(22, .bool (!decide (x.seq = (c.h.length : Int) + 1 ∧ epochOf c.h ≤ x.epoch)))] ∧ Sep r [] (.blk gx 149 x.cells :: .blk g 162 [.int .i64 cell, .int .i64 ten, .slice A c.h.length cap, .pointer (some ⟨gs, 0, .none⟩), .pointer (some ⟨gq, 0, .none⟩), .pointer (some ⟨gt, 0, .none⟩), vg] :: .sl 149 8 (.slice A c.h.length cap) (c.h.map Ch.cells) :: PS gs c.s :: PQ gq c.q :: PT gt c.t :: F) w) ?_ ?_
  · refine D.startS (Lr := (.blk gx 149 x.cells :: .blk g 162 [.int .i64 cell, .int .i64 ten, .slice A c.h.length cap, .pointer (some ⟨gs, 0, .none⟩), .pointer (some ⟨gq, 0, .none⟩), .pointer (some ⟨gt, 0, .none⟩), vg] :: .sl 149 8 (.slice A c.h.length cap) (c.h.map Ch.cells) :: PS gs c.s :: PQ gq c.q :: PT gt c.t :: F)) (hS.sb) 13 13 (by kernel_rfl) rfl ?_
    replace hS := hS.drew
    refine Sh.dp 0 1 ?_
    refine Sh.dp 2 5 ?_
    refine Sh.dl 1 7 ?_
    refine D.eff 3 15 rfl D.wantedN (by kernel_rfl) (by kernel_rfl) (fun _ _ h => h) ?_
    replace hS := hS.fo (R := .blk g _ _)
    refine Z.cl (plen_o g _ _ _ _ _ _ A _ cap r _ _ hS) rfl ?_
    clear hS
    rintro e w ⟨rfl, hS⟩
    refine ⟨_, rfl, ?_⟩
    refine ⟨HM.s (hS.sb), ?_⟩
    first | refine D.sum 4 31 rfl D.wantedN (by kernel_rfl) rfl (by constructor <;> omega) ?_ | refine D.sumW 4 31 rfl D.wantedN (by kernel_rfl) rfl ?_
    first | refine D.pr 5 63 rfl D.wantedN (by kernel_rfl) rfl ?_ | refine D.pl 5 63 rfl D.wantedN (by kernel_rfl) (R.nea rfl rfl rfl rfl) ?_
    refine Sh.dp 6 127 ?_
    refine D.slot 16 rfl (fun hb => ?_) (fun hb => ?_)
    · (try simp only [decide_eq_true_eq, decide_eq_false_iff_not, Bool.not_eq_true', Bool.not_eq_false', Int.not_lt, Int.not_le] at hb)
      refine D.skF 7 255 rfl (by kernel_rfl) rfl rfl ?_
      refine D.skF 8 511 rfl (by kernel_rfl) rfl rfl ?_
      refine D.skF 9 1023 rfl (by kernel_rfl) rfl rfl ?_
      refine D.skF 10 2047 rfl (by kernel_rfl) rfl rfl ?_
      refine D.skF 11 4095 rfl (by kernel_rfl) rfl rfl ?_
      refine Sh.dp 12 8191 ?_
      refine D.done (by kernel_rfl) ?_
      refine Sh.cut [(22, _)] ?_
      refine ⟨?_, hS.sb⟩
      by_cases he : x.epoch < epochOf c.h
      · have he' : ¬ epochOf c.h ≤ x.epoch := by omega
        simp [hb, he, he']
      · have he' : epochOf c.h ≤ x.epoch := by omega
        simp [hb, he, he']
    · (try simp only [decide_eq_true_eq, decide_eq_false_iff_not, Bool.not_eq_true', Bool.not_eq_false', Int.not_lt, Int.not_le] at hb)
      refine Sh.dp 7 255 ?_
      refine Sh.dp 9 767 ?_
      refine Sh.dl 8 1023 ?_
      refine D.eff 10 2047 rfl (D.wantedT rfl rfl) (by kernel_rfl) (by kernel_rfl) (fun _ _ h => h) ?_
      refine WE.guard ?_
      replace hS := hS.fo (R := .blk g _ _)
      refine Z.cl (pepoch_o g _ _ _ _ _ _ _ c.h r _ _ hS (Reads.of_at AtF) (by omega)) rfl ?_
      clear hS
      rintro e w ⟨rfl, hS⟩
      refine ⟨_, rfl, ?_⟩
      refine ⟨HM.s (hS.sb), ?_⟩
      refine Sh.dp 11 4095 ?_
      refine Sh.dp 12 8191 ?_
      refine D.done (by kernel_rfl) ?_
      refine Sh.cut [(22, _)] ?_
      refine ⟨?_, hS.sb⟩
      by_cases he : x.epoch < epochOf c.h
      · have he' : ¬ epochOf c.h ≤ x.epoch := by omega
        simp [hb, he, he']
      · have he' : epochOf c.h ≤ x.epoch := by omega
        simp [hb, he, he']
  clear hS
  rintro g0 w _ ⟨rfl, hS⟩
  repeat' (first|refine K ?_|(refine Sh.sa hS ?_;clear hS;intro w hS)|(refine K3 ?_;clear hS;intro g w hS hge)|((first|refine GS ?_ ?_|refine VB ?_ ?_)<;>intro hb<;>(try simp only [JJ] at hb)<;>(try exact JX)))
  · refine Dnt Tryz.results118 ?_
    have e : cApp c x = (c, 36) := by simp only [cApp, *]; simp [hb]
    rw [e]
    exact ⟨rfl, Sep.PC_open.2 ⟨_, _, _, _, _, hS.sb⟩⟩
  rename x.seq = _ ∧ _ => hq
  obtain ⟨e1, e2, e3⟩ := addS_bad (s := c.s) (q := c.q) (t := c.t) c rfl hv hq
  rw [e1]
  replace hS : Sep r [] (PS gs c.s :: PQ gq c.q :: PT gt c.t :: .blk gx 149 x.cells :: .blk g 162 [.int .i64 cell, .int .i64 ten, .slice A c.h.length cap, .pointer (some ⟨gs, 0, .none⟩), .pointer (some ⟨gq, 0, .none⟩), .pointer (some ⟨gt, 0, .none⟩), vg] :: .sl 149 8 (.slice A c.h.length cap) (c.h.map Ch.cells) :: F) w := hS.sb
  refine Z.eff (Z.cl (pfcopy_z gs gq gt c.s c.q c.t _ _ _ hS hok.l hok.r) rfl ?_) rfl
  clear hS
  rintro e w ⟨gs', gq', gt', rfl, hS⟩
  refine ⟨_, rfl, ?_⟩
  repeat' (first|refine K ?_|(refine Sh.sa hS ?_;clear hS;intro w hS)|(refine K3 ?_;clear hS;intro g w hS hge)|((first|refine GS ?_ ?_|refine VB ?_ ?_)<;>intro hb<;>(try simp only [JJ] at hb)<;>(try exact JX)))
  rename Nat => gf
  replace hS := hS.sub (L' := PS gs' c.s :: PQ gq' c.q :: PT gt' c.t :: .blk gf 160 _ :: .blk gx 149 x.cells :: .blk g 162 [.int .i64 cell, .int .i64 ten, .slice A c.h.length cap, .pointer (some ⟨gs, 0, .none⟩), .pointer (some ⟨gq, 0, .none⟩), .pointer (some ⟨gt, 0, .none⟩), vg] :: .sl 149 8 (.slice A c.h.length cap) (c.h.map Ch.cells) :: PS gs c.s :: PQ gq c.q :: PT gt c.t :: F) SuF
  refine Z.eff (Z.cl (padd_z gs' gq' gt' c.s c.q c.t x _ _ _ hS hok.t hok.ss hok.s hok.l hok.r) rfl ?_) rfl
  clear hS
  rintro e w ⟨rfl, hS⟩
  refine ⟨_, rfl, ?_⟩
  repeat' (first|refine K ?_|(refine Sh.sa hS ?_;clear hS;intro w hS)|(refine K3 ?_;clear hS;intro g w hS hge)|((first|refine GS ?_ ?_|refine VB ?_ ?_)<;>intro hb<;>(try simp only [JJ] at hb)<;>(try exact JX)))
  · refine Dnt Tryz.results118 ?_
    rw [e2 hb]
    exact ⟨rfl, Sep.PC_open.2 ⟨_, _, _, _, _, hS.sb⟩⟩
  rename (addS c.s c.q c.t x).e = 0 => hz
  refine D.startS (Lr := [.blk gx 149 x.cells, .blk g 162 [.int .i64 cell, .int .i64 ten, .slice A c.h.length cap, .pointer (some ⟨gs', 0, none⟩), .pointer (some ⟨gq', 0, none⟩), .pointer (some ⟨gt', 0, none⟩), vg]]) (hS.sb) 10 11 (by kernel_rfl) rfl ?_
  replace hS := hS.drew
  refine Sh.dp 0 1 ?_
  refine Sh.dp 1 3 ?_
  refine Sh.dp 2 7 ?_
  refine Sh.dp 3 15 ?_
  refine Sh.dl 4 31 ?_
  refine Sh.dl 5 63 ?_
  refine D.eff 6 127 rfl D.wantedN (by kernel_rfl) (by kernel_rfl) (fun _ _ h => h) ?_
  refine Z.bs hS rfl rfl rfl ?_
  clear hS; intro g w hS hge
  refine ⟨HM.s (hS.sb), ?_⟩
  refine D.eff 7 255 rfl D.wantedN (by kernel_rfl) (by kernel_rfl) (fun _ _ h => h) ?_
  refine Z.apm (l' := [x]) hS rfl rfl rfl AtF (hS.lit1 AtF rfl rfl) (by (try simp only [maxLen, List.length_take, List.length_drop, List.length_append, List.length_cons, List.length_nil, List.length_map]); omega) (by (try simp only [maxLen, List.length_take, List.length_drop, List.length_append, List.length_cons, List.length_nil, List.length_map]); omega) ?_
  clear hS; intro A1 c1 w hS
  refine ⟨HM.s (hS.sb), ?_⟩
  refine Sh.dp 8 511 ?_
  refine Sh.dp 9 1023 ?_
  refine D.eff 10 2047 rfl D.wantedN (by kernel_rfl) (by kernel_rfl) (fun _ _ h => h) ?_
  refine Z.st hS rfl AtF rfl rfl ?_
  clear hS; intro w hS
  refine ⟨HM.last (by kernel_rfl), ?_⟩
  refine D.done (by kernel_rfl) ?_
  repeat' (first|refine K ?_|(refine Sh.sa hS ?_;clear hS;intro w hS)|(refine K3 ?_;clear hS;intro g w hS hge)|((first|refine GS ?_ ?_|refine VB ?_ ?_)<;>intro hb<;>(try simp only [JJ] at hb)<;>(try exact JX)))
  refine Dnt Tryz.results118 ?_
  rw [e3 hz, hz]
  refine ⟨rfl, Sep.PC_open.2 ⟨A1, c1, gs', gq', gt', ?_⟩⟩
  simp only [List.length_append, List.length_singleton]
  exact hS.sb
structure Shp where
  ep : Int
  seq : Int
  before : Int
  ch : List Ch
structure He where
  ep : Int
  applied : Int
  ok : Bool
structure Fo where
  c : Cp
  seen : Int
  agreed : Int
def chsOk : List Ch → Int → Int → Int → Bool
  | [], _, _, _ => true
  | x :: l, s, b, e => if validB x = true ∧ x.seq = s ∧ b ≤ x.epoch ∧ x.epoch ≤ e then chsOk l (s + 1) x.epoch e else false
theorem chsOk_drop {l : List Ch} {s b e : Int} {k : Nat} (hk : k < l.length) : chsOk (l.drop k) s b e = if validB l[k] = true ∧ l[k].seq = s ∧ b ≤ l[k].epoch ∧ l[k].epoch ≤ e then chsOk (l.drop (k + 1)) (s + 1) l[k].epoch e else false := by
  rw [List.drop_eq_getElem_cons hk]
  rfl
def headOk (m : Shp) : Prop := 1 ≤ m.ep ∧ m.ep ≤ 1048576 ∧ 0 ≤ m.seq ∧ m.seq ≤ 4096 ∧ 0 ≤ m.before ∧ m.before ≤ m.ep ∧ (m.seq = 0 ↔ m.before = 0) ∧ m.ch.length ≤ 8
instance (m : Shp) : Decidable (headOk m) := by unfold headOk; infer_instance
def shipB (m : Shp) : Bool := decide (headOk m) && chsOk m.ch (m.seq + 1) m.before m.ep
def cutC (c : Cp) (n : Nat) : Cp := cpOf (c.h.take n)
def epAt (h : List Ch) (i : Nat) : Int := match h[i]? with | some x => x.epoch | none => 0
theorem epAt_eq {h : List Ch} {i : Nat} (hi : i < h.length) : epAt h i = h[i].epoch := by
  unfold epAt
  rw [List.getElem?_eq_getElem hi]
def takeC : Cp → List Ch → Int → Cp × Int
  | c, [], a => (c, a)
  | c, x :: l, a =>
    if (c.h.length : Int) < x.seq ∨ epAt c.h (x.seq - 1).toNat ≠ x.epoch then
      if (cApp (cutC c (x.seq - 1).toNat) x).2 = 0 then takeC (cApp (cutC c (x.seq - 1).toNat) x).1 l x.seq
      else (cutC c (x.seq - 1).toNat, a)
    else takeC c l x.seq
def eidx : List Ch → Int → Nat
  | [], _ => 0
  | x :: l, e => if x.epoch = e then 0 else eidx l e + 1
def agreeC (f : Fo) (m : Shp) : Cp := if f.agreed < m.ep then cutC f.c m.seq.toNat else f.c
def takeF (f : Fo) (m : Shp) : Fo × He × Int :=
  if shipB m then
    if m.ep < f.seen then (f, ⟨0, 0, false⟩, 20)
    else if (f.c.h.length : Int) < m.seq then (⟨f.c, m.ep, f.agreed⟩, ⟨m.ep, f.c.h.length, false⟩, 0)
    else if matchB f.c.h m.seq m.before then
      (⟨(takeC (agreeC f m) m.ch m.seq).1, m.ep, max f.agreed m.ep⟩, ⟨m.ep, (takeC (agreeC f m) m.ch m.seq).2, true⟩, 0)
    else (⟨f.c, m.ep, f.agreed⟩, ⟨m.ep, eidx f.c.h (epAt f.c.h (m.seq - 1).toNat), false⟩, 0)
  else (f, ⟨0, 0, false⟩, 1)
theorem Good.isH {c : Cp} (h : Good c) : IsH c.h := ⟨c, h, rfl⟩
theorem cutC_good {c : Cp} (h : Good c) (n : Nat) : Good (cutC c n) ∧ (cutC c n).h = c.h.take n :=
  ⟨(h.isH.take n).good.1, (h.isH.take n).good.2.1⟩
theorem cutC_all {c : Cp} (h : Good c) {n : Nat} (hn : c.h.length ≤ n) : cutC c n = c := by
  unfold cutC
  rw [List.take_of_length_le hn, h.cpOf]
theorem agreeC_good {f : Fo} (h : Good f.c) (m : Shp) : Good (agreeC f m) ∧ (agreeC f m).h.length ≤ f.c.h.length := by
  unfold agreeC
  split
  · have h1 := cutC_good h m.seq.toNat
    exact ⟨h1.1, by rw [h1.2, List.length_take]; omega⟩
  · exact ⟨h, Nat.le_refl _⟩
theorem IsH.next {h : List Ch} (hh : IsH h) {j : Nat} (hj : j < h.length) : cApp (cpOf (h.take j)) h[j] = (cpOf (h.take (j + 1)), 0) := by
  have h1 := (hh.take j).good
  have h2 := (hh.take (j + 1)).good
  have e : h.take (j + 1) = h.take j ++ [h[j]] := by rw [List.take_succ_eq_append_getElem hj]
  have h3 := h2.2.2
  rw [e, foldC_snoc (by rw [h1.2.2]), h1.2.2] at h3
  simp only [foldC] at h3
  split at h3
  · rename_i h0
    have h4 : (cApp (cpOf (h.take j)) h[j]).1 = cpOf (h.take j ++ [h[j]]) := by injection h3
    rw [e, ← h4, ← h0]
  · rename_i h0
    have h4 : (cApp (cpOf (h.take j)) h[j]).2 = 0 := by injection h3
    exact absurd h4 h0
theorem IsH.len {h : List Ch} (hh : IsH h) : h.length ≤ 4096 := by
  by_cases h0 : h.length = 0
  · omega
  · have h1 := hh.seq (i := h.length - 1) (by omega)
    obtain ⟨c, hc, rfl⟩ := hh
    have h2 := hc.valid (c.h[c.h.length - 1]'(by omega)) (by simp)
    simp only [validB, inB, Bool.and_eq_true, decide_eq_true_eq] at h2
    omega
theorem takeC_home {H : List Ch} (hH : IsH H) : ∀ (k n j : Nat), n ≤ j → j ≤ H.length → n + k ≤ H.length → takeC (cpOf (H.take j)) ((H.drop n).take k) n = (cpOf (H.take (max j (n + k))), (n : Int) + k)
  | 0, n, j, h1, h2, h3 => by simp [takeC, Nat.max_eq_left h1]
  | k + 1, n, j, h1, h2, h3 => by
    have hn : n < H.length := by omega
    have hs : H[n].seq - 1 = n := by rw [hH.seq hn]; omega
    have hs' : H[n].seq = ((n + 1 : Nat) : Int) := by rw [hH.seq hn]; omega
    have hg := (hH.take j).good
    have hl : (cpOf (H.take j)).h.length = j := by rw [hg.2.1, List.length_take]; omega
    rw [List.drop_eq_getElem_cons hn, List.take_succ_cons]
    unfold takeC
    rw [hs, Int.toNat_natCast]
    by_cases hj : n < j
    · have e1 : epAt (cpOf (H.take j)).h n = H[n].epoch := by rw [hg.2.1, epAt_eq (by rw [List.length_take]; omega)]; simp
      rw [if_neg (by rw [hl, e1, hs']; omega), hs', takeC_home hH k (n + 1) j (by omega) h2 (by omega)]
      rw [show n + 1 + k = n + (k + 1) by omega]
      congr 1
      push_cast
      omega
    · have hjn : j = n := by omega
      subst hjn
      have e2 : cutC (cpOf (H.take j)) j = cpOf (H.take j) := cutC_all hg.1 (by omega)
      rw [if_pos (.inl (by rw [hl, hs']; omega)), e2, hH.next hn, if_pos rfl, hs', takeC_home hH k (j + 1) (j + 1) (Nat.le_refl _) (by omega) (by omega)]
      rw [Nat.max_eq_right (by omega), Nat.max_eq_right (by omega), show j + 1 + k = j + (k + 1) by omega]
      congr 1
      push_cast
      omega
structure OfH (H : List Ch) (ep : Int) (m : Shp) (n k : Nat) : Prop where
  le : n + k ≤ H.length
  k8 : k ≤ 8
  eq : m = ⟨ep, n, if n = 0 then 0 else epAt H (n - 1), (H.drop n).take k⟩
theorem IsH.ascends {h : List Ch} (hh : IsH h) {i j : Nat} (hij : i ≤ j) (hj : j < h.length) : (h[i]'(by omega)).epoch ≤ h[j].epoch := by
  induction j with
  | zero => have : i = 0 := by omega
            subst this; exact Int.le_refl _
  | succ j ih =>
    by_cases he : i = j + 1
    · subst he; exact Int.le_refl _
    · have h1 := ih (by omega) (by omega)
      have h2 := hh.lawful (j + 1)
      rw [badAt_eq hj] at h2
      simp only [Bool.or_eq_false_iff, Bool.and_eq_false_iff, decide_eq_false_iff_not, Nat.succ_pos, not_true, false_or] at h2
      have e : (((j + 1 : Nat) : Int) - 1).toNat = j := by omega
      have h3 := h2.2.2
      simp only [e] at h3
      omega
theorem IsH.valid {h : List Ch} (hh : IsH h) {x : Ch} (hx : x ∈ h) : validB x = true := by
  obtain ⟨c, hc, rfl⟩ := hh
  exact hc.valid x hx
theorem chsOk_home {H : List Ch} (hH : IsH H) {ep : Int} (he : ∀ x, x ∈ H → x.epoch ≤ ep) : ∀ (k n : Nat) (b : Int), n + k ≤ H.length → (∀ hn : n < H.length, b ≤ H[n].epoch) → chsOk ((H.drop n).take k) ((n : Int) + 1) b ep = true
  | 0, n, b, _, _ => by simp [chsOk]
  | k + 1, n, b, h1, h2 => by
    have hn : n < H.length := by omega
    rw [List.drop_eq_getElem_cons hn, List.take_succ_cons]
    unfold chsOk
    rw [if_pos ⟨hH.valid (by simp), hH.seq hn, h2 hn, he _ (by simp)⟩]
    have := chsOk_home hH he k (n + 1) H[n].epoch (by omega) (fun hn' => hH.ascends (by omega) hn')
    rw [← this]
    congr 1
theorem OfH.valid {H : List Ch} {ep : Int} {m : Shp} {n k : Nat} (hH : IsH H) (h : OfH H ep m n k) (h1 : 1 ≤ ep) (h2 : ep ≤ 1048576) (he : ∀ x, x ∈ H → x.epoch ≤ ep) : shipB m = true := by
  have hl := hH.len
  have hle := h.le
  have h8 := h.k8
  have hb : ∀ n0 : n ≠ 0, epAt H (n - 1) = (H[n - 1]'(by omega)).epoch := fun n0 => epAt_eq (by omega)
  have hb1 : ∀ n0 : n ≠ 0, 1 ≤ epAt H (n - 1) ∧ epAt H (n - 1) ≤ ep := fun n0 => by
    rw [hb n0]
    exact ⟨(hH.epochs _ (by simp)).1, he _ (by simp)⟩
  have e := h.eq
  subst e
  unfold shipB
  rw [Bool.and_eq_true, decide_eq_true_eq]
  refine ⟨⟨h1, h2, by simp only; omega, by simp only; omega, ?_, ?_, ?_, ?_⟩, ?_⟩
  · simp only; split
    · exact Int.le_refl _
    · rename_i n0; have := hb1 n0; omega
  · simp only; split
    · omega
    · rename_i n0; exact (hb1 n0).2
  · simp only; split
    · rename_i n0; simp [n0]
    · rename_i n0; have := hb1 n0; constructor <;> intro hx <;> omega
  · simp only [List.length_take, List.length_drop]; omega
  · simp only
    refine chsOk_home hH he k n _ hle fun hn => ?_
    split
    · have := (hH.epochs H[n] (by simp)).1; omega
    · rename_i n0; rw [hb n0]; exact hH.ascends (by omega) hn
theorem addS_next {h : List Ch} (hh : IsH h) {k : Nat} (hk : k < h.length) : addS (cpOf (h.take k)).s (cpOf (h.take k)).q (cpOf (h.take k)).t h[k] = ⟨(cpOf (h.take (k + 1))).s, (cpOf (h.take (k + 1))).q, (cpOf (h.take (k + 1))).t, 0⟩ := by
  have h1 := hh.next hk
  generalize cpOf (h.take k) = c at *
  generalize cpOf (h.take (k + 1)) = c' at *
  generalize h[k] = x at *
  obtain ⟨hv, hs, he, _⟩ := cApp_ok (by rw [h1] : (cApp c x).2 = 0)
  obtain ⟨e1, _, e3⟩ := addS_bad (s := c.s) (q := c.q) (t := c.t) c rfl hv ⟨hs, he⟩
  rw [h1] at e1 e3
  simp only at e1 e3
  have e4 := e3 e1.symm
  generalize addS c.s c.q c.t x = R at *
  obtain ⟨a1, a2, a3, a4⟩ := R
  simp only at e1 e4
  rw [e4, ← e1]
set_option maxHeartbeats 4000000 in
theorem pctrunc_z (g : Nat) (cell ten : Int) (vg : Value) (c : Cp) (n : Int) (r : World) (F : List Res) (w : World) (hS : Sep r [] (PC g cell ten vg c :: F) w) (hg : IsH c.h) :
    Calls Tryz.prog 117 #[.pointer (some ⟨g, 0, .none⟩), .int .i64 n] w fun e w' => (¬ (0 ≤ n ∧ n ≤ c.h.length) ∧ e = .returned (.int .i64 1) ∧ Sep r [] (PC g cell ten vg c :: F) w') ∨
      ((0 ≤ n ∧ n ≤ c.h.length) ∧ e = .returned (.int .i64 0) ∧ Sep r [] (PC g cell ten vg (cutC c n.toNat) :: F) w') := by
  obtain ⟨A, cap, gs, gq, gt, hS⟩ := Sep.PC_open.1 hS
  have hlen := hg.len
  refine Z.enter Tryz.func117 Tryz.ntmps117 rfl rfl ?_
  repeat' (first|refine K ?_|(refine Sh.sa hS ?_;clear hS;intro w hS)|(refine K3 ?_;clear hS;intro g w hS hge)|((first|refine GS ?_ ?_|refine VB ?_ ?_)<;>intro hb<;>(try simp only [JJ] at hb)<;>(try exact JX)))
  · refine Dnt Tryz.results117 ?_
    exact .inl ⟨by omega, rfl, Sep.PC_open.2 ⟨_, _, _, _, _, hS⟩⟩
  refine Z.eff (Z.cl (plen_o g _ _ _ _ _ _ A _ cap r _ _ hS) rfl ?_) rfl
  clear hS
  rintro e w ⟨rfl, hS⟩
  refine ⟨_, rfl, ?_⟩
  repeat' (first|refine K ?_|(refine Sh.sa hS ?_;clear hS;intro w hS)|(refine K3 ?_;clear hS;intro g w hS hge)|((first|refine GS ?_ ?_|refine VB ?_ ?_)<;>intro hb<;>(try simp only [JJ] at hb)<;>(try exact JX)))
  · refine Dnt Tryz.results117 ?_
    exact .inl ⟨by omega, rfl, Sep.PC_open.2 ⟨_, _, _, _, _, hS⟩⟩
  obtain ⟨k, rfl⟩ := Int.eq_ofNat_of_zero_le (show 0 ≤ n by omega)
  have hk : k ≤ c.h.length := by omega
  refine D.startS (Lr := [.blk g 162 [.int .i64 cell, .int .i64 ten, .slice A c.h.length cap, .pointer (some ⟨gs, 0, .none⟩), .pointer (some ⟨gq, 0, .none⟩), .pointer (some ⟨gt, 0, .none⟩), vg]]) (hS.sb) 14 15 (by kernel_rfl) rfl ?_
  replace hS := hS.drew
  refine Sh.dp 0 1 ?_
  refine Sh.dp 1 3 ?_
  refine Sh.dp 2 7 ?_
  refine Sh.dp 3 15 ?_
  refine Sh.dp 5 47 ?_
  refine Sh.dp 6 111 ?_
  refine Sh.dp 7 239 ?_
  refine Sh.dp 8 495 ?_
  refine Sh.dl 4 511 ?_
  refine Sh.dl 9 1023 ?_
  refine Sh.dp 10 2047 ?_
  refine D.eff 11 4095 rfl D.wantedN (by kernel_rfl) (by kernel_rfl) (fun _ _ h => h) ?_
  replace hS := hS.fo (R := .sl 149 8 _ _)
  refine Z.cl (ch_cut c.h k A cap _ _ _ hS hk (by omega)) rfl ?_
  clear hS
  rintro e w ⟨A1, c1, rfl, hS⟩
  refine ⟨_, rfl, ?_⟩
  refine ⟨HM.s (hS.sb), ?_⟩
  refine Sh.dp 12 8191 ?_
  refine Sh.dp 13 16383 ?_
  refine D.eff 14 32767 rfl D.wantedN (by kernel_rfl) (by kernel_rfl) (fun _ _ h => h) ?_
  refine Z.st hS rfl AtF rfl rfl ?_
  clear hS; intro w hS
  refine ⟨HM.last (by kernel_rfl), ?_⟩
  refine D.done (by kernel_rfl) ?_
  repeat' (first|refine K ?_|(refine Sh.sa hS ?_;clear hS;intro w hS)|(refine K3 ?_;clear hS;intro g w hS hge)|((first|refine GS ?_ ?_|refine VB ?_ ?_)<;>intro hb<;>(try simp only [JJ] at hb)<;>(try exact JX)))
  refine Z.eff (Z.cl (pnone_z _ _ _ hS) rfl ?_) rfl
  clear hS
  rintro e w ⟨gs1, gq1, gt1, rfl, hS⟩
  refine ⟨_, rfl, ?_⟩
  repeat' (first|refine K ?_|(refine Sh.sa hS ?_;clear hS;intro w hS)|(refine K3 ?_;clear hS;intro g w hS hge)|((first|refine GS ?_ ?_|refine VB ?_ ?_)<;>intro hb<;>(try simp only [JJ] at hb)<;>(try exact JX)))
  have hH := hg.take k
  have hHl : (c.h.take k).length = k := by rw [List.length_take]; omega
  refine Z.lpS [6, 38, 39, 40, 41, 42, 43, 44, 45, 46, 47, 48] (fun m w s => ∃ j : Nat, s = [(38, .int .i64 j)] ∧ j ≤ (c.h.take k).length ∧ m = (c.h.take k).length - j ∧ Sep r [] (.blk g 162 [.int .i64 cell, .int .i64 ten, .slice A1 (c.h.take k).length c1, .pointer (some ⟨gs1, 0, .none⟩), .pointer (some ⟨gq1, 0, .none⟩), .pointer (some ⟨gt1, 0, .none⟩), vg] :: .sl 149 8 (.slice A1 (c.h.take k).length c1) ((c.h.take k).map Ch.cells) :: PS gs1 (cpOf ((c.h.take k).take j)).s :: PQ gq1 (cpOf ((c.h.take k).take j)).q :: PT gt1 (cpOf ((c.h.take k).take j)).t :: F) w) _ [(38, .int .i64 (0 : Nat))] (by repeat (first | exact trivial | refine ⟨rfl, ?_⟩)) ⟨0, rfl, by omega, rfl, hS.sb⟩ ?_
  clear hS
  rintro m f0 w _ ⟨j, rfl, hj, rfl, hS⟩
  by_cases hlt : j < (c.h.take k).length
  · obtain ⟨gb, o, rfl, _, hra⟩ := (hS.slrows (e := 149) (v := .slice A1 (c.h.take k).length c1) AtF).mat (by omega) hlt
    have hgj := (hH.take j).good.1.cok
    repeat' (first|refine K ?_|(refine Sh.sa hS ?_;clear hS;intro w hS)|(refine K3 ?_;clear hS;intro g w hS hge)|((first|refine GS ?_ ?_|refine VB ?_ ?_)<;>intro hb<;>(try simp only [JJ] at hb)<;>(try exact JX)))
    rename Nat => gx
    refine D.startS (Lr := [.blk gx 149 (c.h.take k)[j].cells, .blk g 162 [.int .i64 cell, .int .i64 ten, .slice (some ⟨gb, o, .none⟩) (c.h.take k).length c1, .pointer (some ⟨gs1, 0, .none⟩), .pointer (some ⟨gq1, 0, .none⟩), .pointer (some ⟨gt1, 0, .none⟩), vg]]) (hS.sb) 6 6 (by kernel_rfl) rfl ?_
    replace hS := hS.drew
    refine Sh.dp 0 1 ?_
    refine Sh.dp 1 3 ?_
    refine Sh.dp 2 7 ?_
    refine Sh.dl 3 15 ?_
    refine Sh.dl 4 31 ?_
    refine D.eff 5 63 rfl D.wantedN (by kernel_rfl) (by kernel_rfl) (fun _ _ h => h) ?_
    replace hS := hS.sub (L' := PS gs1 _ :: PQ gq1 _ :: PT gt1 _ :: .blk gx _ _ :: .blk g _ _ :: .sl 149 8 _ _ :: F) SuF
    refine Z.cl (padd_z gs1 gq1 gt1 _ _ _ (c.h.take k)[j] _ _ _ hS hgj.t hgj.ss hgj.s hgj.l hgj.r) rfl ?_
    clear hS
    rintro e w ⟨rfl, hS⟩
    refine ⟨_, rfl, ?_⟩
    rw [addS_next hH hlt] at hS
    refine ⟨HM.s (hS.sb), ?_⟩
    refine D.done (by kernel_rfl) ?_
    repeat' (first|refine K ?_|(refine Sh.sa hS ?_;clear hS;intro w hS)|(refine K3 ?_;clear hS;intro g w hS hge)|((first|refine GS ?_ ?_|refine VB ?_ ?_)<;>intro hb<;>(try simp only [JJ] at hb)<;>(try exact JX)))
    refine Sh.again ((c.h.take k).length - (j + 1)) [(38, .int .i64 (j + 1 : Nat))] ?_
    exact ⟨j + 1, rfl, by omega, rfl, hS.sb⟩
  · repeat' (first|refine K ?_|(refine Sh.sa hS ?_;clear hS;intro w hS)|(refine K3 ?_;clear hS;intro g w hS hge)|((first|refine GS ?_ ?_|refine VB ?_ ?_)<;>intro hb<;>(try simp only [JJ] at hb)<;>(try exact JX)))
    refine Dnt Tryz.results117 ?_
    rw [List.take_of_length_le (l := c.h.take k) (by omega)] at hS
    have h1 := (hg.take k).good
    unfold cutC
    refine .inr ⟨⟨by omega, by omega⟩, rfl, Sep.PC_open.2 ⟨A1, c1, gs1, gq1, gt1, ?_⟩⟩
    rw [Int.toNat_natCast, h1.2.1]
    exact hS
end Go.Proofs.YtfmnjbhncnldmaaGreat
