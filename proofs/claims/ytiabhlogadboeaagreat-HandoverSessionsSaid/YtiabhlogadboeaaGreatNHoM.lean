/-
  Manifests of copies: Make, Check, Missing, Same, of the program and of the reference.
-/
import Derived.Test.YtiabhlogadboeaaGreatNHoS
import Derived.Test.YtiabhlogadboeaaGreatNHpP
import Derived.Test.YtiabhlogadboeaaGreatCG
import Derived.Test.YtiabhlogadboeaaGreatNRdP
namespace Go.Proofs.YtiabhlogadboeaaGreat
open Go.RowKit
set_option linter.unusedSimpArgs false
set_option linter.unusedVariables false
attribute [local irreducible] Res.blk Res.sl Res.all Res.ex Res.pure Res.star

theorem Good.keyOk {c : Cp} (h : Good c) : KOk c.s := by
  induction h with
  | zero => exact KOk.nil
  | @app c x hc hx ih =>
    obtain ⟨_, _, _, _, _, _, e⟩ := cApp_ok hx
    rw [e]
    exact ih.app x
theorem qApp_mem {q : Qu} {x : Ch} {y : It} (h : y ∈ (qApp q x).1.l) : y ∈ q.l ∨ y.number = x.seq := by
  unfold qApp at h
  repeat' split at h
  all_goals first
    | exact .inl h
    | (rcases List.mem_append.1 h with h | h
       · exact .inl h
       · right; rw [List.mem_singleton] at h; rw [h])
    | (rcases List.mem_append.1 h with h | h
       · exact .inl (List.mem_of_mem_take h)
       · exact .inl (List.mem_of_mem_drop h))
theorem Good.numOk {c : Cp} (h : Good c) : ∀ y, y ∈ c.q.l → 1 ≤ y.number ∧ y.number ≤ 4096 := by
  induction h with
  | zero => intro y hy; cases hy
  | @app c x hc hx ih =>
    obtain ⟨hv, _, _, _, _, _, e⟩ := cApp_ok hx
    rw [e]
    intro y hy
    rcases qApp_mem hy with hy | hy
    · exact ih y hy
    · have := valid_bounds hv
      omega
theorem mf_ok {ten : Int} {c : Cp} (hc : CG c) (ht : i64ok ten) (hl : c.h.length ≤ 5000) : (mf0 ten c).ok := by
  have ho := hc.ok
  have he := hc.good.epoch
  have hk : KOk c.s := hc.good.keyOk
  have hn : ∀ y, y ∈ c.q.l → 1 ≤ y.number ∧ y.number ≤ 4096 := hc.good.numOk
  have he' : 0 ≤ epochOf c.h ∧ epochOf c.h ≤ 1048576 := he
  refine ⟨ht, ?_, ?_, ?_, ?_, ?_, ?_, ?_, ?_⟩
  · show i64ok (c.h.length : Int)
    unfold i64ok; omega
  · show i64ok (epochOf c.h)
    unfold i64ok; omega
  · show (c.s.map Ce.key).length ≤ 1000
    rw [List.length_map]; omega
  · intro x hx
    obtain ⟨y, hy, rfl⟩ := List.mem_map.1 hx
    have := hk y hy
    omega
  · show (c.q.l.map It.number).length ≤ 1000
    rw [List.length_map]; omega
  · intro x hx
    obtain ⟨y, hy, rfl⟩ := List.mem_map.1 hx
    have := hn y hy
    unfold i64ok; omega
  · show ((List.range 8).map c.t.n).length ≤ 1000
    simp
  · intro x hx
    obtain ⟨y, hy, rfl⟩ := List.mem_map.1 hx
    have := ho.1 y
    unfold i64ok; omega
theorem mfOf_ok {ten key : Int} {c : Cp} (hc : CG c) (ht : i64ok ten) (hl : c.h.length ≤ 5000) : (mfOf ten key c).ok := by
  have h := mf_ok hc ht hl
  exact ⟨h.t, h.l, h.e, h.kn, h.k, h.jn, h.j, h.sn, h.s⟩
/-! Equality of lists. -/
def mkCe (k : ByteArray) : Ce := ⟨k, ⟨#[]⟩, 0⟩
theorem mkCe_cells (l : List ByteArray) : (l.map mkCe).map Ce.kc = l.map kC := by rw [List.map_map]; rfl
theorem mkCe_key (l : List ByteArray) : (l.map mkCe).map Ce.key = l := by
  rw [List.map_map]
  exact List.map_id' l
theorem kc_key (l : List Ce) : l.map Ce.kc = (l.map Ce.key).map kC := by rw [List.map_map]; rfl
theorem rtexts_z (l l' : List ByteArray) (v v' : Value) (r : World) (F : List Res) (w : World) (hS : Sep r [] F w) (hrd : Reads r F 1 v (l.map kC)) (hrd' : Reads r F 1 v' (l'.map kC)) (hl : l.length ≤ 100000) (hl' : l'.length ≤ 100000) :
    Calls Tryz.prog 49 #[v, v'] w fun e w' => e = .returned (.bool (decide (l = l'))) ∧ Sep r [] F w' := by
  rw [← mkCe_cells] at hrd hrd'
  have h := sameTexts_z (l.map mkCe) (l'.map mkCe) v v' r F w hS hrd hrd' (by rw [List.length_map]; exact hl) (by rw [List.length_map]; exact hl')
  rw [mkCe_key, mkCe_key] at h
  exact h
set_option maxHeartbeats 1000000 in
theorem eqTexts_z (l l' : List ByteArray) (v v' : Value) (r : World) (F : List Res) (w : World) (hS : Sep r [] F w) (hrd : Reads r F 1 v (l.map kC)) (hrd' : Reads r F 1 v' (l'.map kC)) (hl : l.length ≤ 100000) (hl' : l'.length ≤ 100000) :
    Calls Tryz.prog 100 #[v, v'] w fun e w' => e = .returned (.bool (decide (l = l'))) ∧ Sep r [] F w' := by
  obtain ⟨A, c, rfl, hc⟩ := (hrd [] w hS).mform
  obtain ⟨A', c', rfl, hc'⟩ := (hrd' [] w hS).mform
  refine Z.enter Tryz.func100 Tryz.ntmps100 rfl rfl ?_
  repeat' (first|refine K ?_|(refine Sh.sa hS ?_;clear hS;intro w hS)|(refine K3 ?_;clear hS;intro g w hS hge)|((first|refine GS ?_ ?_|refine VB ?_ ?_)<;>intro hb<;>(try simp only [J1,J2,J3,J4,J5,J6] at hb)<;>(try (exfalso;first|omega|exact hb trivial))))
  · refine Dnt Tryz.results100 ?_
    have : l ≠ l' := by rintro rfl; exact hb rfl
    exact ⟨by simp [this, Z.packR], hS⟩
  have hlen : l.length = l'.length := by omega
  refine Z.lpS [4, 5, 13, 14, 15, 16, 17, 18, 19, 20, 21, 22, 23, 24, 25] (fun m w s => ∃ q : Nat, s = [(13, .int .i64 q)] ∧ q ≤ l.length ∧ l.take q = l'.take q ∧ m = l.length - q ∧ Sep r [] F w) _ [(13, .int .i64 (0 : Nat))] (by repeat (first | exact trivial | refine ⟨rfl, ?_⟩)) ⟨0, rfl, by omega, by simp, rfl, hS⟩ ?_
  clear hS
  rintro m f0 w _ ⟨q, rfl, hq, heq, rfl, hS⟩
  by_cases hlt : q < l.length
  · have hlt' : q < l'.length := by omega
    obtain ⟨gb, o, rfl, _, _⟩ := (hrd [] w hS).mat (by omega) hlt
    obtain ⟨gb', o', rfl, _, _⟩ := (hrd' [] w hS).mat (by omega) hlt'
    have hra : ∀ W, Sep r [] F W → W.rangeAt gb (o + q * 1) (kC l[q]) := fun W h => (hrd [] W h).elem (by omega) hlt
    have hra' : ∀ W, Sep r [] F W → W.rangeAt gb' (o' + q * 1) (kC l'[q]) := fun W h => (hrd' [] W h).elem (by omega) hlt'
    repeat' (first|refine K ?_|(refine Sh.sa hS ?_;clear hS;intro w hS)|(refine K3 ?_;clear hS;intro g w hS hge)|((first|refine GS ?_ ?_|refine VB ?_ ?_)<;>intro hb<;>(try simp only [J1,J2,J3,J4,J5,J6] at hb)<;>(try (exfalso;first|omega|exact hb trivial))))
    refine D.startS hS 9 9 (by kernel_rfl) rfl ?_
    replace hS := hS.drew
    refine Sh.dp 0 1 ?_
    refine Sh.dp 1 3 ?_
    first | refine D.ixn 2 7 rfl D.wantedN (by kernel_rfl) rfl rfl rfl (by omega) ?_ | refine D.ix 2 7 rfl D.wantedN (by kernel_rfl) rfl rfl rfl (by omega) ?_ | refine D.ia 2 7 rfl D.wantedN (by kernel_rfl) rfl rfl rfl (by omega) ?_
    refine Sh.dp 4 23 ?_
    refine Sh.dp 5 55 ?_
    first | refine D.ixn 6 119 rfl D.wantedN (by kernel_rfl) rfl rfl rfl (by omega) ?_ | refine D.ix 6 119 rfl D.wantedN (by kernel_rfl) rfl rfl rfl (by omega) ?_ | refine D.ia 6 119 rfl D.wantedN (by kernel_rfl) rfl rfl rfl (by omega) ?_
    refine D.ldR 3 127 rfl D.wantedN (by kernel_rfl) rfl hra rfl ?_
    refine D.ldR 7 255 rfl D.wantedN (by kernel_rfl) rfl hra' rfl ?_
    first | refine D.pr 8 511 rfl D.wantedN (by kernel_rfl) rfl ?_ | refine D.pl 8 511 rfl D.wantedN (by kernel_rfl) (R.nea rfl rfl rfl rfl) ?_
    refine D.done (by kernel_rfl) ?_
    repeat' (first|refine K ?_|(refine Sh.sa hS ?_;clear hS;intro w hS)|(refine K3 ?_;clear hS;intro g w hS hge)|((first|refine GS ?_ ?_|refine VB ?_ ?_)<;>intro hb<;>(try simp only [J1,J2,J3,J4,J5,J6] at hb)<;>(try (exfalso;first|omega|exact hb trivial))))
    · refine Dnt Tryz.results100 ?_
      have : l ≠ l' := by rintro rfl; exact hb rfl
      exact ⟨by simp [this, Z.packR], hS⟩
    · refine Sh.again (l.length - (q + 1)) [(13, .int .i64 (q + 1 : Nat))] ?_
      have hb' : l[q] = l'[q] := by first | exact hb | simpa using hb
      exact ⟨q + 1, rfl, by omega, by rw [List.take_succ_eq_append_getElem hlt, List.take_succ_eq_append_getElem hlt', heq, hb'], rfl, hS⟩
  · repeat' (first|refine K ?_|(refine Sh.sa hS ?_;clear hS;intro w hS)|(refine K3 ?_;clear hS;intro g w hS hge)|((first|refine GS ?_ ?_|refine VB ?_ ?_)<;>intro hb<;>(try simp only [J1,J2,J3,J4,J5,J6] at hb)<;>(try (exfalso;first|omega|exact hb trivial))))
    refine Dnt Tryz.results100 ?_
    have : l = l' := by rw [← List.take_of_length_le (l := l) (i := q) (by omega), ← List.take_of_length_le (l := l') (i := q) (by omega), heq]
    exact ⟨by simp [this, Z.packR], hS⟩
set_option maxHeartbeats 1000000 in
theorem eqInts_z (l l' : List Int) (v v' : Value) (r : World) (F : List Res) (w : World) (hS : Sep r [] F w) (hrd : Reads r F 1 v (l.map intC)) (hrd' : Reads r F 1 v' (l'.map intC)) (hl : l.length ≤ 100000) (hl' : l'.length ≤ 100000) :
    Calls Tryz.prog 101 #[v, v'] w fun e w' => e = .returned (.bool (decide (l = l'))) ∧ Sep r [] F w' := by
  obtain ⟨A, c, rfl, hc⟩ := (hrd [] w hS).mform
  obtain ⟨A', c', rfl, hc'⟩ := (hrd' [] w hS).mform
  refine Z.enter Tryz.func101 Tryz.ntmps101 rfl rfl ?_
  repeat' (first|refine K ?_|(refine Sh.sa hS ?_;clear hS;intro w hS)|(refine K3 ?_;clear hS;intro g w hS hge)|((first|refine GS ?_ ?_|refine VB ?_ ?_)<;>intro hb<;>(try simp only [J1,J2,J3,J4,J5,J6] at hb)<;>(try (exfalso;first|omega|exact hb trivial))))
  · refine Dnt Tryz.results101 ?_
    have : l ≠ l' := by rintro rfl; exact hb rfl
    exact ⟨by simp [this, Z.packR], hS⟩
  have hlen : l.length = l'.length := by omega
  refine Z.lpS [4, 5, 13, 14, 15, 16, 17, 18, 19, 20, 21, 22, 23, 24, 25] (fun m w s => ∃ q : Nat, s = [(13, .int .i64 q)] ∧ q ≤ l.length ∧ l.take q = l'.take q ∧ m = l.length - q ∧ Sep r [] F w) _ [(13, .int .i64 (0 : Nat))] (by repeat (first | exact trivial | refine ⟨rfl, ?_⟩)) ⟨0, rfl, by omega, by simp, rfl, hS⟩ ?_
  clear hS
  rintro m f0 w _ ⟨q, rfl, hq, heq, rfl, hS⟩
  by_cases hlt : q < l.length
  · have hlt' : q < l'.length := by omega
    obtain ⟨gb, o, rfl, _, _⟩ := (hrd [] w hS).mat (by omega) hlt
    obtain ⟨gb', o', rfl, _, _⟩ := (hrd' [] w hS).mat (by omega) hlt'
    have hra : ∀ W, Sep r [] F W → W.rangeAt gb (o + q * 1) (intC l[q]) := fun W h => (hrd [] W h).elem (by omega) hlt
    have hra' : ∀ W, Sep r [] F W → W.rangeAt gb' (o' + q * 1) (intC l'[q]) := fun W h => (hrd' [] W h).elem (by omega) hlt'
    repeat' (first|refine K ?_|(refine Sh.sa hS ?_;clear hS;intro w hS)|(refine K3 ?_;clear hS;intro g w hS hge)|((first|refine GS ?_ ?_|refine VB ?_ ?_)<;>intro hb<;>(try simp only [J1,J2,J3,J4,J5,J6] at hb)<;>(try (exfalso;first|omega|exact hb trivial))))
    refine D.startS hS 9 9 (by kernel_rfl) rfl ?_
    replace hS := hS.drew
    refine Sh.dp 0 1 ?_
    refine Sh.dp 1 3 ?_
    first | refine D.ixn 2 7 rfl D.wantedN (by kernel_rfl) rfl rfl rfl (by omega) ?_ | refine D.ix 2 7 rfl D.wantedN (by kernel_rfl) rfl rfl rfl (by omega) ?_ | refine D.ia 2 7 rfl D.wantedN (by kernel_rfl) rfl rfl rfl (by omega) ?_
    refine Sh.dp 4 23 ?_
    refine Sh.dp 5 55 ?_
    first | refine D.ixn 6 119 rfl D.wantedN (by kernel_rfl) rfl rfl rfl (by omega) ?_ | refine D.ix 6 119 rfl D.wantedN (by kernel_rfl) rfl rfl rfl (by omega) ?_ | refine D.ia 6 119 rfl D.wantedN (by kernel_rfl) rfl rfl rfl (by omega) ?_
    refine D.ldR 3 127 rfl D.wantedN (by kernel_rfl) rfl hra rfl ?_
    refine D.ldR 7 255 rfl D.wantedN (by kernel_rfl) rfl hra' rfl ?_
    first | refine D.pr 8 511 rfl D.wantedN (by kernel_rfl) rfl ?_ | refine D.pl 8 511 rfl D.wantedN (by kernel_rfl) (R.nea rfl rfl rfl rfl) ?_
    refine D.done (by kernel_rfl) ?_
    repeat' (first|refine K ?_|(refine Sh.sa hS ?_;clear hS;intro w hS)|(refine K3 ?_;clear hS;intro g w hS hge)|((first|refine GS ?_ ?_|refine VB ?_ ?_)<;>intro hb<;>(try simp only [J1,J2,J3,J4,J5,J6] at hb)<;>(try (exfalso;first|omega|exact hb trivial))))
    · refine Dnt Tryz.results101 ?_
      have : l ≠ l' := by rintro rfl; exact hb rfl
      exact ⟨by simp [this, Z.packR], hS⟩
    · refine Sh.again (l.length - (q + 1)) [(13, .int .i64 (q + 1 : Nat))] ?_
      have hb' : l[q] = l'[q] := by omega
      exact ⟨q + 1, rfl, by omega, by rw [List.take_succ_eq_append_getElem hlt, List.take_succ_eq_append_getElem hlt', heq, hb'], rfl, hS⟩
  · repeat' (first|refine K ?_|(refine Sh.sa hS ?_;clear hS;intro w hS)|(refine K3 ?_;clear hS;intro g w hS hge)|((first|refine GS ?_ ?_|refine VB ?_ ?_)<;>intro hb<;>(try simp only [J1,J2,J3,J4,J5,J6] at hb)<;>(try (exfalso;first|omega|exact hb trivial))))
    refine Dnt Tryz.results101 ?_
    have : l = l' := by rw [← List.take_of_length_le (l := l) (i := q) (by omega), ← List.take_of_length_le (l := l') (i := q) (by omega), heq]
    exact ⟨by simp [this, Z.packR], hS⟩
/-! Two manifests compared. -/
/-- The lists of a manifest, where they lie. -/
structure MR (r : World) (F : List Res) (m : Mf) (vk vi vs : Value) : Prop where
  k : Reads r F 1 vk (m.keys.map kC)
  i : Reads r F 1 vi (m.items.map intC)
  s : Reads r F 1 vs (m.sessions.map intC)
theorem MR.cons {r : World} {F : List Res} {m : Mf} {vk vi vs : Value} (h : MR r F m vk vi vs) (R : Res) : MR r (R :: F) m vk vi vs := ⟨h.k.cons R, h.i.cons R, h.s.cons R⟩
theorem MR.app {r : World} {F : List Res} {m : Mf} {vk vi vs : Value} (h : MR r F m vk vi vs) (L : List Res) : MR r (L ++ F) m vk vi vs := ⟨h.k.app L, h.i.app L, h.s.app L⟩
/-- The lists have few elements. -/
def Mf.few (m : Mf) : Prop := m.keys.length ≤ 100000 ∧ m.items.length ≤ 100000 ∧ m.sessions.length ≤ 100000
theorem Mf.ok.few {m : Mf} (h : m.ok) : m.few := ⟨by have := h.kn; omega, by have := h.jn; omega, by have := h.sn; omega⟩
theorem MR.form {r w : World} {F : List Res} {m : Mf} {vk vi vs : Value} (h : MR r F m vk vi vs) (hS : Sep r [] F w) : ∃ A1 c1 A2 c2 A3 c3, vk = .slice A1 m.keys.length c1 ∧ vi = .slice A2 m.items.length c2 ∧ vs = .slice A3 m.sessions.length c3 := by
  obtain ⟨A1, c1, e1, _⟩ := (h.k [] w hS).mform
  obtain ⟨A2, c2, e2, _⟩ := (h.i [] w hS).mform
  obtain ⟨A3, c3, e3, _⟩ := (h.s [] w hS).mform
  exact ⟨A1, c1, A2, c2, A3, c3, by simpa using e1, by simpa using e2, by simpa using e3⟩
set_option maxHeartbeats 1000000 in
theorem lists_z (a b : Mf) (vk vi vs uk ui us : Value) (r : World) (F : List Res) (w : World) (hS : Sep r [] F w) (ha : MR r F a vk vi vs) (hbb : MR r F b uk ui us) (fa : a.few) (fb : b.few) :
    Calls Tryz.prog 60 #[a.val vk vi vs, b.val uk ui us] w fun e w' => e = .returned (.bool (listsB a b)) ∧ Sep r [] F w' := by
  obtain ⟨A1, c1, A2, c2, A3, c3, rfl, rfl, rfl⟩ := ha.form hS
  obtain ⟨B1, d1, B2, d2, B3, d3, rfl, rfl, rfl⟩ := hbb.form hS
  obtain ⟨f1, f2, f3⟩ := fa
  obtain ⟨k1, k2, k3⟩ := fb
  refine Z.enter Tryz.func60 Tryz.ntmps60 rfl rfl ?_
  repeat' (first|refine K ?_|(refine Sh.sa hS ?_;clear hS;intro w hS)|(refine K3 ?_;clear hS;intro g w hS hge)|((first|refine GS ?_ ?_|refine VB ?_ ?_)<;>intro hb<;>(try simp only [J1,J2,J3,J4,J5,J6] at hb)<;>(try (exfalso;first|omega|exact hb trivial))))
  refine Z.eff (Z.cl (eqTexts_z a.keys b.keys (.slice A1 _ c1) (.slice B1 _ d1) _ _ _ hS (ha.k.app [_, _]) (hbb.k.app [_, _]) f1 k1) rfl ?_) rfl
  clear hS
  rintro e w ⟨rfl, hS⟩
  refine ⟨_, rfl, ?_⟩
  repeat' (first|refine K ?_|(refine Sh.sa hS ?_;clear hS;intro w hS)|(refine K3 ?_;clear hS;intro g w hS hge)|((first|refine GS ?_ ?_|refine VB ?_ ?_)<;>intro hb<;>(try simp only [J1,J2,J3,J4,J5,J6] at hb)<;>(try (exfalso;first|omega|exact hb trivial))))
  · rename a.keys = b.keys => h1
    refine Z.eff (Z.cl (eqInts_z a.items b.items (.slice A2 _ c2) (.slice B2 _ d2) _ _ _ hS (ha.i.app [_, _]) (hbb.i.app [_, _]) f2 k2) rfl ?_) rfl
    clear hS
    rintro e w ⟨rfl, hS⟩
    refine ⟨_, rfl, ?_⟩
    repeat' (first|refine K ?_|(refine Sh.sa hS ?_;clear hS;intro w hS)|(refine K3 ?_;clear hS;intro g w hS hge)|((first|refine GS ?_ ?_|refine VB ?_ ?_)<;>intro hb<;>(try simp only [J1,J2,J3,J4,J5,J6] at hb)<;>(try (exfalso;first|omega|exact hb trivial))))
    · rename a.items = b.items => h2
      refine Z.eff (Z.cl (eqInts_z a.sessions b.sessions (.slice A3 _ c3) (.slice B3 _ d3) _ _ _ hS (ha.s.app [_, _]) (hbb.s.app [_, _]) f3 k3) rfl ?_) rfl
      clear hS
      rintro e w ⟨rfl, hS⟩
      refine ⟨_, rfl, ?_⟩
      repeat' (first|refine K ?_|(refine Sh.sa hS ?_;clear hS;intro w hS)|(refine K3 ?_;clear hS;intro g w hS hge)|((first|refine GS ?_ ?_|refine VB ?_ ?_)<;>intro hb<;>(try simp only [J1,J2,J3,J4,J5,J6] at hb)<;>(try (exfalso;first|omega|exact hb trivial))))
      refine Dnt Tryz.results60 ?_
      exact ⟨by simp [listsB, h1, h2, Z.packR], hS.sb⟩
    · refine Dnt Tryz.results60 ?_
      exact ⟨by simp [listsB, hb, Z.packR], hS.sb⟩
  · refine Dnt Tryz.results60 ?_
    exact ⟨by simp [listsB, hb, Z.packR], hS.sb⟩
set_option maxHeartbeats 1000000 in
theorem psameM_z (a b : Mf) (vk vi vs uk ui us : Value) (r : World) (F : List Res) (w : World) (hS : Sep r [] F w) (ha : MR r F a vk vi vs) (hbb : MR r F b uk ui us) (fa : a.few) (fb : b.few) :
    Calls Tryz.prog 29 #[a.val vk vi vs, b.val uk ui us] w fun e w' => e = .returned (.bool (sameM a b)) ∧ Sep r [] F w' := by
  obtain ⟨A1, c1, A2, c2, A3, c3, rfl, rfl, rfl⟩ := ha.form hS
  obtain ⟨B1, d1, B2, d2, B3, d3, rfl, rfl, rfl⟩ := hbb.form hS
  refine Z.enter Tryz.func29 Tryz.ntmps29 rfl rfl ?_
  repeat' (first|refine K ?_|(refine Sh.sa hS ?_;clear hS;intro w hS)|(refine K3 ?_;clear hS;intro g w hS hge)|((first|refine GS ?_ ?_|refine VB ?_ ?_)<;>intro hb<;>(try simp only [J1,J2,J3,J4,J5,J6] at hb)<;>(try (exfalso;first|omega|exact hb trivial))))
  · refine Z.eff (Z.cl (lists_z a b (.slice A1 _ c1) (.slice A2 _ c2) (.slice A3 _ c3) (.slice B1 _ d1) (.slice B2 _ d2) (.slice B3 _ d3) _ _ _ hS (ha.app [_, _]) (hbb.app [_, _]) fa fb) rfl ?_) rfl
    clear hS
    rintro e w ⟨rfl, hS⟩
    refine ⟨_, rfl, ?_⟩
    repeat' (first|refine K ?_|(refine Sh.sa hS ?_;clear hS;intro w hS)|(refine K3 ?_;clear hS;intro g w hS hge)|((first|refine GS ?_ ?_|refine VB ?_ ?_)<;>intro hb<;>(try simp only [J1,J2,J3,J4,J5,J6] at hb)<;>(try (exfalso;first|omega|exact hb trivial))))
    all_goals
      refine Dnt Tryz.results29 ?_
      exact ⟨by simp_all [sameM, Z.packR], hS.sb⟩
  all_goals
    refine Dnt Tryz.results29 ?_
    exact ⟨by simp_all [sameM, Z.packR], hS.sb⟩
set_option maxHeartbeats 2000000 in
theorem rsameM_z (a b : Mf) (vk vi vs uk ui us : Value) (r : World) (F : List Res) (w : World) (hS : Sep r [] F w) (ha : MR r F a vk vi vs) (hbb : MR r F b uk ui us) (fa : a.few) (fb : b.few) :
    Calls Tryz.prog 13 #[a.val vk vi vs, b.val uk ui us] w fun e w' => e = .returned (.bool (sameM a b)) ∧ Sep r [] F w' := by
  obtain ⟨A1, c1, A2, c2, A3, c3, rfl, rfl, rfl⟩ := ha.form hS
  obtain ⟨B1, d1, B2, d2, B3, d3, rfl, rfl, rfl⟩ := hbb.form hS
  obtain ⟨f1, f2, f3⟩ := fa
  obtain ⟨k1, k2, k3⟩ := fb
  refine Z.enter Tryz.func13 Tryz.ntmps13 rfl rfl ?_
  repeat' (first|refine K ?_|(refine Sh.sa hS ?_;clear hS;intro w hS)|(refine K3 ?_;clear hS;intro g w hS hge)|((first|refine GS ?_ ?_|refine VB ?_ ?_)<;>intro hb<;>(try simp only [J1,J2,J3,J4,J5,J6] at hb)<;>(try (exfalso;first|omega|exact hb trivial))))
  · refine Z.eff (Z.cl (rtexts_z a.keys b.keys (.slice A1 _ c1) (.slice B1 _ d1) _ _ _ hS (ha.k.app [_, _]) (hbb.k.app [_, _]) f1 k1) rfl ?_) rfl
    clear hS
    rintro e w ⟨rfl, hS⟩
    refine ⟨_, rfl, ?_⟩
    repeat' (first|refine K ?_|(refine Sh.sa hS ?_;clear hS;intro w hS)|(refine K3 ?_;clear hS;intro g w hS hge)|((first|refine GS ?_ ?_|refine VB ?_ ?_)<;>intro hb<;>(try simp only [J1,J2,J3,J4,J5,J6] at hb)<;>(try (exfalso;first|omega|exact hb trivial))))
    · refine Z.eff (Z.cl (sameInts_z a.items b.items (.slice A2 _ c2) (.slice B2 _ d2) _ _ _ hS (ha.i.app [_, _]) (hbb.i.app [_, _]) f2 k2) rfl ?_) rfl
      clear hS
      rintro e w ⟨rfl, hS⟩
      refine ⟨_, rfl, ?_⟩
      repeat' (first|refine K ?_|(refine Sh.sa hS ?_;clear hS;intro w hS)|(refine K3 ?_;clear hS;intro g w hS hge)|((first|refine GS ?_ ?_|refine VB ?_ ?_)<;>intro hb<;>(try simp only [J1,J2,J3,J4,J5,J6] at hb)<;>(try (exfalso;first|omega|exact hb trivial))))
      · refine Z.eff (Z.cl (sameInts_z a.sessions b.sessions (.slice A3 _ c3) (.slice B3 _ d3) _ _ _ hS (ha.s.app [_, _]) (hbb.s.app [_, _]) f3 k3) rfl ?_) rfl
        clear hS
        rintro e w ⟨rfl, hS⟩
        refine ⟨_, rfl, ?_⟩
        repeat' (first|refine K ?_|(refine Sh.sa hS ?_;clear hS;intro w hS)|(refine K3 ?_;clear hS;intro g w hS hge)|((first|refine GS ?_ ?_|refine VB ?_ ?_)<;>intro hb<;>(try simp only [J1,J2,J3,J4,J5,J6] at hb)<;>(try (exfalso;first|omega|exact hb trivial))))
        all_goals
          refine Dnt Tryz.results13 ?_
          exact ⟨by simp_all [sameM, listsB, Z.packR], hS.sb⟩
      all_goals
        refine Dnt Tryz.results13 ?_
        exact ⟨by simp_all [sameM, listsB, Z.packR], hS.sb⟩
    all_goals
      refine Dnt Tryz.results13 ?_
      exact ⟨by simp_all [sameM, listsB, Z.packR], hS.sb⟩
  all_goals
    refine Dnt Tryz.results13 ?_
    exact ⟨by simp_all [sameM, listsB, Z.packR], hS.sb⟩
end Go.Proofs.YtiabhlogadboeaaGreat
