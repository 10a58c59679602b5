import Derived.Test.YtfmnjbhncnldmaaGreatP25
set_option linter.unusedSimpArgs false
set_option linter.unusedVariables false
namespace Go.Proofs.YtfmnjbhncnldmaaGreat
open Go.RowKit
attribute [local irreducible] Res.blk Res.sl Res.all Res.ex Res.pure Res.star
def varF (sg : Nat → Bool) (t : Nat) : List Nat := if sg t = true then [2 * t] else [2 * t, 2 * t + 1]
def varsN (sg : Nat → Bool) (o : List Nat) : List Nat := (o.map (varF sg)).flatten
theorem mem_varF {sg : Nat → Bool} {t u : Nat} : u ∈ varF sg t ↔ u / 2 = t ∧ (u % 2 = 1 → sg t = false) := by
  unfold varF
  cases h : sg t
  · simp
    omega
  · simp
    omega
theorem mem_vars {sg : Nat → Bool} {o : List Nat} {u : Nat} : u ∈ varsN sg o ↔ u / 2 ∈ o ∧ (u % 2 = 1 → sg (u / 2) = false) := by
  unfold varsN
  rw [List.mem_flatten]
  constructor
  · rintro ⟨l, hl, hu⟩
    obtain ⟨t, ht, rfl⟩ := List.mem_map.1 hl
    obtain ⟨h1, h2⟩ := mem_varF.1 hu
    subst h1
    exact ⟨ht, h2⟩
  · rintro ⟨h1, h2⟩
    exact ⟨varF sg (u / 2), List.mem_map.2 ⟨_, h1, rfl⟩, mem_varF.2 ⟨rfl, h2⟩⟩
theorem nodup_vars {sg : Nat → Bool} {o : List Nat} (h : o.Nodup) : (varsN sg o).Nodup := by
  induction o with
  | nil => simp [varsN]
  | cons t o ih =>
    have h1 := List.nodup_cons.1 h
    show (varF sg t ++ varsN sg o).Nodup
    rw [List.nodup_append]
    refine ⟨?_, ih h1.2, fun a ha b hb e => ?_⟩
    · unfold varF
      split
      · simp
      · simp
    · subst e
      have h2 := (mem_varF.1 ha).1
      have h3 := (mem_vars.1 hb).1
      rw [h2] at h3
      exact h1.1 h3
theorem varF_len (sg : Nat → Bool) (t : Nat) : (varF sg t).length ≤ 2 := by
  unfold varF
  split <;> simp
theorem vars_len (sg : Nat → Bool) (o : List Nat) : (varsN sg o).length ≤ 2 * o.length := by
  induction o with
  | nil => simp [varsN]
  | cons t o ih =>
    show (varF sg t ++ varsN sg o).length ≤ _
    have := varF_len sg t
    rw [List.length_append, List.length_cons]
    omega
theorem varsN_snoc (sg : Nat → Bool) (o : List Nat) (t : Nat) : varsN sg (o ++ [t]) = varsN sg o ++ varF sg t := by
  simp [varsN]
def gv (ps : List (Int × Int)) (u : Nat) : Int := if u % 2 = 0 then (ps.getD (u / 2) (-1, -1)).1 else (ps.getD (u / 2) (-1, -1)).2
def svP (p : Int × Int) (u : Nat) (x : Int) : Int × Int := if u % 2 = 0 then (x, p.2) else (p.1, x)
def sv (ps : List (Int × Int)) (u : Nat) (x : Int) : List (Int × Int) := ps.set (u / 2) (svP (ps.getD (u / 2) (-1, -1)) u x)
theorem sv_len (ps : List (Int × Int)) (u : Nat) (x : Int) : (sv ps u x).length = ps.length := by simp [sv]
theorem sv_getD (ps : List (Int × Int)) (u : Nat) (x : Int) (i : Nat) (h : u / 2 < ps.length) : (sv ps u x).getD i (-1, -1) = if u / 2 = i then svP (ps.getD (u / 2) (-1, -1)) u x else ps.getD i (-1, -1) := by
  unfold sv
  by_cases e : u / 2 = i
  · subst e
    simp [List.getD_eq_getElem?_getD, h]
  · rw [if_neg e]
    simp [List.getD_eq_getElem?_getD, List.getElem?_set_ne e]
theorem gv_sv {ps : List (Int × Int)} {u : Nat} {x : Int} (h : u / 2 < ps.length) : gv (sv ps u x) u = x := by
  unfold gv
  rw [sv_getD ps u x _ h, if_pos rfl]
  unfold svP
  split <;> rfl
theorem gv_sv_ne {ps : List (Int × Int)} {u v : Nat} {x : Int} (h : u / 2 < ps.length) (hn : v ≠ u) : gv (sv ps u x) v = gv ps v := by
  unfold gv
  rw [sv_getD ps u x _ h]
  by_cases e : u / 2 = v / 2
  · rw [if_pos e, e]
    unfold svP
    by_cases e2 : v % 2 = 0
    · rw [if_pos e2, if_pos e2, if_neg (by omega)]
    · rw [if_neg e2, if_neg e2, if_pos (by omega)]
  · rw [if_neg e]
theorem svP_svP (p : Int × Int) (u : Nat) (x y : Int) : svP (svP p u x) u y = svP p u y := by
  unfold svP
  split <;> rfl
theorem sv_sv {ps : List (Int × Int)} {u : Nat} {x y : Int} (h : u / 2 < ps.length) : sv (sv ps u x) u y = sv ps u y := by
  have e := sv_getD ps u x (u / 2) h
  rw [if_pos rfl] at e
  show (sv ps u x).set (u / 2) (svP ((sv ps u x).getD (u / 2) (-1, -1)) u y) = _
  rw [e, svP_svP]
  unfold sv
  rw [List.set_set]
theorem sv_gv {ps : List (Int × Int)} {u : Nat} (h : u / 2 < ps.length) : sv ps u (gv ps u) = ps := by
  have e : svP (ps.getD (u / 2) (-1, -1)) u (gv ps u) = ps[u / 2] := by
    have e0 : ps.getD (u / 2) (-1, -1) = ps[u / 2] := by simp [List.getD_eq_getElem?_getD, h]
    unfold svP gv
    rw [e0]
    split <;> rfl
  unfold sv
  rw [e, List.set_getElem_self]
structure SvI (n nc : Nat) (vs : List Nat) (i : Nat) (ps : List (Int × Int)) : Prop where
  len : ps.length = n
  set : ∀ u, u ∈ vs.take i → 0 ≤ gv ps u ∧ gv ps u < nc
  un : ∀ u, u < 2 * n → u ∉ vs.take i → gv ps u = -1
theorem not_take {vs : List Nat} (hn : vs.Nodup) {i : Nat} (h : i < vs.length) : vs[i] ∉ vs.take i := fun hm => by
  obtain ⟨j, hj, e⟩ := List.mem_iff_getElem.1 hm
  rw [List.getElem_take] at e
  have hj' : j < i := by
    rw [List.length_take] at hj
    omega
  exact (List.pairwise_iff_getElem.1 hn) j i (by omega) h hj' e
theorem SvI.unset {n nc : Nat} {vs : List Nat} (hn : vs.Nodup) {i : Nat} {ps : List (Int × Int)} (hs : SvI n nc vs i ps) (h : i < vs.length) (hb : vs[i] < 2 * n) : gv ps vs[i] = -1 := hs.un _ hb (not_take hn h)
theorem SvI.step {n nc : Nat} {vs : List Nat} {i : Nat} {ps : List (Int × Int)} (hs : SvI n nc vs i ps) (h : i < vs.length) (hb : vs[i] < 2 * n) {x : Int} (hx : 0 ≤ x ∧ x < nc) : SvI n nc vs (i + 1) (sv ps vs[i] x) := by
  have hl : vs[i] / 2 < ps.length := by rw [hs.len]; omega
  refine ⟨by rw [sv_len, hs.len], fun u hu => ?_, fun u hu hm => ?_⟩
  · rw [List.take_succ_eq_append_getElem h, List.mem_append] at hu
    by_cases e : u = vs[i]
    · subst e
      rw [gv_sv hl]
      exact hx
    · rw [gv_sv_ne hl e]
      rcases hu with hu | hu
      · exact hs.set u hu
      · exact absurd (List.mem_singleton.1 hu) e
  · rw [List.take_succ_eq_append_getElem h, List.mem_append] at hm
    rw [gv_sv_ne hl (fun e => hm (.inr (List.mem_singleton.2 e)))]
    exact hs.un u hu (fun h => hm (.inl h))
theorem gv_home {ps : List (Int × Int)} {i : Nat} (h : i < ps.length) : gv ps (2 * i) = ps[i].1 := by
  unfold gv
  rw [if_pos (by omega), (by omega : 2 * i / 2 = i)]
  simp [List.getD_eq_getElem?_getD, h]
theorem gv_stand {ps : List (Int × Int)} {i : Nat} (h : i < ps.length) : gv ps (2 * i + 1) = ps[i].2 := by
  unfold gv
  rw [if_neg (by omega), (by omega : (2 * i + 1) / 2 = i)]
  simp [List.getD_eq_getElem?_getD, h]
theorem SvI.pls {c : Cfg} {vs : List Nat} {i : Nat} {ps : List (Int × Int)} (hs : SvI c.tenants.length c.cells.length vs i ps) : PlS c ps := by
  refine ⟨hs.len, fun p hp => ?_⟩
  obtain ⟨j, hj, rfl⟩ := List.mem_iff_getElem.1 hp
  have hl := hs.len
  have key : ∀ u, u < 2 * c.tenants.length → -1 ≤ gv ps u ∧ gv ps u < c.cells.length := fun u hu => by
    by_cases hm : u ∈ vs.take i
    · have := hs.set u hm
      omega
    · have := hs.un u hu hm
      omega
  have h1 := key (2 * j) (by omega)
  have h2 := key (2 * j + 1) (by omega)
  rw [gv_home hj] at h1
  rw [gv_stand hj] at h2
  exact ⟨h1, h2⟩
theorem SvI.zero {n nc : Nat} {vs : List Nat} : SvI n nc vs 0 (List.replicate n (-1, -1)) := by
  refine ⟨by simp, fun u hu => by simp at hu, fun u hu _ => ?_⟩
  have h : u / 2 < n := by omega
  unfold gv
  simp [List.getD_eq_getElem?_getD, h]
structure PlK (c : Cfg) (hd : Bool) (ps : List (Int × Int)) : Prop where
  al : ∀ i (h : i < ps.length), cOk (fun i x => !mayP c i x) i ps[i].1 ∧ cOk (fun i x => !mayP c i x) i ps[i].2
  ap : ∀ i (h : i < ps.length), ps[i].1 = -1 ∨ ps[i].2 = -1 ∨ apartP c ps[i].1 ps[i].2 = true
  cp : ∀ k (h : k < c.cells.length), (bkN c ps ps.length).getD k 0 ≤ c.cells[k].cap
  hr : hd = true → ∀ g : Int, 0 ≤ g → g < c.regions → ∀ k (h : k < c.cells.length), regOf c k ≠ g → (bkN c ps ps.length).getD k 0 + (exN c g ps ps.length).getD k 0 ≤ c.cells[k].cap
theorem pl_full {c : Cfg} {sg : Nat → Bool} {o : List Nat} {ps : List (Int × Int)} (hb : PlK c true ps) (ho : o.Perm (List.range c.tenants.length)) (hs : SvI c.tenants.length c.cells.length (varsN sg o) (varsN sg o).length ps) : PlG c sg ps := by
  have hl := hs.len
  have hin : ∀ u, u ∈ (varsN sg o).take (varsN sg o).length ↔ u / 2 < c.tenants.length ∧ (u % 2 = 1 → sg (u / 2) = false) := fun u => by
    rw [List.take_length, mem_vars, ho.mem_iff, List.mem_range]
  have h1 : ∀ i (h : i < ps.length), 0 ≤ ps[i].1 ∧ ps[i].1 < c.cells.length := fun i h => by
    rw [← gv_home h]
    exact hs.set _ ((hin _).2 ⟨by omega, fun e => by omega⟩)
  have h2 : ∀ i (h : i < ps.length), -1 ≤ ps[i].2 ∧ ps[i].2 < c.cells.length := fun i h => (hs.pls.rng _ (List.getElem_mem h)).2
  have h3 : ∀ i (h : i < ps.length), ps[i].2 = -1 ↔ sg i = true := fun i h => by
    rw [← gv_stand h]
    have e : (2 * i + 1) / 2 = i := by omega
    constructor
    · intro h4
      cases h5 : sg i
      · have := hs.set (2 * i + 1) ((hin _).2 ⟨by omega, fun _ => by rw [e]; exact h5⟩)
        omega
      · rfl
    · intro h4
      refine hs.un _ (by omega) fun hm => ?_
      have := ((hin _).1 hm).2 (by omega)
      rw [e, h4] at this
      cases this
  refine ⟨hl, h1, h2, h3, fun i h => ?_, fun i h h4 => ?_, fun i h h4 => ?_, hb.cp, hb.hr rfl⟩
  · rcases (hb.al i h).1 with h5 | h5
    · have := h1 i h
      omega
    · have := h1 i h
      replace h5 : (!mayP c (i : Int) ((ps[i].1.toNat : Nat) : Int)) = false := h5
      rw [Int.toNat_of_nonneg this.1] at h5
      simpa using h5
  · rcases (hb.al i h).2 with h5 | h5
    · exact absurd h5 h4
    · have := h2 i h
      replace h5 : (!mayP c (i : Int) ((ps[i].2.toNat : Nat) : Int)) = false := h5
      rw [Int.toNat_of_nonneg (show 0 ≤ ps[i].2 by omega)] at h5
      simpa using h5
  · rcases hb.ap i h with h5 | h5 | h5
    · have := h1 i h
      omega
    · exact absurd h5 h4
    · exact h5
theorem bv_row (l : List Bv) : ∀ row, row ∈ l.map Bv.cells → row.length = 1 ∧ ∀ u, u ∈ row → u.oneCell' = true := by
  intro row hr
  obtain ⟨x, _, rfl⟩ := List.mem_map.1 hr
  exact ⟨rfl, by simp [Bv.cells, Value.oneCell']⟩
theorem bv7 {r : World} {F : List Res} {b1 b2 b3 b4 b5 b6 b7 : Bv} (h1 : Reads r F 5 (.slice b1.A b1.l.length b1.c) (b1.l.map Br.cells)) (h2 : Reads r F 5 (.slice b2.A b2.l.length b2.c) (b2.l.map Br.cells)) (h3 : Reads r F 5 (.slice b3.A b3.l.length b3.c) (b3.l.map Br.cells)) (h4 : Reads r F 5 (.slice b4.A b4.l.length b4.c) (b4.l.map Br.cells)) (h5 : Reads r F 5 (.slice b5.A b5.l.length b5.c) (b5.l.map Br.cells)) (h6 : Reads r F 5 (.slice b6.A b6.l.length b6.c) (b6.l.map Br.cells)) (h7 : Reads r F 5 (.slice b7.A b7.l.length b7.c) (b7.l.map Br.cells)) : ∀ x, x ∈ [b1, b2, b3, b4, b5, b6, b7] → Reads r F 5 (.slice x.A x.l.length x.c) (x.l.map Br.cells) := by
  intro x hx
  simp only [List.mem_cons, List.not_mem_nil, or_false] at hx
  rcases hx with rfl | rfl | rfl | rfl | rfl | rfl | rfl <;> assumption
theorem bl7 {b1 b2 b3 b4 b5 b6 b7 : Bv} (h1 : b1.l.length ≤ 10000) (h2 : b2.l.length ≤ 10000) (h3 : b3.l.length ≤ 10000) (h4 : b4.l.length ≤ 10000) (h5 : b5.l.length ≤ 10000) (h6 : b6.l.length ≤ 10000) (h7 : b7.l.length ≤ 10000) : ∀ x, x ∈ [b1, b2, b3, b4, b5, b6, b7] → x.l.length ≤ 10000 := by
  intro x hx
  simp only [List.mem_cons, List.not_mem_nil, or_false] at hx
  rcases hx with rfl | rfl | rfl | rfl | rfl | rfl | rfl <;> assumption
theorem fl7 {b1 b2 b3 b4 b5 b6 b7 : Bv} (h : flatB [b1, b2, b3, b4, b5, b6, b7] = []) : b1.l = [] ∧ b2.l = [] ∧ b3.l = [] ∧ b4.l = [] ∧ b5.l = [] ∧ b6.l = [] ∧ b7.l = [] := by
  simpa [flatB] using h
set_option maxHeartbeats 8000000 in
theorem rpartial_z (c : Cfg) (a : CAd) (mk : Int) (hd : Bool) (ps : List (Int × Int)) (v : Value) (r : World) (F : List Res) (w : World) (hS : Sep r [] F w) (hr : CfA r F c a) (hv : CfgV c) (hp : Reads r F 2 v (ps.map plR)) (hs : PlS c ps) :
    Calls Tryz.prog 255 #[pbV c a mk hd, v] w fun e w' => ∃ (A : Option Addr) (cap : Nat) (bs : List Br), e = .returned (.slice A bs.length cap) ∧ (bs.length ≤ 1000000 ∧ (bs = [] → PlK c hd ps)) ∧ Sep r [] (.sl 360 5 (.slice A bs.length cap) (bs.map Br.cells) :: F) w' := by
  have hk := hv.ok.k
  have htl := hv.ok.t
  have hpn := hs.len
  obtain ⟨hbl, hbb⟩ := bkN_ok hv ps ps.length
  obtain ⟨Ap, cp, rfl, hcap⟩ := (hp [] w hS).mform
  refine Z.enter Tryz.func255 Tryz.ntmps255 rfl rfl ?_
  repeat' (first|refine K ?_|(refine Sh.sa hS ?_;clear hS;intro w hS)|(refine K3 ?_;clear hS;intro g w hS hge)|(refine KB ?_ ?_<;>intro hb<;>(try simp only [JJ] at hb)<;>(try exact JX))|fail)
  rename Nat => gb
  refine Z.eff (Z.cl (rfit_z c a mk hd ps _ _ _ _ hS (hr.cons _) hv (hp.cons _) hs) rfl ?_) rfl
  clear hS
  rintro e w ⟨rfl, hS⟩
  refine ⟨_, rfl, ?_⟩
  repeat' (first|refine K ?_|(refine Sh.sa hS ?_;clear hS;intro w hS)|(refine K3 ?_;clear hS;intro g w hS hge)|(refine KB ?_ ?_<;>intro hb<;>(try simp only [JJ] at hb)<;>(try exact JX))|fail)
  refine Z.eff (Z.cl (rbooked_z c a mk hd ps _ _ _ _ hS (hr.cons _) hv (hp.cons _) hs) rfl ?_) rfl
  clear hS
  rintro e w ⟨g5, rfl, hS⟩
  refine ⟨_, rfl, ?_⟩
  have hbn := bkN_ok hv ps ps.length
  repeat' (first|refine K ?_|(refine Sh.sa hS ?_;clear hS;intro w hS)|(refine K3 ?_;clear hS;intro g w hS hge)|(refine KB ?_ ?_<;>intro hb<;>(try simp only [JJ] at hb)<;>(try exact JX))|fail)
  refine D.startS (Lr := (.sl 3 1 (.slice (some ⟨g5, 0, none⟩) c.cells.length c.cells.length) ((bkN c ps ps.length).map ztC) :: .blk gb 84 (pbC c a mk hd) :: F)) (hS.sb) 25 25 (by kernel_rfl) rfl ?_
  replace hS := hS.drew
  refine Sh.dp 1 2 ?_
  refine Sh.dp 4 18 ?_
  refine Sh.dp 7 146 ?_
  refine Sh.dp 10 1170 ?_
  refine Sh.dp 13 9362 ?_
  refine Sh.dp 16 74898 ?_
  refine Sh.dp 19 599186 ?_
  refine Sh.dp 20 1647762 ?_
  refine Sh.dl 0 1647763 ?_
  refine Sh.dl 3 1647771 ?_
  refine Sh.dl 6 1647835 ?_
  refine Sh.dl 9 1648347 ?_
  refine Sh.dl 12 1652443 ?_
  refine Sh.dl 15 1685211 ?_
  refine Sh.dl 18 1947355 ?_
  refine D.ef 2 1947359 ?_
  refine Z.cl (rusable_z c a mk hd ps _ _ _ _ hS hv (hp.app [_, _]) hs) rfl ?_
  clear hS
  rintro e w ⟨A1, c1, b1, rfl, h1, hS⟩
  refine ⟨_, rfl, ?_⟩
  refine HMs ?_
  refine D.ef 5 1947391 ?_
  refine Z.cl (rallowed_z c a mk hd ps _ _ _ _ hS (hr.app [_, _, _]) hv (hp.app [_, _, _]) hs) rfl ?_
  clear hS
  rintro e w ⟨A2, c2, b2, rfl, h2, hS⟩
  refine ⟨_, rfl, ?_⟩
  refine HMs ?_
  refine D.ef 8 1947647 ?_
  refine Z.cl (rapart_z c a mk hd ps _ _ _ _ hS (hr.app [_, _, _, _]) hv (hp.app [_, _, _, _]) hs) rfl ?_
  clear hS
  rintro e w ⟨A3, c3, b3, rfl, h3, hS⟩
  refine ⟨_, rfl, ?_⟩
  refine HMs ?_
  refine D.ef 11 1949695 ?_
  refine Z.cl (rgroup_z c a mk hd ps _ _ _ _ hS (hr.app [_, _, _, _, _]) hv (hp.app [_, _, _, _, _]) hs) rfl ?_
  clear hS
  rintro e w ⟨A4, c4, b4, rfl, h4, hS⟩
  refine ⟨_, rfl, ?_⟩
  refine HMs ?_
  refine D.ef 14 1966079 ?_
  refine Z.cl (rnoisy_z c a mk hd ps _ _ _ _ hS (hr.app [_, _, _, _, _, _]) hv (hp.app [_, _, _, _, _, _]) hs) rfl ?_
  clear hS
  rintro e w ⟨A5, c5, b5, rfl, h5, hS⟩
  refine ⟨_, rfl, ?_⟩
  refine HMs ?_
  refine D.ef 17 2097151 ?_
  refine Z.cl (rcapacity_z c a mk hd (bkN c ps ps.length) _ _ _ _ hS (hr.app [_, _, _, _, _, _, _]) hv (Reads.of_at (e := 3) (v := .slice (some ⟨g5, 0, none⟩) c.cells.length c.cells.length) AtF) hbn.1) rfl ?_
  clear hS
  rintro e w ⟨A6, c6, b6, rfl, h6, hS⟩
  refine ⟨_, rfl, ?_⟩
  refine HMs ?_
  refine D.ef 21 4194303 ?_
  refine Z.cl (rheadroom_z c a mk hd ps _ (bkN c ps ps.length) _ _ _ _ hS (hr.app [_, _, _, _, _, _, _, _]) hv (hp.app [_, _, _, _, _, _, _, _]) hs (Reads.of_at (e := 3) (v := .slice (some ⟨g5, 0, none⟩) c.cells.length c.cells.length) AtF) hbn.1 (hbn.2.le (by omega))) rfl ?_
  clear hS
  rintro e w ⟨A7, c7, b7, rfl, h7, hS⟩
  refine ⟨_, rfl, ?_⟩
  refine HMs ?_
  refine D.ef 22 8388607 ?_
  refine Z.bs hS rfl rfl rfl ?_
  clear hS; intro g w hS hge
  refine HMs ?_
  refine D.ef 23 16777215 ?_
  replace hS := mk_sl (sz := 1) (n := 7) (rows := [(⟨b1, A1, c1⟩ : Bv), ⟨b2, A2, c2⟩, ⟨b3, A3, c3⟩, ⟨b4, A4, c4⟩, ⟨b5, A5, c5⟩, ⟨b6, A6, c6⟩, ⟨b7, A7, c7⟩].map Bv.cells) hS rfl (by omega) (by decide) (bv_row _) rfl
  refine Z.cl (concatB_z _ 7 [(⟨b1, A1, c1⟩ : Bv), ⟨b2, A2, c2⟩, ⟨b3, A3, c3⟩, ⟨b4, A4, c4⟩, ⟨b5, A5, c5⟩, ⟨b6, A6, c6⟩, ⟨b7, A7, c7⟩] _ _ _ hS ⟨Reads.of_at AtF, bv7 (Reads.of_at (e := 360) AtF) (Reads.of_at (e := 360) AtF) (Reads.of_at (e := 360) AtF) (Reads.of_at (e := 360) AtF) (Reads.of_at (e := 360) AtF) (Reads.of_at (e := 360) AtF) (Reads.of_at (e := 360) AtF)⟩ (by simp) (bl7 (by show b1.length ≤ 10000; omega) (by show b2.length ≤ 10000; omega) (by show b3.length ≤ 10000; omega) (by show b4.length ≤ 10000; omega) (by show b5.length ≤ 10000; omega) (by show b6.length ≤ 10000; omega) (by show b7.length ≤ 10000; omega))) rfl ?_
  clear hS
  rintro e w ⟨A, cc, rfl, hfl, hS⟩
  refine ⟨_, rfl, ?_⟩
  refine HMs ?_
  refine Sh.dp 24 33554431 ?_
  refine D.done (by kernel_rfl) ?_
  repeat' (first|refine K ?_|(refine Sh.sa hS ?_;clear hS;intro w hS)|(refine K3 ?_;clear hS;intro g w hS hge)|(refine KB ?_ ?_<;>intro hb<;>(try simp only [JJ] at hb)<;>(try exact JX))|fail)
  refine Dnt Tryz.results255 ?_
  refine ⟨A, cc, _, rfl, ⟨hfl, fun h => ?_⟩, hS.sb⟩
  obtain ⟨-, e2, e3, -, -, e6, e7⟩ := fl7 h
  exact ⟨h2.2 e2, h3.2 e3, fun k hk => by
    have hk2 : k < (bkN c ps ps.length).length := by omega
    have := h6.2 e6 k hk2 hk
    simpa [List.getD_eq_getElem?_getD, hk2] using this, fun hh g g1 g2 k hk hne => h7.2 e7 hh g g1 g2 k hk hne⟩
end Go.Proofs.YtfmnjbhncnldmaaGreat
