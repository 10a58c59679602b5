/-
  HandoverChecks: for every input the call returns true, and the arguments read afterwards as they read before.
-/
import Derived.Test.YtiabhlogadboeaaGreatNHoQ
namespace Go.Proofs.YtiabhlogadboeaaGreat
open Go.RowKit Go.ChangeShapes Go.WideShapes Go.ChangeAt
set_option linter.unusedSimpArgs false
set_option linter.unusedVariables false

section
variable {H : Type} {enc : TypeId × Value → H} {w : World} {base : Nat} {spare : Nat → Bool} {held : Bool}
set_option maxRecDepth 100000 in
/-- An argument of type []int, as rows. -/
theorem arg_intsr {v : Value} {d : DataW H} {p : List MemPlace} {b0 : Nat} (hv : Value.okWide Tryz.prog w .any b0 22 v) (h : DataW.Trod enc Tryz.prog w base (fun _ => true) held 22 v d p) :
    ∃ (l : List Int) (A : Option Addr) (cap : Nat), v = .slice A l.length cap ∧ True ∧ Rows' w 1 (.slice A l.length cap) (l.map intC) := by
  obtain ⟨a0, len, cap, rfl⟩ := okWide_slice Tryz.underlying22 hv
  obtain ⟨fuel, hf⟩ := h
  obtain ⟨l, hll, hr⟩ := rows_of (fun x : {z : Int // i64ok z} => intC x.1) Tryz.underlying22 Tryz.cellsI (by omega) (fun x => ⟨rfl, by simp [intC, Value.oneCell']⟩)
    (fun n cs y h => by obtain ⟨z, hz, hb⟩ := open_intb h; exact ⟨⟨z, hb⟩, hz⟩) hf
  subst hll
  refine ⟨l.map Subtype.val, a0, cap, by rw [List.length_map], trivial, ?_⟩
  rw [List.length_map, List.map_map]
  exact hr
end
theorem arg_light {m : Mf} {w : World} {vk vi vs : Value} (h : m.arg w vk vi vs) (hl : lightP m) : m.ok := by
  obtain ⟨h1, h2, h3, h4⟩ := hl
  exact ⟨h.t, h.l, h.e, by omega, fun x hx => by have := h2 x hx; omega, by omega, h.is, by omega, h.ss⟩
/-- A manifest with one field changed. -/
def spM (zz : ByteArray) (m : Mf) (j z : Int) : Mf :=
  if j = 0 then { m with tenant := z }
  else if j = 1 then { m with length := z }
  else if j = 2 then { m with epoch := z }
  else if j = 3 then { m with keys := m.keys ++ [zz] }
  else if j = 4 then { m with items := m.items ++ [z] }
  else if j = 5 then { m with sessions := [z] ++ m.sessions }
  else { m with sum := IntKind.u64.wrap (m.sum + IntKind.u64.wrap z) }
structure Mf.okN (m : Mf) (q : Nat) : Prop where
  ok : m.ok
  kn : m.keys.length ≤ 100 + q
  jn : m.items.length ≤ 100 + q
  sn : m.sessions.length ≤ 100 + q
theorem Mf.okN.sum {m : Mf} {q : Nat} (h : m.okN q) (s : Int) : ({ m with sum := s } : Mf).okN q := ⟨⟨h.ok.t, h.ok.l, h.ok.e, h.ok.kn, h.ok.k, h.ok.jn, h.ok.j, h.ok.sn, h.ok.s⟩, h.kn, h.jn, h.sn⟩
theorem Mf.okN.sp {zz : ByteArray} (hz : zz.size ≤ 500) {m : Mf} {q : Nat} (h : m.okN q) (hq : q ≤ 800) {j z : Int} (hz' : i64ok z) : (spM zz m j z).okN (q + 1) := by
  obtain ⟨⟨ht, hl, he, hkn, hk, hjn, hj, hsn, hs⟩, h1, h2, h3⟩ := h
  have k1 := Nat.le_succ_of_le h1
  have k2 := Nat.le_succ_of_le h2
  have k3 := Nat.le_succ_of_le h3
  unfold spM
  split
  · exact ⟨⟨hz', hl, he, hkn, hk, hjn, hj, hsn, hs⟩, k1, k2, k3⟩
  split
  · exact ⟨⟨ht, hz', he, hkn, hk, hjn, hj, hsn, hs⟩, k1, k2, k3⟩
  split
  · exact ⟨⟨ht, hl, hz', hkn, hk, hjn, hj, hsn, hs⟩, k1, k2, k3⟩
  split
  · have e : (m.keys ++ [zz]).length = m.keys.length + 1 := by simp
    refine ⟨⟨ht, hl, he, by show (m.keys ++ [zz]).length ≤ _; omega, fun x hx => ?_, hjn, hj, hsn, hs⟩, by show (m.keys ++ [zz]).length ≤ _; omega, k2, k3⟩
    rcases List.mem_append.1 hx with hx | hx
    · exact hk x hx
    · rw [List.mem_singleton] at hx; subst hx; exact hz
  split
  · have e : (m.items ++ [z]).length = m.items.length + 1 := by simp
    refine ⟨⟨ht, hl, he, hkn, hk, by show (m.items ++ [z]).length ≤ _; omega, fun x hx => ?_, hsn, hs⟩, k1, by show (m.items ++ [z]).length ≤ _; omega, k3⟩
    rcases List.mem_append.1 hx with hx | hx
    · exact hj x hx
    · rw [List.mem_singleton] at hx; subst hx; exact hz'
  split
  · have e : ([z] ++ m.sessions).length = m.sessions.length + 1 := by simp
    refine ⟨⟨ht, hl, he, hkn, hk, hjn, hj, by show ([z] ++ m.sessions).length ≤ _; omega, fun x hx => ?_⟩, k1, k2, by show ([z] ++ m.sessions).length ≤ _; omega⟩
    rcases List.mem_append.1 hx with hx | hx
    · rw [List.mem_singleton] at hx; subst hx; exact hz'
    · exact hs x hx
  · exact ⟨⟨ht, hl, he, hkn, hk, hjn, hj, hsn, hs⟩, k1, k2, k3⟩
set_option maxHeartbeats 2000000 in
theorem spoilt_z (m : Mf) (k z : Int) (vk vi vs : Value) (r : World) (P F0 : List Res) (w : World) (hS : Sep r [] (P ++ F0) w) (hr : MR r F0 m vk vi vs) (q : Nat) (hm : m.okN q) (hq : q ≤ 800) :
    Calls Tryz.prog 23 #[m.val vk vi vs, .int .i64 k, .int .i64 z] w fun e w' => ∃ X vk' vi' vs', e = .returned ((spM (⟨#[122, 122]⟩ : ByteArray) m (modN k 7) z).val vk' vi' vs') ∧ MR r (X :: F0) (spM (⟨#[122, 122]⟩ : ByteArray) m (modN k 7) z) vk' vi' vs' ∧ Sep r [] (X :: (P ++ F0)) w' := by
  have hP := hr.app P
  generalize hF : P ++ F0 = F at hS hP ⊢
  have h1 := hm.kn
  have h2 := hm.jn
  have h3 := hm.sn
  obtain ⟨A1, c1, A2, c2, A3, c3, rfl, rfl, rfl⟩ := hP.form hS
  have hm7 := modN_bd k 7 (by omega)
  refine Z.enter Tryz.func23 Tryz.ntmps23 rfl rfl ?_
  repeat' (first|refine K ?_|(refine Sh.sa hS ?_;clear hS;intro w hS)|(refine K3 ?_;clear hS;intro g w hS hge)|((first|refine GS ?_ ?_|refine VB ?_ ?_)<;>intro hb<;>(try simp only [J1,J2,J3,J4,J5,J6] at hb)<;>(try (exfalso;first|omega|exact hb trivial))))
  refine Z.eff (Z.cl (modS_z k 7 _ _ _ hS (by omega) (by omega)) rfl ?_) rfl
  clear hS
  rintro e w ⟨rfl, hS⟩
  refine ⟨_, rfl, ?_⟩
  unfold spM
  generalize modN k 7 = j at *
  repeat' (first|refine K ?_|(refine Sh.sa hS ?_;clear hS;intro w hS)|(refine K3 ?_;clear hS;intro g w hS hge)|((first|refine GS ?_ ?_|refine VB ?_ ?_)<;>intro hb<;>(try simp only [J1,J2,J3,J4,J5,J6] at hb)<;>(try (exfalso;first|omega|exact hb trivial))))
  · refine Dnc Tryz.results23 ?_
    rw [if_pos hb]
    exact ⟨.pure True, _, _, _, rfl, ⟨hr.k.cons _, hr.i.cons _, hr.s.cons _⟩, (Sep.pure_open.2 ⟨trivial, hS⟩).sub (by repeat (first | exact Sub.rest | exact Sub.nil | exact .skip .rest | exact .skip (.skip .rest) | exact .skip (.skip (.skip .rest)) | apply Sub.keep | refine Sub.cons (by repeat (first | exact At.here | apply At.next)) ?_ | apply Sub.skip))⟩
  · refine Dnc Tryz.results23 ?_
    rw [if_neg (by omega), if_pos hb]
    exact ⟨.pure True, _, _, _, rfl, ⟨hr.k.cons _, hr.i.cons _, hr.s.cons _⟩, (Sep.pure_open.2 ⟨trivial, hS⟩).sub (by repeat (first | exact Sub.rest | exact Sub.nil | exact .skip .rest | exact .skip (.skip .rest) | exact .skip (.skip (.skip .rest)) | apply Sub.keep | refine Sub.cons (by repeat (first | exact At.here | apply At.next)) ?_ | apply Sub.skip))⟩
  · refine Dnc Tryz.results23 ?_
    rw [if_neg (by omega), if_neg (by omega), if_pos hb]
    exact ⟨.pure True, _, _, _, rfl, ⟨hr.k.cons _, hr.i.cons _, hr.s.cons _⟩, (Sep.pure_open.2 ⟨trivial, hS⟩).sub (by repeat (first | exact Sub.rest | exact Sub.nil | exact .skip .rest | exact .skip (.skip .rest) | exact .skip (.skip (.skip .rest)) | apply Sub.keep | refine Sub.cons (by repeat (first | exact At.here | apply At.next)) ?_ | apply Sub.skip))⟩
  · rw [if_neg (by omega), if_neg (by omega), if_neg (by omega), if_pos hb]
    refine Z.eff (Z.ap0m hS rfl rfl rfl (hP.k [] _ (hS.sb)) (by (try simp only [maxLen, List.length_take, List.length_drop, List.length_append, List.length_cons, List.length_nil, List.length_map]); omega) (by (try simp only [maxLen, List.length_take, List.length_drop, List.length_append, List.length_cons, List.length_nil, List.length_map]); omega) ?_) rfl
    clear hS; intro B1 d1 w hS
    repeat' (first|refine K ?_|(refine Sh.sa hS ?_;clear hS;intro w hS)|(refine K3 ?_;clear hS;intro g w hS hge)|((first|refine GS ?_ ?_|refine VB ?_ ?_)<;>intro hb<;>(try simp only [J1,J2,J3,J4,J5,J6] at hb)<;>(try (exfalso;first|omega|exact hb trivial))))
    refine Z.eff (Z.apm (l' := [(⟨#[122, 122]⟩ : ByteArray)]) hS rfl rfl rfl (by repeat (first | exact At.here | apply At.next)) (hS.lit1 (by repeat (first | exact At.here | apply At.next)) rfl rfl) (by (try simp only [maxLen, List.length_take, List.length_drop, List.length_append, List.length_cons, List.length_nil, List.length_map]); omega) (by (try simp only [maxLen, List.length_take, List.length_drop, List.length_append, List.length_cons, List.length_nil, List.length_map]); omega) ?_) rfl
    clear hS; intro B1 d1 w hS
    rw [← List.length_append] at hS ⊢
    repeat' (first|refine K ?_|(refine Sh.sa hS ?_;clear hS;intro w hS)|(refine K3 ?_;clear hS;intro g w hS hge)|((first|refine GS ?_ ?_|refine VB ?_ ?_)<;>intro hb<;>(try simp only [J1,J2,J3,J4,J5,J6] at hb)<;>(try (exfalso;first|omega|exact hb trivial))))
    refine Dnc Tryz.results23 ?_
    exact ⟨.sl 9 1 (.slice B1 (m.keys ++ [(⟨#[122, 122]⟩ : ByteArray)]).length d1) ((m.keys ++ [(⟨#[122, 122]⟩ : ByteArray)]).map kC), _, _, _, rfl, ⟨Reads.of_at .here, hr.i.cons _, hr.s.cons _⟩, hS.sb⟩
  · rw [if_neg (by omega), if_neg (by omega), if_neg (by omega), if_neg (by omega), if_pos hb]
    refine Z.eff (Z.ap0m hS rfl rfl rfl (hP.i [] _ (hS.sb)) (by (try simp only [maxLen, List.length_take, List.length_drop, List.length_append, List.length_cons, List.length_nil, List.length_map]); omega) (by (try simp only [maxLen, List.length_take, List.length_drop, List.length_append, List.length_cons, List.length_nil, List.length_map]); omega) ?_) rfl
    clear hS; intro B1 d1 w hS
    repeat' (first|refine K ?_|(refine Sh.sa hS ?_;clear hS;intro w hS)|(refine K3 ?_;clear hS;intro g w hS hge)|((first|refine GS ?_ ?_|refine VB ?_ ?_)<;>intro hb<;>(try simp only [J1,J2,J3,J4,J5,J6] at hb)<;>(try (exfalso;first|omega|exact hb trivial))))
    refine Z.eff (Z.apm (l' := [z]) hS rfl rfl rfl (by repeat (first | exact At.here | apply At.next)) (hS.lit1 (by repeat (first | exact At.here | apply At.next)) rfl rfl) (by (try simp only [maxLen, List.length_take, List.length_drop, List.length_append, List.length_cons, List.length_nil, List.length_map]); omega) (by (try simp only [maxLen, List.length_take, List.length_drop, List.length_append, List.length_cons, List.length_nil, List.length_map]); omega) ?_) rfl
    clear hS; intro B1 d1 w hS
    rw [← List.length_append] at hS ⊢
    repeat' (first|refine K ?_|(refine Sh.sa hS ?_;clear hS;intro w hS)|(refine K3 ?_;clear hS;intro g w hS hge)|((first|refine GS ?_ ?_|refine VB ?_ ?_)<;>intro hb<;>(try simp only [J1,J2,J3,J4,J5,J6] at hb)<;>(try (exfalso;first|omega|exact hb trivial))))
    refine Dnc Tryz.results23 ?_
    exact ⟨.sl 3 1 (.slice B1 (m.items ++ [z]).length d1) ((m.items ++ [z]).map intC), _, _, _, rfl, ⟨hr.k.cons _, Reads.of_at .here, hr.s.cons _⟩, hS.sb⟩
  · rw [if_neg (by omega), if_neg (by omega), if_neg (by omega), if_neg (by omega), if_neg (by omega), if_pos hb]
    replace hS := mk_sl (n := 1) (rows := [z].map intC) hS rfl (by omega) (by decide) (by intro row hrow; simp at hrow; subst hrow; exact ⟨rfl, by simp [intC, Value.oneCell']⟩) rfl
    refine Z.eff (Z.apm (l := [z]) (l' := m.sessions) hS rfl rfl rfl (by repeat (first | exact At.here | apply At.next)) (hP.s [] _ (hS.sb)) (by (try simp only [maxLen, List.length_take, List.length_drop, List.length_append, List.length_cons, List.length_nil, List.length_map]); omega) (by (try simp only [maxLen, List.length_take, List.length_drop, List.length_append, List.length_cons, List.length_nil, List.length_map]); omega) ?_) rfl
    clear hS; intro B1 d1 w hS
    rw [← List.length_append] at hS ⊢
    repeat' (first|refine K ?_|(refine Sh.sa hS ?_;clear hS;intro w hS)|(refine K3 ?_;clear hS;intro g w hS hge)|((first|refine GS ?_ ?_|refine VB ?_ ?_)<;>intro hb<;>(try simp only [J1,J2,J3,J4,J5,J6] at hb)<;>(try (exfalso;first|omega|exact hb trivial))))
    refine Dnc Tryz.results23 ?_
    exact ⟨.sl 3 1 (.slice B1 ([z] ++ m.sessions).length d1) (([z] ++ m.sessions).map intC), _, _, _, rfl, ⟨hr.k.cons _, hr.i.cons _, Reads.of_at .here⟩, hS.sb⟩
  · refine Dnc Tryz.results23 ?_
    rw [if_neg (by omega), if_neg (by omega), if_neg (by omega), if_neg (by omega), if_neg (by omega), if_neg (by omega)]
    exact ⟨.pure True, _, _, _, rfl, ⟨hr.k.cons _, hr.i.cons _, hr.s.cons _⟩, (Sep.pure_open.2 ⟨trivial, hS⟩).sub (by repeat (first | exact Sub.rest | exact Sub.nil | exact .skip .rest | exact .skip (.skip .rest) | exact .skip (.skip (.skip .rest)) | apply Sub.keep | refine Sub.cons (by repeat (first | exact At.here | apply At.next)) ?_ | apply Sub.skip))⟩
set_option maxHeartbeats 8000000 in
theorem checks_z (l : List Int) (A : Option Addr) (cap : Nat) (raw : Mf) (A1 : Option Addr) (c1 : Nat) (A2 : Option Addr) (c2 : Nat) (A3 : Option Addr) (c3 : Nat) (key other : Int) (wl : List Int) (Aw : Option Addr) (capw : Nat) (z : Int) (sg : Bool) (r : World)
    (hr0 : Rd r 1 A l.length (l.map (Value.int .i64))) (hraw : raw.arg r (.slice A1 raw.keys.length c1) (.slice A2 raw.items.length c2) (.slice A3 raw.sessions.length c3)) (_ : i64ok key) (_ : i64ok other) (hwr : Rows' r 1 (.slice Aw wl.length capw) (wl.map intC)) (hz : i64ok z) :
    Calls Tryz.prog 4 #[.slice A l.length cap, raw.val (.slice A1 raw.keys.length c1) (.slice A2 raw.items.length c2) (.slice A3 raw.sessions.length c3), .int .i64 key, .int .i64 other, .slice Aw wl.length capw, .int .i64 z, .bool sg] r fun e w' => e = .returned (.bool true) ∧ Chg [] r w' := by
  have hS := Sep.root r
  have hrk := fun F => Reads.root (F := F) hraw.k
  have hri := fun F => Reads.root (F := F) hraw.i
  have hrs := fun F => Reads.root (F := F) hraw.s
  have hrw := fun F => Reads.root (F := F) hwr
  refine Z.enter Tryz.func4 Tryz.ntmps4 rfl rfl ?_
  repeat' (first|refine K ?_|(refine Sh.sa hS ?_;clear hS;intro w hS)|(refine K3 ?_;clear hS;intro g w hS hge)|((first|refine GS ?_ ?_|refine VB ?_ ?_)<;>intro hb<;>(try simp only [J1,J2,J3,J4,J5,J6] at hb)<;>(try (exfalso;first|omega|exact hb trivial))))
  rename Nat => g8
  refine Z.eff (Z.cl (awake32_z _ _ _ hS) rfl ?_) rfl
  clear hS
  rintro e w ⟨rfl, hS⟩
  refine ⟨_, rfl, ?_⟩
  repeat' (first|refine K ?_|(refine Sh.sa hS ?_;clear hS;intro w hS)|(refine K3 ?_;clear hS;intro g w hS hge)|((first|refine GS ?_ ?_|refine VB ?_ ?_)<;>intro hb<;>(try simp only [J1,J2,J3,J4,J5,J6] at hb)<;>(try (exfalso;first|omega|exact hb trivial))))
  refine Z.eff (Z.cl (lightS_z A l.length cap _ _ _ hS) rfl ?_) rfl
  clear hS
  rintro e w ⟨rfl, hS⟩
  refine ⟨_, rfl, ?_⟩
  repeat' (first|refine K ?_|(refine Sh.sa hS ?_;clear hS;intro w hS)|(refine K3 ?_;clear hS;intro g w hS hge)|((first|refine GS ?_ ?_|refine VB ?_ ?_)<;>intro hb<;>(try simp only [J1,J2,J3,J4,J5,J6] at hb)<;>(try (exfalso;first|omega|exact hb trivial))))
  · refine Dnt Tryz.results4 ?_
    exact ⟨rfl, hS.chg⟩
  rename _ ≤ (150 : Int) => hlt
  refine Z.eff (Z.cl (light_z raw _ A2 A3 c2 c3 _ _ _ hS (hrk _)) rfl ?_) rfl
  clear hS
  rintro e w ⟨b, rfl, hb0, hS⟩
  refine ⟨_, rfl, ?_⟩
  cases b
  · repeat' (first|refine K ?_|(refine Sh.sa hS ?_;clear hS;intro w hS)|(refine K3 ?_;clear hS;intro g w hS hge)|((first|refine GS ?_ ?_|refine VB ?_ ?_)<;>intro hb<;>(try simp only [J1,J2,J3,J4,J5,J6] at hb)<;>(try (exfalso;first|omega|exact hb trivial))))
    refine Dnt Tryz.results4 ?_
    exact ⟨rfl, hS.chg⟩
  have hrok := arg_light hraw (hb0 rfl)
  repeat' (first|refine K ?_|(refine Sh.sa hS ?_;clear hS;intro w hS)|(refine K3 ?_;clear hS;intro g w hS hge)|((first|refine GS ?_ ?_|refine VB ?_ ?_)<;>intro hb<;>(try simp only [J1,J2,J3,J4,J5,J6] at hb)<;>(try (exfalso;first|omega|exact hb trivial))))
  · refine Dnt Tryz.results4 ?_
    exact ⟨rfl, hS.chg⟩
  have hw5 : wl.length ≤ 5 := by omega
  refine Z.eff (Z.cl (history_z l A cap _ _ _ hS hr0 (by omega)) rfl ?_) rfl
  clear hS
  rintro e w ⟨vh, rfl, hS⟩
  refine ⟨_, rfl, ?_⟩
  have hH := hist_isH l
  have hHl := hist_len l
  generalize (hist l).h = h at *
  obtain ⟨Ah, ch, rfl, hcap⟩ := (hS.slrows .here).mform
  repeat' (first|refine K ?_|(refine Sh.sa hS ?_;clear hS;intro w hS)|(refine K3 ?_;clear hS;intro g w hS hge)|((first|refine GS ?_ ?_|refine VB ?_ ?_)<;>intro hb<;>(try simp only [J1,J2,J3,J4,J5,J6] at hb)<;>(try (exfalso;first|omega|exact hb trivial))))
  refine Z.eff (Z.cl (pcfold_ok 3 1 h _ _ _ _ hS (Reads.of_at (e := 90) .here) (by omega) hH) rfl ?_) rfl
  clear hS
  rintro e w ⟨gc, gg, rfl, hS⟩
  refine ⟨_, rfl, ?_⟩
  repeat' (first|refine K ?_|(refine Sh.sa hS ?_;clear hS;intro w hS)|(refine K3 ?_;clear hS;intro g w hS hge)|((first|refine GS ?_ ?_|refine VB ?_ ?_)<;>intro hb<;>(try simp only [J1,J2,J3,J4,J5,J6] at hb)<;>(try (exfalso;first|omega|exact hb trivial))))
  refine Z.eff (Z.cl (rcfold_ok 3 1 h (.slice Ah h.length ch) _ _ _ hS (Reads.of_at (e := 90) (v := .slice Ah h.length ch) (by repeat (first | exact At.here | apply At.next))) (by omega) hH) rfl ?_) rfl
  clear hS
  rintro e w ⟨gd, gh, rfl, hS⟩
  refine ⟨_, rfl, ?_⟩
  have hc := hH.good.1.cg hH.good.1.qok
  have hch := hH.good.2.1
  have hcl : (cpOf h).h.length ≤ 60 := by rw [hch]; omega
  generalize cpOf h = c at *
  have ht1 : i64ok 1 := by unfold i64ok; omega
  have hm := mfOf_ok (ten := 1) (key := key) hc ht1 (by omega)
  have ho := hc.ok
  have hmN : (mfOf 1 key c).okN 0 := ⟨hm, by show (c.s.map Ce.key).length ≤ _; rw [List.length_map]; omega, by show (c.q.l.map It.number).length ≤ _; rw [List.length_map]; omega, by show ((List.range 8).map c.t.n).length ≤ _; simp⟩
  repeat' (first|refine K ?_|(refine Sh.sa hS ?_;clear hS;intro w hS)|(refine K3 ?_;clear hS;intro g w hS hge)|((first|refine GS ?_ ?_|refine VB ?_ ?_)<;>intro hb<;>(try simp only [J1,J2,J3,J4,J5,J6] at hb)<;>(try (exfalso;first|omega|exact hb trivial))))
  replace hS := hS.fo (R := PC gc _ _ _ _)
  refine Z.eff (Z.cl (pmake_z gc 3 1 _ c key _ _ _ hS hc (by omega) ht1) rfl ?_) rfl
  clear hS
  rintro e w ⟨vk, vi, vs, rfl, hS⟩
  refine ⟨_, rfl, ?_⟩
  obtain ⟨D1, d1, rfl, _⟩ := (hS.slrows (e := 9) (v := vk) (by repeat (first | exact At.here | apply At.next))).mform
  obtain ⟨D2, d2, rfl, _⟩ := (hS.slrows (e := 3) (v := vi) (by repeat (first | exact At.here | apply At.next))).mform
  obtain ⟨D3, d3, rfl, _⟩ := (hS.slrows (e := 3) (v := vs) (by repeat (first | exact At.here | apply At.next))).mform
  repeat' (first|refine K ?_|(refine Sh.sa hS ?_;clear hS;intro w hS)|(refine K3 ?_;clear hS;intro g w hS hge)|((first|refine GS ?_ ?_|refine VB ?_ ?_)<;>intro hb<;>(try simp only [J1,J2,J3,J4,J5,J6] at hb)<;>(try (exfalso;first|omega|exact hb trivial))))
  rename Nat => g22
  refine Z.lpS [14, 24, 65, 66, 67, 68, 69, 70, 71, 72, 73, 74, 75, 76, 77, 78, 79, 80, 81, 82, 83, 84, 85, 86, 87, 88, 89, 90, 91, 92, 93, 94, 95, 96, 97, 98, 99, 100, 101, 102, 103, 104, 105, 106, 107, 108, 109, 110, 111, 112, 113, 114, 115, 116] (fun m w s => ∃ (q : Nat) (M : Mf) (L0 : List Res) (vk vi vs : Value), s = [(65, .int .i64 q)] ∧ q ≤ wl.length ∧ M.okN q ∧ MR r L0 M vk vi vs ∧ m = wl.length - q ∧ Sep r [] (.blk g22 36 (M.cells vk vi vs) :: .blk g8 36 (raw.cells (.slice A1 raw.keys.length c1) (.slice A2 raw.items.length c2) (.slice A3 raw.sessions.length c3)) :: PC gc 3 1 (.pointer (some ⟨gg, 0, .none⟩)) c :: CR gd 3 1 (.pointer (some ⟨gh, 0, .none⟩)) c :: L0) w) _ [(65, .int .i64 (0 : Nat))] (by repeat (first | exact trivial | refine ⟨rfl, ?_⟩)) ⟨0, mfOf 1 key c, [.sl 9 1 (.slice D1 (mfOf 1 key c).keys.length d1) ((mfOf 1 key c).keys.map kC), .sl 3 1 (.slice D2 (mfOf 1 key c).items.length d2) ((mfOf 1 key c).items.map intC), .sl 3 1 (.slice D3 (mfOf 1 key c).sessions.length d3) ((mfOf 1 key c).sessions.map intC)], (.slice D1 (mfOf 1 key c).keys.length d1), (.slice D2 (mfOf 1 key c).items.length d2), (.slice D3 (mfOf 1 key c).sessions.length d3), rfl, by omega, hmN, ⟨Reads.of_at (e := 9) (v := (.slice D1 (mfOf 1 key c).keys.length d1)) (by repeat (first | exact At.here | apply At.next)), Reads.of_at (e := 3) (v := (.slice D2 (mfOf 1 key c).items.length d2)) (by repeat (first | exact At.here | apply At.next)), Reads.of_at (e := 3) (v := (.slice D3 (mfOf 1 key c).sessions.length d3)) (by repeat (first | exact At.here | apply At.next))⟩, rfl, hS.sb⟩ ?_
  clear hS hm hmN
  rintro m f0 w _ ⟨q, M, L0, vk, vi, vs, rfl, hq, hM, hr, rfl, hS⟩
  by_cases hlt2 : q < wl.length
  · obtain ⟨gb, o, hAe, _, hra⟩ := (hrw _ [] w hS).mat (by omega) (q := q) (by simpa using hlt2)
    subst hAe
    generalize wl[q] = wk at *
    obtain ⟨B1, d1, B2, d2, B3, d3, rfl, rfl, rfl⟩ := (hr.app [_, _, _, _]).form hS
    repeat' (first|refine K ?_|(refine Sh.sa hS ?_;clear hS;intro w hS)|(refine K3 ?_;clear hS;intro g w hS hge)|((first|refine GS ?_ ?_|refine VB ?_ ?_)<;>intro hb<;>(try simp only [J1,J2,J3,J4,J5,J6] at hb)<;>(try (exfalso;first|omega|exact hb trivial))))
    refine Z.eff (Z.cl (spoilt_z M wk z _ _ _ r [_, _, _, _] L0 _ hS hr q hM (by omega)) rfl ?_) rfl
    clear hS
    rintro e w ⟨X, vk, vi, vs, rfl, hr, hS⟩
    refine ⟨_, rfl, ?_⟩
    simp only [List.cons_append, List.nil_append] at hS
    replace hM := hM.sp (zz := (⟨#[122, 122]⟩ : ByteArray)) (by decide) (by omega) (j := modN wk 7) hz
    generalize spM (⟨#[122, 122]⟩ : ByteArray) M (modN wk 7) z = M at *
    obtain ⟨B1, d1, B2, d2, B3, d3, rfl, rfl, rfl⟩ := (hr.app []).form (hS.sub (L' := X :: L0) (by repeat (first | exact Sub.rest | exact Sub.nil | exact .skip .rest | exact .skip (.skip .rest) | exact .skip (.skip (.skip .rest)) | apply Sub.keep | refine Sub.cons (by repeat (first | exact At.here | apply At.next)) ?_ | apply Sub.skip)))
    repeat' (first|refine Kn ?_|(refine Sh.sa hS ?_;clear hS;intro w hS)|(refine K3 ?_;clear hS;intro g w hS hge)|((first|refine GS ?_ ?_|refine VB ?_ ?_)<;>intro hb<;>(try simp only [J1,J2,J3,J4,J5,J6] at hb)<;>(try (exfalso;first|omega|exact hb trivial))))
    refine Z.thN ?_
    refine Z.seq ?_
    refine Z.cut [73, 74, 75, 76, 77] (fun w s => ∃ (M2 : Mf), s = [] ∧ M2.okN (q + 1) ∧ MR r (X :: L0) M2 (.slice B1 M2.keys.length d1) (.slice B2 M2.items.length d2) (.slice B3 M2.sessions.length d3) ∧ Sep r [] (.blk g22 36 (M2.cells (.slice B1 M2.keys.length d1) (.slice B2 M2.items.length d2) (.slice B3 M2.sessions.length d3)) :: .blk g8 36 (raw.cells (.slice A1 raw.keys.length c1) (.slice A2 raw.items.length c2) (.slice A3 raw.sessions.length c3)) :: PC gc 3 1 (.pointer (some ⟨gg, 0, .none⟩)) c :: CR gd 3 1 (.pointer (some ⟨gh, 0, .none⟩)) c :: X :: L0) w) ?_ ?_
    · cases sg
      · repeat' (first|refine K ?_|(refine Sh.sa hS ?_;clear hS;intro w hS)|(refine K3 ?_;clear hS;intro g w hS hge)|((first|refine GS ?_ ?_|refine VB ?_ ?_)<;>intro hb<;>(try simp only [J1,J2,J3,J4,J5,J6] at hb)<;>(try (exfalso;first|omega|exact hb trivial))))
        refine Z.cutE [] (by repeat (first | with_reducible exact Same.refl | with_reducible exact Same.mix | ((with_reducible refine Same.upd ?_ ?_); · rfl) | ((with_reducible refine Same.cons ?_ ?_); · rfl) | with_reducible refine Same.nil ?_ | ((with_reducible refine Same.mixS ?_ ?_); · rfl))) (by repeat (first | exact trivial | refine ⟨rfl, ?_⟩)) ?_
        exact ⟨M, rfl, hM, hr, hS.sb⟩
      · repeat' (first|refine K ?_|(refine Sh.sa hS ?_;clear hS;intro w hS)|(refine K3 ?_;clear hS;intro g w hS hge)|((first|refine GS ?_ ?_|refine VB ?_ ?_)<;>intro hb<;>(try simp only [J1,J2,J3,J4,J5,J6] at hb)<;>(try (exfalso;first|omega|exact hb trivial))))
        replace hS : Sep r [] (_ :: .blk g8 36 (raw.cells (.slice A1 raw.keys.length c1) (.slice A2 raw.items.length c2) (.slice A3 raw.sessions.length c3)) :: PC gc 3 1 (.pointer (some ⟨gg, 0, .none⟩)) c :: CR gd 3 1 (.pointer (some ⟨gh, 0, .none⟩)) c :: X :: L0) _ := hS.sb
        refine Z.eff (Z.cl (psum_z M hM.ok _ _ _ key _ _ _ hS (hr.k.app [_, _, _, _]) (hr.i.app [_, _, _, _]) (hr.s.app [_, _, _, _])) rfl ?_) rfl
        clear hS
        rintro e w ⟨rfl, hS⟩
        refine ⟨_, rfl, ?_⟩
        repeat' (first|refine K ?_|(refine Sh.sa hS ?_;clear hS;intro w hS)|(refine K3 ?_;clear hS;intro g w hS hge)|((first|refine GS ?_ ?_|refine VB ?_ ?_)<;>intro hb<;>(try simp only [J1,J2,J3,J4,J5,J6] at hb)<;>(try (exfalso;first|omega|exact hb trivial))))
        refine Z.cutE [] (by repeat (first | with_reducible exact Same.refl | with_reducible exact Same.mix | ((with_reducible refine Same.upd ?_ ?_); · rfl) | ((with_reducible refine Same.cons ?_ ?_); · rfl) | with_reducible refine Same.nil ?_ | ((with_reducible refine Same.mixS ?_ ?_); · rfl))) (by repeat (first | exact trivial | refine ⟨rfl, ?_⟩)) ?_
        exact ⟨{ M with sum := sumF key (mfL M) }, rfl, hM.sum _, ⟨hr.k, hr.i, hr.s⟩, hS.sb⟩
    clear hS hr hM
    rintro f0 w _ ⟨M, rfl, hM, hr, hS⟩
    repeat' (first|refine K ?_|(refine Sh.sa hS ?_;clear hS;intro w hS)|(refine K3 ?_;clear hS;intro g w hS hge)|((first|refine GS ?_ ?_|refine VB ?_ ?_)<;>intro hb<;>(try simp only [J1,J2,J3,J4,J5,J6] at hb)<;>(try (exfalso;first|omega|exact hb trivial))))
    refine D.startS (Lr := [.blk g22 36 (M.cells (.slice B1 M.keys.length d1) (.slice B2 M.items.length d2) (.slice B3 M.sessions.length d3)), .blk g8 36 (raw.cells (.slice A1 raw.keys.length c1) (.slice A2 raw.items.length c2) (.slice A3 raw.sessions.length c3))]) (hS.sb) 38 38 (by kernel_rfl) rfl ?_
    replace hS := hS.drew
    refine Sh.dp 0 1 ?_
    refine Sh.dp 2 5 ?_
    refine Sh.dp 4 21 ?_
    refine Sh.dp 6 85 ?_
    refine Sh.dl 1 87 ?_
    refine Sh.dl 5 119 ?_
    refine D.eff 3 127 rfl D.wantedN (by kernel_rfl) (by kernel_rfl) (fun _ _ h => h) ?_
    replace hS := hS.fo (R := PC gc _ _ _ _)
    refine Z.cl (pcheck_z gc 3 1 _ c M _ _ _ key _ _ _ hS (hr.app [_, _, _]) hM.ok hc (by omega) ht1) rfl ?_
    clear hS
    rintro e w ⟨rfl, hS⟩
    refine ⟨_, rfl, ?_⟩
    refine ⟨HM.s (hS.sb), ?_⟩
    refine D.eff 7 255 rfl D.wantedN (by kernel_rfl) (by kernel_rfl) (fun _ _ h => h) ?_
    replace hS := hS.fo (R := CR gd _ _ _ _)
    refine Z.cl (rcheck_z gd 3 1 _ c M _ _ _ key _ _ _ hS (hr.app [_, _, _]) hM.ok hc (by omega) ht1) rfl ?_
    clear hS
    rintro e w ⟨rfl, hS⟩
    refine ⟨_, rfl, ?_⟩
    refine ⟨HM.s (hS.sb), ?_⟩
    first | refine D.pr 8 511 rfl D.wantedN (by kernel_rfl) rfl ?_ | refine D.pl 8 511 rfl D.wantedN (by kernel_rfl) (R.nea rfl rfl rfl rfl) ?_
    refine Sh.dp 9 1023 ?_
    refine D.slot 87 rfl (fun hb => by exfalso; (try simp only [decide_eq_true_eq, decide_eq_false_iff_not, Bool.not_eq_true', Bool.not_eq_false', Int.not_lt, Int.not_le] at hb) <;> first | omega | exact hb trivial | cases hb | simp at hb) (fun hb => ?_)
    (try simp only [decide_eq_true_eq, decide_eq_false_iff_not, Bool.not_eq_true', Bool.not_eq_false', Int.not_lt, Int.not_le] at hb)
    refine Sh.dp 10 2047 ?_
    refine Sh.dp 12 6143 ?_
    refine Sh.dp 14 22527 ?_
    refine Sh.dp 16 88063 ?_
    refine Sh.dl 11 90111 ?_
    refine Sh.dl 15 122879 ?_
    refine D.eff 13 131071 rfl (D.wantedT rfl rfl) (by kernel_rfl) (by kernel_rfl) (fun _ _ h => h) ?_
    refine WE.guard ?_
    replace hS := hS.fo (R := PC gc _ _ _ _)
    refine Z.cl (pcheck_z gc 3 1 _ c M _ _ _ other _ _ _ hS (hr.app [_, _, _]) hM.ok hc (by omega) ht1) rfl ?_
    clear hS
    rintro e w ⟨rfl, hS⟩
    refine ⟨_, rfl, ?_⟩
    refine ⟨HM.s (hS.sb), ?_⟩
    refine D.eff 17 262143 rfl (D.wantedT rfl rfl) (by kernel_rfl) (by kernel_rfl) (fun _ _ h => h) ?_
    refine WE.guard ?_
    replace hS := hS.fo (R := CR gd _ _ _ _)
    refine Z.cl (rcheck_z gd 3 1 _ c M _ _ _ other _ _ _ hS (hr.app [_, _, _]) hM.ok hc (by omega) ht1) rfl ?_
    clear hS
    rintro e w ⟨rfl, hS⟩
    refine ⟨_, rfl, ?_⟩
    refine ⟨HM.s (hS.sb), ?_⟩
    first | refine D.pr 18 524287 rfl (D.wantedT rfl rfl) (by kernel_rfl) rfl ?_ | refine D.pl 18 524287 rfl (D.wantedT rfl rfl) (by kernel_rfl) (R.nea rfl rfl rfl rfl) ?_
    refine Sh.dp 19 1048575 ?_
    refine Sh.dp 20 2097151 ?_
    refine D.slot 98 rfl (fun hb => by exfalso; (try simp only [decide_eq_true_eq, decide_eq_false_iff_not, Bool.not_eq_true', Bool.not_eq_false', Int.not_lt, Int.not_le] at hb) <;> first | omega | exact hb trivial | cases hb | simp at hb) (fun hb => ?_)
    (try simp only [decide_eq_true_eq, decide_eq_false_iff_not, Bool.not_eq_true', Bool.not_eq_false', Int.not_lt, Int.not_le] at hb)
    refine Sh.dp 21 4194303 ?_
    refine Sh.dp 24 20971519 ?_
    refine Sh.dl 22 25165823 ?_
    refine Sh.dl 25 58720255 ?_
    refine D.eff 23 67108863 rfl (D.wantedT rfl rfl) (by kernel_rfl) (by kernel_rfl) (fun _ _ h => h) ?_
    refine WE.guard ?_
    replace hS := hS.fo (R := PC gc _ _ _ _)
    refine Z.cl (pmissing_z gc 3 1 _ c M B1 B2 B3 _ _ _ d1 d2 d3 _ _ _ hS hM.ok.l) rfl ?_
    clear hS
    rintro e w ⟨rfl, hS⟩
    refine ⟨_, rfl, ?_⟩
    refine ⟨HM.s (hS.sb), ?_⟩
    refine D.eff 26 134217727 rfl (D.wantedT rfl rfl) (by kernel_rfl) (by kernel_rfl) (fun _ _ h => h) ?_
    refine WE.guard ?_
    replace hS := hS.fo (R := CR gd _ _ _ _)
    refine Z.cl (rmissing_z gd 3 1 _ c M B1 B2 B3 _ _ _ d1 d2 d3 _ _ _ hS hM.ok.l (by omega)) rfl ?_
    clear hS
    rintro e w ⟨rfl, hS⟩
    refine ⟨_, rfl, ?_⟩
    refine ⟨HM.s (hS.sb), ?_⟩
    first | refine D.pr 27 268435455 rfl (D.wantedT rfl rfl) (by kernel_rfl) rfl ?_ | refine D.pl 27 268435455 rfl (D.wantedT rfl rfl) (by kernel_rfl) (R.nea rfl rfl rfl rfl) ?_
    refine Sh.dp 28 536870911 ?_
    refine Sh.dp 29 1073741823 ?_
    refine D.slot 107 rfl (fun hb => by exfalso; (try simp only [decide_eq_true_eq, decide_eq_false_iff_not, Bool.not_eq_true', Bool.not_eq_false', Int.not_lt, Int.not_le] at hb) <;> first | omega | exact hb trivial | cases hb | simp at hb) (fun hb => ?_)
    (try simp only [decide_eq_true_eq, decide_eq_false_iff_not, Bool.not_eq_true', Bool.not_eq_false', Int.not_lt, Int.not_le] at hb)
    refine Sh.dl 30 2147483647 ?_
    refine Sh.dl 31 4294967295 ?_
    refine Sh.dl 33 12884901887 ?_
    refine Sh.dl 34 30064771071 ?_
    refine D.eff 32 34359738367 rfl (D.wantedT rfl rfl) (by kernel_rfl) (by kernel_rfl) (fun _ _ h => h) ?_
    refine WE.guard ?_
    refine Z.cl (psameM_z M raw _ _ _ _ _ _ _ _ _ hS (hr.app [_, _, _, _]) ⟨hrk _, hri _, hrs _⟩ hM.ok.few hrok.few) rfl ?_
    clear hS
    rintro e w ⟨rfl, hS⟩
    refine ⟨_, rfl, ?_⟩
    refine ⟨HM.s (hS.sb), ?_⟩
    refine D.eff 35 68719476735 rfl (D.wantedT rfl rfl) (by kernel_rfl) (by kernel_rfl) (fun _ _ h => h) ?_
    refine WE.guard ?_
    refine Z.cl (rsameM_z M raw _ _ _ _ _ _ _ _ _ hS (hr.app [_, _, _, _]) ⟨hrk _, hri _, hrs _⟩ hM.ok.few hrok.few) rfl ?_
    clear hS
    rintro e w ⟨rfl, hS⟩
    refine ⟨_, rfl, ?_⟩
    refine ⟨HM.s (hS.sb), ?_⟩
    first | refine D.pr 36 137438953471 rfl (D.wantedT rfl rfl) (by kernel_rfl) rfl ?_ | refine D.pl 36 137438953471 rfl (D.wantedT rfl rfl) (by kernel_rfl) (R.nea rfl rfl rfl rfl) ?_
    refine Sh.dp 37 274877906943 ?_
    refine D.done (by kernel_rfl) ?_
    repeat' (first|refine K ?_|(refine Sh.sa hS ?_;clear hS;intro w hS)|(refine K3 ?_;clear hS;intro g w hS hge)|((first|refine GS ?_ ?_|refine VB ?_ ?_)<;>intro hb<;>(try simp only [J1,J2,J3,J4,J5,J6] at hb)<;>(try (exfalso;first|omega|exact hb trivial))))
    all_goals (try (exfalso; first | exact hb rfl | (simp at hb; done)))
    refine Sh.again (wl.length - (q + 1)) [(65, .int .i64 (q + 1 : Nat))] ?_
    exact ⟨q + 1, M, X :: L0, _, _, _, rfl, by omega, hM, hr, rfl, hS.sb⟩
  · repeat' (first|refine K ?_|(refine Sh.sa hS ?_;clear hS;intro w hS)|(refine K3 ?_;clear hS;intro g w hS hge)|((first|refine GS ?_ ?_|refine VB ?_ ?_)<;>intro hb<;>(try simp only [J1,J2,J3,J4,J5,J6] at hb)<;>(try (exfalso;first|omega|exact hb trivial))))
    refine D.startS (Lr := [.blk g8 36 (raw.cells (.slice A1 raw.keys.length c1) (.slice A2 raw.items.length c2) (.slice A3 raw.sessions.length c3))]) (hS.sb) 19 19 (by kernel_rfl) rfl ?_
    replace hS := hS.drew
    refine Sh.dp 0 1 ?_
    refine Sh.dp 2 5 ?_
    refine Sh.dp 4 21 ?_
    refine Sh.dp 6 85 ?_
    refine Sh.dl 1 87 ?_
    refine Sh.dl 5 119 ?_
    refine D.eff 3 127 rfl D.wantedN (by kernel_rfl) (by kernel_rfl) (fun _ _ h => h) ?_
    replace hS := hS.fo (R := PC gc _ _ _ _)
    refine Z.cl (pcheck_z gc 3 1 _ c raw _ _ _ key _ _ _ hS ⟨hrk _, hri _, hrs _⟩ hrok hc (by omega) ht1) rfl ?_
    clear hS
    rintro e w ⟨rfl, hS⟩
    refine ⟨_, rfl, ?_⟩
    refine ⟨HM.s (hS.sb), ?_⟩
    refine D.eff 7 255 rfl D.wantedN (by kernel_rfl) (by kernel_rfl) (fun _ _ h => h) ?_
    replace hS := hS.fo (R := CR gd _ _ _ _)
    refine Z.cl (rcheck_z gd 3 1 _ c raw _ _ _ key _ _ _ hS ⟨hrk _, hri _, hrs _⟩ hrok hc (by omega) ht1) rfl ?_
    clear hS
    rintro e w ⟨rfl, hS⟩
    refine ⟨_, rfl, ?_⟩
    refine ⟨HM.s (hS.sb), ?_⟩
    first | refine D.pr 8 511 rfl D.wantedN (by kernel_rfl) rfl ?_ | refine D.pl 8 511 rfl D.wantedN (by kernel_rfl) (R.eqa rfl rfl rfl rfl) ?_
    refine Sh.dp 9 1023 ?_
    refine D.slot 126 rfl (fun hb => ?_) (fun hb => by exfalso; (try simp only [decide_eq_true_eq, decide_eq_false_iff_not, Bool.not_eq_true', Bool.not_eq_false', Int.not_lt, Int.not_le] at hb) <;> first | omega | exact hb trivial | cases hb | simp at hb)
    (try simp only [decide_eq_true_eq, decide_eq_false_iff_not, Bool.not_eq_true', Bool.not_eq_false', Int.not_lt, Int.not_le] at hb)
    refine Sh.dp 10 2047 ?_
    refine Sh.dp 13 10239 ?_
    refine Sh.dl 11 12287 ?_
    refine Sh.dl 14 28671 ?_
    refine D.eff 12 32767 rfl (D.wantedT rfl rfl) (by kernel_rfl) (by kernel_rfl) (fun _ _ h => h) ?_
    refine WE.guard ?_
    replace hS := hS.fo (R := PC gc _ _ _ _)
    refine Z.cl (pmissing_z gc 3 1 _ c raw A1 A2 A3 _ _ _ c1 c2 c3 _ _ _ hS hrok.l) rfl ?_
    clear hS
    rintro e w ⟨rfl, hS⟩
    refine ⟨_, rfl, ?_⟩
    refine ⟨HM.s (hS.sb), ?_⟩
    refine D.eff 15 65535 rfl (D.wantedT rfl rfl) (by kernel_rfl) (by kernel_rfl) (fun _ _ h => h) ?_
    refine WE.guard ?_
    replace hS := hS.fo (R := CR gd _ _ _ _)
    refine Z.cl (rmissing_z gd 3 1 _ c raw A1 A2 A3 _ _ _ c1 c2 c3 _ _ _ hS hrok.l (by omega)) rfl ?_
    clear hS
    rintro e w ⟨rfl, hS⟩
    refine ⟨_, rfl, ?_⟩
    refine ⟨HM.s (hS.sb), ?_⟩
    first | refine D.pr 16 131071 rfl (D.wantedT rfl rfl) (by kernel_rfl) rfl ?_ | refine D.pl 16 131071 rfl (D.wantedT rfl rfl) (by kernel_rfl) (R.eqa rfl rfl rfl rfl) ?_
    refine Sh.dp 17 262143 ?_
    refine Sh.dp 18 524287 ?_
    refine D.done (by kernel_rfl) ?_
    repeat' (first|refine K ?_|(refine Sh.sa hS ?_;clear hS;intro w hS)|(refine K3 ?_;clear hS;intro g w hS hge)|((first|refine GS ?_ ?_|refine VB ?_ ?_)<;>intro hb<;>(try simp only [J1,J2,J3,J4,J5,J6] at hb)<;>(try (exfalso;first|omega|exact hb trivial))))
    refine Dnt Tryz.results4 ?_
    exact ⟨by simp [Z.packR], hS.chg⟩
set_option maxRecDepth 100000 in
theorem handoverChecks_lifted (os : Os) (started : os.Started) (H : Type) (enc : TypeId × Value → H) :
    ReturnsInHanded {} Tryz.checked os 4 .any (Rows.handoverChecksSpec.pre6 enc Tryz.prog Tryz.f4 Rows.handoverChecksRow.domain false) (Rows.handoverChecksSpec.post enc Tryz.prog Tryz.f4 false Rows.handoverChecksRow.fresh Rows.handoverChecksRow.handsOn Rows.handoverChecksRow.again) := by
  refine returnsInHanded_of_change (C := Tryz.checked) Tryz.own started (by kernel_rfl) Tryz.func4
    (ChangeSpec.witness6 (enc := enc) (C := Tryz.checked) false ⟨#[], #[.slice none 0 0, .agg #[.int .i64 0, .int .i64 0, .int .i64 0, .slice none 0 0, .slice none 0 0, .slice none 0 0, .int .u64 0], .int .i64 0, .int .i64 0, .slice none 0 0, .int .i64 0, .bool false], []⟩ 8 (by kernel_rfl) (by kernel_rfl) (by kernel_rfl) (by kernel_rfl)) ?_
  intro W base args ds gs before hval0 hW _ _
  have hval : ∀ (j : Nat) t v, Tryz.f4.params[j]? = some t → args[j]? = some v → Value.okWide Tryz.prog W .any base t v := hval0
  have hW0 := hW
  obtain ⟨p, q, hA0, hV, hpq, _, _⟩ := hW
  obtain ⟨la⟩ := args
  have hA : DataW.TrodAll enc Tryz.prog W 0 (fun _ => true) true [22, 36, 3, 3, 22, 3, 4] la ds p := by have := hA0; rw [Tryz.params4] at this; exact this
  rw [Tryz.params4] at hval
  obtain ⟨v0, la0, d0, ds0, p0, q0, rfl, rfl, rfl, h0, hA⟩ := trodAll_cons hA
  obtain ⟨v1, la1, d1, ds1, p1, q1, rfl, rfl, rfl, h1, hA⟩ := trodAll_cons hA
  obtain ⟨v2, la2, d2, ds2, p2, q2, rfl, rfl, rfl, h2, hA⟩ := trodAll_cons hA
  obtain ⟨v3, la3, d3, ds3, p3, q3, rfl, rfl, rfl, h3, hA⟩ := trodAll_cons hA
  obtain ⟨v4, la4, d4, ds4, p4, q4, rfl, rfl, rfl, h4, hA⟩ := trodAll_cons hA
  obtain ⟨v5, la5, d5, ds5, p5, q5, rfl, rfl, rfl, h5, hA⟩ := trodAll_cons hA
  obtain ⟨v6, la6, d6, ds6, p6, q6, rfl, rfl, rfl, h6, hA⟩ := trodAll_cons hA
  obtain ⟨rfl, rfl, rfl⟩ := trodAll_nil hA
  obtain ⟨l0, A0, cap0, rfl, hr0⟩ := arg_ints (hval 0 _ _ rfl rfl) h0
  obtain ⟨x1, A1, c1, B1, d1, C1, e1, rfl, hr1⟩ := arg_mf (hval 1 _ _ rfl rfl) h1
  obtain ⟨z2, rfl, hr2⟩ := arg_int (hval 2 _ _ rfl rfl) h2
  obtain ⟨z3, rfl, hr3⟩ := arg_int (hval 3 _ _ rfl rfl) h3
  obtain ⟨l4, A4, cap4, rfl, _, hr4⟩ := arg_intsr (hval 4 _ _ rfl rfl) h4
  obtain ⟨z5, rfl, hr5⟩ := arg_int (hval 5 _ _ rfl rfl) h5
  obtain ⟨b6, rfl⟩ := arg_bool (hval 6 _ _ rfl rfl) h6
  have fin : Calls Tryz.prog 4 _ W fun e W' => e = .returned (.bool true) ∧ Chg [] W W' := checks_z l0 A0 cap0 x1 A1 c1 B1 d1 C1 e1 z2 z3 l4 A4 cap4 z5 b6 W hr0 hr1 hr2 hr3 hr4 hr5 
  refine fin.mono fun e W' ⟨he, hc⟩ => ⟨_, he, ?_⟩
  exact law_post Tryz.laidOut (by rw [Tryz.params4]; intro t ht; simp only [List.mem_cons, List.not_mem_nil, or_false] at ht; rcases ht with rfl | rfl | rfl | rfl | rfl | rfl | rfl <;> exact ⟨by kernel_rfl, of_decide_eq_true (by kernel_rfl)⟩) rfl rfl Tryz.underlying4 rfl hW0 hc.below
theorem handoverChecks_holds : Rows.HandoverChecksSaid :=
  OpenClaim.holds_of_wide 4 Tryz.f4 rfl rfl rfl rfl rfl rfl rfl ⟨rfl, rfl, rfl, rfl, rfl⟩ rfl rfl rfl rfl rfl (by kernel_rfl) Tryz.func4 (by kernel_rfl)
    (of_decide_eq_true (by kernel_rfl)) (by unfold Func.isWrapper; rw [if_neg (of_decide_eq_false (by kernel_rfl))]; exact ⟨rfl, rfl⟩)
    (fun os started H enc _ => handoverChecks_lifted os started H enc)
end Go.Proofs.YtiabhlogadboeaaGreat
