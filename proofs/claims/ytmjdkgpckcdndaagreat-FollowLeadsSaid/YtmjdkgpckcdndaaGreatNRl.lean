/-
  The walks of the reference's leader.
-/
import Derived.Test.YtmjdkgpckcdndaaGreatNLdP
import Derived.Test.YtmjdkgpckcdndaaGreatNFt
import Derived.Test.YtmjdkgpckcdndaaGreatZx
namespace Go.Proofs.YtmjdkgpckcdndaaGreat
open Go.RowKit
set_option linter.unusedSimpArgs false
set_option linter.unusedVariables false
attribute [local irreducible] Res.blk Res.sl Res.all Res.ex Res.pure Res.star

def Sd.rc (x : Sd) : List Value := [.int .i64 x.cell, .int .i64 x.applied, .int .i64 x.next, .bool x.req]
theorem Sd.rc_ok {l : List Sd} : ∀ row, row ∈ l.map Sd.rc → row.length = 4 ∧ ∀ u, u ∈ row → u.oneCell' = true := by
  intro row hr
  obtain ⟨x, _, rfl⟩ := List.mem_map.1 hr
  exact ⟨rfl, by simp [Sd.rc, Value.oneCell']⟩
def RL (gl : Nat) (L : Ld) : Res := .ex fun A => .ex fun c0 => .all [.blk gl 50 [.int .i64 L.ep, .int .i64 L.lag, .int .i64 L.acked, .slice A L.l.length c0], .sl 90 4 (.slice A L.l.length c0) (L.l.map Sd.rc)]
theorem Sep.RL_open {r w : World} {M : List Nat} {F : List Res} {gl : Nat} {L : Ld} : Sep r M (RL gl L :: F) w ↔ ∃ A c0, Sep r M (.blk gl 50 [.int .i64 L.ep, .int .i64 L.lag, .int .i64 L.acked, .slice A L.l.length c0] :: .sl 90 4 (.slice A L.l.length c0) (L.l.map Sd.rc) :: F) w := by
  simp only [RL, Sep.ex_open, Sep.all_open, List.cons_append, List.nil_append]
def atI (l : List Sd) (c : Int) : Int := match sdAt l c with | some _ => (sidx l c : Nat) | none => -1
theorem sidx_first : ∀ {l : List Sd} {c : Int} {k : Nat} (hk : k < l.length), l[k].cell = c → (∀ j (hj : j < l.length), j < k → l[j].cell ≠ c) → sidx l c = k ∧ sdAt l c = some l[k]
  | x :: l, c, 0, _, h, _ => by simp at h; simp [sdAt, sidx, h]
  | x :: l, c, k + 1, hk, h, hn => by
    have h0 : x.cell ≠ c := hn 0 (by simp) (by omega)
    have ih := sidx_first (l := l) (c := c) (k := k) (by simpa using hk) (by simpa using h) (fun j hj hjk => hn (j + 1) (by simpa using hj) (by omega))
    have e : sidx (x :: l) c = sidx l c + 1 := by simp [sidx, h0]
    refine ⟨by rw [e, ih.1], ?_⟩
    unfold sdAt
    rw [e, List.getElem?_cons_succ]
    have := ih.2
    unfold sdAt at this
    rw [this]
    simp
theorem sidx_no : ∀ {l : List Sd} {c : Int}, (∀ j (hj : j < l.length), l[j].cell ≠ c) → sdAt l c = none
  | [], c, _ => by simp [sdAt]
  | x :: l, c, hn => by
    have h0 : x.cell ≠ c := hn 0 (by simp)
    have ih := sidx_no (l := l) (c := c) (fun j hj => hn (j + 1) (by simpa using hj))
    have e : sidx (x :: l) c = sidx l c + 1 := by simp [sidx, h0]
    unfold sdAt at ih ⊢
    rw [e, List.getElem?_cons_succ, ih]
theorem spos_first : ∀ {l : List Sd} {c : Int} {k : Nat}, k ≤ l.length → (∀ j (hj : j < l.length), j < k → l[j].cell < c) → (∀ hk : k < l.length, ¬ l[k].cell < c) → spos l c = k
  | [], c, k, hk, _, _ => by simp at hk; subst hk; rfl
  | x :: l, c, 0, _, _, h => by have h0 := h (by simp); simp at h0; simp only [spos]; rw [if_neg (by omega)]
  | x :: l, c, k + 1, hk, hn, h => by
    have h0 : x.cell < c := hn 0 (by simp) (by omega)
    simp only [spos]
    rw [if_pos h0, spos_first (l := l) (k := k) (by simpa using hk) (fun j hj hjk => hn (j + 1) (by simpa using hj) (by omega)) (fun hk' => h (by simpa using hk'))]

theorem spos_le : ∀ (l : List Sd) (c : Int), spos l c ≤ l.length
  | [], _ => Nat.le_refl _
  | x :: l, c => by
    unfold spos
    have := spos_le l c
    split <;> simp <;> omega
set_option maxHeartbeats 1000000 in
theorem rlat_z (gl : Nat) (v0 v1 v2 v : Value) (l : List Sd) (c : Int) (r : World) (F : List Res) (w : World) (hS : Sep r [] (.blk gl 50 [v0, v1, v2, v] :: F) w) (hrd : Reads r F 4 v (l.map Sd.rc)) (hl : l.length ≤ 1000) :
    Calls Tryz.prog 44 #[.pointer (some ⟨gl, 0, none⟩), .int .i64 c] w fun e w' => e = .returned (.int .i64 (atI l c)) ∧ Sep r [] (.blk gl 50 [v0, v1, v2, v] :: F) w' := by
  obtain ⟨A, cc, rfl, hcc⟩ := (hrd [_] w hS).mform
  refine Z.enter Tryz.func44 Tryz.ntmps44 rfl rfl ?_
  repeat' (first|refine VP ?_|refine Sh.la hS ?_|refine Sh.lb ?_|refine Sh.lc ?_|refine Sh.su ?_|(refine Sh.sa hS ?_;clear hS;intro w hS)|((first|refine Sh.aa hS ?_|refine Sh.ab hS ?_|refine Sh.ac hS ?_);clear hS;intro g w hS hge)|refine Sh.ix ?_|refine Sh.up ?_|refine Sh.sl1 ?_|refine Sh.sl2 ?_|refine Sh.sl5 ?_|refine Sh.sl3 ?_|refine Sh.sl4 ?_|refine Sh.eq ?_|refine Sh.ne ?_|refine Sh.ix2 ?_|refine Sh.ix3 ?_|refine Z.bu rfl rfl ?_|refine Z.buA rfl rfl ?_|refine VM ?_|refine Z.pl (R.cap rfl rfl) ?_|refine Z.pl R.mf ?_|refine Z.pl (R.min2 rfl rfl) ?_|refine G1 ?_|refine G2 ?_|refine G3 ?_|refine G4 ?_|with_reducible (first|refine V0 ?_|refine Z.block ?_)|((with_reducible refine Z.blX ?_ ?_);rotate_left;rfl)|refine VT ?_|refine VF ?_|((first|refine GS ?_ ?_|refine VB ?_ ?_)<;>intro hb<;>(try simp only [J1,J2,J3,J4,J5,J6] at hb)<;>(try (exfalso;first|omega|exact hb trivial))))
  refine Z.lpS [4, 5, 6, 12, 13, 14, 15, 16, 17, 18, 19, 20, 21, 22] (fun m w s => ∃ k : Nat, s = [(12, .int .i64 k)] ∧ k ≤ l.length ∧ (∀ j (hj : j < l.length), j < k → l[j].cell ≠ c) ∧ m = l.length - k ∧ Sep r [] (.blk gl 50 [v0, v1, v2, .slice A l.length cc] :: F) w) _ [(12, .int .i64 (0 : Nat))] (by repeat (first | exact trivial | refine ⟨rfl, ?_⟩)) ⟨0, rfl, by omega, fun _ _ h => absurd h (by omega), rfl, hS⟩ ?_
  clear hS
  rintro m f0 w _ ⟨k, rfl, hk, hall, rfl, hS⟩
  by_cases hlt : k < l.length
  · obtain ⟨gb, o, rfl, _, hrb⟩ := (hrd [_] w hS).mat (by omega) hlt
    repeat' (first|refine VP ?_|refine Sh.la hS ?_|refine Sh.lb ?_|refine Sh.lc ?_|refine Sh.su ?_|(refine Sh.sa hS ?_;clear hS;intro w hS)|((first|refine Sh.aa hS ?_|refine Sh.ab hS ?_|refine Sh.ac hS ?_);clear hS;intro g w hS hge)|refine Sh.ix ?_|refine Sh.up ?_|refine Sh.sl1 ?_|refine Sh.sl2 ?_|refine Sh.sl5 ?_|refine Sh.sl3 ?_|refine Sh.sl4 ?_|refine Sh.eq ?_|refine Sh.ne ?_|refine Sh.ix2 ?_|refine Sh.ix3 ?_|refine Z.bu rfl rfl ?_|refine Z.buA rfl rfl ?_|refine VM ?_|refine Z.pl (R.cap rfl rfl) ?_|refine Z.pl R.mf ?_|refine Z.pl (R.min2 rfl rfl) ?_|refine G1 ?_|refine G2 ?_|refine G3 ?_|refine G4 ?_|with_reducible (first|refine V0 ?_|refine Z.block ?_)|((with_reducible refine Z.blX ?_ ?_);rotate_left;rfl)|refine VT ?_|refine VF ?_|((first|refine GS ?_ ?_|refine VB ?_ ?_)<;>intro hb<;>(try simp only [J1,J2,J3,J4,J5,J6] at hb)<;>(try (exfalso;first|omega|exact hb trivial))))
    · first | refine Z.done hS Tryz.results44 (Z.RV.tmp rfl Z.RV.nil) ?_ | refine Z.doneN hS Tryz.results44 (Z.RV.tmp rfl Z.RV.nil) ?_
      have h1 := sidx_first hlt (by assumption) hall
      refine ⟨?_, hS.sb⟩
      unfold atI
      rw [h1.2, h1.1]
      rfl
    · refine Sh.again (l.length - (k + 1)) [(12, .int .i64 (k + 1 : Nat))] ?_
      refine ⟨k + 1, rfl, by omega, fun j hj hjk => ?_, rfl, hS.sb⟩
      by_cases hjk' : j < k
      · exact hall j hj hjk'
      · have : j = k := by omega
        subst this
        assumption
  · repeat' (first|refine VP ?_|refine Sh.la hS ?_|refine Sh.lb ?_|refine Sh.lc ?_|refine Sh.su ?_|(refine Sh.sa hS ?_;clear hS;intro w hS)|((first|refine Sh.aa hS ?_|refine Sh.ab hS ?_|refine Sh.ac hS ?_);clear hS;intro g w hS hge)|refine Sh.ix ?_|refine Sh.up ?_|refine Sh.sl1 ?_|refine Sh.sl2 ?_|refine Sh.sl5 ?_|refine Sh.sl3 ?_|refine Sh.sl4 ?_|refine Sh.eq ?_|refine Sh.ne ?_|refine Sh.ix2 ?_|refine Sh.ix3 ?_|refine Z.bu rfl rfl ?_|refine Z.buA rfl rfl ?_|refine VM ?_|refine Z.pl (R.cap rfl rfl) ?_|refine Z.pl R.mf ?_|refine Z.pl (R.min2 rfl rfl) ?_|refine G1 ?_|refine G2 ?_|refine G3 ?_|refine G4 ?_|with_reducible (first|refine V0 ?_|refine Z.block ?_)|((with_reducible refine Z.blX ?_ ?_);rotate_left;rfl)|refine VT ?_|refine VF ?_|((first|refine GS ?_ ?_|refine VB ?_ ?_)<;>intro hb<;>(try simp only [J1,J2,J3,J4,J5,J6] at hb)<;>(try (exfalso;first|omega|exact hb trivial))))
    first | refine Z.done hS Tryz.results44 (Z.RV.tmp rfl Z.RV.nil) ?_ | refine Z.doneN hS Tryz.results44 (Z.RV.tmp rfl Z.RV.nil) ?_
    have h1 := sidx_no (l := l) (c := c) (fun j hj => hall j hj (by omega))
    refine ⟨?_, hS⟩
    unfold atI
    rw [h1]
    rfl
theorem atI_some {l : List Sd} {c : Int} {x : Sd} (h : sdAt l c = some x) : atI l c = (sidx l c : Nat) := by unfold atI; rw [h]
theorem atI_none {l : List Sd} {c : Int} (h : sdAt l c = none) : atI l c = -1 := by unfold atI; rw [h]

def newOkR (ep lag ak : Int) : Prop := 1 ≤ ep ∧ ep ≤ 1048576 ∧ -1 ≤ lag ∧ lag ≤ 1000 ∧ 0 ≤ ak ∧ ak ≤ 4096
set_option maxHeartbeats 1000000 in
theorem rlnew_z (ep lag ak : Int) (r : World) (F : List Res) (w : World) (hS : Sep r [] F w) :
    Calls Tryz.prog 7 #[.int .i64 ep, .int .i64 lag, .int .i64 ak] w fun e w' => (¬ newOkR ep lag ak ∧ e = .returned (.tuple #[.pointer none, .int .i64 1]) ∧ Sep r [] F w') ∨
      (newOkR ep lag ak ∧ ∃ g, e = .returned (.tuple #[.pointer (some ⟨g, 0, none⟩), .int .i64 0]) ∧ Sep r [] (RL g ⟨ep, lag, ak, []⟩ :: F) w') := by
  refine Z.enter Tryz.func7 Tryz.ntmps7 rfl rfl ?_
  repeat' (first|refine VP ?_|refine Sh.la hS ?_|refine Sh.lb ?_|refine Sh.lc ?_|refine Sh.su ?_|(refine Sh.sa hS ?_;clear hS;intro w hS)|((first|refine Sh.aa hS ?_|refine Sh.ab hS ?_|refine Sh.ac hS ?_);clear hS;intro g w hS hge)|refine Sh.ix ?_|refine Sh.up ?_|refine Sh.sl1 ?_|refine Sh.sl2 ?_|refine Sh.sl5 ?_|refine Sh.sl3 ?_|refine Sh.sl4 ?_|refine Sh.eq ?_|refine Sh.ne ?_|refine Sh.ix2 ?_|refine Sh.ix3 ?_|refine Z.bu rfl rfl ?_|refine Z.buA rfl rfl ?_|refine VM ?_|refine Z.pl (R.cap rfl rfl) ?_|refine Z.pl R.mf ?_|refine Z.pl (R.min2 rfl rfl) ?_|refine G1 ?_|refine G2 ?_|refine G3 ?_|refine G4 ?_|with_reducible (first|refine V0 ?_|refine Z.block ?_)|((with_reducible refine Z.blX ?_ ?_);rotate_left;rfl)|refine VT ?_|refine VF ?_|((first|refine GS ?_ ?_|refine VB ?_ ?_)<;>intro hb<;>(try simp only [J1,J2,J3,J4,J5,J6] at hb)<;>(try (exfalso;first|omega|exact hb trivial))))
  · first | refine Z.done hS Tryz.results7 (Z.RV.tmp rfl (Z.RV.tmp rfl Z.RV.nil)) ?_ | refine Z.doneN hS Tryz.results7 (Z.RV.tmp rfl (Z.RV.tmp rfl Z.RV.nil)) ?_
    exact .inl ⟨by unfold newOkR; omega, rfl, hS⟩
  · first | refine Z.done hS Tryz.results7 (Z.RV.tmp rfl (Z.RV.tmp rfl Z.RV.nil)) ?_ | refine Z.doneN hS Tryz.results7 (Z.RV.tmp rfl (Z.RV.tmp rfl Z.RV.nil)) ?_
    exact .inl ⟨by unfold newOkR; omega, rfl, hS⟩
  · first | refine Z.done hS Tryz.results7 (Z.RV.tmp rfl (Z.RV.tmp rfl Z.RV.nil)) ?_ | refine Z.doneN hS Tryz.results7 (Z.RV.tmp rfl (Z.RV.tmp rfl Z.RV.nil)) ?_
    exact .inl ⟨by unfold newOkR; omega, rfl, hS⟩
  · first | refine Z.done hS Tryz.results7 (Z.RV.tmp rfl (Z.RV.tmp rfl Z.RV.nil)) ?_ | refine Z.doneN hS Tryz.results7 (Z.RV.tmp rfl (Z.RV.tmp rfl Z.RV.nil)) ?_
    exact .inl ⟨by unfold newOkR; omega, rfl, hS⟩
  · first | refine Z.done hS Tryz.results7 (Z.RV.tmp rfl (Z.RV.tmp rfl Z.RV.nil)) ?_ | refine Z.doneN hS Tryz.results7 (Z.RV.tmp rfl (Z.RV.tmp rfl Z.RV.nil)) ?_
    exact .inl ⟨by unfold newOkR; omega, rfl, hS⟩
  · first | refine Z.done hS Tryz.results7 (Z.RV.tmp rfl (Z.RV.tmp rfl Z.RV.nil)) ?_ | refine Z.doneN hS Tryz.results7 (Z.RV.tmp rfl (Z.RV.tmp rfl Z.RV.nil)) ?_
    exact .inl ⟨by unfold newOkR; omega, rfl, hS⟩
  · first | refine Z.done hS Tryz.results7 (Z.RV.tmp rfl (Z.RV.tmp rfl Z.RV.nil)) ?_ | refine Z.doneN hS Tryz.results7 (Z.RV.tmp rfl (Z.RV.tmp rfl Z.RV.nil)) ?_
    replace hS := Z.nilsl hS 90 4 none
    exact .inr ⟨by unfold newOkR; omega, _, rfl, Sep.RL_open.2 ⟨none, 0, hS.sb⟩⟩

set_option maxHeartbeats 1000000 in
theorem rlapp_z (gl : Nat) (L : Ld) (c : Int) (r : World) (F : List Res) (w : World) (hS : Sep r [] (RL gl L :: F) w) (hok : L.ok) :
    Calls Tryz.prog 21 #[.pointer (some ⟨gl, 0, none⟩), .int .i64 c] w fun e w' => e = .returned (.int .i64 (appliedL L c)) ∧ Sep r [] (RL gl L :: F) w' := by
  obtain ⟨A, c0, hS⟩ := Sep.RL_open.1 hS
  have hlen := hok.len
  refine Z.enter Tryz.func21 Tryz.ntmps21 rfl rfl ?_
  repeat' (first|refine VP ?_|refine Sh.la hS ?_|refine Sh.lb ?_|refine Sh.lc ?_|refine Sh.su ?_|(refine Sh.sa hS ?_;clear hS;intro w hS)|((first|refine Sh.aa hS ?_|refine Sh.ab hS ?_|refine Sh.ac hS ?_);clear hS;intro g w hS hge)|refine Sh.ix ?_|refine Sh.up ?_|refine Sh.sl1 ?_|refine Sh.sl2 ?_|refine Sh.sl5 ?_|refine Sh.sl3 ?_|refine Sh.sl4 ?_|refine Sh.eq ?_|refine Sh.ne ?_|refine Sh.ix2 ?_|refine Sh.ix3 ?_|refine Z.bu rfl rfl ?_|refine Z.buA rfl rfl ?_|refine VM ?_|refine Z.pl (R.cap rfl rfl) ?_|refine Z.pl R.mf ?_|refine Z.pl (R.min2 rfl rfl) ?_|refine G1 ?_|refine G2 ?_|refine G3 ?_|refine G4 ?_|with_reducible (first|refine V0 ?_|refine Z.block ?_)|((with_reducible refine Z.blX ?_ ?_);rotate_left;rfl)|refine VT ?_|refine VF ?_|((first|refine GS ?_ ?_|refine VB ?_ ?_)<;>intro hb<;>(try simp only [J1,J2,J3,J4,J5,J6] at hb)<;>(try (exfalso;first|omega|exact hb trivial))))
  refine Z.eff (Z.cl (rlat_z gl _ _ _ _ L.l c _ _ _ hS (Reads.of_at (e := 90) (v := .slice A L.l.length c0) (by repeat (first | exact At.here | apply At.next))) (by omega)) rfl ?_) rfl
  clear hS
  rintro e w ⟨rfl, hS⟩
  refine ⟨_, rfl, ?_⟩
  unfold appliedL
  cases hx : sdAt L.l c with
  | none =>
    rw [atI_none hx]
    repeat' (first|refine VP ?_|refine Sh.la hS ?_|refine Sh.lb ?_|refine Sh.lc ?_|refine Sh.su ?_|(refine Sh.sa hS ?_;clear hS;intro w hS)|((first|refine Sh.aa hS ?_|refine Sh.ab hS ?_|refine Sh.ac hS ?_);clear hS;intro g w hS hge)|refine Sh.ix ?_|refine Sh.up ?_|refine Sh.sl1 ?_|refine Sh.sl2 ?_|refine Sh.sl5 ?_|refine Sh.sl3 ?_|refine Sh.sl4 ?_|refine Sh.eq ?_|refine Sh.ne ?_|refine Sh.ix2 ?_|refine Sh.ix3 ?_|refine Z.bu rfl rfl ?_|refine Z.buA rfl rfl ?_|refine VM ?_|refine Z.pl (R.cap rfl rfl) ?_|refine Z.pl R.mf ?_|refine Z.pl (R.min2 rfl rfl) ?_|refine G1 ?_|refine G2 ?_|refine G3 ?_|refine G4 ?_|with_reducible (first|refine V0 ?_|refine Z.block ?_)|((with_reducible refine Z.blX ?_ ?_);rotate_left;rfl)|refine VT ?_|refine VF ?_|((first|refine GS ?_ ?_|refine VB ?_ ?_)<;>intro hb<;>(try simp only [J1,J2,J3,J4,J5,J6] at hb)<;>(try (exfalso;first|omega|exact hb trivial))))
    first | refine Z.done hS Tryz.results21 (Z.RV.tmp rfl Z.RV.nil) ?_ | refine Z.doneN hS Tryz.results21 (Z.RV.tmp rfl Z.RV.nil) ?_
    exact ⟨rfl, Sep.RL_open.2 ⟨A, c0, hS⟩⟩
  | some x =>
    obtain ⟨hi, h1, _⟩ := sdAt_some hx
    rw [atI_some hx]
    obtain ⟨gb, o, rfl, _, _⟩ := (hS.slrows (e := 90) (v := .slice A L.l.length c0) (by repeat (first | exact At.here | apply At.next))).mat (by omega) hi
    repeat' (first|refine VP ?_|refine Sh.la hS ?_|refine Sh.lb ?_|refine Sh.lc ?_|refine Sh.su ?_|(refine Sh.sa hS ?_;clear hS;intro w hS)|((first|refine Sh.aa hS ?_|refine Sh.ab hS ?_|refine Sh.ac hS ?_);clear hS;intro g w hS hge)|refine Sh.ix ?_|refine Sh.up ?_|refine Sh.sl1 ?_|refine Sh.sl2 ?_|refine Sh.sl5 ?_|refine Sh.sl3 ?_|refine Sh.sl4 ?_|refine Sh.eq ?_|refine Sh.ne ?_|refine Sh.ix2 ?_|refine Sh.ix3 ?_|refine Z.bu rfl rfl ?_|refine Z.buA rfl rfl ?_|refine VM ?_|refine Z.pl (R.cap rfl rfl) ?_|refine Z.pl R.mf ?_|refine Z.pl (R.min2 rfl rfl) ?_|refine G1 ?_|refine G2 ?_|refine G3 ?_|refine G4 ?_|with_reducible (first|refine V0 ?_|refine Z.block ?_)|((with_reducible refine Z.blX ?_ ?_);rotate_left;rfl)|refine VT ?_|refine VF ?_|((first|refine GS ?_ ?_|refine VB ?_ ?_)<;>intro hb<;>(try simp only [J1,J2,J3,J4,J5,J6] at hb)<;>(try (exfalso;first|omega|exact hb trivial))))
    first | refine Z.done hS Tryz.results21 (Z.RV.tmp rfl Z.RV.nil) ?_ | refine Z.doneN hS Tryz.results21 (Z.RV.tmp rfl Z.RV.nil) ?_
    rw [h1]
    exact ⟨rfl, Sep.RL_open.2 ⟨_, c0, hS⟩⟩

set_option maxHeartbeats 1000000 in
theorem rlreq_z (gl : Nat) (L : Ld) (c : Int) (r : World) (F : List Res) (w : World) (hS : Sep r [] (RL gl L :: F) w) (hok : L.ok) :
    Calls Tryz.prog 36 #[.pointer (some ⟨gl, 0, none⟩), .int .i64 c] w fun e w' => e = .returned (.int .i64 (requireL L c).2) ∧ Sep r [] (RL gl (requireL L c).1 :: F) w' := by
  obtain ⟨A, c0, hS⟩ := Sep.RL_open.1 hS
  have hlen := hok.len
  refine Z.enter Tryz.func36 Tryz.ntmps36 rfl rfl ?_
  repeat' (first|refine VP ?_|refine Sh.la hS ?_|refine Sh.lb ?_|refine Sh.lc ?_|refine Sh.su ?_|(refine Sh.sa hS ?_;clear hS;intro w hS)|((first|refine Sh.aa hS ?_|refine Sh.ab hS ?_|refine Sh.ac hS ?_);clear hS;intro g w hS hge)|refine Sh.ix ?_|refine Sh.up ?_|refine Sh.sl1 ?_|refine Sh.sl2 ?_|refine Sh.sl5 ?_|refine Sh.sl3 ?_|refine Sh.sl4 ?_|refine Sh.eq ?_|refine Sh.ne ?_|refine Sh.ix2 ?_|refine Sh.ix3 ?_|refine Z.bu rfl rfl ?_|refine Z.buA rfl rfl ?_|refine VM ?_|refine Z.pl (R.cap rfl rfl) ?_|refine Z.pl R.mf ?_|refine Z.pl (R.min2 rfl rfl) ?_|refine G1 ?_|refine G2 ?_|refine G3 ?_|refine G4 ?_|with_reducible (first|refine V0 ?_|refine Z.block ?_)|((with_reducible refine Z.blX ?_ ?_);rotate_left;rfl)|refine VT ?_|refine VF ?_|((first|refine GS ?_ ?_|refine VB ?_ ?_)<;>intro hb<;>(try simp only [J1,J2,J3,J4,J5,J6] at hb)<;>(try (exfalso;first|omega|exact hb trivial))))
  refine Z.eff (Z.cl (rlat_z gl _ _ _ _ L.l c _ _ _ hS (Reads.of_at (e := 90) (v := .slice A L.l.length c0) (by repeat (first | exact At.here | apply At.next))) (by omega)) rfl ?_) rfl
  clear hS
  rintro e w ⟨rfl, hS⟩
  refine ⟨_, rfl, ?_⟩
  unfold requireL
  cases hx : sdAt L.l c with
  | none =>
    rw [atI_none hx]
    repeat' (first|refine VP ?_|refine Sh.la hS ?_|refine Sh.lb ?_|refine Sh.lc ?_|refine Sh.su ?_|(refine Sh.sa hS ?_;clear hS;intro w hS)|((first|refine Sh.aa hS ?_|refine Sh.ab hS ?_|refine Sh.ac hS ?_);clear hS;intro g w hS hge)|refine Sh.ix ?_|refine Sh.up ?_|refine Sh.sl1 ?_|refine Sh.sl2 ?_|refine Sh.sl5 ?_|refine Sh.sl3 ?_|refine Sh.sl4 ?_|refine Sh.eq ?_|refine Sh.ne ?_|refine Sh.ix2 ?_|refine Sh.ix3 ?_|refine Z.bu rfl rfl ?_|refine Z.buA rfl rfl ?_|refine VM ?_|refine Z.pl (R.cap rfl rfl) ?_|refine Z.pl R.mf ?_|refine Z.pl (R.min2 rfl rfl) ?_|refine G1 ?_|refine G2 ?_|refine G3 ?_|refine G4 ?_|with_reducible (first|refine V0 ?_|refine Z.block ?_)|((with_reducible refine Z.blX ?_ ?_);rotate_left;rfl)|refine VT ?_|refine VF ?_|((first|refine GS ?_ ?_|refine VB ?_ ?_)<;>intro hb<;>(try simp only [J1,J2,J3,J4,J5,J6] at hb)<;>(try (exfalso;first|omega|exact hb trivial))))
    first | refine Z.done hS Tryz.results36 (Z.RV.tmp rfl Z.RV.nil) ?_ | refine Z.doneN hS Tryz.results36 (Z.RV.tmp rfl Z.RV.nil) ?_
    exact ⟨rfl, Sep.RL_open.2 ⟨A, c0, hS⟩⟩
  | some x =>
    obtain ⟨hi, h1, _⟩ := sdAt_some hx
    rw [atI_some hx]
    obtain ⟨g, rfl⟩ := Z.Sep_slform hS (e := 90) (sz := 4) (c := c0) (A := A) (rows := L.l.map Sd.rc) (n0 := L.l.length) (by repeat (first | exact At.here | apply At.next)) (by rw [List.length_map]; omega)
    repeat' (first|refine VP ?_|refine Sh.la hS ?_|refine Sh.lb ?_|refine Sh.lc ?_|refine Sh.su ?_|(refine Sh.sa hS ?_;clear hS;intro w hS)|((first|refine Sh.aa hS ?_|refine Sh.ab hS ?_|refine Sh.ac hS ?_);clear hS;intro g w hS hge)|refine Sh.ix ?_|refine Sh.up ?_|refine Sh.sl1 ?_|refine Sh.sl2 ?_|refine Sh.sl5 ?_|refine Sh.sl3 ?_|refine Sh.sl4 ?_|refine Sh.eq ?_|refine Sh.ne ?_|refine Sh.ix2 ?_|refine Sh.ix3 ?_|refine Z.bu rfl rfl ?_|refine Z.buA rfl rfl ?_|refine VM ?_|refine Z.pl (R.cap rfl rfl) ?_|refine Z.pl R.mf ?_|refine Z.pl (R.min2 rfl rfl) ?_|refine G1 ?_|refine G2 ?_|refine G3 ?_|refine G4 ?_|with_reducible (first|refine V0 ?_|refine Z.block ?_)|((with_reducible refine Z.blX ?_ ?_);rotate_left;rfl)|refine VT ?_|refine VF ?_|((first|refine GS ?_ ?_|refine VB ?_ ?_)<;>intro hb<;>(try simp only [J1,J2,J3,J4,J5,J6] at hb)<;>(try (exfalso;first|omega|exact hb trivial))))
    refine Z.eff (Z.stF (j := 3) (⟨x.cell, x.applied, x.next, true⟩ : Sd) hS rfl (by repeat (first | exact At.here | apply At.next)) hi rfl rfl rfl (by omega) (by rw [h1]; rfl) ?_) rfl
    clear hS; intro w hS
    repeat' (first|refine VP ?_|refine Sh.la hS ?_|refine Sh.lb ?_|refine Sh.lc ?_|refine Sh.su ?_|(refine Sh.sa hS ?_;clear hS;intro w hS)|((first|refine Sh.aa hS ?_|refine Sh.ab hS ?_|refine Sh.ac hS ?_);clear hS;intro g w hS hge)|refine Sh.ix ?_|refine Sh.up ?_|refine Sh.sl1 ?_|refine Sh.sl2 ?_|refine Sh.sl5 ?_|refine Sh.sl3 ?_|refine Sh.sl4 ?_|refine Sh.eq ?_|refine Sh.ne ?_|refine Sh.ix2 ?_|refine Sh.ix3 ?_|refine Z.bu rfl rfl ?_|refine Z.buA rfl rfl ?_|refine VM ?_|refine Z.pl (R.cap rfl rfl) ?_|refine Z.pl R.mf ?_|refine Z.pl (R.min2 rfl rfl) ?_|refine G1 ?_|refine G2 ?_|refine G3 ?_|refine G4 ?_|with_reducible (first|refine V0 ?_|refine Z.block ?_)|((with_reducible refine Z.blX ?_ ?_);rotate_left;rfl)|refine VT ?_|refine VF ?_|((first|refine GS ?_ ?_|refine VB ?_ ?_)<;>intro hb<;>(try simp only [J1,J2,J3,J4,J5,J6] at hb)<;>(try (exfalso;first|omega|exact hb trivial))))
    first | refine Z.done hS Tryz.results36 (Z.RV.tmp rfl Z.RV.nil) ?_ | refine Z.doneN hS Tryz.results36 (Z.RV.tmp rfl Z.RV.nil) ?_
    dsimp only
    refine ⟨rfl, Sep.RL_open.2 ⟨some ⟨g, 0, none⟩, c0, ?_⟩⟩
    simp only [List.length_set]
    exact hS.sb

set_option maxHeartbeats 1000000 in
theorem rlrem_z (gl : Nat) (L : Ld) (c : Int) (r : World) (F : List Res) (w : World) (hS : Sep r [] (RL gl L :: F) w) (hok : L.ok) :
    Calls Tryz.prog 38 #[.pointer (some ⟨gl, 0, none⟩), .int .i64 c] w fun e w' => e = .returned (.int .i64 (removeL L c).2) ∧ Sep r [] (RL gl (removeL L c).1 :: F) w' := by
  obtain ⟨A, c0, hS⟩ := Sep.RL_open.1 hS
  obtain ⟨_, _, hcv, hcap⟩ := (hS.slrows (e := 90) (v := .slice A L.l.length c0) (by repeat (first | exact At.here | apply At.next))).mform
  injection hcv with _ _ e3
  subst e3
  have hlen := hok.len
  refine Z.enter Tryz.func38 Tryz.ntmps38 rfl rfl ?_
  repeat' (first|refine VP ?_|refine Sh.la hS ?_|refine Sh.lb ?_|refine Sh.lc ?_|refine Sh.su ?_|(refine Sh.sa hS ?_;clear hS;intro w hS)|((first|refine Sh.aa hS ?_|refine Sh.ab hS ?_|refine Sh.ac hS ?_);clear hS;intro g w hS hge)|refine Sh.ix ?_|refine Sh.up ?_|refine Sh.sl1 ?_|refine Sh.sl2 ?_|refine Sh.sl5 ?_|refine Sh.sl3 ?_|refine Sh.sl4 ?_|refine Sh.eq ?_|refine Sh.ne ?_|refine Sh.ix2 ?_|refine Sh.ix3 ?_|refine Z.bu rfl rfl ?_|refine Z.buA rfl rfl ?_|refine VM ?_|refine Z.pl (R.cap rfl rfl) ?_|refine Z.pl R.mf ?_|refine Z.pl (R.min2 rfl rfl) ?_|refine G1 ?_|refine G2 ?_|refine G3 ?_|refine G4 ?_|with_reducible (first|refine V0 ?_|refine Z.block ?_)|((with_reducible refine Z.blX ?_ ?_);rotate_left;rfl)|refine VT ?_|refine VF ?_|((first|refine GS ?_ ?_|refine VB ?_ ?_)<;>intro hb<;>(try simp only [J1,J2,J3,J4,J5,J6] at hb)<;>(try (exfalso;first|omega|exact hb trivial))))
  refine Z.eff (Z.cl (rlat_z gl _ _ _ _ L.l c _ _ _ hS (Reads.of_at (e := 90) (v := .slice A L.l.length c0) (by repeat (first | exact At.here | apply At.next))) (by omega)) rfl ?_) rfl
  clear hS
  rintro e w ⟨rfl, hS⟩
  refine ⟨_, rfl, ?_⟩
  unfold removeL
  cases hx : sdAt L.l c with
  | none =>
    rw [atI_none hx]
    repeat' (first|refine VP ?_|refine Sh.la hS ?_|refine Sh.lb ?_|refine Sh.lc ?_|refine Sh.su ?_|(refine Sh.sa hS ?_;clear hS;intro w hS)|((first|refine Sh.aa hS ?_|refine Sh.ab hS ?_|refine Sh.ac hS ?_);clear hS;intro g w hS hge)|refine Sh.ix ?_|refine Sh.up ?_|refine Sh.sl1 ?_|refine Sh.sl2 ?_|refine Sh.sl5 ?_|refine Sh.sl3 ?_|refine Sh.sl4 ?_|refine Sh.eq ?_|refine Sh.ne ?_|refine Sh.ix2 ?_|refine Sh.ix3 ?_|refine Z.bu rfl rfl ?_|refine Z.buA rfl rfl ?_|refine VM ?_|refine Z.pl (R.cap rfl rfl) ?_|refine Z.pl R.mf ?_|refine Z.pl (R.min2 rfl rfl) ?_|refine G1 ?_|refine G2 ?_|refine G3 ?_|refine G4 ?_|with_reducible (first|refine V0 ?_|refine Z.block ?_)|((with_reducible refine Z.blX ?_ ?_);rotate_left;rfl)|refine VT ?_|refine VF ?_|((first|refine GS ?_ ?_|refine VB ?_ ?_)<;>intro hb<;>(try simp only [J1,J2,J3,J4,J5,J6] at hb)<;>(try (exfalso;first|omega|exact hb trivial))))
    first | refine Z.done hS Tryz.results38 (Z.RV.tmp rfl Z.RV.nil) ?_ | refine Z.doneN hS Tryz.results38 (Z.RV.tmp rfl Z.RV.nil) ?_
    exact ⟨rfl, Sep.RL_open.2 ⟨A, c0, hS⟩⟩
  | some x =>
    obtain ⟨hi, h1, _⟩ := sdAt_some hx
    rw [atI_some hx]
    repeat' (first|refine VP ?_|refine Sh.la hS ?_|refine Sh.lb ?_|refine Sh.lc ?_|refine Sh.su ?_|(refine Sh.sa hS ?_;clear hS;intro w hS)|((first|refine Sh.aa hS ?_|refine Sh.ab hS ?_|refine Sh.ac hS ?_);clear hS;intro g w hS hge)|refine Sh.ix ?_|refine Sh.up ?_|refine Sh.sl1 ?_|refine Sh.sl2 ?_|refine Sh.sl5 ?_|refine Sh.sl3 ?_|refine Sh.sl4 ?_|refine Sh.eq ?_|refine Sh.ne ?_|refine Sh.ix2 ?_|refine Sh.ix3 ?_|refine Z.bu rfl rfl ?_|refine Z.buA rfl rfl ?_|refine VM ?_|refine Z.pl (R.cap rfl rfl) ?_|refine Z.pl R.mf ?_|refine Z.pl (R.min2 rfl rfl) ?_|refine G1 ?_|refine G2 ?_|refine G3 ?_|refine G4 ?_|with_reducible (first|refine V0 ?_|refine Z.block ?_)|((with_reducible refine Z.blX ?_ ?_);rotate_left;rfl)|refine VT ?_|refine VF ?_|((first|refine GS ?_ ?_|refine VB ?_ ?_)<;>intro hb<;>(try simp only [J1,J2,J3,J4,J5,J6] at hb)<;>(try (exfalso;first|omega|exact hb trivial))))
    refine D.startS (Lr := [.blk gl 50 [.int .i64 L.ep, .int .i64 L.lag, .int .i64 L.acked, .slice A L.l.length c0]]) (hS.sb) 19 20 (by kernel_rfl) rfl ?_
    replace hS := hS.drew
    refine Sh.dp 0 1 ?_
    refine Sh.dp 2 5 ?_
    refine Sh.dp 3 13 ?_
    refine Sh.dp 4 29 ?_
    refine Sh.dp 6 93 ?_
    refine Sh.dp 9 605 ?_
    refine Sh.dp 10 1629 ?_
    refine Sh.dp 11 3677 ?_
    refine Sh.dp 13 11869 ?_
    first | refine D.sum 14 28253 rfl D.wantedN (by kernel_rfl) rfl (by constructor <;> omega) ?_ | refine D.sumW 14 28253 rfl D.wantedN (by kernel_rfl) rfl ?_
    refine Sh.dl 5 28285 ?_
    refine D.pl 7 28413 rfl D.wantedN (by kernel_rfl) (R.upto rfl rfl rfl (by omega)) ?_
    refine Sh.dl 12 32509 ?_
    refine D.pl 15 65277 rfl D.wantedN (by kernel_rfl) (R.since rfl rfl rfl (by omega)) ?_
    refine D.eff 1 65279 rfl D.wantedN (by kernel_rfl) (by kernel_rfl) (fun _ _ h => h) ?_
    refine Z.bs hS rfl rfl rfl ?_
    clear hS; intro g w hS hge
    refine ⟨HM.s (hS.sb), ?_⟩
    refine D.eff 8 65535 rfl D.wantedN (by kernel_rfl) (by kernel_rfl) (fun _ _ h => h) ?_
    refine Z.ap0m (fc := Sd.rc) (l := L.l.take (sidx L.l c)) hS rfl rfl rfl ((hS.slrows (e := 90) (v := .slice A L.l.length c0) (by repeat (first | exact At.here | apply At.next))).mtake (by omega)) (by (try simp only [maxLen, List.length_take, List.length_drop, List.length_append, List.length_cons, List.length_nil, List.length_map]); omega) (by (try simp only [maxLen, List.length_take, List.length_drop, List.length_append, List.length_cons, List.length_nil, List.length_map]); omega) ?_
    clear hS; intro A8 k8 w hS
    refine ⟨HM.s (hS.sb), ?_⟩
    refine D.eff 16 131071 rfl D.wantedN (by kernel_rfl) (by kernel_rfl) (fun _ _ h => h) ?_
    refine Z.apm (fc := Sd.rc) (l' := L.l.drop (sidx L.l c + 1)) hS rfl rfl rfl (by repeat (first | exact At.here | apply At.next)) ((hS.slrows (e := 90) (v := .slice A L.l.length c0) (by repeat (first | exact At.here | apply At.next))).mdrop (by omega)) (by (try simp only [maxLen, List.length_take, List.length_drop, List.length_append, List.length_cons, List.length_nil, List.length_map]); omega) (by (try simp only [maxLen, List.length_take, List.length_drop, List.length_append, List.length_cons, List.length_nil, List.length_map]); omega) ?_
    clear hS; intro A9 k9 w hS
    rw [← List.length_append] at hS ⊢
    refine ⟨HM.s (hS.sb), ?_⟩
    refine Sh.dp 17 262143 ?_
    refine Sh.dp 18 524287 ?_
    refine D.eff 19 1048575 rfl D.wantedN (by kernel_rfl) (by kernel_rfl) (fun _ _ h => h) ?_
    refine Z.st hS rfl (by repeat (first | exact At.here | apply At.next)) rfl rfl ?_
    clear hS; intro w hS
    refine ⟨HM.last (by kernel_rfl), ?_⟩
    refine D.done (by kernel_rfl) ?_
    repeat' (first|refine VP ?_|refine Sh.la hS ?_|refine Sh.lb ?_|refine Sh.lc ?_|refine Sh.su ?_|(refine Sh.sa hS ?_;clear hS;intro w hS)|((first|refine Sh.aa hS ?_|refine Sh.ab hS ?_|refine Sh.ac hS ?_);clear hS;intro g w hS hge)|refine Sh.ix ?_|refine Sh.up ?_|refine Sh.sl1 ?_|refine Sh.sl2 ?_|refine Sh.sl5 ?_|refine Sh.sl3 ?_|refine Sh.sl4 ?_|refine Sh.eq ?_|refine Sh.ne ?_|refine Sh.ix2 ?_|refine Sh.ix3 ?_|refine Z.bu rfl rfl ?_|refine Z.buA rfl rfl ?_|refine VM ?_|refine Z.pl (R.cap rfl rfl) ?_|refine Z.pl R.mf ?_|refine Z.pl (R.min2 rfl rfl) ?_|refine G1 ?_|refine G2 ?_|refine G3 ?_|refine G4 ?_|with_reducible (first|refine V0 ?_|refine Z.block ?_)|((with_reducible refine Z.blX ?_ ?_);rotate_left;rfl)|refine VT ?_|refine VF ?_|((first|refine GS ?_ ?_|refine VB ?_ ?_)<;>intro hb<;>(try simp only [J1,J2,J3,J4,J5,J6] at hb)<;>(try (exfalso;first|omega|exact hb trivial))))
    first | refine Z.done hS Tryz.results38 (Z.RV.tmp rfl Z.RV.nil) ?_ | refine Z.doneN hS Tryz.results38 (Z.RV.tmp rfl Z.RV.nil) ?_
    exact ⟨rfl, Sep.RL_open.2 ⟨A9, k9, hS.sb⟩⟩

def Sd.kc (x : Sd) : List Value := [.int .i64 x.cell]
set_option maxHeartbeats 1000000 in
theorem rlcells_z (gl : Nat) (L : Ld) (r : World) (F : List Res) (w : World) (hS : Sep r [] (RL gl L :: F) w) (hok : L.ok) :
    Calls Tryz.prog 20 #[.pointer (some ⟨gl, 0, none⟩)] w fun e w' => ∃ A' c', e = .returned (.slice A' L.l.length c') ∧ Sep r [] (.sl 3 1 (.slice A' L.l.length c') (L.l.map Sd.kc) :: RL gl L :: F) w' := by
  obtain ⟨A, c0, hS⟩ := Sep.RL_open.1 hS
  have hlen := hok.len
  refine Z.enter Tryz.func20 Tryz.ntmps20 rfl rfl ?_
  repeat' (first|refine VP ?_|refine Sh.la hS ?_|refine Sh.lb ?_|refine Sh.lc ?_|refine Sh.su ?_|(refine Sh.sa hS ?_;clear hS;intro w hS)|((first|refine Sh.aa hS ?_|refine Sh.ab hS ?_|refine Sh.ac hS ?_);clear hS;intro g w hS hge)|refine Sh.ix ?_|refine Sh.up ?_|refine Sh.sl1 ?_|refine Sh.sl2 ?_|refine Sh.sl5 ?_|refine Sh.sl3 ?_|refine Sh.sl4 ?_|refine Sh.eq ?_|refine Sh.ne ?_|refine Sh.ix2 ?_|refine Sh.ix3 ?_|refine Z.bu rfl rfl ?_|refine Z.buA rfl rfl ?_|refine VM ?_|refine Z.pl (R.cap rfl rfl) ?_|refine Z.pl R.mf ?_|refine Z.pl (R.min2 rfl rfl) ?_|refine G1 ?_|refine G2 ?_|refine G3 ?_|refine G4 ?_|with_reducible (first|refine V0 ?_|refine Z.block ?_)|((with_reducible refine Z.blX ?_ ?_);rotate_left;rfl)|refine VT ?_|refine VF ?_|((first|refine GS ?_ ?_|refine VB ?_ ?_)<;>intro hb<;>(try simp only [J1,J2,J3,J4,J5,J6] at hb)<;>(try (exfalso;first|omega|exact hb trivial))))
  replace hS := Z.nilsl hS 3 1 none
  refine Z.lpS [3, 5, 11, 12, 13, 14, 15, 16, 17, 18, 19, 20] (fun m w s => ∃ (k : Nat) (A1 : Option Addr) (c1 : Nat), s = [(3, .slice A1 (L.l.take k).length c1), (11, .int .i64 k)] ∧ k ≤ L.l.length ∧ m = L.l.length - k ∧ Sep r [] (.sl 3 1 (.slice A1 (L.l.take k).length c1) ((L.l.take k).map Sd.kc) :: .blk gl 50 [.int .i64 L.ep, .int .i64 L.lag, .int .i64 L.acked, .slice A L.l.length c0] :: .sl 90 4 (.slice A L.l.length c0) (L.l.map Sd.rc) :: F) w) _ [(3, .slice none 0 0), (11, .int .i64 (0 : Nat))] (by repeat (first | exact trivial | refine ⟨rfl, ?_⟩)) ⟨0, none, 0, rfl, by omega, rfl, hS⟩ ?_
  clear hS
  rintro m f0 w _ ⟨k, A1, c1, rfl, hk, rfl, hS⟩
  by_cases hlt : k < L.l.length
  · obtain ⟨gb, o, rfl, _, hrb⟩ := (hS.slrows (e := 90) (v := .slice A L.l.length c0) (by repeat (first | exact At.here | apply At.next))).mat (by omega) hlt
    repeat' (first|refine VP ?_|refine Sh.la hS ?_|refine Sh.lb ?_|refine Sh.lc ?_|refine Sh.su ?_|(refine Sh.sa hS ?_;clear hS;intro w hS)|((first|refine Sh.aa hS ?_|refine Sh.ab hS ?_|refine Sh.ac hS ?_);clear hS;intro g w hS hge)|refine Sh.ix ?_|refine Sh.up ?_|refine Sh.sl1 ?_|refine Sh.sl2 ?_|refine Sh.sl5 ?_|refine Sh.sl3 ?_|refine Sh.sl4 ?_|refine Sh.eq ?_|refine Sh.ne ?_|refine Sh.ix2 ?_|refine Sh.ix3 ?_|refine Z.bu rfl rfl ?_|refine Z.buA rfl rfl ?_|refine VM ?_|refine Z.pl (R.cap rfl rfl) ?_|refine Z.pl R.mf ?_|refine Z.pl (R.min2 rfl rfl) ?_|refine G1 ?_|refine G2 ?_|refine G3 ?_|refine G4 ?_|with_reducible (first|refine V0 ?_|refine Z.block ?_)|((with_reducible refine Z.blX ?_ ?_);rotate_left;rfl)|refine VT ?_|refine VF ?_|((first|refine GS ?_ ?_|refine VB ?_ ?_)<;>intro hb<;>(try simp only [J1,J2,J3,J4,J5,J6] at hb)<;>(try (exfalso;first|omega|exact hb trivial))))
    refine Z.eff (Z.apm (fc := Sd.kc) (l' := [L.l[k]]) hS rfl rfl rfl (by repeat (first | exact At.here | apply At.next)) (hS.lit1 (by repeat (first | exact At.here | apply At.next)) rfl rfl) (by (try simp only [maxLen, List.length_take, List.length_drop, List.length_append, List.length_cons, List.length_nil, List.length_map]); omega) (by (try simp only [maxLen, List.length_take, List.length_drop, List.length_append, List.length_cons, List.length_nil, List.length_map]); omega) ?_) rfl
    clear hS; intro A2 c2 w hS
    rw [← List.length_append, ← List.take_succ_eq_append_getElem hlt] at hS
    rw [← List.length_append, ← List.take_succ_eq_append_getElem hlt]
    repeat' (first|refine VP ?_|refine Sh.la hS ?_|refine Sh.lb ?_|refine Sh.lc ?_|refine Sh.su ?_|(refine Sh.sa hS ?_;clear hS;intro w hS)|((first|refine Sh.aa hS ?_|refine Sh.ab hS ?_|refine Sh.ac hS ?_);clear hS;intro g w hS hge)|refine Sh.ix ?_|refine Sh.up ?_|refine Sh.sl1 ?_|refine Sh.sl2 ?_|refine Sh.sl5 ?_|refine Sh.sl3 ?_|refine Sh.sl4 ?_|refine Sh.eq ?_|refine Sh.ne ?_|refine Sh.ix2 ?_|refine Sh.ix3 ?_|refine Z.bu rfl rfl ?_|refine Z.buA rfl rfl ?_|refine VM ?_|refine Z.pl (R.cap rfl rfl) ?_|refine Z.pl R.mf ?_|refine Z.pl (R.min2 rfl rfl) ?_|refine G1 ?_|refine G2 ?_|refine G3 ?_|refine G4 ?_|with_reducible (first|refine V0 ?_|refine Z.block ?_)|((with_reducible refine Z.blX ?_ ?_);rotate_left;rfl)|refine VT ?_|refine VF ?_|((first|refine GS ?_ ?_|refine VB ?_ ?_)<;>intro hb<;>(try simp only [J1,J2,J3,J4,J5,J6] at hb)<;>(try (exfalso;first|omega|exact hb trivial))))
    refine Sh.again (L.l.length - (k + 1)) [(3, .slice A2 (L.l.take (k + 1)).length c2), (11, .int .i64 (k + 1 : Nat))] ?_
    exact ⟨k + 1, A2, c2, rfl, by omega, rfl, hS.sb⟩
  · have hke : k = L.l.length := by omega
    subst hke
    rw [List.take_length] at hS ⊢
    repeat' (first|refine VP ?_|refine Sh.la hS ?_|refine Sh.lb ?_|refine Sh.lc ?_|refine Sh.su ?_|(refine Sh.sa hS ?_;clear hS;intro w hS)|((first|refine Sh.aa hS ?_|refine Sh.ab hS ?_|refine Sh.ac hS ?_);clear hS;intro g w hS hge)|refine Sh.ix ?_|refine Sh.up ?_|refine Sh.sl1 ?_|refine Sh.sl2 ?_|refine Sh.sl5 ?_|refine Sh.sl3 ?_|refine Sh.sl4 ?_|refine Sh.eq ?_|refine Sh.ne ?_|refine Sh.ix2 ?_|refine Sh.ix3 ?_|refine Z.bu rfl rfl ?_|refine Z.buA rfl rfl ?_|refine VM ?_|refine Z.pl (R.cap rfl rfl) ?_|refine Z.pl R.mf ?_|refine Z.pl (R.min2 rfl rfl) ?_|refine G1 ?_|refine G2 ?_|refine G3 ?_|refine G4 ?_|with_reducible (first|refine V0 ?_|refine Z.block ?_)|((with_reducible refine Z.blX ?_ ?_);rotate_left;rfl)|refine VT ?_|refine VF ?_|((first|refine GS ?_ ?_|refine VB ?_ ?_)<;>intro hb<;>(try simp only [J1,J2,J3,J4,J5,J6] at hb)<;>(try (exfalso;first|omega|exact hb trivial))))
    first | refine Z.done hS Tryz.results20 (Z.RV.tmp rfl Z.RV.nil) ?_ | refine Z.doneN hS Tryz.results20 (Z.RV.tmp rfl Z.RV.nil) ?_
    exact ⟨A1, c1, rfl, (Sep.RL_open.2 ⟨A, c0, hS.sub (L' := .blk gl 50 [.int .i64 L.ep, .int .i64 L.lag, .int .i64 L.acked, .slice A L.l.length c0] :: .sl 90 4 (.slice A L.l.length c0) (L.l.map Sd.rc) :: .sl 3 1 (.slice A1 L.l.length c1) _ :: F) (by repeat (first | exact Sub.rest | exact Sub.nil | exact .skip .rest | exact .skip (.skip .rest) | exact .skip (.skip (.skip .rest)) | apply Sub.keep | refine Sub.cons (by repeat (first | exact At.here | apply At.next)) ?_ | apply Sub.skip))⟩).swap⟩

set_option maxHeartbeats 2000000 in
theorem rladd_z (gl : Nat) (L : Ld) (c : Int) (req : Bool) (n : Int) (r : World) (F : List Res) (w : World) (hS : Sep r [] (RL gl L :: F) w) (hok : L.ok) :
    Calls Tryz.prog 34 #[.pointer (some ⟨gl, 0, none⟩), .int .i64 c, .bool req, .int .i64 n] w fun e w' => e = .returned (.int .i64 (addL L c req n).2) ∧ Sep r [] (RL gl (addL L c req n).1 :: F) w' := by
  obtain ⟨A, c0, hS⟩ := Sep.RL_open.1 hS
  obtain ⟨_, _, hcv, hcap⟩ := (hS.slrows (e := 90) (v := .slice A L.l.length c0) (by repeat (first | exact At.here | apply At.next))).mform
  injection hcv with _ _ e3
  subst e3
  have hlen := hok.len
  refine Z.enter Tryz.func34 Tryz.ntmps34 rfl rfl ?_
  repeat' (first|refine VP ?_|refine Sh.la hS ?_|refine Sh.lb ?_|refine Sh.lc ?_|refine Sh.su ?_|(refine Sh.sa hS ?_;clear hS;intro w hS)|((first|refine Sh.aa hS ?_|refine Sh.ab hS ?_|refine Sh.ac hS ?_);clear hS;intro g w hS hge)|refine Sh.ix ?_|refine Sh.up ?_|refine Sh.sl1 ?_|refine Sh.sl2 ?_|refine Sh.sl5 ?_|refine Sh.sl3 ?_|refine Sh.sl4 ?_|refine Sh.eq ?_|refine Sh.ne ?_|refine Sh.ix2 ?_|refine Sh.ix3 ?_|refine Z.bu rfl rfl ?_|refine Z.buA rfl rfl ?_|refine VM ?_|refine Z.pl (R.cap rfl rfl) ?_|refine Z.pl R.mf ?_|refine Z.pl (R.min2 rfl rfl) ?_|refine G1 ?_|refine G2 ?_|refine G3 ?_|refine G4 ?_|with_reducible (first|refine V0 ?_|refine Z.block ?_)|((with_reducible refine Z.blX ?_ ?_);rotate_left;rfl)|refine VT ?_|refine VF ?_|((first|refine GS ?_ ?_|refine VB ?_ ?_)<;>intro hb<;>(try simp only [J1,J2,J3,J4,J5,J6] at hb)<;>(try (exfalso;first|omega|exact hb trivial))))
  · first | refine Z.done hS Tryz.results34 (Z.RV.tmp rfl Z.RV.nil) ?_ | refine Z.doneN hS Tryz.results34 (Z.RV.tmp rfl Z.RV.nil) ?_
    unfold addL
    rw [if_pos (by omega)]
    exact ⟨rfl, Sep.RL_open.2 ⟨A, c0, hS⟩⟩
  · first | refine Z.done hS Tryz.results34 (Z.RV.tmp rfl Z.RV.nil) ?_ | refine Z.doneN hS Tryz.results34 (Z.RV.tmp rfl Z.RV.nil) ?_
    unfold addL
    rw [if_pos (by omega)]
    exact ⟨rfl, Sep.RL_open.2 ⟨A, c0, hS⟩⟩
  · first | refine Z.done hS Tryz.results34 (Z.RV.tmp rfl Z.RV.nil) ?_ | refine Z.doneN hS Tryz.results34 (Z.RV.tmp rfl Z.RV.nil) ?_
    unfold addL
    rw [if_pos (by omega)]
    exact ⟨rfl, Sep.RL_open.2 ⟨A, c0, hS⟩⟩
  · first | refine Z.done hS Tryz.results34 (Z.RV.tmp rfl Z.RV.nil) ?_ | refine Z.doneN hS Tryz.results34 (Z.RV.tmp rfl Z.RV.nil) ?_
    unfold addL
    rw [if_pos (by omega)]
    exact ⟨rfl, Sep.RL_open.2 ⟨A, c0, hS⟩⟩
  have hnot : ¬ (c < 0 ∨ 16 ≤ c ∨ n < 0 ∨ 4096 < n) := by omega
  unfold addL
  rw [if_neg hnot]
  refine Z.eff (Z.cl (rlat_z gl _ _ _ _ L.l c _ _ _ hS (Reads.of_at (e := 90) (v := .slice A L.l.length c0) (by repeat (first | exact At.here | apply At.next))) (by omega)) rfl ?_) rfl
  clear hS
  rintro e w ⟨rfl, hS⟩
  refine ⟨_, rfl, ?_⟩
  cases hx : sdAt L.l c with
  | some x =>
    rw [atI_some hx]
    repeat' (first|refine VP ?_|refine Sh.la hS ?_|refine Sh.lb ?_|refine Sh.lc ?_|refine Sh.su ?_|(refine Sh.sa hS ?_;clear hS;intro w hS)|((first|refine Sh.aa hS ?_|refine Sh.ab hS ?_|refine Sh.ac hS ?_);clear hS;intro g w hS hge)|refine Sh.ix ?_|refine Sh.up ?_|refine Sh.sl1 ?_|refine Sh.sl2 ?_|refine Sh.sl5 ?_|refine Sh.sl3 ?_|refine Sh.sl4 ?_|refine Sh.eq ?_|refine Sh.ne ?_|refine Sh.ix2 ?_|refine Sh.ix3 ?_|refine Z.bu rfl rfl ?_|refine Z.buA rfl rfl ?_|refine VM ?_|refine Z.pl (R.cap rfl rfl) ?_|refine Z.pl R.mf ?_|refine Z.pl (R.min2 rfl rfl) ?_|refine G1 ?_|refine G2 ?_|refine G3 ?_|refine G4 ?_|with_reducible (first|refine V0 ?_|refine Z.block ?_)|((with_reducible refine Z.blX ?_ ?_);rotate_left;rfl)|refine VT ?_|refine VF ?_|((first|refine GS ?_ ?_|refine VB ?_ ?_)<;>intro hb<;>(try simp only [J1,J2,J3,J4,J5,J6] at hb)<;>(try (exfalso;first|omega|exact hb trivial))))
    first | refine Z.done hS Tryz.results34 (Z.RV.tmp rfl Z.RV.nil) ?_ | refine Z.doneN hS Tryz.results34 (Z.RV.tmp rfl Z.RV.nil) ?_
    exact ⟨rfl, Sep.RL_open.2 ⟨A, c0, hS⟩⟩
  | none =>
    have hsl := spos_le L.l c
    rw [atI_none hx]
    repeat' (first
      | refine Z.pr rfl ?_ | refine Sh.la hS ?_ | refine Sh.lb ?_ | refine Sh.lc ?_ | refine Sh.su ?_
      | (refine Sh.sa hS ?_; clear hS; intro w hS)
      | ((first | refine Sh.aa hS ?_ | refine Sh.ab hS ?_ | refine Sh.ac hS ?_); clear hS; intro g w hS hge)
      | refine Sh.ix ?_ | refine Sh.up ?_ | refine Sh.sl1 ?_ | refine Sh.sl2 ?_ | refine Sh.sl5 ?_ | refine Sh.sl3 ?_ | refine Sh.sl4 ?_ | refine Z.pl (R.min2 rfl rfl) ?_ | refine Sh.ix2 ?_ | refine Sh.ix3 ?_
      | refine Z.bu rfl rfl ?_ | refine Z.buA rfl rfl ?_ | refine Z.pl (R.max2 rfl rfl) ?_ | refine Z.pl (R.cap rfl rfl) ?_ | refine Z.pl R.mf ?_
      | refine Z.gT rfl rfl ?_ | refine Z.gF rfl rfl ?_ | refine Z.gF0 rfl rfl ?_ | refine Z.gU rfl rfl ?_
      | with_reducible (first | refine Z.seq ?_ | refine Z.reg ?_ | refine Z.nil ?_ | refine Z.skip ?_ | refine Z.exit ?_ | refine Z.ret ?_ | refine Z.block ?_ | refine Z.thU ?_ | refine Z.thE ?_ | refine Z.thR ?_ | refine Z.blN ?_ | refine Z.blR ?_ | refine Z.blE ?_ | refine Z.label ?_ | refine Z.scope ?_ | refine Z.ngN ?_ | refine Z.ngR ?_ | refine Z.ngE ?_)
      | ((with_reducible refine Z.blX ?_ ?_); rotate_left; rfl)
      | refine Z.brT rfl ?_ | refine Z.brF rfl ?_
      | ((first | refine Z.gS rfl rfl ?_ ?_ | refine Z.br rfl ?_ ?_) <;> intro hb <;> (try simp only [decide_eq_true_eq, decide_eq_false_iff_not, Bool.not_eq_true', Bool.not_eq_false', Int.not_lt, Int.not_le] at hb) <;> (try (exfalso; first | omega | exact hb trivial))))
    refine Z.thN ?_
    repeat' (first
      | refine Z.pr rfl ?_ | refine Sh.la hS ?_ | refine Sh.lb ?_ | refine Sh.lc ?_ | refine Sh.su ?_
      | (refine Sh.sa hS ?_; clear hS; intro w hS)
      | ((first | refine Sh.aa hS ?_ | refine Sh.ab hS ?_ | refine Sh.ac hS ?_); clear hS; intro g w hS hge)
      | refine Sh.ix ?_ | refine Sh.up ?_ | refine Sh.sl1 ?_ | refine Sh.sl2 ?_ | refine Sh.sl5 ?_ | refine Sh.sl3 ?_ | refine Sh.sl4 ?_ | refine Z.pl (R.min2 rfl rfl) ?_ | refine Sh.ix2 ?_ | refine Sh.ix3 ?_
      | refine Z.bu rfl rfl ?_ | refine Z.buA rfl rfl ?_ | refine Z.pl (R.max2 rfl rfl) ?_ | refine Z.pl (R.cap rfl rfl) ?_ | refine Z.pl R.mf ?_
      | refine Z.gT rfl rfl ?_ | refine Z.gF rfl rfl ?_ | refine Z.gF0 rfl rfl ?_ | refine Z.gU rfl rfl ?_
      | with_reducible (first | refine Z.seq ?_ | refine Z.reg ?_ | refine Z.nil ?_ | refine Z.skip ?_ | refine Z.exit ?_ | refine Z.ret ?_ | refine Z.block ?_ | refine Z.thU ?_ | refine Z.thE ?_ | refine Z.thR ?_ | refine Z.blN ?_ | refine Z.blR ?_ | refine Z.blE ?_ | refine Z.label ?_ | refine Z.scope ?_ | refine Z.ngN ?_ | refine Z.ngR ?_ | refine Z.ngE ?_)
      | ((with_reducible refine Z.blX ?_ ?_); rotate_left; rfl)
      | refine Z.brT rfl ?_ | refine Z.brF rfl ?_
      | ((first | refine Z.gS rfl rfl ?_ ?_ | refine Z.br rfl ?_ ?_) <;> intro hb <;> (try simp only [decide_eq_true_eq, decide_eq_false_iff_not, Bool.not_eq_true', Bool.not_eq_false', Int.not_lt, Int.not_le] at hb) <;> (try (exfalso; first | omega | exact hb trivial))))
    refine Z.thN ?_
    repeat' (first
      | refine Z.pr rfl ?_ | refine Sh.la hS ?_ | refine Sh.lb ?_ | refine Sh.lc ?_ | refine Sh.su ?_
      | (refine Sh.sa hS ?_; clear hS; intro w hS)
      | ((first | refine Sh.aa hS ?_ | refine Sh.ab hS ?_ | refine Sh.ac hS ?_); clear hS; intro g w hS hge)
      | refine Sh.ix ?_ | refine Sh.up ?_ | refine Sh.sl1 ?_ | refine Sh.sl2 ?_ | refine Sh.sl5 ?_ | refine Sh.sl3 ?_ | refine Sh.sl4 ?_ | refine Z.pl (R.min2 rfl rfl) ?_ | refine Sh.ix2 ?_ | refine Sh.ix3 ?_
      | refine Z.bu rfl rfl ?_ | refine Z.buA rfl rfl ?_ | refine Z.pl (R.max2 rfl rfl) ?_ | refine Z.pl (R.cap rfl rfl) ?_ | refine Z.pl R.mf ?_
      | refine Z.gT rfl rfl ?_ | refine Z.gF rfl rfl ?_ | refine Z.gF0 rfl rfl ?_ | refine Z.gU rfl rfl ?_
      | with_reducible (first | refine Z.seq ?_ | refine Z.reg ?_ | refine Z.nil ?_ | refine Z.skip ?_ | refine Z.exit ?_ | refine Z.ret ?_ | refine Z.block ?_ | refine Z.thU ?_ | refine Z.thE ?_ | refine Z.thR ?_ | refine Z.blN ?_ | refine Z.blR ?_ | refine Z.blE ?_ | refine Z.label ?_ | refine Z.scope ?_ | refine Z.ngN ?_ | refine Z.ngR ?_ | refine Z.ngE ?_)
      | ((with_reducible refine Z.blX ?_ ?_); rotate_left; rfl)
      | refine Z.brT rfl ?_ | refine Z.brF rfl ?_
      | ((first | refine Z.gS rfl rfl ?_ ?_ | refine Z.br rfl ?_ ?_) <;> intro hb <;> (try simp only [decide_eq_true_eq, decide_eq_false_iff_not, Bool.not_eq_true', Bool.not_eq_false', Int.not_lt, Int.not_le] at hb) <;> (try (exfalso; first | omega | exact hb trivial))))
    refine Z.thN ?_
    refine Z.seq ?_
    refine Z.cut [9, 28, 29, 30, 31, 32, 33, 34, 35, 36, 37, 38, 39, 40, 41, 42, 43, 44, 45, 46, 47, 48] (fun w s => s = [(9, .int .i64 (spos L.l c : Nat))] ∧ Sep r [] (.blk gl 50 [.int .i64 L.ep, .int .i64 L.lag, .int .i64 L.acked, .slice A L.l.length c0] :: .sl 90 4 (.slice A L.l.length c0) (L.l.map Sd.rc) :: F) w) ?_ ?_
    · repeat' (first|refine VP ?_|refine Sh.la hS ?_|refine Sh.lb ?_|refine Sh.lc ?_|refine Sh.su ?_|(refine Sh.sa hS ?_;clear hS;intro w hS)|((first|refine Sh.aa hS ?_|refine Sh.ab hS ?_|refine Sh.ac hS ?_);clear hS;intro g w hS hge)|refine Sh.ix ?_|refine Sh.up ?_|refine Sh.sl1 ?_|refine Sh.sl2 ?_|refine Sh.sl5 ?_|refine Sh.sl3 ?_|refine Sh.sl4 ?_|refine Sh.eq ?_|refine Sh.ne ?_|refine Sh.ix2 ?_|refine Sh.ix3 ?_|refine Z.bu rfl rfl ?_|refine Z.buA rfl rfl ?_|refine VM ?_|refine Z.pl (R.cap rfl rfl) ?_|refine Z.pl R.mf ?_|refine Z.pl (R.min2 rfl rfl) ?_|refine G1 ?_|refine G2 ?_|refine G3 ?_|refine G4 ?_|with_reducible (first|refine V0 ?_|refine Z.block ?_)|((with_reducible refine Z.blX ?_ ?_);rotate_left;rfl)|refine VT ?_|refine VF ?_|((first|refine GS ?_ ?_|refine VB ?_ ?_)<;>intro hb<;>(try simp only [J1,J2,J3,J4,J5,J6] at hb)<;>(try (exfalso;first|omega|exact hb trivial))))
      refine Z.lpS [9, 28, 29, 30, 31, 32, 33, 34, 35, 36, 37, 38, 39, 40, 41, 42, 43, 44, 45, 46, 47, 48] (fun m w s => ∃ k : Nat, s = [(9, .int .i64 k)] ∧ k ≤ L.l.length ∧ (∀ j (hj : j < L.l.length), j < k → L.l[j].cell < c) ∧ m = L.l.length - k ∧ Sep r [] (.blk gl 50 [.int .i64 L.ep, .int .i64 L.lag, .int .i64 L.acked, .slice A L.l.length c0] :: .sl 90 4 (.slice A L.l.length c0) (L.l.map Sd.rc) :: F) w) _ [(9, .int .i64 (0 : Nat))] (by repeat (first | exact trivial | refine ⟨rfl, ?_⟩)) ⟨0, rfl, by omega, fun _ _ h => absurd h (by omega), rfl, hS⟩ ?_
      clear hS
      rintro m f0 w _ ⟨k, rfl, hk, hall, rfl, hS⟩
      by_cases hlt : k < L.l.length
      · obtain ⟨gb, o, rfl, _, hrb⟩ := (hS.slrows (e := 90) (v := .slice A L.l.length c0) (by repeat (first | exact At.here | apply At.next))).mat (by omega) hlt
        repeat' (first|refine VP ?_|refine Sh.la hS ?_|refine Sh.lb ?_|refine Sh.lc ?_|refine Sh.su ?_|(refine Sh.sa hS ?_;clear hS;intro w hS)|((first|refine Sh.aa hS ?_|refine Sh.ab hS ?_|refine Sh.ac hS ?_);clear hS;intro g w hS hge)|refine Sh.ix ?_|refine Sh.up ?_|refine Sh.sl1 ?_|refine Sh.sl2 ?_|refine Sh.sl5 ?_|refine Sh.sl3 ?_|refine Sh.sl4 ?_|refine Sh.eq ?_|refine Sh.ne ?_|refine Sh.ix2 ?_|refine Sh.ix3 ?_|refine Z.bu rfl rfl ?_|refine Z.buA rfl rfl ?_|refine VM ?_|refine Z.pl (R.cap rfl rfl) ?_|refine Z.pl R.mf ?_|refine Z.pl (R.min2 rfl rfl) ?_|refine G1 ?_|refine G2 ?_|refine G3 ?_|refine G4 ?_|with_reducible (first|refine V0 ?_|refine Z.block ?_)|((with_reducible refine Z.blX ?_ ?_);rotate_left;rfl)|refine VT ?_|refine VF ?_|((first|refine GS ?_ ?_|refine VB ?_ ?_)<;>intro hb<;>(try simp only [J1,J2,J3,J4,J5,J6] at hb)<;>(try (exfalso;first|omega|exact hb trivial))))
        · refine Sh.again (L.l.length - (k + 1)) [(9, .int .i64 (k + 1 : Nat))] ?_
          refine ⟨k + 1, rfl, by omega, fun j hj hjk => ?_, rfl, hS.sb⟩
          by_cases hjk' : j < k
          · exact hall j hj hjk'
          · have : j = k := by omega
            subst this
            assumption
        · refine Z.cutE [(9, _)] (by repeat (first | with_reducible exact Same.refl | with_reducible exact Same.mix | ((with_reducible refine Same.upd ?_ ?_); · rfl) | ((with_reducible refine Same.cons ?_ ?_); · rfl) | with_reducible refine Same.nil ?_ | ((with_reducible refine Same.mixS ?_ ?_); · rfl))) (by repeat (first | exact trivial | refine ⟨rfl, ?_⟩)) ?_
          rw [spos_first hk hall (fun _ => by omega)]
          exact ⟨rfl, hS⟩
      · repeat' (first|refine VP ?_|refine Sh.la hS ?_|refine Sh.lb ?_|refine Sh.lc ?_|refine Sh.su ?_|(refine Sh.sa hS ?_;clear hS;intro w hS)|((first|refine Sh.aa hS ?_|refine Sh.ab hS ?_|refine Sh.ac hS ?_);clear hS;intro g w hS hge)|refine Sh.ix ?_|refine Sh.up ?_|refine Sh.sl1 ?_|refine Sh.sl2 ?_|refine Sh.sl5 ?_|refine Sh.sl3 ?_|refine Sh.sl4 ?_|refine Sh.eq ?_|refine Sh.ne ?_|refine Sh.ix2 ?_|refine Sh.ix3 ?_|refine Z.bu rfl rfl ?_|refine Z.buA rfl rfl ?_|refine VM ?_|refine Z.pl (R.cap rfl rfl) ?_|refine Z.pl R.mf ?_|refine Z.pl (R.min2 rfl rfl) ?_|refine G1 ?_|refine G2 ?_|refine G3 ?_|refine G4 ?_|with_reducible (first|refine V0 ?_|refine Z.block ?_)|((with_reducible refine Z.blX ?_ ?_);rotate_left;rfl)|refine VT ?_|refine VF ?_|((first|refine GS ?_ ?_|refine VB ?_ ?_)<;>intro hb<;>(try simp only [J1,J2,J3,J4,J5,J6] at hb)<;>(try (exfalso;first|omega|exact hb trivial))))
        refine Z.cutE [(9, _)] (by repeat (first | with_reducible exact Same.refl | with_reducible exact Same.mix | ((with_reducible refine Same.upd ?_ ?_); · rfl) | ((with_reducible refine Same.cons ?_ ?_); · rfl) | with_reducible refine Same.nil ?_ | ((with_reducible refine Same.mixS ?_ ?_); · rfl))) (by repeat (first | exact trivial | refine ⟨rfl, ?_⟩)) ?_
        rw [spos_first hk hall (fun h => absurd h hlt)]
        exact ⟨rfl, hS⟩
    clear hS
    rintro f0 w _ ⟨rfl, hS⟩
    repeat' (first|refine VP ?_|refine Sh.la hS ?_|refine Sh.lb ?_|refine Sh.lc ?_|refine Sh.su ?_|(refine Sh.sa hS ?_;clear hS;intro w hS)|((first|refine Sh.aa hS ?_|refine Sh.ab hS ?_|refine Sh.ac hS ?_);clear hS;intro g w hS hge)|refine Sh.ix ?_|refine Sh.up ?_|refine Sh.sl1 ?_|refine Sh.sl2 ?_|refine Sh.sl5 ?_|refine Sh.sl3 ?_|refine Sh.sl4 ?_|refine Sh.eq ?_|refine Sh.ne ?_|refine Sh.ix2 ?_|refine Sh.ix3 ?_|refine Z.bu rfl rfl ?_|refine Z.buA rfl rfl ?_|refine VM ?_|refine Z.pl (R.cap rfl rfl) ?_|refine Z.pl R.mf ?_|refine Z.pl (R.min2 rfl rfl) ?_|refine G1 ?_|refine G2 ?_|refine G3 ?_|refine G4 ?_|with_reducible (first|refine V0 ?_|refine Z.block ?_)|((with_reducible refine Z.blX ?_ ?_);rotate_left;rfl)|refine VT ?_|refine VF ?_|((first|refine GS ?_ ?_|refine VB ?_ ?_)<;>intro hb<;>(try simp only [J1,J2,J3,J4,J5,J6] at hb)<;>(try (exfalso;first|omega|exact hb trivial))))
    refine D.startS (Lr := [.blk gl 50 [.int .i64 L.ep, .int .i64 L.lag, .int .i64 L.acked, .slice A L.l.length c0]]) (hS.sb) 24 25 (by kernel_rfl) rfl ?_
    replace hS := hS.drew
    refine Sh.dp 0 1 ?_
    refine Sh.dp 2 5 ?_
    refine Sh.dp 3 13 ?_
    refine Sh.dp 4 29 ?_
    refine Sh.dp 6 93 ?_
    refine Sh.dp 9 605 ?_
    refine Sh.dp 10 1629 ?_
    refine Sh.dp 11 3677 ?_
    first | refine D.bu 12 7773 rfl D.wantedN (by kernel_rfl) rfl rfl ?_ | refine D.buA 12 7773 rfl D.wantedN (by kernel_rfl) rfl rfl ?_
    refine Sh.dp 15 40541 ?_
    refine Sh.dp 16 106077 ?_
    refine Sh.dp 17 237149 ?_
    refine Sh.dp 19 761437 ?_
    refine Sh.dl 5 761469 ?_
    refine D.pl 7 761597 rfl D.wantedN (by kernel_rfl) (R.upto rfl rfl rfl (by omega)) ?_
    refine Sh.dl 18 1023741 ?_
    refine D.pl 20 2072317 rfl D.wantedN (by kernel_rfl) (R.since rfl rfl rfl (by omega)) ?_
    refine D.each [1, 13] (by kernel_rfl) rfl ?_
    refine D.econs 1 2072319 rfl D.wantedN (by kernel_rfl) (fun _ _ h => h) ?_ ?_
    · refine Z.bs hS rfl rfl rfl ?_
      clear hS; intro g w hS hge
      refine ⟨HM.s (hS.sb), ?_⟩
      refine D.each [8, 13] (by kernel_rfl) rfl ?_
      refine D.econs 8 2072575 rfl D.wantedN (by kernel_rfl) (fun _ _ h => h) ?_ ?_
      · refine Z.ap0m (fc := Sd.rc) (l := L.l.take (spos L.l c)) hS rfl rfl rfl ((hS.slrows (e := 90) (v := .slice A L.l.length c0) (by repeat (first | exact At.here | apply At.next))).mtake (by omega)) (by (try simp only [maxLen, List.length_take, List.length_drop, List.length_append, List.length_cons, List.length_nil, List.length_map]); omega) (by (try simp only [maxLen, List.length_take, List.length_drop, List.length_append, List.length_cons, List.length_nil, List.length_map]); omega) ?_
        clear hS; intro A8 k8 w hS
        refine ⟨HM.s (hS.sb), ?_⟩
        refine D.eff 13 2080767 rfl D.wantedN (by kernel_rfl) (by kernel_rfl) (fun _ _ h => h) ?_
        refine Z.bs hS rfl rfl rfl ?_
        clear hS; intro g w hS hge
        refine ⟨HM.s (hS.sb), ?_⟩
        refine D.eff 14 2097151 rfl D.wantedN (by kernel_rfl) (by kernel_rfl) (fun _ _ h => h) ?_
        refine Z.apm (fc := Sd.rc) (l' := [Sd.mk c 0 n req]) hS rfl rfl rfl (by repeat (first | exact At.here | apply At.next)) (hS.lit1 (by repeat (first | exact At.here | apply At.next)) rfl rfl) (by (try simp only [maxLen, List.length_take, List.length_drop, List.length_append, List.length_cons, List.length_nil, List.length_map]); omega) (by (try simp only [maxLen, List.length_take, List.length_drop, List.length_append, List.length_cons, List.length_nil, List.length_map]); omega) ?_
        clear hS; intro A7 k7 w hS
        rw [← List.length_append] at hS ⊢
        refine ⟨HM.s (hS.sb), ?_⟩
        refine D.eff 21 4194303 rfl D.wantedN (by kernel_rfl) (by kernel_rfl) (fun _ _ h => h) ?_
        refine Z.apm (fc := Sd.rc) (l' := L.l.drop (spos L.l c)) hS rfl rfl rfl (by repeat (first | exact At.here | apply At.next)) ((hS.slrows (e := 90) (v := .slice A L.l.length c0) (by repeat (first | exact At.here | apply At.next))).mdrop (by omega)) (by (try simp only [maxLen, List.length_take, List.length_drop, List.length_append, List.length_cons, List.length_nil, List.length_map]); omega) (by (try simp only [maxLen, List.length_take, List.length_drop, List.length_append, List.length_cons, List.length_nil, List.length_map]); omega) ?_
        clear hS; intro A9 k9 w hS
        rw [← List.length_append] at hS ⊢
        refine ⟨HM.s (hS.sb), ?_⟩
        refine Sh.dp 22 8388607 ?_
        refine Sh.dp 23 16777215 ?_
        refine D.eff 24 33554431 rfl D.wantedN (by kernel_rfl) (by kernel_rfl) (fun _ _ h => h) ?_
        refine Z.st hS rfl (by repeat (first | exact At.here | apply At.next)) rfl rfl ?_
        clear hS; intro w hS
        refine ⟨HM.last (by kernel_rfl), ?_⟩
        refine D.done (by kernel_rfl) ?_
        repeat' (first|refine VP ?_|refine Sh.la hS ?_|refine Sh.lb ?_|refine Sh.lc ?_|refine Sh.su ?_|(refine Sh.sa hS ?_;clear hS;intro w hS)|((first|refine Sh.aa hS ?_|refine Sh.ab hS ?_|refine Sh.ac hS ?_);clear hS;intro g w hS hge)|refine Sh.ix ?_|refine Sh.up ?_|refine Sh.sl1 ?_|refine Sh.sl2 ?_|refine Sh.sl5 ?_|refine Sh.sl3 ?_|refine Sh.sl4 ?_|refine Sh.eq ?_|refine Sh.ne ?_|refine Sh.ix2 ?_|refine Sh.ix3 ?_|refine Z.bu rfl rfl ?_|refine Z.buA rfl rfl ?_|refine VM ?_|refine Z.pl (R.cap rfl rfl) ?_|refine Z.pl R.mf ?_|refine Z.pl (R.min2 rfl rfl) ?_|refine G1 ?_|refine G2 ?_|refine G3 ?_|refine G4 ?_|with_reducible (first|refine V0 ?_|refine Z.block ?_)|((with_reducible refine Z.blX ?_ ?_);rotate_left;rfl)|refine VT ?_|refine VF ?_|((first|refine GS ?_ ?_|refine VB ?_ ?_)<;>intro hb<;>(try simp only [J1,J2,J3,J4,J5,J6] at hb)<;>(try (exfalso;first|omega|exact hb trivial))))
        first | refine Z.done hS Tryz.results34 (Z.RV.tmp rfl Z.RV.nil) ?_ | refine Z.doneN hS Tryz.results34 (Z.RV.tmp rfl Z.RV.nil) ?_
        rw [List.append_assoc] at hS
        exact ⟨rfl, Sep.RL_open.2 ⟨A9, k9, hS.sb⟩⟩
      refine D.econs 13 2080511 rfl D.wantedN (by kernel_rfl) (fun _ _ h => h) ?_ ?_
      · refine Z.bs hS rfl rfl rfl ?_
        clear hS; intro g w hS hge
        refine ⟨HM.s (hS.sb), ?_⟩
        refine D.eff 8 2080767 rfl D.wantedN (by kernel_rfl) (by kernel_rfl) (fun _ _ h => h) ?_
        refine Z.ap0m (fc := Sd.rc) (l := L.l.take (spos L.l c)) hS rfl rfl rfl ((hS.slrows (e := 90) (v := .slice A L.l.length c0) (by repeat (first | exact At.here | apply At.next))).mtake (by omega)) (by (try simp only [maxLen, List.length_take, List.length_drop, List.length_append, List.length_cons, List.length_nil, List.length_map]); omega) (by (try simp only [maxLen, List.length_take, List.length_drop, List.length_append, List.length_cons, List.length_nil, List.length_map]); omega) ?_
        clear hS; intro A8 k8 w hS
        refine ⟨HM.s (hS.sb), ?_⟩
        refine D.eff 14 2097151 rfl D.wantedN (by kernel_rfl) (by kernel_rfl) (fun _ _ h => h) ?_
        refine Z.apm (fc := Sd.rc) (l' := [Sd.mk c 0 n req]) hS rfl rfl rfl (by repeat (first | exact At.here | apply At.next)) (hS.lit1 (by repeat (first | exact At.here | apply At.next)) rfl rfl) (by (try simp only [maxLen, List.length_take, List.length_drop, List.length_append, List.length_cons, List.length_nil, List.length_map]); omega) (by (try simp only [maxLen, List.length_take, List.length_drop, List.length_append, List.length_cons, List.length_nil, List.length_map]); omega) ?_
        clear hS; intro A7 k7 w hS
        rw [← List.length_append] at hS ⊢
        refine ⟨HM.s (hS.sb), ?_⟩
        refine D.eff 21 4194303 rfl D.wantedN (by kernel_rfl) (by kernel_rfl) (fun _ _ h => h) ?_
        refine Z.apm (fc := Sd.rc) (l' := L.l.drop (spos L.l c)) hS rfl rfl rfl (by repeat (first | exact At.here | apply At.next)) ((hS.slrows (e := 90) (v := .slice A L.l.length c0) (by repeat (first | exact At.here | apply At.next))).mdrop (by omega)) (by (try simp only [maxLen, List.length_take, List.length_drop, List.length_append, List.length_cons, List.length_nil, List.length_map]); omega) (by (try simp only [maxLen, List.length_take, List.length_drop, List.length_append, List.length_cons, List.length_nil, List.length_map]); omega) ?_
        clear hS; intro A9 k9 w hS
        rw [← List.length_append] at hS ⊢
        refine ⟨HM.s (hS.sb), ?_⟩
        refine Sh.dp 22 8388607 ?_
        refine Sh.dp 23 16777215 ?_
        refine D.eff 24 33554431 rfl D.wantedN (by kernel_rfl) (by kernel_rfl) (fun _ _ h => h) ?_
        refine Z.st hS rfl (by repeat (first | exact At.here | apply At.next)) rfl rfl ?_
        clear hS; intro w hS
        refine ⟨HM.last (by kernel_rfl), ?_⟩
        refine D.done (by kernel_rfl) ?_
        repeat' (first|refine VP ?_|refine Sh.la hS ?_|refine Sh.lb ?_|refine Sh.lc ?_|refine Sh.su ?_|(refine Sh.sa hS ?_;clear hS;intro w hS)|((first|refine Sh.aa hS ?_|refine Sh.ab hS ?_|refine Sh.ac hS ?_);clear hS;intro g w hS hge)|refine Sh.ix ?_|refine Sh.up ?_|refine Sh.sl1 ?_|refine Sh.sl2 ?_|refine Sh.sl5 ?_|refine Sh.sl3 ?_|refine Sh.sl4 ?_|refine Sh.eq ?_|refine Sh.ne ?_|refine Sh.ix2 ?_|refine Sh.ix3 ?_|refine Z.bu rfl rfl ?_|refine Z.buA rfl rfl ?_|refine VM ?_|refine Z.pl (R.cap rfl rfl) ?_|refine Z.pl R.mf ?_|refine Z.pl (R.min2 rfl rfl) ?_|refine G1 ?_|refine G2 ?_|refine G3 ?_|refine G4 ?_|with_reducible (first|refine V0 ?_|refine Z.block ?_)|((with_reducible refine Z.blX ?_ ?_);rotate_left;rfl)|refine VT ?_|refine VF ?_|((first|refine GS ?_ ?_|refine VB ?_ ?_)<;>intro hb<;>(try simp only [J1,J2,J3,J4,J5,J6] at hb)<;>(try (exfalso;first|omega|exact hb trivial))))
        first | refine Z.done hS Tryz.results34 (Z.RV.tmp rfl Z.RV.nil) ?_ | refine Z.doneN hS Tryz.results34 (Z.RV.tmp rfl Z.RV.nil) ?_
        rw [List.append_assoc] at hS
        exact ⟨rfl, Sep.RL_open.2 ⟨A9, k9, hS.sb⟩⟩
      exact D.enil
    refine D.econs 13 2080509 rfl D.wantedN (by kernel_rfl) (fun _ _ h => h) ?_ ?_
    · refine Z.bs hS rfl rfl rfl ?_
      clear hS; intro g w hS hge
      refine ⟨HM.s (hS.sb), ?_⟩
      refine D.eff 1 2080511 rfl D.wantedN (by kernel_rfl) (by kernel_rfl) (fun _ _ h => h) ?_
      refine Z.bs hS rfl rfl rfl ?_
      clear hS; intro g w hS hge
      refine ⟨HM.s (hS.sb), ?_⟩
      refine D.eff 8 2080767 rfl D.wantedN (by kernel_rfl) (by kernel_rfl) (fun _ _ h => h) ?_
      refine Z.ap0m (fc := Sd.rc) (l := L.l.take (spos L.l c)) hS rfl rfl rfl ((hS.slrows (e := 90) (v := .slice A L.l.length c0) (by repeat (first | exact At.here | apply At.next))).mtake (by omega)) (by (try simp only [maxLen, List.length_take, List.length_drop, List.length_append, List.length_cons, List.length_nil, List.length_map]); omega) (by (try simp only [maxLen, List.length_take, List.length_drop, List.length_append, List.length_cons, List.length_nil, List.length_map]); omega) ?_
      clear hS; intro A8 k8 w hS
      refine ⟨HM.s (hS.sb), ?_⟩
      refine D.eff 14 2097151 rfl D.wantedN (by kernel_rfl) (by kernel_rfl) (fun _ _ h => h) ?_
      refine Z.apm (fc := Sd.rc) (l' := [Sd.mk c 0 n req]) hS rfl rfl rfl (by repeat (first | exact At.here | apply At.next)) (hS.lit1 (by repeat (first | exact At.here | apply At.next)) rfl rfl) (by (try simp only [maxLen, List.length_take, List.length_drop, List.length_append, List.length_cons, List.length_nil, List.length_map]); omega) (by (try simp only [maxLen, List.length_take, List.length_drop, List.length_append, List.length_cons, List.length_nil, List.length_map]); omega) ?_
      clear hS; intro A7 k7 w hS
      rw [← List.length_append] at hS ⊢
      refine ⟨HM.s (hS.sb), ?_⟩
      refine D.eff 21 4194303 rfl D.wantedN (by kernel_rfl) (by kernel_rfl) (fun _ _ h => h) ?_
      refine Z.apm (fc := Sd.rc) (l' := L.l.drop (spos L.l c)) hS rfl rfl rfl (by repeat (first | exact At.here | apply At.next)) ((hS.slrows (e := 90) (v := .slice A L.l.length c0) (by repeat (first | exact At.here | apply At.next))).mdrop (by omega)) (by (try simp only [maxLen, List.length_take, List.length_drop, List.length_append, List.length_cons, List.length_nil, List.length_map]); omega) (by (try simp only [maxLen, List.length_take, List.length_drop, List.length_append, List.length_cons, List.length_nil, List.length_map]); omega) ?_
      clear hS; intro A9 k9 w hS
      rw [← List.length_append] at hS ⊢
      refine ⟨HM.s (hS.sb), ?_⟩
      refine Sh.dp 22 8388607 ?_
      refine Sh.dp 23 16777215 ?_
      refine D.eff 24 33554431 rfl D.wantedN (by kernel_rfl) (by kernel_rfl) (fun _ _ h => h) ?_
      refine Z.st hS rfl (by repeat (first | exact At.here | apply At.next)) rfl rfl ?_
      clear hS; intro w hS
      refine ⟨HM.last (by kernel_rfl), ?_⟩
      refine D.done (by kernel_rfl) ?_
      repeat' (first|refine VP ?_|refine Sh.la hS ?_|refine Sh.lb ?_|refine Sh.lc ?_|refine Sh.su ?_|(refine Sh.sa hS ?_;clear hS;intro w hS)|((first|refine Sh.aa hS ?_|refine Sh.ab hS ?_|refine Sh.ac hS ?_);clear hS;intro g w hS hge)|refine Sh.ix ?_|refine Sh.up ?_|refine Sh.sl1 ?_|refine Sh.sl2 ?_|refine Sh.sl5 ?_|refine Sh.sl3 ?_|refine Sh.sl4 ?_|refine Sh.eq ?_|refine Sh.ne ?_|refine Sh.ix2 ?_|refine Sh.ix3 ?_|refine Z.bu rfl rfl ?_|refine Z.buA rfl rfl ?_|refine VM ?_|refine Z.pl (R.cap rfl rfl) ?_|refine Z.pl R.mf ?_|refine Z.pl (R.min2 rfl rfl) ?_|refine G1 ?_|refine G2 ?_|refine G3 ?_|refine G4 ?_|with_reducible (first|refine V0 ?_|refine Z.block ?_)|((with_reducible refine Z.blX ?_ ?_);rotate_left;rfl)|refine VT ?_|refine VF ?_|((first|refine GS ?_ ?_|refine VB ?_ ?_)<;>intro hb<;>(try simp only [J1,J2,J3,J4,J5,J6] at hb)<;>(try (exfalso;first|omega|exact hb trivial))))
      first | refine Z.done hS Tryz.results34 (Z.RV.tmp rfl Z.RV.nil) ?_ | refine Z.doneN hS Tryz.results34 (Z.RV.tmp rfl Z.RV.nil) ?_
      rw [List.append_assoc] at hS
      exact ⟨rfl, Sep.RL_open.2 ⟨A9, k9, hS.sb⟩⟩
    exact D.enil
end Go.Proofs.YtmjdkgpckcdndaaGreat
