/-
  The reference's queue: live, Take, Holds, Leases; Apply and Copy over the queue as a resource.
-/
import Derived.Test.YtahackdfjcgkhaaGreatNQx
import Derived.Test.YtahackdfjcgkhaaGreatC1
namespace Go.Proofs.YtahackdfjcgkhaaGreat
open Go.RowKit
set_option linter.unusedSimpArgs false
set_option linter.unusedVariables false
attribute [local irreducible] Res.blk Res.sl Res.all Res.ex Res.pure Res.star

/-- The live lease of an item. -/
def liveF (rs : List Le) (ep n tk : Int) : Option Le := rs.find? fun l => decide (l.item = n) && decide (liveL l ep tk)
theorem liveF_isSome (rs : List Le) (ep n tk : Int) : (liveF rs ep n tk).isSome = heldB rs n ep tk := by
  unfold liveF heldB
  induction rs with
  | nil => rfl
  | cons x l ih =>
    rw [List.find?_cons, List.any_cons, ← ih]
    cases (decide (x.item = n) && decide (liveL x ep tk)) <;> simp
theorem liveF_drop {rs : List Le} {ep n tk : Int} {k : Nat} (hk : k < rs.length) : liveF (rs.drop k) ep n tk = if rs[k].item = n ∧ liveL rs[k] ep tk then some rs[k] else liveF (rs.drop (k + 1)) ep n tk := by
  unfold liveF
  rw [List.drop_eq_getElem_cons hk, List.find?_cons]
  by_cases h1 : rs[k].item = n <;> by_cases h2 : liveL rs[k] ep tk <;> simp [h1, h2]
def liveV (o : Option Le) : Value := .tuple #[(o.getD .zero).val, .bool o.isSome]

set_option maxHeartbeats 2000000 in
theorem rlive_z (gq : Nat) (rs : List Le) (vl vr vm : Value) (ep n tk : Int) (r : World) (F : List Res) (w : World) (hS : Sep r [] (.blk gq 105 [vl, vr, vm] :: F) w) (hrd : Reads r F 4 vr (rs.map Le.cells)) (hl : rs.length ≤ 1000) :
    Calls Tryz.prog 130 #[.pointer (some ⟨gq, 0, none⟩), .int .i64 ep, .int .i64 n, .int .i64 tk] w fun e w' => e = .returned (liveV (liveF rs ep n tk)) ∧ Sep r [] (.blk gq 105 [vl, vr, vm] :: F) w' := by
  obtain ⟨A, c, rfl, hc⟩ := (hrd [_] w hS).mform
  refine Z.enter Tryz.func130 Tryz.ntmps130 rfl rfl ?_
  repeat' (first|refine VP ?_|refine Sh.la hS ?_|refine Sh.lb ?_|refine Sh.lc ?_|refine Sh.su ?_|(refine Sh.sa hS ?_;clear hS;intro w hS)|((first|refine Sh.aa hS ?_|refine Sh.ab hS ?_|refine Sh.ac hS ?_);clear hS;intro g w hS hge)|refine Sh.ix ?_|refine Sh.up ?_|refine Sh.sl1 ?_|refine Sh.sl2 ?_|refine Sh.sl5 ?_|refine Sh.sl3 ?_|refine Sh.sl4 ?_|refine Sh.eq ?_|refine Sh.ne ?_|refine Sh.ix2 ?_|refine Sh.ix3 ?_|refine Z.bu rfl rfl ?_|refine Z.buA rfl rfl ?_|refine VM ?_|refine Z.pl (R.cap rfl rfl) ?_|refine Z.pl R.mf ?_|refine Z.pl (R.min2 rfl rfl) ?_|refine G1 ?_|refine G2 ?_|refine G3 ?_|refine G4 ?_|with_reducible (first|refine V0 ?_|refine Z.block ?_)|((with_reducible refine Z.blX ?_ ?_);rotate_left;rfl)|refine VT ?_|refine VF ?_|((first|refine GS ?_ ?_|refine VB ?_ ?_)<;>intro hb<;>(try simp only [J1,J2,J3,J4,J5,J6] at hb)<;>(try (exfalso;first|omega|exact hb trivial))))
  rename Nat => g8
  refine Z.lpS [9, 11, 17, 18, 19, 20, 21, 22, 23, 24, 25, 26, 27, 28, 29, 30, 31, 32, 33, 34, 35, 36, 37, 38] (fun m w s => ∃ q : Nat, s = [(17, .int .i64 q)] ∧ q ≤ rs.length ∧ liveF rs ep n tk = liveF (rs.drop q) ep n tk ∧ m = rs.length - q ∧ Sep r [] (.blk g8 133 Le.zero.cells :: .blk gq 105 [vl, .slice A rs.length c, vm] :: F) w) _ [(17, .int .i64 (0 : Nat))] (by repeat (first | exact trivial | refine ⟨rfl, ?_⟩)) ⟨0, rfl, by omega, by simp, rfl, hS⟩ ?_
  clear hS
  rintro m f0 w _ ⟨q, rfl, hq, hf, rfl, hS⟩
  by_cases hlt : q < rs.length
  · obtain ⟨gb, o, rfl, _, hra⟩ := (hrd [_, _] w hS).mat (by omega) hlt
    have hfd := liveF_drop (ep := ep) (n := n) (tk := tk) hlt
    repeat' (first|refine VP ?_|refine Sh.la hS ?_|refine Sh.lb ?_|refine Sh.lc ?_|refine Sh.su ?_|(refine Sh.sa hS ?_;clear hS;intro w hS)|((first|refine Sh.aa hS ?_|refine Sh.ab hS ?_|refine Sh.ac hS ?_);clear hS;intro g w hS hge)|refine Sh.ix ?_|refine Sh.up ?_|refine Sh.sl1 ?_|refine Sh.sl2 ?_|refine Sh.sl5 ?_|refine Sh.sl3 ?_|refine Sh.sl4 ?_|refine Sh.eq ?_|refine Sh.ne ?_|refine Sh.ix2 ?_|refine Sh.ix3 ?_|refine Z.bu rfl rfl ?_|refine Z.buA rfl rfl ?_|refine VM ?_|refine Z.pl (R.cap rfl rfl) ?_|refine Z.pl R.mf ?_|refine Z.pl (R.min2 rfl rfl) ?_|refine G1 ?_|refine G2 ?_|refine G3 ?_|refine G4 ?_|with_reducible (first|refine V0 ?_|refine Z.block ?_)|((with_reducible refine Z.blX ?_ ?_);rotate_left;rfl)|refine VT ?_|refine VF ?_|((first|refine GS ?_ ?_|refine VB ?_ ?_)<;>intro hb<;>(try simp only [J1,J2,J3,J4,J5,J6] at hb)<;>(try (exfalso;first|omega|exact hb trivial))))
    · first | refine Z.done hS Tryz.results130 (Z.RV.cell rfl (by repeat (first | exact At.here | apply At.next)) rfl (Z.RV.tmp rfl Z.RV.nil)) ?_ | refine Z.doneN hS Tryz.results130 (Z.RV.cell rfl (by repeat (first | exact At.here | apply At.next)) rfl (Z.RV.tmp rfl Z.RV.nil)) ?_
      have h1 : rs[q].item = n ∧ liveL rs[q] ep tk := by unfold liveL; refine ⟨by assumption, by assumption, by assumption⟩
      rw [hf, hfd, if_pos h1]
      exact ⟨rfl, hS.sb⟩
    all_goals
      refine Sh.again (rs.length - (q + 1)) [(17, .int .i64 (q + 1 : Nat))] ?_
      have h1 : ¬ (rs[q].item = n ∧ liveL rs[q] ep tk) := by unfold liveL; omega
      rw [if_neg h1] at hfd
      exact ⟨q + 1, rfl, by omega, by rw [hf, hfd], rfl, hS.sb⟩
  · repeat' (first|refine VP ?_|refine Sh.la hS ?_|refine Sh.lb ?_|refine Sh.lc ?_|refine Sh.su ?_|(refine Sh.sa hS ?_;clear hS;intro w hS)|((first|refine Sh.aa hS ?_|refine Sh.ab hS ?_|refine Sh.ac hS ?_);clear hS;intro g w hS hge)|refine Sh.ix ?_|refine Sh.up ?_|refine Sh.sl1 ?_|refine Sh.sl2 ?_|refine Sh.sl5 ?_|refine Sh.sl3 ?_|refine Sh.sl4 ?_|refine Sh.eq ?_|refine Sh.ne ?_|refine Sh.ix2 ?_|refine Sh.ix3 ?_|refine Z.bu rfl rfl ?_|refine Z.buA rfl rfl ?_|refine VM ?_|refine Z.pl (R.cap rfl rfl) ?_|refine Z.pl R.mf ?_|refine Z.pl (R.min2 rfl rfl) ?_|refine G1 ?_|refine G2 ?_|refine G3 ?_|refine G4 ?_|with_reducible (first|refine V0 ?_|refine Z.block ?_)|((with_reducible refine Z.blX ?_ ?_);rotate_left;rfl)|refine VT ?_|refine VF ?_|((first|refine GS ?_ ?_|refine VB ?_ ?_)<;>intro hb<;>(try simp only [J1,J2,J3,J4,J5,J6] at hb)<;>(try (exfalso;first|omega|exact hb trivial))))
    first | refine Z.done hS Tryz.results130 (Z.RV.cell rfl (by repeat (first | exact At.here | apply At.next)) rfl (Z.RV.tmp rfl Z.RV.nil)) ?_ | refine Z.doneN hS Tryz.results130 (Z.RV.cell rfl (by repeat (first | exact At.here | apply At.next)) rfl (Z.RV.tmp rfl Z.RV.nil)) ?_
    have : liveF rs ep n tk = none := by rw [hf, List.drop_eq_nil_of_le (by omega)]; rfl
    rw [this]
    exact ⟨rfl, hS.sb⟩

def holdsR (rs : List Le) (cl ep n tk : Int) : Bool := (liveF rs ep n tk).any fun l => decide (l.client = cl)
set_option maxHeartbeats 2000000 in
theorem rqholds_z (gq : Nat) (q : Qu) (cl ep n tk : Int) (r : World) (F : List Res) (w : World) (hS : Sep r [] (QR gq q :: F) w) (hl' : q.r.length ≤ 1000) :
    Calls Tryz.prog 133 #[.pointer (some ⟨gq, 0, none⟩), .int .i64 cl, .int .i64 ep, .int .i64 n, .int .i64 tk] w fun e w' => e = .returned (.bool (holdsR q.r cl ep n tk)) ∧ Sep r [] (QR gq q :: F) w' := by
  obtain ⟨vl, vr, hS⟩ := Sep.QR_open.1 hS
  obtain ⟨o, ho⟩ : ∃ o, liveF q.r ep n tk = o := ⟨_, rfl⟩
  have hh : holdsR q.r cl ep n tk = o.any fun l => decide (l.client = cl) := by unfold holdsR; rw [ho]
  refine Z.enter Tryz.func133 Tryz.ntmps133 rfl rfl ?_
  repeat' (first|refine VP ?_|refine Sh.la hS ?_|refine Sh.lb ?_|refine Sh.lc ?_|refine Sh.su ?_|(refine Sh.sa hS ?_;clear hS;intro w hS)|((first|refine Sh.aa hS ?_|refine Sh.ab hS ?_|refine Sh.ac hS ?_);clear hS;intro g w hS hge)|refine Sh.ix ?_|refine Sh.up ?_|refine Sh.sl1 ?_|refine Sh.sl2 ?_|refine Sh.sl5 ?_|refine Sh.sl3 ?_|refine Sh.sl4 ?_|refine Sh.eq ?_|refine Sh.ne ?_|refine Sh.ix2 ?_|refine Sh.ix3 ?_|refine Z.bu rfl rfl ?_|refine Z.buA rfl rfl ?_|refine VM ?_|refine Z.pl (R.cap rfl rfl) ?_|refine Z.pl R.mf ?_|refine Z.pl (R.min2 rfl rfl) ?_|refine G1 ?_|refine G2 ?_|refine G3 ?_|refine G4 ?_|with_reducible (first|refine V0 ?_|refine Z.block ?_)|((with_reducible refine Z.blX ?_ ?_);rotate_left;rfl)|refine VT ?_|refine VF ?_|((first|refine GS ?_ ?_|refine VB ?_ ?_)<;>intro hb<;>(try simp only [J1,J2,J3,J4,J5,J6] at hb)<;>(try (exfalso;first|omega|exact hb trivial))))
  refine Z.eff (Z.cl (rlive_z gq q.r _ _ _ ep n tk _ _ _ hS (Reads.of_at (by repeat (first | exact At.here | apply At.next))) hl') rfl ?_) rfl
  clear hS
  rintro e w ⟨rfl, hS⟩
  refine ⟨_, rfl, ?_⟩
  rw [ho]
  cases o with
  | none =>
    repeat' (first|refine VP ?_|refine Sh.la hS ?_|refine Sh.lb ?_|refine Sh.lc ?_|refine Sh.su ?_|(refine Sh.sa hS ?_;clear hS;intro w hS)|((first|refine Sh.aa hS ?_|refine Sh.ab hS ?_|refine Sh.ac hS ?_);clear hS;intro g w hS hge)|refine Sh.ix ?_|refine Sh.up ?_|refine Sh.sl1 ?_|refine Sh.sl2 ?_|refine Sh.sl5 ?_|refine Sh.sl3 ?_|refine Sh.sl4 ?_|refine Sh.eq ?_|refine Sh.ne ?_|refine Sh.ix2 ?_|refine Sh.ix3 ?_|refine Z.bu rfl rfl ?_|refine Z.buA rfl rfl ?_|refine VM ?_|refine Z.pl (R.cap rfl rfl) ?_|refine Z.pl R.mf ?_|refine Z.pl (R.min2 rfl rfl) ?_|refine G1 ?_|refine G2 ?_|refine G3 ?_|refine G4 ?_|with_reducible (first|refine V0 ?_|refine Z.block ?_)|((with_reducible refine Z.blX ?_ ?_);rotate_left;rfl)|refine VT ?_|refine VF ?_|((first|refine GS ?_ ?_|refine VB ?_ ?_)<;>intro hb<;>(try simp only [J1,J2,J3,J4,J5,J6] at hb)<;>(try (exfalso;first|omega|exact hb trivial))))
    first | refine Z.done hS Tryz.results133 (Z.RV.tmp rfl Z.RV.nil) ?_ | refine Z.doneN hS Tryz.results133 (Z.RV.tmp rfl Z.RV.nil) ?_
    rw [hh]
    exact ⟨rfl, Sep.QR_open.2 ⟨vl, vr, hS.sb⟩⟩
  | some l =>
    repeat' (first|refine VP ?_|refine Sh.la hS ?_|refine Sh.lb ?_|refine Sh.lc ?_|refine Sh.su ?_|(refine Sh.sa hS ?_;clear hS;intro w hS)|((first|refine Sh.aa hS ?_|refine Sh.ab hS ?_|refine Sh.ac hS ?_);clear hS;intro g w hS hge)|refine Sh.ix ?_|refine Sh.up ?_|refine Sh.sl1 ?_|refine Sh.sl2 ?_|refine Sh.sl5 ?_|refine Sh.sl3 ?_|refine Sh.sl4 ?_|refine Sh.eq ?_|refine Sh.ne ?_|refine Sh.ix2 ?_|refine Sh.ix3 ?_|refine Z.bu rfl rfl ?_|refine Z.buA rfl rfl ?_|refine VM ?_|refine Z.pl (R.cap rfl rfl) ?_|refine Z.pl R.mf ?_|refine Z.pl (R.min2 rfl rfl) ?_|refine G1 ?_|refine G2 ?_|refine G3 ?_|refine G4 ?_|with_reducible (first|refine V0 ?_|refine Z.block ?_)|((with_reducible refine Z.blX ?_ ?_);rotate_left;rfl)|refine VT ?_|refine VF ?_|((first|refine GS ?_ ?_|refine VB ?_ ?_)<;>intro hb<;>(try simp only [J1,J2,J3,J4,J5,J6] at hb)<;>(try (exfalso;first|omega|exact hb trivial))))
    first | refine Z.done hS Tryz.results133 (Z.RV.tmp rfl Z.RV.nil) ?_ | refine Z.doneN hS Tryz.results133 (Z.RV.tmp rfl Z.RV.nil) ?_
    rw [hh]
    exact ⟨rfl, Sep.QR_open.2 ⟨vl, vr, hS.sb⟩⟩

/-- What the reference's Leases returns. -/
def leasesR (l : List It) (rs : List Le) (ep tk : Int) : List Le := l.filterMap fun x => liveF rs ep x.number tk
theorem leasesR_take {l : List It} {rs : List Le} {ep tk : Int} {k : Nat} (hk : k < l.length) : leasesR (l.take (k + 1)) rs ep tk = leasesR (l.take k) rs ep tk ++ (liveF rs ep l[k].number tk).toList := by
  unfold leasesR
  rw [List.take_succ_eq_append_getElem hk, List.filterMap_append]
  cases h : liveF rs ep l[k].number tk <;> simp [h]
theorem Sep.QR_form {r w : World} {F : List Res} {gq : Nat} {q : Qu} (h : Sep r [] (QR gq q :: F) w) : ∃ A c B d, Sep r [] (.blk gq 105 [.slice A q.l.length c, .slice B q.r.length d, .int .i64 q.most] :: .sl 79 2 (.slice A q.l.length c) (q.l.map It.cells) :: .sl 133 4 (.slice B q.r.length d) (q.r.map Le.cells) :: F) w := by
  obtain ⟨vl, vr, hS⟩ := Sep.QR_open.1 h
  obtain ⟨A, c, rfl, _⟩ := (hS.slrows (.next .here)).mform
  obtain ⟨B, d, rfl, _⟩ := (hS.slrows (.next (.next .here))).mform
  exact ⟨A, c, B, d, hS⟩
end Go.Proofs.YtahackdfjcgkhaaGreat
