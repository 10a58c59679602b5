/-
  The walks of the reference's queue: at, drop, Copy, Apply.
  The walks of the reference's queue: Copy and Apply.
-/
import Derived.Test.YtiabhlogadboeaaGreatE2
import Derived.Test.YtiabhlogadboeaaGreatV1
namespace Go.Proofs.YtiabhlogadboeaaGreat
open Go.RowKit
set_option linter.unusedSimpArgs false
set_option linter.unusedVariables false
attribute [local irreducible] Res.blk Res.sl Res.all Res.ex Res.pure Res.star

def qidx : List It → Int → Nat
  | [], _ => 0
  | x :: l, n => if x.number = n then 0 else qidx l n + 1
/-- The index of an item, or -1. -/
def qat (l : List It) (n : Int) : Int := if qidx l n < l.length then qidx l n else -1
theorem qidx_le : ∀ (l : List It) (n : Int), qidx l n ≤ l.length
  | [], _ => Nat.le_refl _
  | x :: l, n => by
    unfold qidx
    have := qidx_le l n
    split <;> simp <;> omega
theorem qidx_drop {l : List It} {n : Int} {q : Nat} (hq : q < l.length) : qidx (l.drop q) n = if l[q].number = n then 0 else qidx (l.drop (q + 1)) n + 1 := by
  rw [List.drop_eq_getElem_cons hq]
  simp [qidx]
def without (r : List Le) (n : Int) : List Le := r.filter fun x => x.item != n
theorem without_take {r : List Le} {n : Int} {k : Nat} (hk : k < r.length) : without (r.take (k + 1)) n = without (r.take k) n ++ (if r[k].item = n then [] else [r[k]]) := by
  unfold without
  rw [List.take_succ_eq_append_getElem hk, List.filter_append]
  congr 1
  by_cases h : r[k].item = n <;> simp [h]

set_option maxHeartbeats 400000 in
theorem qat_z (gq : Nat) (l : List It) (vl vr vm : Value) (n : Int) (r : World) (F : List Res) (w : World) (hS : Sep r [] (.blk gq 144 [vl, vr, vm] :: F) w) (hrd : Reads r F 2 vl (l.map It.cells)) (hl : l.length ≤ 1000) :
    Calls Tryz.prog 131 #[.pointer (some ⟨gq, 0, none⟩), .int .i64 n] w fun e w' =>
      e = .returned (.int .i64 (qat l n)) ∧ Sep r [] (.blk gq 144 [vl, vr, vm] :: F) w' := by
  obtain ⟨A, c, rfl, hc⟩ := (hrd [_] w hS).mform
  refine Z.enter Tryz.func131 Tryz.ntmps131 rfl rfl ?_
  repeat' (first|refine K ?_|(refine Sh.sa hS ?_;clear hS;intro w hS)|(refine K3 ?_;clear hS;intro g w hS hge)|((first|refine GS ?_ ?_|refine VB ?_ ?_)<;>intro hb<;>(try simp only [J1,J2,J3,J4,J5,J6] at hb)<;>(try (exfalso;first|omega|exact hb trivial))))
  refine Z.lpS [4, 5, 6, 12, 13, 14, 15, 16, 17, 18, 19, 20, 21, 22] (fun m w s => ∃ q : Nat, s = [(12, .int .i64 q)] ∧ q ≤ l.length ∧ qidx l n = q + qidx (l.drop q) n ∧ m = l.length - q ∧ Sep r [] (.blk gq 144 [.slice A l.length c, vr, vm] :: F) w) _ [(12, .int .i64 (0 : Nat))] (by repeat (first | exact trivial | refine ⟨rfl, ?_⟩)) ⟨0, rfl, by omega, by simp, rfl, hS⟩ ?_
  clear hS w
  rintro m g w _ ⟨q, rfl, hq, hf, rfl, hS⟩
  by_cases hlt : q < l.length
  · obtain ⟨gb, o, rfl, _, hra⟩ := (hrd [_] w hS).mat (by omega) hlt
    have hfd := qidx_drop (n := n) hlt
    repeat' (first|refine K ?_|(refine Sh.sa hS ?_;clear hS;intro w hS)|(refine K3 ?_;clear hS;intro g w hS hge)|((first|refine GS ?_ ?_|refine VB ?_ ?_)<;>intro hb<;>(try simp only [J1,J2,J3,J4,J5,J6] at hb)<;>(try (exfalso;first|omega|exact hb trivial))))
    · refine Dnt Tryz.results131 ?_
      refine ⟨?_, hS.sb⟩
      rw [if_pos hb] at hfd
      have : qat l n = q := by unfold qat; rw [if_pos (by omega)]; omega
      rw [this]
      rfl
    · refine Sh.again (l.length - (q + 1)) [(12, .int .i64 (q + 1 : Nat))] ?_
      rw [if_neg hb] at hfd
      exact ⟨q + 1, rfl, by omega, by omega, rfl, hS.sb⟩
  · repeat' (first|refine K ?_|(refine Sh.sa hS ?_;clear hS;intro w hS)|(refine K3 ?_;clear hS;intro g w hS hge)|((first|refine GS ?_ ?_|refine VB ?_ ?_)<;>intro hb<;>(try simp only [J1,J2,J3,J4,J5,J6] at hb)<;>(try (exfalso;first|omega|exact hb trivial))))
    refine Dnt Tryz.results131 ?_
    refine ⟨?_, hS⟩
    have hfd : qidx (l.drop q) n = 0 := by rw [List.drop_eq_nil_of_le (by omega)]; rfl
    have : qat l n = -1 := by unfold qat; rw [if_neg (by omega)]
    rw [this]
    rfl

set_option maxHeartbeats 400000 in
theorem qdrop_z (gq : Nat) (rs : List Le) (vl vr vm : Value) (n : Int) (r : World) (F : List Res) (w : World) (hS : Sep r [] (.blk gq 144 [vl, vr, vm] :: F) w) (hrd : Reads r F 4 vr (rs.map Le.cells)) (hl : rs.length ≤ 1000) :
    Calls Tryz.prog 132 #[.pointer (some ⟨gq, 0, none⟩), .int .i64 n] w fun e w' =>
      e = .returned (.tuple #[]) ∧ ∃ v', Sep r [] (.blk gq 144 [vl, v', vm] :: .sl 126 4 v' ((without rs n).map Le.cells) :: F) w' := by
  obtain ⟨A, c, rfl, hc⟩ := (hrd [_] w hS).mform
  refine Z.enter Tryz.func132 Tryz.ntmps132 rfl rfl ?_
  repeat' (first|refine K ?_|(refine Sh.sa hS ?_;clear hS;intro w hS)|(refine K3 ?_;clear hS;intro g w hS hge)|((first|refine GS ?_ ?_|refine VB ?_ ?_)<;>intro hb<;>(try simp only [J1,J2,J3,J4,J5,J6] at hb)<;>(try (exfalso;first|omega|exact hb trivial))))
  refine Z.lpS [4, 6, 12, 13, 14, 15, 16, 17, 18, 19, 20, 21, 22, 23, 24] (fun m w s => ∃ (q : Nat) (B : Option Addr) (n0 c0 : Nat), s = [(12, .int .i64 q), (4, .slice B n0 c0)] ∧ q ≤ rs.length ∧ m = rs.length - q ∧
    Sep r [] (.sl 126 4 (.slice B n0 c0) ((without (rs.take q) n).map Le.cells) :: .blk gq 144 [vl, .slice A rs.length c, vm] :: F) w) _ [(12, .int .i64 (0 : Nat)), (4, .slice none 0 0)] (by repeat (first | exact trivial | refine ⟨rfl, ?_⟩)) ⟨0, none, 0, 0, rfl, by omega, rfl, Z.nilsl hS _ _ _⟩ ?_
  clear hS w
  rintro m g w _ ⟨q, B, n0, c0, rfl, hq, rfl, hS⟩
  have hwl : (without (rs.take q) n).length ≤ 1000 := Nat.le_trans (List.length_filter_le _ _) (by simp; omega)
  by_cases hlt : q < rs.length
  · obtain ⟨gb, o, rfl, _, hra⟩ := (hrd [_, _] w hS).mat (by omega) hlt
    have hwt := without_take (n := n) hlt
    repeat' (first|refine K ?_|(refine Sh.sa hS ?_;clear hS;intro w hS)|(refine K3 ?_;clear hS;intro g w hS hge)|((first|refine GS ?_ ?_|refine VB ?_ ?_)<;>intro hb<;>(try simp only [J1,J2,J3,J4,J5,J6] at hb)<;>(try (exfalso;first|omega|exact hb trivial))))
    · rw [if_neg hb] at hwt
      refine Z.eff (Z.apm (l' := [rs[q]]) hS rfl rfl rfl (by repeat (first | exact At.here | apply At.next)) (hS.lit1 (by repeat (first | exact At.here | apply At.next)) rfl rfl) (by (try simp only [maxLen, List.length_take, List.length_drop, List.length_append, List.length_cons, List.length_nil, List.length_map]); omega) (by (try simp only [maxLen, List.length_take, List.length_drop, List.length_append, List.length_cons, List.length_nil, List.length_map]); omega) ?_) rfl
      clear hS; intro A' c' w hS
      rw [← hwt] at hS
      repeat' (first|refine K ?_|(refine Sh.sa hS ?_;clear hS;intro w hS)|(refine K3 ?_;clear hS;intro g w hS hge)|((first|refine GS ?_ ?_|refine VB ?_ ?_)<;>intro hb<;>(try simp only [J1,J2,J3,J4,J5,J6] at hb)<;>(try (exfalso;first|omega|exact hb trivial))))
      refine Sh.again (rs.length - (q + 1)) [(12, .int .i64 (q + 1 : Nat)), (4, .slice A' _ c')] ?_
      exact ⟨q + 1, A', _, c', rfl, by omega, rfl, hS.sb⟩
    · rw [if_pos hb, List.append_nil] at hwt
      refine Sh.again (rs.length - (q + 1)) [(12, .int .i64 (q + 1 : Nat)), (4, .slice B n0 c0)] ?_
      rw [← hwt] at hS
      exact ⟨q + 1, B, n0, c0, rfl, by omega, rfl, hS.sb⟩
  · repeat' (first|refine K ?_|(refine Sh.sa hS ?_;clear hS;intro w hS)|(refine K3 ?_;clear hS;intro g w hS hge)|((first|refine GS ?_ ?_|refine VB ?_ ?_)<;>intro hb<;>(try simp only [J1,J2,J3,J4,J5,J6] at hb)<;>(try (exfalso;first|omega|exact hb trivial))))
    refine Dn Tryz.results132 ?_
    rw [List.take_of_length_le (by omega)] at hS
    exact ⟨rfl, _, hS.sb⟩
end Go.Proofs.YtiabhlogadboeaaGreat

namespace Go.Proofs.YtiabhlogadboeaaGreat
open Go.RowKit
set_option linter.unusedSimpArgs false
set_option linter.unusedVariables false
attribute [local irreducible] Res.blk Res.sl Res.all Res.ex Res.pure Res.star

set_option maxHeartbeats 1000000 in
theorem qcopy_z (gq : Nat) (l : List It) (rs : List Le) (vl vr : Value) (m : Int) (r : World) (F : List Res) (w : World) (hS : Sep r [] (.blk gq 144 [vl, vr, .int .i64 m] :: F) w) (hrd : Reads r F 2 vl (l.map It.cells)) (hrd' : Reads r F 4 vr (rs.map Le.cells)) (hl : l.length ≤ 1000) (hl' : rs.length ≤ 1000) :
    Calls Tryz.prog 83 #[.pointer (some ⟨gq, 0, none⟩)] w fun e w' =>
      ∃ g v1 v2, e = .returned (.pointer (some ⟨g, 0, none⟩)) ∧ Sep r [] (.blk g 144 [v1, v2, .int .i64 m] :: .sl 114 2 v1 (l.map It.cells) :: .sl 126 4 v2 (rs.map Le.cells) :: .blk gq 144 [vl, vr, .int .i64 m] :: F) w' := by
  obtain ⟨A, c, rfl, hc⟩ := (hrd [_] w hS).mform
  obtain ⟨A2, c2, rfl, hc2⟩ := (hrd' [_] w hS).mform
  refine Z.enter Tryz.func83 Tryz.ntmps83 rfl rfl ?_
  repeat' (first|refine K ?_|(refine Sh.sa hS ?_;clear hS;intro w hS)|(refine K3 ?_;clear hS;intro g w hS hge)|((first|refine GS ?_ ?_|refine VB ?_ ?_)<;>intro hb<;>(try simp only [J1,J2,J3,J4,J5,J6] at hb)<;>(try (exfalso;first|omega|exact hb trivial))))
  refine D.startS hS 19 19 (by kernel_rfl) rfl ?_
  replace hS := hS.drew
  refine Sh.dp 1 2 ?_
  refine Sh.dp 2 6 ?_
  refine Sh.dp 3 14 ?_
  refine Sh.dp 7 142 ?_
  refine Sh.dp 8 398 ?_
  refine Sh.dp 9 910 ?_
  refine Sh.dp 12 5006 ?_
  refine Sh.dp 13 13198 ?_
  refine Sh.dp 14 29582 ?_
  refine Sh.dl 4 29598 ?_
  refine Sh.dl 10 30622 ?_
  refine Sh.dl 15 63390 ?_
  refine D.each [0, 6] (by kernel_rfl) rfl ?_
  refine D.econs 0 63391 rfl D.wantedN (by kernel_rfl) (fun _ _ h => h) ?_ ?_
  · refine Z.bs hS rfl rfl rfl ?_
    clear hS; intro g w hS hge
    refine ⟨HM.s (hS.sb), ?_⟩
    refine D.each [5, 6] (by kernel_rfl) rfl ?_
    refine D.econs 5 63423 rfl D.wantedN (by kernel_rfl) (fun _ _ h => h) ?_ ?_
    · refine Z.ap0m hS rfl rfl rfl (hrd [] _ (hS.sub (by repeat (first | exact Sub.rest | apply Sub.skip)))) (by (try simp only [maxLen, List.length_take, List.length_drop, List.length_append, List.length_cons, List.length_nil, List.length_map]); omega) (by (try simp only [maxLen, List.length_take, List.length_drop, List.length_append, List.length_cons, List.length_nil, List.length_map]); omega) ?_
      clear hS; intro A1 c1 w hS
      refine ⟨HM.s (hS.sb), ?_⟩
      refine D.eff 6 63487 rfl D.wantedN (by kernel_rfl) (by kernel_rfl) (fun _ _ h => h) ?_
      refine Z.bs hS rfl rfl rfl ?_
      clear hS; intro g w hS hge
      refine ⟨HM.s (hS.sb), ?_⟩
      refine D.eff 11 65535 rfl D.wantedN (by kernel_rfl) (by kernel_rfl) (fun _ _ h => h) ?_
      refine Z.ap0m hS rfl rfl rfl (hrd' [] _ (hS.sub (by repeat (first | exact Sub.rest | apply Sub.skip)))) (by (try simp only [maxLen, List.length_take, List.length_drop, List.length_append, List.length_cons, List.length_nil, List.length_map]); omega) (by (try simp only [maxLen, List.length_take, List.length_drop, List.length_append, List.length_cons, List.length_nil, List.length_map]); omega) ?_
      clear hS; intro A3 c3 w hS
      refine ⟨HM.s (hS.sb), ?_⟩
      first | refine D.bu 16 131071 rfl D.wantedN (by kernel_rfl) rfl rfl ?_ | refine D.buA 16 131071 rfl D.wantedN (by kernel_rfl) rfl rfl ?_
      refine D.eff 17 262143 rfl D.wantedN (by kernel_rfl) (by kernel_rfl) (fun _ _ h => h) ?_
      refine Z.bx hS rfl ?_
      clear hS; intro g w hS hge
      refine ⟨HM.s (hS.sb), ?_⟩
      refine Sh.dp 18 524287 ?_
      refine D.done (by kernel_rfl) ?_
      repeat' (first|refine K ?_|(refine Sh.sa hS ?_;clear hS;intro w hS)|(refine K3 ?_;clear hS;intro g w hS hge)|((first|refine GS ?_ ?_|refine VB ?_ ?_)<;>intro hb<;>(try simp only [J1,J2,J3,J4,J5,J6] at hb)<;>(try (exfalso;first|omega|exact hb trivial))))
      refine Dnt Tryz.results83 ?_
      exact ⟨_, _, _, rfl, hS.sb⟩
    refine D.econs 6 63455 rfl D.wantedN (by kernel_rfl) (fun _ _ h => h) ?_ ?_
    · refine Z.bs hS rfl rfl rfl ?_
      clear hS; intro g w hS hge
      refine ⟨HM.s (hS.sb), ?_⟩
      refine D.eff 5 63487 rfl D.wantedN (by kernel_rfl) (by kernel_rfl) (fun _ _ h => h) ?_
      refine Z.ap0m hS rfl rfl rfl (hrd [] _ (hS.sub (by repeat (first | exact Sub.rest | apply Sub.skip)))) (by (try simp only [maxLen, List.length_take, List.length_drop, List.length_append, List.length_cons, List.length_nil, List.length_map]); omega) (by (try simp only [maxLen, List.length_take, List.length_drop, List.length_append, List.length_cons, List.length_nil, List.length_map]); omega) ?_
      clear hS; intro A1 c1 w hS
      refine ⟨HM.s (hS.sb), ?_⟩
      refine D.eff 11 65535 rfl D.wantedN (by kernel_rfl) (by kernel_rfl) (fun _ _ h => h) ?_
      refine Z.ap0m hS rfl rfl rfl (hrd' [] _ (hS.sub (by repeat (first | exact Sub.rest | apply Sub.skip)))) (by (try simp only [maxLen, List.length_take, List.length_drop, List.length_append, List.length_cons, List.length_nil, List.length_map]); omega) (by (try simp only [maxLen, List.length_take, List.length_drop, List.length_append, List.length_cons, List.length_nil, List.length_map]); omega) ?_
      clear hS; intro A3 c3 w hS
      refine ⟨HM.s (hS.sb), ?_⟩
      first | refine D.bu 16 131071 rfl D.wantedN (by kernel_rfl) rfl rfl ?_ | refine D.buA 16 131071 rfl D.wantedN (by kernel_rfl) rfl rfl ?_
      refine D.eff 17 262143 rfl D.wantedN (by kernel_rfl) (by kernel_rfl) (fun _ _ h => h) ?_
      refine Z.bx hS rfl ?_
      clear hS; intro g w hS hge
      refine ⟨HM.s (hS.sb), ?_⟩
      refine Sh.dp 18 524287 ?_
      refine D.done (by kernel_rfl) ?_
      repeat' (first|refine K ?_|(refine Sh.sa hS ?_;clear hS;intro w hS)|(refine K3 ?_;clear hS;intro g w hS hge)|((first|refine GS ?_ ?_|refine VB ?_ ?_)<;>intro hb<;>(try simp only [J1,J2,J3,J4,J5,J6] at hb)<;>(try (exfalso;first|omega|exact hb trivial))))
      refine Dnt Tryz.results83 ?_
      exact ⟨_, _, _, rfl, hS.sb⟩
    exact D.enil
  refine D.econs 6 63454 rfl D.wantedN (by kernel_rfl) (fun _ _ h => h) ?_ ?_
  · refine Z.bs hS rfl rfl rfl ?_
    clear hS; intro g w hS hge
    refine ⟨HM.s (hS.sb), ?_⟩
    refine D.eff 0 63455 rfl D.wantedN (by kernel_rfl) (by kernel_rfl) (fun _ _ h => h) ?_
    refine Z.bs hS rfl rfl rfl ?_
    clear hS; intro g w hS hge
    refine ⟨HM.s (hS.sb), ?_⟩
    refine D.eff 5 63487 rfl D.wantedN (by kernel_rfl) (by kernel_rfl) (fun _ _ h => h) ?_
    refine Z.ap0m hS rfl rfl rfl (hrd [] _ (hS.sub (by repeat (first | exact Sub.rest | apply Sub.skip)))) (by (try simp only [maxLen, List.length_take, List.length_drop, List.length_append, List.length_cons, List.length_nil, List.length_map]); omega) (by (try simp only [maxLen, List.length_take, List.length_drop, List.length_append, List.length_cons, List.length_nil, List.length_map]); omega) ?_
    clear hS; intro A1 c1 w hS
    refine ⟨HM.s (hS.sb), ?_⟩
    refine D.eff 11 65535 rfl D.wantedN (by kernel_rfl) (by kernel_rfl) (fun _ _ h => h) ?_
    refine Z.ap0m hS rfl rfl rfl (hrd' [] _ (hS.sub (by repeat (first | exact Sub.rest | apply Sub.skip)))) (by (try simp only [maxLen, List.length_take, List.length_drop, List.length_append, List.length_cons, List.length_nil, List.length_map]); omega) (by (try simp only [maxLen, List.length_take, List.length_drop, List.length_append, List.length_cons, List.length_nil, List.length_map]); omega) ?_
    clear hS; intro A3 c3 w hS
    refine ⟨HM.s (hS.sb), ?_⟩
    first | refine D.bu 16 131071 rfl D.wantedN (by kernel_rfl) rfl rfl ?_ | refine D.buA 16 131071 rfl D.wantedN (by kernel_rfl) rfl rfl ?_
    refine D.eff 17 262143 rfl D.wantedN (by kernel_rfl) (by kernel_rfl) (fun _ _ h => h) ?_
    refine Z.bx hS rfl ?_
    clear hS; intro g w hS hge
    refine ⟨HM.s (hS.sb), ?_⟩
    refine Sh.dp 18 524287 ?_
    refine D.done (by kernel_rfl) ?_
    repeat' (first|refine K ?_|(refine Sh.sa hS ?_;clear hS;intro w hS)|(refine K3 ?_;clear hS;intro g w hS hge)|((first|refine GS ?_ ?_|refine VB ?_ ?_)<;>intro hb<;>(try simp only [J1,J2,J3,J4,J5,J6] at hb)<;>(try (exfalso;first|omega|exact hb trivial))))
    refine Dnt Tryz.results83 ?_
    exact ⟨_, _, _, rfl, hS.sb⟩
  exact D.enil

/-- What Apply makes of a queue, and what it answers. -/
def qApp (q : Qu) (x : Ch) : Qu × Int :=
  if validB x then
    if x.kind = 3 then if x.seq ≤ q.most then (q, 36) else if 16 ≤ q.l.length then (q, 33) else (⟨q.l ++ [⟨x.seq, x.value⟩], q.r, x.seq⟩, 0)
    else if x.kind = 4 then if qat q.l x.item < 0 then (q, 34) else (⟨q.l.take (qat q.l x.item).toNat ++ q.l.drop ((qat q.l x.item).toNat + 1), without q.r x.item, q.most⟩, 0)
    else (q, 0)
  else (q, 1)
theorem qat_lt {l : List It} {n : Int} (h : ¬ qat l n < 0) : 0 ≤ qat l n ∧ qat l n < l.length := by
  unfold qat at h ⊢
  split
  · omega
  · rename_i h'; rw [if_neg h'] at h; omega
/-- The queue is as it was, or has new rows. -/
def QPost (r : World) (F : List Res) (gq : Nat) (q : Qu) (vl vr : Value) (R : Qu × Int) (e : Ending) (w : World) : Prop :=
  e = .returned (.int .i64 R.2) ∧ ((R.1 = q ∧ Sep r [] (.blk gq 144 [vl, vr, .int .i64 q.most] :: F) w) ∨
    (R.1.r = q.r ∧ ∃ v1, Sep r [] (.blk gq 144 [v1, vr, .int .i64 R.1.most] :: .sl 114 2 v1 (R.1.l.map It.cells) :: F) w) ∨
    ∃ v1 v2, Sep r [] (.blk gq 144 [v1, v2, .int .i64 R.1.most] :: .sl 114 2 v1 (R.1.l.map It.cells) :: .sl 126 4 v2 (R.1.r.map Le.cells) :: F) w)

set_option maxHeartbeats 1000000 in
theorem qapply_z (gq : Nat) (q : Qu) (vl vr : Value) (x : Ch) (r : World) (F : List Res) (w : World) (hS : Sep r [] (.blk gq 144 [vl, vr, .int .i64 q.most] :: F) w) (hrd : Reads r F 2 vl (q.l.map It.cells)) (hrd' : Reads r F 4 vr (q.r.map Le.cells)) (hl : q.l.length ≤ 1000) (hl' : q.r.length ≤ 1000) :
    Calls Tryz.prog 86 #[.pointer (some ⟨gq, 0, none⟩), x.val] w (QPost r F gq q vl vr (qApp q x)) := by
  obtain ⟨A, c, rfl, hc⟩ := (hrd [_] w hS).mform
  refine Z.enter Tryz.func86 Tryz.ntmps86 rfl rfl ?_
  repeat' (first|refine K ?_|(refine Sh.sa hS ?_;clear hS;intro w hS)|(refine K3 ?_;clear hS;intro g w hS hge)|((first|refine GS ?_ ?_|refine VB ?_ ?_)<;>intro hb<;>(try simp only [J1,J2,J3,J4,J5,J6] at hb)<;>(try (exfalso;first|omega|exact hb trivial))))
  refine Z.eff (Z.cl (valid_any x _) rfl ?_) rfl
  rintro e w' ⟨rfl, hC⟩
  refine ⟨_, rfl, ?_⟩
  replace hS := hS.ext hC
  clear hC
  repeat' (first|refine K ?_|(refine Sh.sa hS ?_;clear hS;intro w hS)|(refine K3 ?_;clear hS;intro g w hS hge)|((first|refine GS ?_ ?_|refine VB ?_ ?_)<;>intro hb<;>(try simp only [J1,J2,J3,J4,J5,J6] at hb)<;>(try (exfalso;first|omega|exact hb trivial))))
  · refine Dnt Tryz.results86 ?_
    refine ⟨by simp [qApp, hb, Z.packR], .inl ⟨by simp [qApp, hb], hS.sb⟩⟩
  · refine D.startS hS 7 7 (by kernel_rfl) rfl ?_
    replace hS := hS.drew
    refine Sh.dp 0 1 ?_
    refine Sh.dp 2 5 ?_
    refine Sh.dp 3 13 ?_
    refine Sh.dp 4 29 ?_
    refine Sh.dl 1 31 ?_
    refine Sh.dl 5 63 ?_
    refine Sh.dp 6 127 ?_
    refine D.done (by kernel_rfl) ?_
    repeat' (first|refine K ?_|(refine Sh.sa hS ?_;clear hS;intro w hS)|(refine K3 ?_;clear hS;intro g w hS hge)|((first|refine GS ?_ ?_|refine VB ?_ ?_)<;>intro hb<;>(try simp only [J1,J2,J3,J4,J5,J6] at hb)<;>(try (exfalso;first|omega|exact hb trivial))))
    · refine Dnt Tryz.results86 ?_
      refine ⟨by simp [qApp, *, Z.packR], .inl ⟨by simp [qApp, *], hS.sb⟩⟩
    · refine Dnt Tryz.results86 ?_
      have hlen : 16 ≤ q.l.length := by omega
      have hm : ¬ x.seq ≤ q.most := by omega
      refine ⟨by simp [qApp, *, Z.packR], .inl ⟨by simp [qApp, *], hS.sb⟩⟩
    · refine D.startS hS 16 17 (by kernel_rfl) rfl ?_
      replace hS := hS.drew
      refine Sh.dp 0 1 ?_
      refine Sh.dp 2 5 ?_
      refine Sh.dp 3 13 ?_
      refine Sh.dp 4 29 ?_
      refine Sh.dp 7 157 ?_
      refine Sh.dp 9 669 ?_
      refine Sh.dl 5 701 ?_
      refine Sh.dl 8 957 ?_
      refine Sh.dl 10 1981 ?_
      first | refine D.bu 11 4029 rfl D.wantedN (by kernel_rfl) rfl rfl ?_ | refine D.buA 11 4029 rfl D.wantedN (by kernel_rfl) rfl rfl ?_
      refine D.each [1, 12] (by kernel_rfl) rfl ?_
      refine D.econs 1 4031 rfl D.wantedN (by kernel_rfl) (fun _ _ h => h) ?_ ?_
      · refine Z.bs hS rfl rfl rfl ?_
        clear hS; intro g w hS hge
        refine ⟨HM.s (hS.sb), ?_⟩
        refine D.each [6, 12] (by kernel_rfl) rfl ?_
        refine D.econs 6 4095 rfl D.wantedN (by kernel_rfl) (fun _ _ h => h) ?_ ?_
        · refine Z.ap0m hS rfl rfl rfl (hrd [] _ (hS.sub (by repeat (first | exact Sub.rest | apply Sub.skip)))) (by (try simp only [maxLen, List.length_take, List.length_drop, List.length_append, List.length_cons, List.length_nil, List.length_map]); omega) (by (try simp only [maxLen, List.length_take, List.length_drop, List.length_append, List.length_cons, List.length_nil, List.length_map]); omega) ?_
          clear hS; intro A1 c1 w hS
          refine ⟨HM.s (hS.sb), ?_⟩
          refine D.eff 12 8191 rfl D.wantedN (by kernel_rfl) (by kernel_rfl) (fun _ _ h => h) ?_
          refine Z.bs hS rfl rfl rfl ?_
          clear hS; intro g w hS hge
          refine ⟨HM.s (hS.sb), ?_⟩
          refine D.eff 13 16383 rfl D.wantedN (by kernel_rfl) (by kernel_rfl) (fun _ _ h => h) ?_
          refine Z.apm (l' := [(⟨x.seq, x.value⟩ : It)]) hS rfl rfl rfl (by repeat (first | exact At.here | apply At.next)) (hS.lit1 (by repeat (first | exact At.here | apply At.next)) rfl rfl) (by (try simp only [maxLen, List.length_take, List.length_drop, List.length_append, List.length_cons, List.length_nil, List.length_map]); omega) (by (try simp only [maxLen, List.length_take, List.length_drop, List.length_append, List.length_cons, List.length_nil, List.length_map]); omega) ?_
          clear hS; intro A3 c3 w hS
          refine ⟨HM.s (hS.sb), ?_⟩
          refine Sh.dp 14 32767 ?_
          refine Sh.dp 15 65535 ?_
          refine D.eff 16 131071 rfl D.wantedN (by kernel_rfl) (by kernel_rfl) (fun _ _ h => h) ?_
          refine Z.st hS rfl (by repeat (first | exact At.here | apply At.next)) rfl rfl ?_
          clear hS; intro w hS
          refine ⟨HM.last (by kernel_rfl), ?_⟩
          refine D.done (by kernel_rfl) ?_
          repeat' (first|refine K ?_|(refine Sh.sa hS ?_;clear hS;intro w hS)|(refine K3 ?_;clear hS;intro g w hS hge)|((first|refine GS ?_ ?_|refine VB ?_ ?_)<;>intro hb<;>(try simp only [J1,J2,J3,J4,J5,J6] at hb)<;>(try (exfalso;first|omega|exact hb trivial))))
          refine Dnt Tryz.results86 ?_
          have hlen : ¬ 16 ≤ q.l.length := by omega
          have hm : ¬ x.seq ≤ q.most := by omega
          have e : qApp q x = (⟨q.l ++ [⟨x.seq, x.value⟩], q.r, x.seq⟩, 0) := by simp [qApp, *]
          rw [e]
          exact ⟨rfl, .inr (.inl ⟨rfl, _, hS.sb⟩)⟩
        refine D.econs 12 8127 rfl D.wantedN (by kernel_rfl) (fun _ _ h => h) ?_ ?_
        · refine Z.bs hS rfl rfl rfl ?_
          clear hS; intro g w hS hge
          refine ⟨HM.s (hS.sb), ?_⟩
          refine D.eff 6 8191 rfl D.wantedN (by kernel_rfl) (by kernel_rfl) (fun _ _ h => h) ?_
          refine Z.ap0m hS rfl rfl rfl (hrd [] _ (hS.sub (by repeat (first | exact Sub.rest | apply Sub.skip)))) (by (try simp only [maxLen, List.length_take, List.length_drop, List.length_append, List.length_cons, List.length_nil, List.length_map]); omega) (by (try simp only [maxLen, List.length_take, List.length_drop, List.length_append, List.length_cons, List.length_nil, List.length_map]); omega) ?_
          clear hS; intro A1 c1 w hS
          refine ⟨HM.s (hS.sb), ?_⟩
          refine D.eff 13 16383 rfl D.wantedN (by kernel_rfl) (by kernel_rfl) (fun _ _ h => h) ?_
          refine Z.apm (l' := [(⟨x.seq, x.value⟩ : It)]) hS rfl rfl rfl (by repeat (first | exact At.here | apply At.next)) (hS.lit1 (by repeat (first | exact At.here | apply At.next)) rfl rfl) (by (try simp only [maxLen, List.length_take, List.length_drop, List.length_append, List.length_cons, List.length_nil, List.length_map]); omega) (by (try simp only [maxLen, List.length_take, List.length_drop, List.length_append, List.length_cons, List.length_nil, List.length_map]); omega) ?_
          clear hS; intro A3 c3 w hS
          refine ⟨HM.s (hS.sb), ?_⟩
          refine Sh.dp 14 32767 ?_
          refine Sh.dp 15 65535 ?_
          refine D.eff 16 131071 rfl D.wantedN (by kernel_rfl) (by kernel_rfl) (fun _ _ h => h) ?_
          refine Z.st hS rfl (by repeat (first | exact At.here | apply At.next)) rfl rfl ?_
          clear hS; intro w hS
          refine ⟨HM.last (by kernel_rfl), ?_⟩
          refine D.done (by kernel_rfl) ?_
          repeat' (first|refine K ?_|(refine Sh.sa hS ?_;clear hS;intro w hS)|(refine K3 ?_;clear hS;intro g w hS hge)|((first|refine GS ?_ ?_|refine VB ?_ ?_)<;>intro hb<;>(try simp only [J1,J2,J3,J4,J5,J6] at hb)<;>(try (exfalso;first|omega|exact hb trivial))))
          refine Dnt Tryz.results86 ?_
          have hlen : ¬ 16 ≤ q.l.length := by omega
          have hm : ¬ x.seq ≤ q.most := by omega
          have e : qApp q x = (⟨q.l ++ [⟨x.seq, x.value⟩], q.r, x.seq⟩, 0) := by simp [qApp, *]
          rw [e]
          exact ⟨rfl, .inr (.inl ⟨rfl, _, hS.sb⟩)⟩
        exact D.enil
      refine D.econs 12 8125 rfl D.wantedN (by kernel_rfl) (fun _ _ h => h) ?_ ?_
      · refine Z.bs hS rfl rfl rfl ?_
        clear hS; intro g w hS hge
        refine ⟨HM.s (hS.sb), ?_⟩
        refine D.eff 1 8127 rfl D.wantedN (by kernel_rfl) (by kernel_rfl) (fun _ _ h => h) ?_
        refine Z.bs hS rfl rfl rfl ?_
        clear hS; intro g w hS hge
        refine ⟨HM.s (hS.sb), ?_⟩
        refine D.eff 6 8191 rfl D.wantedN (by kernel_rfl) (by kernel_rfl) (fun _ _ h => h) ?_
        refine Z.ap0m hS rfl rfl rfl (hrd [] _ (hS.sub (by repeat (first | exact Sub.rest | apply Sub.skip)))) (by (try simp only [maxLen, List.length_take, List.length_drop, List.length_append, List.length_cons, List.length_nil, List.length_map]); omega) (by (try simp only [maxLen, List.length_take, List.length_drop, List.length_append, List.length_cons, List.length_nil, List.length_map]); omega) ?_
        clear hS; intro A1 c1 w hS
        refine ⟨HM.s (hS.sb), ?_⟩
        refine D.eff 13 16383 rfl D.wantedN (by kernel_rfl) (by kernel_rfl) (fun _ _ h => h) ?_
        refine Z.apm (l' := [(⟨x.seq, x.value⟩ : It)]) hS rfl rfl rfl (by repeat (first | exact At.here | apply At.next)) (hS.lit1 (by repeat (first | exact At.here | apply At.next)) rfl rfl) (by (try simp only [maxLen, List.length_take, List.length_drop, List.length_append, List.length_cons, List.length_nil, List.length_map]); omega) (by (try simp only [maxLen, List.length_take, List.length_drop, List.length_append, List.length_cons, List.length_nil, List.length_map]); omega) ?_
        clear hS; intro A3 c3 w hS
        refine ⟨HM.s (hS.sb), ?_⟩
        refine Sh.dp 14 32767 ?_
        refine Sh.dp 15 65535 ?_
        refine D.eff 16 131071 rfl D.wantedN (by kernel_rfl) (by kernel_rfl) (fun _ _ h => h) ?_
        refine Z.st hS rfl (by repeat (first | exact At.here | apply At.next)) rfl rfl ?_
        clear hS; intro w hS
        refine ⟨HM.last (by kernel_rfl), ?_⟩
        refine D.done (by kernel_rfl) ?_
        repeat' (first|refine K ?_|(refine Sh.sa hS ?_;clear hS;intro w hS)|(refine K3 ?_;clear hS;intro g w hS hge)|((first|refine GS ?_ ?_|refine VB ?_ ?_)<;>intro hb<;>(try simp only [J1,J2,J3,J4,J5,J6] at hb)<;>(try (exfalso;first|omega|exact hb trivial))))
        refine Dnt Tryz.results86 ?_
        have hlen : ¬ 16 ≤ q.l.length := by omega
        have hm : ¬ x.seq ≤ q.most := by omega
        have e : qApp q x = (⟨q.l ++ [⟨x.seq, x.value⟩], q.r, x.seq⟩, 0) := by simp [qApp, *]
        rw [e]
        exact ⟨rfl, .inr (.inl ⟨rfl, _, hS.sb⟩)⟩
      exact D.enil
  · replace hS := hS.fo (R := .blk gq _ _)
    refine Z.eff (Z.cl (qat_z gq q.l _ _ _ x.item r _ _ hS (hrd.cons _) hl) rfl ?_) rfl
    clear hS
    rintro e w ⟨rfl, hS⟩
    refine ⟨_, rfl, ?_⟩
    repeat' (first|refine K ?_|(refine Sh.sa hS ?_;clear hS;intro w hS)|(refine K3 ?_;clear hS;intro g w hS hge)|((first|refine GS ?_ ?_|refine VB ?_ ?_)<;>intro hb<;>(try simp only [J1,J2,J3,J4,J5,J6] at hb)<;>(try (exfalso;first|omega|exact hb trivial))))
    · refine Dnt Tryz.results86 ?_
      refine ⟨by simp [qApp, *, Z.packR], .inl ⟨by simp [qApp, *], hS.sb⟩⟩
    · have hq := qat_lt (by omega : ¬ qat q.l x.item < 0)
      have hcap : qat q.l x.item ≤ c := by omega
      have hge0 : ¬ qat q.l x.item < 0 := by omega
      refine D.startS hS 19 20 (by kernel_rfl) rfl ?_
      replace hS := hS.drew
      refine Sh.dp 0 1 ?_
      refine Sh.dp 2 5 ?_
      refine Sh.dp 3 13 ?_
      refine Sh.dp 4 29 ?_
      refine Sh.dp 6 93 ?_
      refine Sh.dp 9 605 ?_
      refine Sh.dp 10 1629 ?_
      refine Sh.dp 11 3677 ?_
      refine Sh.dp 13 11869 ?_
      first | refine D.sum 14 28253 rfl D.wantedN (by kernel_rfl) rfl (by constructor <;> omega) ?_ | refine D.sumW 14 28253 rfl D.wantedN (by kernel_rfl) rfl ?_
      refine Sh.dl 5 28285 ?_
      refine D.pl 7 28413 rfl D.wantedN (by kernel_rfl) (R.upto rfl rfl rfl (by omega)) ?_
      refine Sh.dl 12 32509 ?_
      refine D.pl 15 65277 rfl D.wantedN (by kernel_rfl) (R.since rfl rfl rfl (by omega)) ?_
      refine D.eff 1 65279 rfl D.wantedN (by kernel_rfl) (by kernel_rfl) (fun _ _ h => h) ?_
      refine Z.bs hS rfl rfl rfl ?_
      clear hS; intro g w hS hge
      refine ⟨HM.s (hS.sb), ?_⟩
      refine D.eff 8 65535 rfl D.wantedN (by kernel_rfl) (by kernel_rfl) (fun _ _ h => h) ?_
      refine Z.ap0m hS rfl rfl rfl ((hrd [] _ (hS.sub (by repeat (first | exact Sub.rest | apply Sub.skip)))).mtake (by omega)) (by (try simp only [maxLen, List.length_take, List.length_drop, List.length_append, List.length_cons, List.length_nil, List.length_map]); omega) (by (try simp only [maxLen, List.length_take, List.length_drop, List.length_append, List.length_cons, List.length_nil, List.length_map]); omega) ?_
      clear hS; intro A1 c1 w hS
      refine ⟨HM.s (hS.sb), ?_⟩
      refine D.eff 16 131071 rfl D.wantedN (by kernel_rfl) (by kernel_rfl) (fun _ _ h => h) ?_
      refine Z.apm hS rfl rfl rfl (by repeat (first | exact At.here | apply At.next)) ((hrd [] _ (hS.sub (by repeat (first | exact Sub.rest | apply Sub.skip)))).mdrop (by omega)) (by (try simp only [maxLen, List.length_take, List.length_drop, List.length_append, List.length_cons, List.length_nil, List.length_map]); omega) (by (try simp only [maxLen, List.length_take, List.length_drop, List.length_append, List.length_cons, List.length_nil, List.length_map]); omega) ?_
      clear hS; intro A3 c3 w hS
      refine ⟨HM.s (hS.sb), ?_⟩
      refine Sh.dp 17 262143 ?_
      refine Sh.dp 18 524287 ?_
      refine D.eff 19 1048575 rfl D.wantedN (by kernel_rfl) (by kernel_rfl) (fun _ _ h => h) ?_
      refine Z.st hS rfl (by repeat (first | exact At.here | apply At.next)) rfl rfl ?_
      clear hS; intro w hS
      refine ⟨HM.last (by kernel_rfl), ?_⟩
      refine D.done (by kernel_rfl) ?_
      repeat' (first|refine K ?_|(refine Sh.sa hS ?_;clear hS;intro w hS)|(refine K3 ?_;clear hS;intro g w hS hge)|((first|refine GS ?_ ?_|refine VB ?_ ?_)<;>intro hb<;>(try simp only [J1,J2,J3,J4,J5,J6] at hb)<;>(try (exfalso;first|omega|exact hb trivial))))
      replace hS := hS.fo (R := .blk gq _ _)
      refine Z.eff (Z.cl (qdrop_z gq q.r _ _ _ x.item r _ _ hS (hrd'.app [_, _, _]) hl') rfl ?_) rfl
      clear hS
      rintro e w ⟨rfl, v', hS⟩
      refine ⟨_, rfl, ?_⟩
      repeat' (first|refine K ?_|(refine Sh.sa hS ?_;clear hS;intro w hS)|(refine K3 ?_;clear hS;intro g w hS hge)|((first|refine GS ?_ ?_|refine VB ?_ ?_)<;>intro hb<;>(try simp only [J1,J2,J3,J4,J5,J6] at hb)<;>(try (exfalso;first|omega|exact hb trivial))))
      refine Dnt Tryz.results86 ?_
      have e : qApp q x = (⟨q.l.take (qat q.l x.item).toNat ++ q.l.drop ((qat q.l x.item).toNat + 1), without q.r x.item, q.most⟩, 0) := by simp [qApp, *]
      have e2 : (qat q.l x.item + 1).toNat = (qat q.l x.item).toNat + 1 := by omega
      rw [e2] at hS
      rw [e]
      exact ⟨rfl, .inr (.inr ⟨_, _, hS.sb⟩)⟩
  · refine Dnt Tryz.results86 ?_
    refine ⟨by simp [qApp, *, Z.packR], .inl ⟨by simp [qApp, *], hS.sb⟩⟩
end Go.Proofs.YtiabhlogadboeaaGreat
