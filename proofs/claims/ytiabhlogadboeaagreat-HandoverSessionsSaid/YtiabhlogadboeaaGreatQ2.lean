/-
  The program's queue: a lease is laid into its place.
  The program's queue: lease.
  The program's queue: live.
  The program's queue: Take.
  The program's queue: Holds, Leases, Copy; lists of items and of leases compared.
  The reference's queue: live, Take, Holds, Leases; Apply and Copy over the queue as a resource.
  The reference's queue: Take; Apply, Copy, Same, Fold of both.
  Fold of the queue, the program's and the reference's; the statements' own small functions; the sanity check.
  Queues, in plain terms: what is always true of the program's queue, and how it goes with the reference's. No program in sight.
-/
import Derived.Test.YtiabhlogadboeaaGreatP2
import Derived.Test.YtiabhlogadboeaaGreatC1
import Derived.Test.YtiabhlogadboeaaGreatH1
import Derived.Test.YtiabhlogadboeaaGreatML
namespace Go.Proofs.YtiabhlogadboeaaGreat
open Go.RowKit
set_option linter.unusedSimpArgs false
set_option linter.unusedVariables false
attribute [local irreducible] Res.blk Res.sl Res.all Res.ex Res.pure Res.star

def ltL (a b : Le) : Prop := a.item < b.item
def ci3q (a b : Int) : Int := if a < b then -1 else if b < a then 1 else 0
theorem ci3q_neg (a b : Int) : ci3q a b < 0 ↔ a < b := by unfold ci3q; repeat' split <;> omega
theorem ci3q_zero (a b : Int) : ci3q a b = 0 ↔ a = b := by unfold ci3q; repeat' split <;> omega
theorem isnanq_z (a : Int) (r : World) (F : List Res) (w : World) (hS : Sep r [] F w) : Calls Tryz.prog 144 #[.int .i64 a] w fun e w' => e = .returned (.bool false) ∧ Sep r [] F w' := by
  refine Z.enter Tryz.func144 Tryz.ntmps144 rfl rfl ?_
  repeat' (first|refine K ?_|(refine Sh.sa hS ?_;clear hS;intro w hS)|(refine K3 ?_;clear hS;intro g w hS hge)|((first|refine GS ?_ ?_|refine VB ?_ ?_)<;>intro hb<;>(try simp only [J1,J2,J3,J4,J5,J6] at hb)<;>(try (exfalso;first|omega|exact hb trivial))))
  refine Dnt Tryz.results144 ?_
  exact ⟨by simp [Z.packR], hS⟩
theorem ci3q_z (a b : Int) (r : World) (F : List Res) (w : World) (hS : Sep r [] F w) : Calls Tryz.prog 106 #[.int .i64 a, .int .i64 b] w fun e w' => e = .returned (.int .i64 (ci3q a b)) ∧ Sep r [] F w' := by
  refine Z.enter Tryz.func106 Tryz.ntmps106 rfl rfl ?_
  repeat' (first|refine K ?_|(refine Sh.sa hS ?_;clear hS;intro w hS)|(refine K3 ?_;clear hS;intro g w hS hge)|((first|refine GS ?_ ?_|refine VB ?_ ?_)<;>intro hb<;>(try simp only [J1,J2,J3,J4,J5,J6] at hb)<;>(try (exfalso;first|omega|exact hb trivial))))
  refine Z.eff (Z.cl (isnanq_z _ _ _ _ hS) rfl ?_) rfl
  clear hS
  rintro e w ⟨rfl, hS⟩
  refine ⟨_, rfl, ?_⟩
  repeat' (first|refine K ?_|(refine Sh.sa hS ?_;clear hS;intro w hS)|(refine K3 ?_;clear hS;intro g w hS hge)|((first|refine GS ?_ ?_|refine VB ?_ ?_)<;>intro hb<;>(try simp only [J1,J2,J3,J4,J5,J6] at hb)<;>(try (exfalso;first|omega|exact hb trivial))))
  refine Z.eff (Z.cl (isnanq_z _ _ _ _ hS) rfl ?_) rfl
  clear hS
  rintro e w ⟨rfl, hS⟩
  refine ⟨_, rfl, ?_⟩
  repeat' (first|refine K ?_|(refine Sh.sa hS ?_;clear hS;intro w hS)|(refine K3 ?_;clear hS;intro g w hS hge)|((first|refine GS ?_ ?_|refine VB ?_ ?_)<;>intro hb<;>(try simp only [J1,J2,J3,J4,J5,J6] at hb)<;>(try (exfalso;first|omega|exact hb trivial))))
  · refine Dnt Tryz.results106 ?_
    exact ⟨by simp [Z.packR, ci3q, hb], hS⟩
  · refine Dnt Tryz.results106 ?_
    have h1 : ¬ a < b := by omega
    exact ⟨by simp [Z.packR, ci3q, hb, h1], hS⟩
  · refine Dnt Tryz.results106 ?_
    have h1 : ¬ a < b := by omega
    have h2 : ¬ b < a := by omega
    exact ⟨by simp [Z.packR, ci3q, h1, h2], hS⟩
theorem lease1_z (k : Le) (n : Int) (r : World) (F : List Res) (w : World) (hS : Sep r [] F w) : Calls Tryz.prog 147 #[k.val, .int .i64 n] w fun e w' => e = .returned (.int .i64 (ci3q k.item n)) ∧ Sep r [] F w' := by
  refine Z.enter Tryz.func147 Tryz.ntmps147 rfl rfl ?_
  repeat' (first|refine K ?_|(refine Sh.sa hS ?_;clear hS;intro w hS)|(refine K3 ?_;clear hS;intro g w hS hge)|((first|refine GS ?_ ?_|refine VB ?_ ?_)<;>intro hb<;>(try simp only [J1,J2,J3,J4,J5,J6] at hb)<;>(try (exfalso;first|omega|exact hb trivial))))
  refine Z.eff (Z.cl (ci3q_z _ _ _ _ _ hS) rfl ?_) rfl
  clear hS
  rintro e w ⟨rfl, hS⟩
  refine ⟨_, rfl, ?_⟩
  repeat' (first|refine K ?_|(refine Sh.sa hS ?_;clear hS;intro w hS)|(refine K3 ?_;clear hS;intro g w hS hge)|((first|refine GS ?_ ?_|refine VB ?_ ?_)<;>intro hb<;>(try simp only [J1,J2,J3,J4,J5,J6] at hb)<;>(try (exfalso;first|omega|exact hb trivial))))
  refine Dnt Tryz.results147 ?_
  exact ⟨rfl, hS.sb⟩
/-- Where a lease stands, or would stand. -/
structure LSpot (rs : List Le) (n : Int) (i : Nat) : Prop where
  le : i ≤ rs.length
  lo : ∀ j (hj : j < rs.length), j < i → rs[j].item < n
  hi : ∀ j (hj : j < rs.length), i ≤ j → ¬ rs[j].item < n
theorem lsorted_at {rs : List Le} (h : rs.Pairwise ltL) {i j : Nat} (hj : j < rs.length) (hij : i < j) : (rs[i]'(by omega)).item < rs[j].item := List.pairwise_iff_getElem.1 h i j (by omega) hj hij
theorem wrap_smallq (k : IntKind) (hk : k = .i64 ∨ k = .u64) {a : Int} (h0 : 0 ≤ a) (h1 : a ≤ 9223372036854775807) : k.wrap a = a := by
  rcases hk with rfl | rfl
  · exact IntWalk.i64_in _ (by omega)
  · simp [IntKind.wrap, IntKind.signed, IntKind.bits]
    omega
set_option maxHeartbeats 2000000 in
theorem lsearch_z (rs : List Le) (x : Int) (v : Value) (r : World) (F : List Res) (w : World) (hS : Sep r [] F w) (hrd : Reads r F 4 v (rs.map Le.cells)) (hl : rs.length ≤ 100000) (hs : rs.Pairwise ltL) :
    Calls Tryz.prog 146 #[v, .int .i64 x, .func (.func 147) #[] #[]] w fun e w' => ∃ (i : Nat) (b : Bool), e = .returned (.tuple #[.int .i64 i, .bool b]) ∧ LSpot rs x i ∧ (b = true ↔ ∃ hi : i < rs.length, rs[i].item = x) ∧ Sep r [] F w' := by
  obtain ⟨A, c, rfl, hc⟩ := (hrd [] w hS).mform
  refine Z.enter Tryz.func146 Tryz.ntmps146 rfl rfl ?_
  repeat' (first|refine K ?_|(refine Sh.sa hS ?_;clear hS;intro w hS)|(refine K3 ?_;clear hS;intro g w hS hge)|((first|refine GS ?_ ?_|refine VB ?_ ?_)<;>intro hb<;>(try simp only [J1,J2,J3,J4,J5,J6] at hb)<;>(try (exfalso;first|omega|exact hb trivial))))
  refine Z.lpS [9, 10, 11, 15, 16, 17, 18, 19, 20, 21, 22, 23, 24, 25, 26, 27, 28, 29, 30, 31, 32, 33, 34] (fun m w s => ∃ i j : Nat, s = [(9, .int .i64 i), (10, .int .i64 j)] ∧ i ≤ j ∧ j ≤ rs.length ∧ (∀ k (hk : k < rs.length), k < i → rs[k].item < x) ∧ (∀ k (hk : k < rs.length), j ≤ k → ¬ rs[k].item < x) ∧ m = j - i ∧ Sep r [] F w) _ [(9, .int .i64 (0 : Nat)), (10, .int .i64 (rs.length : Nat))] (by repeat (first | exact trivial | refine ⟨rfl, ?_⟩)) ⟨0, rs.length, rfl, by omega, by omega, by intro k _ h; omega, by intro k _ h; omega, rfl, hS⟩ ?_
  clear hS
  rintro m f0 w _ ⟨i, j, rfl, hij, hj, hlo, hhi, rfl, hS⟩
  by_cases hlt : i < j
  · have hm : (i + j) / 2 < rs.length := by omega
    obtain ⟨gb, o, rfl, _, hra⟩ := (hrd [] w hS).mat (by omega) hm
    have ew : IntKind.u64.wrap ((i : Int) + j) = (i : Int) + j := wrap_smallq _ (.inr rfl) (by omega) (by omega)
    have ew2 : IntKind.i64.wrap (((i : Int) + j) / 2) = (((i + j) / 2 : Nat) : Int) := by rw [wrap_smallq _ (.inl rfl) (by omega) (by omega)]; rfl
    repeat' (first|refine K ?_|(refine Sh.sa hS ?_;clear hS;intro w hS)|(refine K3 ?_;clear hS;intro g w hS hge)|((first|refine GS ?_ ?_|refine VB ?_ ?_)<;>intro hb<;>(try simp only [J1,J2,J3,J4,J5,J6] at hb)<;>(try (exfalso;first|omega|exact hb trivial))))
    refine Z.pl (R.cvt rfl Tryz.underlying3 Tryz.underlying157) ?_
    rw [ew]
    refine Z.pl (R.shr1 rfl rfl (by decide)) ?_
    refine Z.pl (R.cvt rfl Tryz.underlying157 Tryz.underlying3) ?_
    rw [ew2]
    generalize hmid : (i + j) / 2 = mid at *
    repeat' (first|refine K ?_|(refine Sh.sa hS ?_;clear hS;intro w hS)|(refine K3 ?_;clear hS;intro g w hS hge)|((first|refine GS ?_ ?_|refine VB ?_ ?_)<;>intro hb<;>(try simp only [J1,J2,J3,J4,J5,J6] at hb)<;>(try (exfalso;first|omega|exact hb trivial))))
    refine Z.eff (Z.clf (caps := []) rfl (lease1_z rs[mid] x _ _ _ hS) rfl ?_) rfl
    clear hS
    rintro e w ⟨rfl, hS⟩
    refine ⟨_, rfl, ?_⟩
    have hneg := ci3q_neg rs[mid].item x
    repeat' (first|refine K ?_|(refine Sh.sa hS ?_;clear hS;intro w hS)|(refine K3 ?_;clear hS;intro g w hS hge)|((first|refine GS ?_ ?_|refine VB ?_ ?_)<;>intro hb<;>(try simp only [J1,J2,J3,J4,J5,J6] at hb)<;>(try (exfalso;first|omega|exact hb trivial))))
    · refine Sh.again (j - (mid + 1)) [(9, .int .i64 (mid + 1 : Nat)), (10, .int .i64 (j : Nat))] ?_
      refine ⟨mid + 1, j, rfl, by omega, hj, fun k hk hki => ?_, hhi, rfl, hS⟩
      have hx := hneg.1 hb
      rcases Nat.lt_or_ge k mid with h1 | h1
      · have := lsorted_at hs hm h1; omega
      · have : k = mid := by omega
        subst this
        exact hx
    · refine Sh.again (mid - i) [(9, .int .i64 (i : Nat)), (10, .int .i64 (mid : Nat))] ?_
      refine ⟨i, mid, rfl, by omega, by omega, hlo, fun k hk hki => ?_, rfl, hS⟩
      have hx : ¬ rs[mid].item < x := fun h => by have := hneg.2 h; omega
      rcases Nat.lt_or_ge mid k with h1 | h1
      · have := lsorted_at hs hk h1; omega
      · have : k = mid := by omega
        subst this
        exact hx
  · have hij' : i = j := by omega
    subst hij'
    by_cases hin : i < rs.length
    · obtain ⟨gb, o, rfl, _, hra⟩ := (hrd [] w hS).mat (by omega) hin
      have hz := ci3q_zero rs[i].item x
      repeat' (first|refine K ?_|(refine Sh.sa hS ?_;clear hS;intro w hS)|(refine K3 ?_;clear hS;intro g w hS hge)|((first|refine GS ?_ ?_|refine VB ?_ ?_)<;>intro hb<;>(try simp only [J1,J2,J3,J4,J5,J6] at hb)<;>(try (exfalso;first|omega|exact hb trivial))))
      refine Z.eff (Z.clf (caps := []) rfl (lease1_z rs[i] x _ _ _ hS) rfl ?_) rfl
      clear hS
      rintro e w ⟨rfl, hS⟩
      refine ⟨_, rfl, ?_⟩
      repeat' (first|refine K ?_|(refine Sh.sa hS ?_;clear hS;intro w hS)|(refine K3 ?_;clear hS;intro g w hS hge)|((first|refine GS ?_ ?_|refine VB ?_ ?_)<;>intro hb<;>(try simp only [J1,J2,J3,J4,J5,J6] at hb)<;>(try (exfalso;first|omega|exact hb trivial))))
      refine Dntt Tryz.results146 ?_
      refine ⟨i, decide (ci3q rs[i].item x = 0), rfl, ⟨by omega, hlo, hhi⟩, ?_, hS⟩
      rw [decide_eq_true_eq, hz]
      exact ⟨fun h => ⟨hin, h⟩, fun ⟨_, h⟩ => h⟩
    · repeat' (first|refine K ?_|(refine Sh.sa hS ?_;clear hS;intro w hS)|(refine K3 ?_;clear hS;intro g w hS hge)|((first|refine GS ?_ ?_|refine VB ?_ ?_)<;>intro hb<;>(try simp only [J1,J2,J3,J4,J5,J6] at hb)<;>(try (exfalso;first|omega|exact hb trivial))))
      refine Dntt Tryz.results146 ?_
      exact ⟨i, false, rfl, ⟨by omega, hlo, hhi⟩, by simp [hin], hS⟩
end Go.Proofs.YtiabhlogadboeaaGreat

namespace Go.Proofs.YtiabhlogadboeaaGreat
open Go.RowKit
set_option linter.unusedSimpArgs false
set_option linter.unusedVariables false
attribute [local irreducible] Res.blk Res.sl Res.all Res.ex Res.pure Res.star

/-- A lease laid into its place, instead of an earlier one of its item. -/
def insL (x : Le) : List Le → List Le
  | [] => [x]
  | y :: l => if y.item < x.item then y :: insL x l else if y.item = x.item then x :: l else x :: y :: l
theorem insL_at {x : Le} : ∀ {l : List Le} {i : Nat}, LSpot l x.item i → insL x l = if ∃ hi : i < l.length, l[i].item = x.item then l.set i x else l.take i ++ x :: l.drop i
  | [], i, h => by have := h.le; simp at this; subst this; simp [insL]
  | y :: l, 0, h => by
    have h1 := h.hi 0 (by simp) (Nat.le_refl _)
    simp only [List.getElem_cons_zero] at h1
    simp only [insL, if_neg h1]
    by_cases he : y.item = x.item
    · rw [if_pos he, if_pos ⟨by simp, by simpa using he⟩]
      simp
    · rw [if_neg he, if_neg (by rintro ⟨_, h2⟩; exact he (by simpa using h2))]
      simp
  | y :: l, i + 1, h => by
    have h0 := h.lo 0 (by simp) (by omega)
    simp only [List.getElem_cons_zero] at h0
    have ih := insL_at (x := x) (l := l) (i := i) ⟨by have := h.le; simpa using this, fun j hj hji => by have := h.lo (j + 1) (by simpa using hj) (by omega); simpa using this, fun j hj hji => by have := h.hi (j + 1) (by simpa using hj) (by omega); simpa using this⟩
    simp only [insL, if_pos h0, ih]
    by_cases he : ∃ hi : i < l.length, l[i].item = x.item
    · have he' : ∃ hi : i + 1 < (y :: l).length, (y :: l)[i + 1].item = x.item := by
        obtain ⟨a, b⟩ := he
        exact ⟨by simpa using a, by simpa using b⟩
      rw [if_pos he, if_pos he']
      simp
    · have he' : ¬ ∃ hi : i + 1 < (y :: l).length, (y :: l)[i + 1].item = x.item := by
        rintro ⟨a, b⟩
        exact he ⟨by simpa using a, by simpa using b⟩
      rw [if_neg he, if_neg he']
      simp
set_option maxHeartbeats 4000000 in
theorem lease_z (gq : Nat) (q : Qu) (x : Le) (r : World) (F : List Res) (w : World) (hS : Sep r [] (PQ gq q :: F) w) (hl' : q.r.length ≤ 1000) (hs : q.r.Pairwise ltL) :
    Calls Tryz.prog 112 #[.pointer (some ⟨gq, 0, none⟩), x.val] w fun e w' => ∃ v, e = .returned v ∧ Sep r [] (PQ gq ⟨q.l, insL x q.r, q.most⟩ :: F) w' := by
  obtain ⟨A, c, B, d, hS⟩ := Sep.PQ_open.1 hS
  refine Z.enter Tryz.func112 Tryz.ntmps112 rfl rfl ?_
  repeat' (first|refine K ?_|(refine Sh.sa hS ?_;clear hS;intro w hS)|(refine K3 ?_;clear hS;intro g w hS hge)|((first|refine GS ?_ ?_|refine VB ?_ ?_)<;>intro hb<;>(try simp only [J1,J2,J3,J4,J5,J6] at hb)<;>(try (exfalso;first|omega|exact hb trivial))))
  rename Nat => gx
  refine Z.cut [4, 5, 6, 7, 8, 9, 10, 11, 12, 13, 14, 15] (fun w s => ∃ (i : Nat) (b : Bool), s = [(4, .int .i64 i), (5, .bool b)] ∧ LSpot q.r x.item i ∧ (b = true ↔ ∃ hi : i < q.r.length, q.r[i].item = x.item) ∧ Sep r [] (.blk gx 126 x.cells :: .blk gq 174 [.slice A q.l.length c, .slice B q.r.length d, .int .i64 q.most] :: .sl 114 2 (.slice A q.l.length c) (q.l.map It.cells) :: .sl 126 4 (.slice B q.r.length d) (q.r.map Le.cells) :: F) w) ?_ ?_
  · refine D.startS hS 12 12 (by kernel_rfl) rfl ?_
    replace hS := hS.drew
    refine Sh.dp 0 1 ?_
    refine Sh.dp 1 3 ?_
    refine Sh.dp 2 7 ?_
    refine Sh.dp 4 23 ?_
    refine Sh.dl 3 31 ?_
    refine Sh.dl 5 63 ?_
    refine D.eff 6 127 rfl D.wantedN (by kernel_rfl) (by kernel_rfl) (fun _ _ h => h) ?_
    refine Z.cl (lsearch_z q.r x.item _ _ _ _ hS (Reads.of_at (by repeat (first | exact At.here | apply At.next))) (by omega) hs) rfl ?_
    clear hS
    rintro e w ⟨i, b, rfl, hsp, hbi, hS⟩
    refine ⟨_, rfl, ?_⟩
    refine ⟨HM.s (hS.sb), ?_⟩
    refine Sh.dp 7 255 ?_
    refine Sh.dp 8 511 ?_
    refine Sh.dp 9 1023 ?_
    refine Sh.dp 10 2047 ?_
    refine Sh.dp 11 4095 ?_
    refine D.done (by kernel_rfl) ?_
    refine Sh.cut [(4, _), (5, _)] ?_
    exact ⟨i, b, rfl, hsp, hbi, hS.sb⟩
  clear hS
  rintro f1 w _ ⟨i, b, rfl, hsp, hbi, hS⟩
  have hins := insL_at hsp
  cases b
  · have hno : ¬ ∃ hi : i < q.r.length, q.r[i].item = x.item := fun h => by have := hbi.2 h; cases this
    rw [if_neg hno] at hins
    have hle := hsp.le
    repeat' (first|refine K ?_|(refine Sh.sa hS ?_;clear hS;intro w hS)|(refine K3 ?_;clear hS;intro g w hS hge)|((first|refine GS ?_ ?_|refine VB ?_ ?_)<;>intro hb<;>(try simp only [J1,J2,J3,J4,J5,J6] at hb)<;>(try (exfalso;first|omega|exact hb trivial))))
    refine D.startS (Lr := [.blk gx 126 x.cells, .blk gq 174 [.slice A q.l.length c, .slice B q.r.length d, .int .i64 q.most]]) (hS.sb) 11 12 (by kernel_rfl) rfl ?_
    replace hS := hS.drew
    refine Sh.dp 0 1 ?_
    refine Sh.dp 1 3 ?_
    refine Sh.dp 2 7 ?_
    refine Sh.dp 3 15 ?_
    refine Sh.dp 5 47 ?_
    refine Sh.dl 4 63 ?_
    refine Sh.dl 6 127 ?_
    refine D.eff 7 255 rfl D.wantedN (by kernel_rfl) (by kernel_rfl) (fun _ _ h => h) ?_
    refine Z.bs hS rfl rfl rfl ?_
    clear hS; intro g w hS hge
    refine ⟨HM.s (hS.sb), ?_⟩
    refine D.eff 8 511 rfl D.wantedN (by kernel_rfl) (by kernel_rfl) (fun _ _ h => h) ?_
    replace hS : Sep r [] (.sl 126 4 (.slice B q.r.length d) (q.r.map Le.cells) :: .blk g 126 x.cells :: .blk gx 126 x.cells :: .blk gq 174 [.slice A q.l.length c, .slice B q.r.length d, .int .i64 q.most] :: .sl 114 2 (.slice A q.l.length c) (q.l.map It.cells) :: F) _ := hS.sb
    refine Z.cl (le_insert q.r i x B d g _ _ _ hS hle (by omega)) rfl ?_
    clear hS
    rintro e w ⟨B1, d1, rfl, hS⟩
    refine ⟨_, rfl, ?_⟩
    refine ⟨HM.s (hS.sb), ?_⟩
    refine Sh.dp 9 1023 ?_
    refine Sh.dp 10 2047 ?_
    refine D.eff 11 4095 rfl D.wantedN (by kernel_rfl) (by kernel_rfl) (fun _ _ h => h) ?_
    refine Z.st hS rfl (by repeat (first | exact At.here | apply At.next)) rfl rfl ?_
    clear hS; intro w hS
    refine ⟨HM.last (by kernel_rfl), ?_⟩
    refine D.done (by kernel_rfl) ?_
    repeat' (first|refine K ?_|(refine Sh.sa hS ?_;clear hS;intro w hS)|(refine K3 ?_;clear hS;intro g w hS hge)|((first|refine GS ?_ ?_|refine VB ?_ ?_)<;>intro hb<;>(try simp only [J1,J2,J3,J4,J5,J6] at hb)<;>(try (exfalso;first|omega|exact hb trivial))))
    refine Dn Tryz.results112 ?_
    refine ⟨_, rfl, Sep.PQ_open.2 ⟨A, c, B1, d1, ?_⟩⟩
    have hlen : (insL x q.r).length = q.r.length + 1 := by rw [hins]; simp; omega
    simp only [hlen]
    rw [hins]
    exact hS.sb
  · obtain ⟨hi, hyes⟩ := hbi.1 rfl
    rw [if_pos ⟨hi, hyes⟩] at hins
    obtain ⟨g0, rfl⟩ := Z.Sep_slform hS (.next (.next (.next .here))) (by simpa using (by omega : 0 < q.r.length))
    repeat' (first|refine K ?_|(refine Sh.sa hS ?_;clear hS;intro w hS)|(refine K3 ?_;clear hS;intro g w hS hge)|((first|refine GS ?_ ?_|refine VB ?_ ?_)<;>intro hb<;>(try simp only [J1,J2,J3,J4,J5,J6] at hb)<;>(try (exfalso;first|omega|exact hb trivial))))
    refine D.startS hS 7 8 (by kernel_rfl) rfl ?_
    replace hS := hS.drew
    refine Sh.dp 0 1 ?_
    refine Sh.dp 1 3 ?_
    refine Sh.dp 2 7 ?_
    refine Sh.dp 4 23 ?_
    refine Sh.dl 3 31 ?_
    refine Sh.dl 5 63 ?_
    first | refine D.ixn 6 127 rfl D.wantedN (by kernel_rfl) rfl rfl rfl (by omega) ?_ | refine D.ix 6 127 rfl D.wantedN (by kernel_rfl) rfl rfl rfl (by omega) ?_ | refine D.ia 6 127 rfl D.wantedN (by kernel_rfl) rfl rfl rfl (by omega) ?_
    refine D.eff 7 255 rfl D.wantedN (by kernel_rfl) (by kernel_rfl) (fun _ _ h => h) ?_
    refine Z.stEm x hS rfl (by repeat (first | exact At.here | apply At.next)) hi rfl rfl rfl rfl ?_
    clear hS; intro w hS
    refine ⟨HM.last (by kernel_rfl), ?_⟩
    refine D.done (by kernel_rfl) ?_
    repeat' (first|refine K ?_|(refine Sh.sa hS ?_;clear hS;intro w hS)|(refine K3 ?_;clear hS;intro g w hS hge)|((first|refine GS ?_ ?_|refine VB ?_ ?_)<;>intro hb<;>(try simp only [J1,J2,J3,J4,J5,J6] at hb)<;>(try (exfalso;first|omega|exact hb trivial))))
    refine Dn Tryz.results112 ?_
    refine ⟨_, rfl, Sep.PQ_open.2 ⟨A, c, some ⟨g0, 0, none⟩, d, ?_⟩⟩
    have hlen : (insL x q.r).length = q.r.length := by rw [hins]; simp
    simp only [hlen]
    rw [hins]
    exact hS.sb
end Go.Proofs.YtiabhlogadboeaaGreat

namespace Go.Proofs.YtiabhlogadboeaaGreat
open Go.RowKit
set_option linter.unusedSimpArgs false
set_option linter.unusedVariables false
attribute [local irreducible] Res.blk Res.sl Res.all Res.ex Res.pure Res.star

/-- A lease is live under an epoch at a tick. -/
def liveL (l : Le) (ep t : Int) : Prop := l.epoch = ep ∧ t < l.until_
instance (l : Le) (ep t : Int) : Decidable (liveL l ep t) := by unfold liveL; infer_instance
theorem live_z (l : Le) (ep t : Int) (r : World) (F : List Res) (w : World) (hS : Sep r [] F w) : Calls Tryz.prog 111 #[l.val, .int .i64 ep, .int .i64 t] w fun e w' => e = .returned (.bool (decide (liveL l ep t))) ∧ Sep r [] F w' := by
  refine Z.enter Tryz.func111 Tryz.ntmps111 rfl rfl ?_
  repeat' (first|refine K ?_|(refine Sh.sa hS ?_;clear hS;intro w hS)|(refine K3 ?_;clear hS;intro g w hS hge)|((first|refine GS ?_ ?_|refine VB ?_ ?_)<;>intro hb<;>(try simp only [J1,J2,J3,J4,J5,J6] at hb)<;>(try (exfalso;first|omega|exact hb trivial))))
  all_goals
    refine Dnt Tryz.results111 ?_
    refine ⟨?_, hS.sb⟩
    simp only [Z.packR]
    congr 2
    first
      | (rw [eq_comm, decide_eq_false_iff_not]; unfold liveL; omega)
      | (rw [decide_eq_decide]; unfold liveL; omega)
end Go.Proofs.YtiabhlogadboeaaGreat

namespace Go.Proofs.YtiabhlogadboeaaGreat
open Go.RowKit
set_option linter.unusedSimpArgs false
set_option linter.unusedVariables false
attribute [local irreducible] Res.blk Res.sl Res.all Res.ex Res.pure Res.star

def It.zero : It := ⟨0, ⟨#[]⟩⟩
def Le.zero : Le := ⟨0, 0, 0, 0⟩
/-- The arguments that Take refuses. -/
def takeBad (cl ep tk ho : Int) : Prop := cl < 1 ∨ 8 < cl ∨ ep < 1 ∨ 1048576 < ep ∨ tk < 0 ∨ 1073741824 < tk ∨ ho < 1 ∨ 1000 < ho
instance (cl ep tk ho : Int) : Decidable (takeBad cl ep tk ho) := by unfold takeBad; infer_instance
/-- An item is held. -/
def heldB (rs : List Le) (n ep tk : Int) : Bool := rs.any fun l => decide (l.item = n) && decide (liveL l ep tk)
theorem heldB_take {rs : List Le} {n ep tk : Int} {k : Nat} (hk : k < rs.length) : heldB (rs.take (k + 1)) n ep tk = (heldB (rs.take k) n ep tk || (decide (rs[k].item = n) && decide (liveL rs[k] ep tk))) := by
  unfold heldB
  rw [List.take_succ_eq_append_getElem hk, List.any_append]
  simp
theorem heldB_at {rs : List Le} {n ep tk : Int} {k : Nat} (hk : k < rs.length) (h1 : rs[k].item = n) (h2 : liveL rs[k] ep tk) : heldB rs n ep tk = true := by
  unfold heldB
  rw [List.any_eq_true]
  exact ⟨rs[k], by simp, by simp [h1, h2]⟩
/-- The first item that is free. -/
def freeI (l : List It) (rs : List Le) (ep tk : Int) : Option It := l.find? fun x => !heldB rs x.number ep tk
theorem freeI_at {l : List It} {rs : List Le} {ep tk : Int} {k : Nat} (hk : k < l.length) (h1 : ∀ j (hj : j < l.length), j < k → heldB rs l[j].number ep tk = true) (h2 : heldB rs l[k].number ep tk = false) : freeI l rs ep tk = some l[k] := by
  unfold freeI
  have e : l = l.take k ++ l.drop k := (List.take_append_drop _ _).symm
  conv => lhs; rw [e]
  rw [List.find?_append]
  have : (l.take k).find? (fun x => !heldB rs x.number ep tk) = none := by
    rw [List.find?_eq_none]
    intro x hx
    obtain ⟨j, hj, rfl⟩ := List.mem_iff_getElem.1 hx
    simp only [List.length_take] at hj
    have := h1 j (by omega) (by omega)
    simp [this]
  rw [this, List.drop_eq_getElem_cons hk, List.find?_cons_of_pos (by simp [h2])]
  rfl
theorem freeI_none {l : List It} {rs : List Le} {ep tk : Int} (h1 : ∀ j (hj : j < l.length), heldB rs l[j].number ep tk = true) : freeI l rs ep tk = none := by
  unfold freeI
  rw [List.find?_eq_none]
  intro x hx
  obtain ⟨j, hj, rfl⟩ := List.mem_iff_getElem.1 hx
  simp [h1 j hj]
structure TkR where
  q : Qu
  x : It
  l : Le
  e : Int
/-- What Take makes of a queue, and what it returns. -/
def takeP (q : Qu) (cl ep tk ho : Int) : TkR :=
  if takeBad cl ep tk ho then ⟨q, .zero, .zero, 1⟩
  else match freeI q.l q.r ep tk with
    | some x => ⟨⟨q.l, insL ⟨x.number, cl, ep, tk + ho⟩ q.r, q.most⟩, x, ⟨x.number, cl, ep, tk + ho⟩, 0⟩
    | none => ⟨q, .zero, .zero, 34⟩
def TkR.val (R : TkR) : Value := .tuple #[R.x.val, R.l.val, .int .i64 R.e]

set_option maxHeartbeats 8000000 in
theorem pqtake_z (gq : Nat) (q : Qu) (cl ep tk ho : Int) (r : World) (F : List Res) (w : World) (hS : Sep r [] (PQ gq q :: F) w) (hl : q.l.length ≤ 1000) (hl' : q.r.length ≤ 1000) (hs : q.r.Pairwise ltL) :
    Calls Tryz.prog 70 #[.pointer (some ⟨gq, 0, none⟩), .int .i64 cl, .int .i64 ep, .int .i64 tk, .int .i64 ho] w fun e w' => e = .returned (takeP q cl ep tk ho).val ∧ Sep r [] (PQ gq (takeP q cl ep tk ho).q :: F) w' := by
  obtain ⟨A, c, B, d, hS⟩ := Sep.PQ_open.1 hS
  refine Z.enter Tryz.func70 Tryz.ntmps70 rfl rfl ?_
  repeat' (first|refine K ?_|(refine Sh.sa hS ?_;clear hS;intro w hS)|(refine K3 ?_;clear hS;intro g w hS hge)|((first|refine GS ?_ ?_|refine VB ?_ ?_)<;>intro hb<;>(try simp only [J1,J2,J3,J4,J5,J6] at hb)<;>(try (exfalso;first|omega|exact hb trivial))))
  rotate_left 8
  · rename_i g10 w10 hg10 h1 h2 h3 h4 h5 h6 h7
    have hbad : ¬ takeBad cl ep tk ho := by unfold takeBad; omega
    replace hS : Sep r [] (.sl 114 2 (.slice A q.l.length c) (q.l.map It.cells) :: .sl 126 4 (.slice B q.r.length d) (q.r.map Le.cells) :: .blk gq 174 [.slice A q.l.length c, .slice B q.r.length d, .int .i64 q.most] :: .blk g10 114 It.zero.cells :: .blk g 126 Le.zero.cells :: F) _ := hS.sb
    generalize g = g11 at *
    refine Z.lpS [12, 14, 16, 17, 55, 56, 57, 58, 59, 60, 61, 62, 63, 64, 65, 66, 67, 68, 69, 70, 71, 72, 73, 74, 75, 76, 77, 78, 79, 80, 81, 82, 83, 84, 85, 86, 87, 88, 89, 90, 91, 92, 93] (fun m w s => ∃ (k : Nat), s = [(55, .int .i64 k)] ∧ k ≤ q.l.length ∧ (∀ j (hj : j < q.l.length), j < k → heldB q.r q.l[j].number ep tk = true) ∧ m = q.l.length - k ∧ Sep r [] (.sl 114 2 (.slice A q.l.length c) (q.l.map It.cells) :: .sl 126 4 (.slice B q.r.length d) (q.r.map Le.cells) :: .blk gq 174 [.slice A q.l.length c, .slice B q.r.length d, .int .i64 q.most] :: .blk g10 114 It.zero.cells :: .blk g11 126 Le.zero.cells :: F) w) _ [(55, .int .i64 (0 : Nat))] (by repeat (first | exact trivial | refine ⟨rfl, ?_⟩)) ⟨0, rfl, by omega, by intro j _ h; omega, rfl, hS⟩ ?_
    clear hS
    rintro m f0 w _ ⟨k, rfl, hk, hall, rfl, hS⟩
    by_cases hlt : k < q.l.length
    · obtain ⟨gb, o, rfl, _, hra⟩ := (hS.slrows .here).mat (by omega) hlt
      repeat' (first|refine K ?_|(refine Sh.sa hS ?_;clear hS;intro w hS)|(refine K3 ?_;clear hS;intro g w hS hge)|((first|refine GS ?_ ?_|refine VB ?_ ?_)<;>intro hb<;>(try simp only [J1,J2,J3,J4,J5,J6] at hb)<;>(try (exfalso;first|omega|exact hb trivial))))
      rename Nat => gt
      refine Z.lpS [16, 64, 65, 66, 67, 68, 69, 70, 71, 72, 73, 74, 75, 76, 77, 78, 79] (fun m w s => ∃ (i : Nat), s = [(64, .int .i64 i)] ∧ i ≤ q.r.length ∧ heldB (q.r.take i) q.l[k].number ep tk = false ∧ m = q.r.length - i ∧ Sep r [] (.blk gt 114 q.l[k].cells :: .sl 114 2 (.slice (some ⟨gb, o, none⟩) q.l.length c) (q.l.map It.cells) :: .sl 126 4 (.slice B q.r.length d) (q.r.map Le.cells) :: .blk gq 174 [.slice (some ⟨gb, o, none⟩) q.l.length c, .slice B q.r.length d, .int .i64 q.most] :: .blk g10 114 It.zero.cells :: .blk g11 126 Le.zero.cells :: F) w) _ [(64, .int .i64 (0 : Nat))] (by repeat (first | exact trivial | refine ⟨rfl, ?_⟩)) ⟨0, rfl, by omega, by simp [heldB], rfl, hS.sb⟩ ?_
      clear hS hra
      rintro m2 f1 w _ ⟨i, rfl, hi, hno, rfl, hS⟩
      by_cases hlt2 : i < q.r.length
      · obtain ⟨gb2, o2, rfl, _, hra2⟩ := (hS.slrows (.next (.next .here))).mat (by omega) hlt2
        have hht := heldB_take (n := q.l[k].number) (ep := ep) (tk := tk) hlt2
        rw [hno, Bool.false_or] at hht
        repeat' (first|refine K ?_|(refine Sh.sa hS ?_;clear hS;intro w hS)|(refine K3 ?_;clear hS;intro g w hS hge)|((first|refine GS ?_ ?_|refine VB ?_ ?_)<;>intro hb<;>(try simp only [J1,J2,J3,J4,J5,J6] at hb)<;>(try (exfalso;first|omega|exact hb trivial))))
        · rename q.r[i].item = q.l[k].number => heq
          refine Z.eff (Z.cl (live_z q.r[i] ep tk _ _ _ hS) rfl ?_) rfl
          clear hS
          rintro e w ⟨rfl, hS⟩
          refine ⟨_, rfl, ?_⟩
          repeat' (first|refine K ?_|(refine Sh.sa hS ?_;clear hS;intro w hS)|(refine K3 ?_;clear hS;intro g w hS hge)|((first|refine GS ?_ ?_|refine VB ?_ ?_)<;>intro hb<;>(try simp only [J1,J2,J3,J4,J5,J6] at hb)<;>(try (exfalso;first|omega|exact hb trivial))))
          · refine Sh.again (q.l.length - (k + 1)) [(55, .int .i64 (k + 1 : Nat))] ?_
            refine ⟨k + 1, rfl, by omega, fun j hj hjk => ?_, rfl, hS.sb⟩
            rcases Nat.lt_or_ge j k with h1 | h1
            · exact hall j hj h1
            · have : j = k := by omega
              subst this
              exact heldB_at hlt2 heq (by assumption)
          · refine Sh.again (q.r.length - (i + 1)) [(64, .int .i64 (i + 1 : Nat))] ?_
            exact ⟨i + 1, rfl, by omega, by rw [hht]; simp [hb], rfl, hS.sb⟩
        · refine Sh.again (q.r.length - (i + 1)) [(64, .int .i64 (i + 1 : Nat))] ?_
          exact ⟨i + 1, rfl, by omega, by rw [hht]; simp [hb], rfl, hS.sb⟩
      · rw [List.take_of_length_le (by omega)] at hno
        have hfree := freeI_at hlt hall hno
        have e : takeP q cl ep tk ho = ⟨⟨q.l, insL ⟨q.l[k].number, cl, ep, tk + ho⟩ q.r, q.most⟩, q.l[k], ⟨q.l[k].number, cl, ep, tk + ho⟩, 0⟩ := by unfold takeP; rw [if_neg hbad, hfree]
        rw [e]
        repeat' (first|refine K ?_|(refine Sh.sa hS ?_;clear hS;intro w hS)|(refine K3 ?_;clear hS;intro g w hS hge)|((first|refine GS ?_ ?_|refine VB ?_ ?_)<;>intro hb<;>(try simp only [J1,J2,J3,J4,J5,J6] at hb)<;>(try (exfalso;first|omega|exact hb trivial))))
        rename Nat => gl
        replace hS : Sep r [] (PQ gq q :: .blk gl 126 (⟨q.l[k].number, cl, ep, tk + ho⟩ : Le).cells :: .blk gt 114 q.l[k].cells :: .blk g10 114 It.zero.cells :: .blk g11 126 Le.zero.cells :: F) _ := Sep.PQ_open.2 ⟨_, c, B, d, hS.sb⟩
        refine Z.eff (Z.cl (lease_z gq q ⟨q.l[k].number, cl, ep, tk + ho⟩ _ _ _ hS hl' hs) rfl ?_) rfl
        clear hS
        rintro e w ⟨v, rfl, hS⟩
        refine ⟨_, rfl, ?_⟩
        repeat' (first|refine K ?_|(refine Sh.sa hS ?_;clear hS;intro w hS)|(refine K3 ?_;clear hS;intro g w hS hge)|((first|refine GS ?_ ?_|refine VB ?_ ?_)<;>intro hb<;>(try simp only [J1,J2,J3,J4,J5,J6] at hb)<;>(try (exfalso;first|omega|exact hb trivial))))
        refine D.startS (Lr := [.blk gl 126 (⟨q.l[k].number, cl, ep, tk + ho⟩ : Le).cells, .blk gt 114 q.l[k].cells]) (hS.sb) 3 5 (by kernel_rfl) rfl ?_
        replace hS := hS.drew
        refine Sh.dl 0 1 ?_
        refine Sh.dl 1 3 ?_
        refine D.eff 2 7 rfl D.wantedN (by kernel_rfl) (by kernel_rfl) (fun _ _ h => h) ?_
        refine Z.st hS rfl (by repeat (first | exact At.here | apply At.next)) rfl rfl ?_
        clear hS; intro w hS
        refine ⟨HM.s (hS.sb), ?_⟩
        refine D.eff 3 15 rfl D.wantedN (by kernel_rfl) (by kernel_rfl) (fun _ _ h => h) ?_
        refine Z.st hS rfl (by repeat (first | exact At.here | apply At.next)) rfl rfl ?_
        clear hS; intro w hS
        refine ⟨HM.last (by kernel_rfl), ?_⟩
        refine Sh.dp 4 31 ?_
        refine D.done (by kernel_rfl) ?_
        repeat' (first|refine K ?_|(refine Sh.sa hS ?_;clear hS;intro w hS)|(refine K3 ?_;clear hS;intro g w hS hge)|((first|refine GS ?_ ?_|refine VB ?_ ?_)<;>intro hb<;>(try simp only [J1,J2,J3,J4,J5,J6] at hb)<;>(try (exfalso;first|omega|exact hb trivial))))
        first | refine Z.done hS Tryz.results70 (Z.RV.cell rfl (by repeat (first | exact At.here | apply At.next)) rfl (Z.RV.cell rfl (by repeat (first | exact At.here | apply At.next)) rfl (Z.RV.tmp rfl Z.RV.nil))) ?_ | refine Z.doneN hS Tryz.results70 (Z.RV.cell rfl (by repeat (first | exact At.here | apply At.next)) rfl (Z.RV.cell rfl (by repeat (first | exact At.here | apply At.next)) rfl (Z.RV.tmp rfl Z.RV.nil))) ?_
        exact ⟨rfl, hS.sb⟩
    · have hfree := freeI_none (l := q.l) (rs := q.r) (ep := ep) (tk := tk) fun j hj => hall j hj (by omega)
      have e : takeP q cl ep tk ho = ⟨q, .zero, .zero, 34⟩ := by unfold takeP; rw [if_neg hbad, hfree]
      rw [e]
      repeat' (first|refine K ?_|(refine Sh.sa hS ?_;clear hS;intro w hS)|(refine K3 ?_;clear hS;intro g w hS hge)|((first|refine GS ?_ ?_|refine VB ?_ ?_)<;>intro hb<;>(try simp only [J1,J2,J3,J4,J5,J6] at hb)<;>(try (exfalso;first|omega|exact hb trivial))))
      first | refine Z.done hS Tryz.results70 (Z.RV.cell rfl (by repeat (first | exact At.here | apply At.next)) rfl (Z.RV.cell rfl (by repeat (first | exact At.here | apply At.next)) rfl (Z.RV.tmp rfl Z.RV.nil))) ?_ | refine Z.doneN hS Tryz.results70 (Z.RV.cell rfl (by repeat (first | exact At.here | apply At.next)) rfl (Z.RV.cell rfl (by repeat (first | exact At.here | apply At.next)) rfl (Z.RV.tmp rfl Z.RV.nil))) ?_
      exact ⟨rfl, Sep.PQ_open.2 ⟨A, c, B, d, hS.sb⟩⟩
  all_goals
    first | refine Z.done hS Tryz.results70 (Z.RV.cell rfl (by repeat (first | exact At.here | apply At.next)) rfl (Z.RV.cell rfl (by repeat (first | exact At.here | apply At.next)) rfl (Z.RV.tmp rfl Z.RV.nil))) ?_ | refine Z.doneN hS Tryz.results70 (Z.RV.cell rfl (by repeat (first | exact At.here | apply At.next)) rfl (Z.RV.cell rfl (by repeat (first | exact At.here | apply At.next)) rfl (Z.RV.tmp rfl Z.RV.nil))) ?_
    have e : takeP q cl ep tk ho = ⟨q, .zero, .zero, 1⟩ := by unfold takeP; rw [if_pos (by unfold takeBad; omega)]
    rw [e]
    exact ⟨rfl, Sep.PQ_open.2 ⟨A, c, B, d, hS.sb⟩⟩
end Go.Proofs.YtiabhlogadboeaaGreat

namespace Go.Proofs.YtiabhlogadboeaaGreat
open Go.RowKit
set_option linter.unusedSimpArgs false
set_option linter.unusedVariables false
attribute [local irreducible] Res.blk Res.sl Res.all Res.ex Res.pure Res.star

def It.eqB (a b : It) : Bool := decide (a.number = b.number) && (decide (a.value = b.value) && true)
theorem It.eqB_iff (a b : It) : It.eqB a b = true ↔ a = b := by cases a; cases b; simp [It.eqB]
instance : DecidableEq It := fun a b => decidable_of_iff _ (It.eqB_iff a b)
def Le.eqB (a b : Le) : Bool := decide (a.item = b.item) && (decide (a.client = b.client) && (decide (a.epoch = b.epoch) && (decide (a.until_ = b.until_) && true)))
theorem Le.eqB_iff (a b : Le) : Le.eqB a b = true ↔ a = b := by cases a; cases b; simp [Le.eqB]
instance : DecidableEq Le := fun a b => decidable_of_iff _ (Le.eqB_iff a b)

def holdsP (rs : List Le) (cl ep n tk : Int) : Bool := rs.any fun l => decide (l.item = n) && decide (l.client = cl) && decide (liveL l ep tk)
theorem holdsP_take {rs : List Le} {cl ep n tk : Int} {k : Nat} (hk : k < rs.length) : holdsP (rs.take (k + 1)) cl ep n tk = (holdsP (rs.take k) cl ep n tk || (decide (rs[k].item = n) && decide (rs[k].client = cl) && decide (liveL rs[k] ep tk))) := by
  unfold holdsP
  rw [List.take_succ_eq_append_getElem hk, List.any_append]
  simp
theorem holdsP_at {rs : List Le} {cl ep n tk : Int} {k : Nat} (hk : k < rs.length) (h1 : rs[k].item = n) (h2 : rs[k].client = cl) (h3 : liveL rs[k] ep tk) : holdsP rs cl ep n tk = true := by
  unfold holdsP
  rw [List.any_eq_true]
  exact ⟨rs[k], by simp, by simp [h1, h2, h3]⟩
def leasesP (rs : List Le) (ep tk : Int) : List Le := rs.filter fun l => decide (liveL l ep tk)
theorem leasesP_take {rs : List Le} {ep tk : Int} {k : Nat} (hk : k < rs.length) : leasesP (rs.take (k + 1)) ep tk = leasesP (rs.take k) ep tk ++ (if liveL rs[k] ep tk then [rs[k]] else []) := by
  unfold leasesP
  rw [List.take_succ_eq_append_getElem hk, List.filter_append]
  congr 1
  by_cases h : liveL rs[k] ep tk <;> simp [h]

set_option maxHeartbeats 2000000 in
theorem pqholds_z (gq : Nat) (q : Qu) (cl ep n tk : Int) (r : World) (F : List Res) (w : World) (hS : Sep r [] (PQ gq q :: F) w) (hl' : q.r.length ≤ 1000) :
    Calls Tryz.prog 151 #[.pointer (some ⟨gq, 0, none⟩), .int .i64 cl, .int .i64 ep, .int .i64 n, .int .i64 tk] w fun e w' => e = .returned (.bool (holdsP q.r cl ep n tk)) ∧ Sep r [] (PQ gq q :: F) w' := by
  obtain ⟨A, c, B, d, hS⟩ := Sep.PQ_open.1 hS
  refine Z.enter Tryz.func151 Tryz.ntmps151 rfl rfl ?_
  repeat' (first|refine K ?_|(refine Sh.sa hS ?_;clear hS;intro w hS)|(refine K3 ?_;clear hS;intro g w hS hge)|((first|refine GS ?_ ?_|refine VB ?_ ?_)<;>intro hb<;>(try simp only [J1,J2,J3,J4,J5,J6] at hb)<;>(try (exfalso;first|omega|exact hb trivial))))
  refine Z.lpS [10, 12, 18, 19, 20, 21, 22, 23, 24, 25, 26, 27, 28, 29, 30, 31, 32, 33, 34, 35, 36, 37, 38] (fun m w s => ∃ (i : Nat), s = [(18, .int .i64 i)] ∧ i ≤ q.r.length ∧ holdsP (q.r.take i) cl ep n tk = false ∧ m = q.r.length - i ∧ Sep r [] (.blk gq 174 [.slice A q.l.length c, .slice B q.r.length d, .int .i64 q.most] :: .sl 114 2 (.slice A q.l.length c) (q.l.map It.cells) :: .sl 126 4 (.slice B q.r.length d) (q.r.map Le.cells) :: F) w) _ [(18, .int .i64 (0 : Nat))] (by repeat (first | exact trivial | refine ⟨rfl, ?_⟩)) ⟨0, rfl, by omega, by simp [holdsP], rfl, hS⟩ ?_
  clear hS
  rintro m f0 w _ ⟨i, rfl, hi, hno, rfl, hS⟩
  by_cases hlt : i < q.r.length
  · obtain ⟨gb, o, rfl, _, hra⟩ := (hS.slrows (.next (.next .here))).mat (by omega) hlt
    have hht := holdsP_take (cl := cl) (ep := ep) (n := n) (tk := tk) hlt
    rw [hno, Bool.false_or] at hht
    repeat' (first|refine K ?_|(refine Sh.sa hS ?_;clear hS;intro w hS)|(refine K3 ?_;clear hS;intro g w hS hge)|((first|refine GS ?_ ?_|refine VB ?_ ?_)<;>intro hb<;>(try simp only [J1,J2,J3,J4,J5,J6] at hb)<;>(try (exfalso;first|omega|exact hb trivial))))
    · refine Z.eff (Z.cl (live_z q.r[i] ep tk _ _ _ hS) rfl ?_) rfl
      clear hS
      rintro e w ⟨rfl, hS⟩
      refine ⟨_, rfl, ?_⟩
      repeat' (first|refine K ?_|(refine Sh.sa hS ?_;clear hS;intro w hS)|(refine K3 ?_;clear hS;intro g w hS hge)|((first|refine GS ?_ ?_|refine VB ?_ ?_)<;>intro hb<;>(try simp only [J1,J2,J3,J4,J5,J6] at hb)<;>(try (exfalso;first|omega|exact hb trivial))))
      · refine Dnt Tryz.results151 ?_
        rw [holdsP_at (cl := cl) (ep := ep) (n := n) (tk := tk) hlt (by assumption) (by assumption) (by assumption)]
        exact ⟨rfl, Sep.PQ_open.2 ⟨A, c, _, d, hS.sb⟩⟩
      · refine Sh.again (q.r.length - (i + 1)) [(18, .int .i64 (i + 1 : Nat))] ?_
        exact ⟨i + 1, rfl, by omega, by rw [hht]; simp [hb], rfl, hS.sb⟩
    all_goals
      refine Sh.again (q.r.length - (i + 1)) [(18, .int .i64 (i + 1 : Nat))] ?_
      exact ⟨i + 1, rfl, by omega, by rw [hht]; simp [hb], rfl, hS.sb⟩
  · repeat' (first|refine K ?_|(refine Sh.sa hS ?_;clear hS;intro w hS)|(refine K3 ?_;clear hS;intro g w hS hge)|((first|refine GS ?_ ?_|refine VB ?_ ?_)<;>intro hb<;>(try simp only [J1,J2,J3,J4,J5,J6] at hb)<;>(try (exfalso;first|omega|exact hb trivial))))
    refine Dnt Tryz.results151 ?_
    rw [List.take_of_length_le (by omega)] at hno
    rw [hno]
    exact ⟨rfl, Sep.PQ_open.2 ⟨A, c, B, d, hS.sb⟩⟩






end Go.Proofs.YtiabhlogadboeaaGreat

namespace Go.Proofs.YtiabhlogadboeaaGreat
open Go.RowKit
set_option linter.unusedSimpArgs false
set_option linter.unusedVariables false
attribute [local irreducible] Res.blk Res.sl Res.all Res.ex Res.pure Res.star

/-- The live lease of an item. -/
def liveF (rs : List Le) (ep n tk : Int) : Option Le := rs.find? fun l => decide (l.item = n) && decide (liveL l ep tk)
theorem liveF_isSome (rs : List Le) (ep n tk : Int) : (liveF rs ep n tk).isSome = heldB rs n ep tk := by
  unfold liveF heldB
  induction rs with
  | nil => rfl
  | cons x l ih =>
    rw [List.find?_cons, List.any_cons, ← ih]
    cases (decide (x.item = n) && decide (liveL x ep tk)) <;> simp
theorem liveF_drop {rs : List Le} {ep n tk : Int} {k : Nat} (hk : k < rs.length) : liveF (rs.drop k) ep n tk = if rs[k].item = n ∧ liveL rs[k] ep tk then some rs[k] else liveF (rs.drop (k + 1)) ep n tk := by
  unfold liveF
  rw [List.drop_eq_getElem_cons hk, List.find?_cons]
  by_cases h1 : rs[k].item = n <;> by_cases h2 : liveL rs[k] ep tk <;> simp [h1, h2]
def liveV (o : Option Le) : Value := .tuple #[(o.getD .zero).val, .bool o.isSome]


def holdsR (rs : List Le) (cl ep n tk : Int) : Bool := (liveF rs ep n tk).any fun l => decide (l.client = cl)

/-- What the reference's Leases returns. -/
def leasesR (l : List It) (rs : List Le) (ep tk : Int) : List Le := l.filterMap fun x => liveF rs ep x.number tk
theorem leasesR_take {l : List It} {rs : List Le} {ep tk : Int} {k : Nat} (hk : k < l.length) : leasesR (l.take (k + 1)) rs ep tk = leasesR (l.take k) rs ep tk ++ (liveF rs ep l[k].number tk).toList := by
  unfold leasesR
  rw [List.take_succ_eq_append_getElem hk, List.filterMap_append]
  cases h : liveF rs ep l[k].number tk <;> simp [h]
theorem Sep.QR_form {r w : World} {F : List Res} {gq : Nat} {q : Qu} (h : Sep r [] (QR gq q :: F) w) : ∃ A c B d, Sep r [] (.blk gq 144 [.slice A q.l.length c, .slice B q.r.length d, .int .i64 q.most] :: .sl 114 2 (.slice A q.l.length c) (q.l.map It.cells) :: .sl 126 4 (.slice B q.r.length d) (q.r.map Le.cells) :: F) w := by
  obtain ⟨vl, vr, hS⟩ := Sep.QR_open.1 h
  obtain ⟨A, c, rfl, _⟩ := (hS.slrows (.next .here)).mform
  obtain ⟨B, d, rfl, _⟩ := (hS.slrows (.next (.next .here))).mform
  exact ⟨A, c, B, d, hS⟩
end Go.Proofs.YtiabhlogadboeaaGreat

namespace Go.Proofs.YtiabhlogadboeaaGreat
open Go.RowKit
set_option linter.unusedSimpArgs false
set_option linter.unusedVariables false
attribute [local irreducible] Res.blk Res.sl Res.all Res.ex Res.pure Res.star

/-- What the reference's Take makes of a queue, and what it returns. -/
def takeR (q : Qu) (cl ep tk ho : Int) : TkR :=
  if takeBad cl ep tk ho then ⟨q, .zero, .zero, 1⟩
  else match freeI q.l q.r ep tk with
    | some x => ⟨⟨q.l, without q.r x.number ++ [⟨x.number, cl, ep, tk + ho⟩], q.most⟩, x, ⟨x.number, cl, ep, tk + ho⟩, 0⟩
    | none => ⟨q, .zero, .zero, 34⟩


theorem rqapply_z (gq : Nat) (q : Qu) (x : Ch) (r : World) (F : List Res) (w : World) (hS : Sep r [] (QR gq q :: F) w) (hl : q.l.length ≤ 1000) (hl' : q.r.length ≤ 1000) :
    Calls Tryz.prog 86 #[.pointer (some ⟨gq, 0, none⟩), x.val] w fun e w' => e = .returned (.int .i64 (qApp q x).2) ∧ Sep r [] (QR gq (qApp q x).1 :: F) w' := by
  obtain ⟨vl, vr, hS⟩ := Sep.QR_open.1 hS
  refine (qapply_z gq q vl vr x r _ w hS (Reads.of_at (e := 114) .here) (Reads.of_at (e := 126) (.next .here)) hl hl').mono ?_
  rintro e w' ⟨he, ⟨h1, hS⟩ | ⟨h1, v1, hS⟩ | ⟨v1, v2, hS⟩⟩
  · refine ⟨he, Sep.QR_open.2 ⟨vl, vr, ?_⟩⟩
    rw [h1]
    exact hS
  · refine ⟨he, Sep.QR_open.2 ⟨v1, vr, ?_⟩⟩
    rw [h1]
    exact hS.sb
  · exact ⟨he, Sep.QR_open.2 ⟨v1, v2, hS.sb⟩⟩
theorem rqcopy_z (gq : Nat) (q : Qu) (r : World) (F : List Res) (w : World) (hS : Sep r [] (QR gq q :: F) w) (hl : q.l.length ≤ 1000) (hl' : q.r.length ≤ 1000) :
    Calls Tryz.prog 83 #[.pointer (some ⟨gq, 0, none⟩)] w fun e w' => ∃ g, e = .returned (.pointer (some ⟨g, 0, none⟩)) ∧ Sep r [] (QR g q :: QR gq q :: F) w' := by
  obtain ⟨vl, vr, hS⟩ := Sep.QR_open.1 hS
  refine (qcopy_z gq q.l q.r vl vr q.most r _ w hS (Reads.of_at (e := 114) .here) (Reads.of_at (e := 126) (.next .here)) hl hl').mono ?_
  rintro e w' ⟨g, v1, v2, he, hS⟩
  refine ⟨g, he, Sep.QR_open.2 ⟨v1, v2, ?_⟩⟩
  have h2 : Sep r [] (QR gq q :: .blk g 144 [v1, v2, .int .i64 q.most] :: .sl 114 2 v1 (q.l.map It.cells) :: .sl 126 4 v2 (q.r.map Le.cells) :: F) w' := Sep.QR_open.2 ⟨vl, vr, hS.sb⟩
  exact h2.sub (by repeat (first | exact Sub.rest | exact Sub.nil | exact .skip .rest | exact .skip (.skip .rest) | exact .skip (.skip (.skip .rest)) | apply Sub.keep | refine Sub.cons (by repeat (first | exact At.here | apply At.next)) ?_ | apply Sub.skip))

/-- Two queues wait for the same. -/
def sameQ (a b : Qu) : Bool := decide (a.l = b.l) && decide (a.most = b.most)
end Go.Proofs.YtiabhlogadboeaaGreat

namespace Go.Proofs.YtiabhlogadboeaaGreat
open Go.RowKit
set_option linter.unusedSimpArgs false
set_option linter.unusedVariables false
attribute [local irreducible] Res.blk Res.sl Res.all Res.ex Res.pure Res.star

structure FdQ where
  q : Qu
  n : Nat
  e : Int
/-- What Fold makes of a list. -/
def foldQ : Qu → List Ch → Nat → FdQ
  | q, [], i => ⟨q, i, 0⟩
  | q, x :: h, i => if (qApp q x).2 = 0 then foldQ (qApp q x).1 h (i + 1) else ⟨q, i, (qApp q x).2⟩
theorem foldQ_drop {q : Qu} {h : List Ch} {k i : Nat} (hk : k < h.length) : foldQ q (h.drop k) i = if (qApp q h[k]).2 = 0 then foldQ (qApp q h[k]).1 (h.drop (k + 1)) (i + 1) else ⟨q, i, (qApp q h[k]).2⟩ := by
  rw [List.drop_eq_getElem_cons hk]
  rfl
theorem foldQ_snoc {h' : List Ch} : ∀ {h : List Ch} {q : Qu} {i : Nat}, (foldQ q h i).e = 0 → foldQ q (h ++ h') i = foldQ (foldQ q h i).q h' (foldQ q h i).n
  | [], q, i, _ => rfl
  | y :: h, q, i, he => by
    simp only [foldQ, List.cons_append] at he ⊢
    by_cases h0 : (qApp q y).2 = 0
    · simp only [if_pos h0] at he ⊢
      exact foldQ_snoc he
    · rw [if_neg h0] at he
      exact absurd he h0
theorem foldQ_ok : ∀ {h : List Ch} {q : Qu} {i : Nat}, q.l.length ≤ 16 ∧ q.r = [] → (foldQ q h i).q.l.length ≤ 16 ∧ (foldQ q h i).q.r = [] ∧ (foldQ q h i).n ≤ i + h.length
  | [], q, i, hq => ⟨hq.1, hq.2, Nat.le_refl _⟩
  | y :: h, q, i, hq => by
    unfold foldQ
    split
    · have := foldQ_ok (h := h) (i := i + 1) (qApp_len (x := y) hq.1 hq.2)
      exact ⟨this.1, this.2.1, by have := this.2.2; simp only [List.length_cons]; omega⟩
    · exact ⟨hq.1, hq.2, by simp⟩
theorem Good.foldQ {c : Cp} (h : Good c) : foldQ .zero c.h 0 = ⟨c.q, c.h.length, 0⟩ := by
  induction h with
  | zero => rfl
  | app hc hx ih =>
    obtain ⟨_, _, _, _, _, hq, e⟩ := cApp_ok hx
    rw [e]
    simp only
    rw [foldQ_snoc (by rw [ih]), ih]
    simp [Go.Proofs.YtiabhlogadboeaaGreat.foldQ, hq]


/-! The statements' own changes. -/
def pushC (n : Int) (v : ByteArray) : Ch := ⟨1, n, 3, 1, n, 0, ⟨#[]⟩, v⟩
def doneC (n i : Int) : Ch := ⟨1, n, 4, 1, n, i, ⟨#[]⟩, ⟨#[]⟩⟩

/-! The sanity check. -/
def awX : ByteArray := ⟨#[120]⟩
def awY : ByteArray := ⟨#[121]⟩
theorem valid_push {n : Int} {v : ByteArray} (h1 : 1 ≤ n) (h2 : n ≤ 4096) (hv : v.size ≤ 64) : validB (pushC n v) = true := by
  have h3 : n ≤ 1048576 := by omega
  simp [validB, restB, inB, pushC, valB, h1, h2, h3, hv]
theorem aw1 : qApp Qu.zero (pushC 3 awX) = (⟨[⟨3, awX⟩], [], 3⟩, 0) := by
  unfold qApp
  rw [if_pos (valid_push (by decide) (by decide) (by decide))]
  rfl
theorem aw2 : qApp ⟨[⟨3, awX⟩], [], 3⟩ (pushC 5 awY) = (⟨[⟨3, awX⟩, ⟨5, awY⟩], [], 5⟩, 0) := by
  unfold qApp
  rw [if_pos (valid_push (by decide) (by decide) (by decide))]
  rfl
theorem aw3 : takeP ⟨[⟨3, awX⟩, ⟨5, awY⟩], [], 5⟩ 1 1 10 20 = ⟨⟨[⟨3, awX⟩, ⟨5, awY⟩], [⟨3, 1, 1, 30⟩], 5⟩, ⟨3, awX⟩, ⟨3, 1, 1, 30⟩, 0⟩ := by rfl
theorem aw4 : takeP ⟨[⟨3, awX⟩, ⟨5, awY⟩], [⟨3, 1, 1, 30⟩], 5⟩ 2 1 10 20 = ⟨⟨[⟨3, awX⟩, ⟨5, awY⟩], [⟨3, 1, 1, 30⟩, ⟨5, 2, 1, 30⟩], 5⟩, ⟨5, awY⟩, ⟨5, 2, 1, 30⟩, 0⟩ := by rfl
theorem aw5 : takeP ⟨[⟨3, awX⟩, ⟨5, awY⟩], [⟨3, 1, 1, 30⟩, ⟨5, 2, 1, 30⟩], 5⟩ 3 1 10 20 = ⟨⟨[⟨3, awX⟩, ⟨5, awY⟩], [⟨3, 1, 1, 30⟩, ⟨5, 2, 1, 30⟩], 5⟩, .zero, .zero, 34⟩ := by rfl
theorem aw6 : takeP ⟨[⟨3, awX⟩, ⟨5, awY⟩], [⟨3, 1, 1, 30⟩, ⟨5, 2, 1, 30⟩], 5⟩ 3 2 10 20 = ⟨⟨[⟨3, awX⟩, ⟨5, awY⟩], [⟨3, 3, 2, 30⟩, ⟨5, 2, 1, 30⟩], 5⟩, ⟨3, awX⟩, ⟨3, 3, 2, 30⟩, 0⟩ := by rfl
end Go.Proofs.YtiabhlogadboeaaGreat

namespace Go.Proofs.YtiabhlogadboeaaGreat
open Go.RowKit
set_option linter.unusedSimpArgs false
set_option linter.unusedVariables false
attribute [local irreducible] Res.blk Res.sl Res.all Res.ex Res.pure Res.star

theorem len_sub : ∀ {a b : List Int}, a.Pairwise (· ≠ ·) → (∀ x, x ∈ a → x ∈ b) → a.length ≤ b.length
  | [], _, _, _ => by simp
  | x :: a, b, hp, hs => by
    obtain ⟨h1, h2⟩ := List.pairwise_cons.1 hp
    have hx : x ∈ b := hs x (by simp)
    have := len_sub (a := a) (b := b.erase x) h2 fun y hy => (List.mem_erase_of_ne (fun e => h1 y hy e.symm)).2 (hs y (by simp [hy]))
    rw [List.length_erase_of_mem hx] at this
    have := List.length_pos_of_mem hx
    simp only [List.length_cons]
    omega
theorem sortedL_eq : ∀ {a b : List Le}, a.Pairwise ltL → b.Pairwise ltL → (∀ y, y ∈ a ↔ y ∈ b) → a = b
  | [], [], _, _, _ => rfl
  | [], y :: b, _, _, h => by have := (h y).2 (by simp); simp at this
  | x :: a, [], _, _, h => by have := (h x).1 (by simp); simp at this
  | x :: a, y :: b, ha, hb, h => by
    obtain ⟨a1, a2⟩ := List.pairwise_cons.1 ha
    obtain ⟨b1, b2⟩ := List.pairwise_cons.1 hb
    have hxy : x = y := by
      rcases List.mem_cons.1 ((h x).1 (by simp)) with e | e
      · exact e
      · rcases List.mem_cons.1 ((h y).2 (by simp)) with e' | e'
        · exact e'.symm
        · have h1 := b1 x e
          have h2 := a1 y e'
          simp only [ltL] at h1 h2
          omega
    subst hxy
    rw [sortedL_eq a2 b2 fun z => ?_]
    constructor
    · intro hz
      rcases List.mem_cons.1 ((h z).1 (by simp [hz])) with e | e
      · subst e
        have := a1 z hz
        simp only [ltL] at this
        omega
      · exact e
    · intro hz
      rcases List.mem_cons.1 ((h z).2 (by simp [hz])) with e | e
      · subst e
        have := b1 z hz
        simp only [ltL] at this
        omega
      · exact e
theorem mem_insL {x : Le} : ∀ {rs : List Le}, rs.Pairwise ltL → ∀ y, y ∈ insL x rs ↔ y = x ∨ (y ∈ rs ∧ y.item ≠ x.item)
  | [], _, y => by simp [insL]
  | z :: rs, hp, y => by
    obtain ⟨h1, h2⟩ := List.pairwise_cons.1 hp
    have ih := mem_insL (x := x) h2 y
    unfold insL
    split
    · rename_i hlt
      simp only [List.mem_cons, ih]
      constructor
      · rintro (rfl | rfl | ⟨h, h'⟩)
        · exact .inr ⟨.inl rfl, by omega⟩
        · exact .inl rfl
        · exact .inr ⟨.inr h, h'⟩
      · rintro (rfl | ⟨rfl | h, h'⟩)
        · exact .inr (.inl rfl)
        · exact .inl rfl
        · exact .inr (.inr ⟨h, h'⟩)
    · rename_i hge
      split
      · rename_i he
        simp only [List.mem_cons]
        constructor
        · rintro (rfl | h)
          · exact .inl rfl
          · have := h1 y h
            simp only [ltL] at this
            exact .inr ⟨.inr h, by omega⟩
        · rintro (rfl | ⟨rfl | h, h'⟩)
          · exact .inl rfl
          · exact absurd he h'
          · exact .inr h
      · rename_i hne
        simp only [List.mem_cons]
        constructor
        · rintro (rfl | rfl | h)
          · exact .inl rfl
          · exact .inr ⟨.inl rfl, hne⟩
          · have := h1 y h
            simp only [ltL] at this
            exact .inr ⟨.inr h, by omega⟩
        · rintro (rfl | ⟨rfl | h, h'⟩)
          · exact .inl rfl
          · exact .inr (.inl rfl)
          · exact .inr (.inr h)
theorem insL_sorted {x : Le} : ∀ {rs : List Le}, rs.Pairwise ltL → (insL x rs).Pairwise ltL
  | [], _ => by simp [insL]
  | z :: rs, hp => by
    obtain ⟨h1, h2⟩ := List.pairwise_cons.1 hp
    have ih := insL_sorted (x := x) h2
    unfold insL
    split
    · rename_i hlt
      refine List.pairwise_cons.2 ⟨fun y hy => ?_, ih⟩
      rcases (mem_insL h2 y).1 hy with rfl | ⟨h, _⟩
      · exact hlt
      · exact h1 y h
    · rename_i hge
      split
      · rename_i he
        refine List.pairwise_cons.2 ⟨fun y hy => ?_, h2⟩
        have := h1 y hy
        simp only [ltL] at this ⊢
        omega
      · rename_i hne
        refine List.pairwise_cons.2 ⟨fun y hy => ?_, hp⟩
        rcases List.mem_cons.1 hy with rfl | h
        · simp only [ltL]; omega
        · have := h1 y h
          simp only [ltL] at this ⊢
          omega
theorem ltL_uniq {rs : List Le} (h : rs.Pairwise ltL) {a b : Le} (ha : a ∈ rs) (hb : b ∈ rs) (he : a.item = b.item) : a = b := by
  obtain ⟨i, hi, rfl⟩ := List.mem_iff_getElem.1 ha
  obtain ⟨j, hj, rfl⟩ := List.mem_iff_getElem.1 hb
  rcases Nat.lt_trichotomy i j with h1 | h1 | h1
  · have := List.pairwise_iff_getElem.1 h i j hi hj h1
    simp only [ltL] at this
    omega
  · subst h1; rfl
  · have := List.pairwise_iff_getElem.1 h j i hj hi h1
    simp only [ltL] at this
    omega

/-- What is always true of the program's queue. -/
structure QOk (q : Qu) : Prop where
  up : q.l.Pairwise fun a b => a.number < b.number
  le : ∀ x, x ∈ q.l → x.number ≤ q.most
  len : q.l.length ≤ 16
  sr : q.r.Pairwise ltL
  sub : ∀ y, y ∈ q.r → ∃ x, x ∈ q.l ∧ x.number = y.item
  cl : ∀ y, y ∈ q.r → 1 ≤ y.client ∧ y.client ≤ 8
theorem QOk.rlen {q : Qu} (h : QOk q) : q.r.length ≤ 16 := by
  have := len_sub (a := q.r.map Le.item) (b := q.l.map It.number) (by
    rw [List.pairwise_map]
    exact h.sr.imp fun {a b} h => by simp only [ltL] at h; omega) (by
    intro x hx
    obtain ⟨y, hy, rfl⟩ := List.mem_map.1 hx
    obtain ⟨z, hz, e⟩ := h.sub y hy
    exact List.mem_map.2 ⟨z, hz, e⟩)
  simp only [List.length_map] at this
  have := h.len
  omega
theorem QOk.zero : QOk .zero := ⟨by simp [Qu.zero], by simp [Qu.zero], by simp [Qu.zero], by simp [Qu.zero], by simp [Qu.zero], by simp [Qu.zero]⟩
theorem QOk.forget {q : Qu} (h : QOk q) : QOk ⟨q.l, [], q.most⟩ := ⟨h.up, h.le, h.len, .nil, by simp, by simp⟩
theorem qcut' : ∀ {l : List It} {n : Int}, qidx l n < l.length → ∀ x, x ∈ l → x.number ≠ n → x ∈ l.take (qidx l n) ++ l.drop (qidx l n + 1)
  | [], _, h, _, _, _ => by simp [qidx] at h
  | y :: l, n, h, x, hx, hne => by
    by_cases hy : y.number = n
    · have e : qidx (y :: l) n = 0 := by simp [qidx, hy]
      rw [e]
      rcases List.mem_cons.1 hx with rfl | hx
      · exact absurd hy hne
      · simpa using hx
    · have e : qidx (y :: l) n = qidx l n + 1 := by simp [qidx, hy]
      rw [e] at h ⊢
      rcases List.mem_cons.1 hx with rfl | hx
      · simp
      · have := qcut' (by simpa using h) x hx hne
        simp only [List.take_succ_cons, List.cons_append, List.drop_succ_cons, List.mem_cons]
        exact .inr this
theorem sub_cut {l : List It} {i : Nat} : (l.take i ++ l.drop (i + 1)).Sublist l := by
  have h1 : (l.drop (i + 1)).Sublist (l.drop i) := by rw [← List.tail_drop]; exact List.tail_sublist _
  have := List.Sublist.append (List.Sublist.refl (l.take i)) h1
  rwa [List.take_append_drop] at this
theorem QOk.app {q : Qu} (h : QOk q) (x : Ch) : QOk (qApp q x).1 := by
  unfold qApp
  split
  case isFalse => exact h
  case isTrue hv =>
    split
    case isTrue hk =>
      split
      case isTrue => exact h
      case isFalse h1 =>
        split
        case isTrue => exact h
        case isFalse h2 =>
          refine ⟨?_, ?_, ?_, h.sr, fun y hy => ?_, h.cl⟩
          · simp only
            rw [List.pairwise_append]
            refine ⟨h.up, by simp, fun a ha b hb => ?_⟩
            simp at hb
            subst hb
            have := h.le a ha
            simp only
            omega
          · intro y hy
            simp only
            rcases List.mem_append.1 hy with hy | hy
            · have := h.le y hy; omega
            · simp at hy; subst hy; simp
          · simp only [List.length_append, List.length_cons, List.length_nil]; omega
          · obtain ⟨z, hz, e⟩ := h.sub y hy
            exact ⟨z, List.mem_append_left _ hz, e⟩
    case isFalse hk =>
      split
      case isFalse => exact h
      case isTrue hk4 =>
        split
        case isTrue => exact h
        case isFalse h1 =>
          have hi : qidx q.l x.item < q.l.length := by
            unfold qat at h1
            split at h1
            · assumption
            · omega
          have hat : (qat q.l x.item).toNat = qidx q.l x.item := by
            unfold qat
            rw [if_pos hi]
            rfl
          rw [hat]
          have hsub := sub_cut (l := q.l) (i := qidx q.l x.item)
          refine ⟨h.up.sublist hsub, fun y hy => h.le y (hsub.mem hy), Nat.le_trans hsub.length_le h.len, h.sr.filter _, fun y hy => ?_, fun y hy => h.cl y (List.mem_filter.1 hy).1⟩
          obtain ⟨hy1, hy2⟩ := List.mem_filter.1 hy
          obtain ⟨z, hz, e⟩ := h.sub y hy1
          refine ⟨z, qcut' hi z hz ?_, e⟩
          rw [e]
          simpa using hy2
theorem freeI_mem {l : List It} {rs : List Le} {ep tk : Int} {x : It} (h : freeI l rs ep tk = some x) : x ∈ l := List.mem_of_find?_eq_some h
theorem QOk.take {q : Qu} (h : QOk q) (cl ep tk ho : Int) : QOk (takeP q cl ep tk ho).q ∧ (takeP q cl ep tk ho).q.l = q.l ∧ (takeP q cl ep tk ho).q.most = q.most := by
  unfold takeP
  split
  · exact ⟨h, rfl, rfl⟩
  · rename_i hb
    split
    · rename_i x hx
      refine ⟨⟨h.up, h.le, h.len, insL_sorted h.sr, fun y hy => ?_, fun y hy => ?_⟩, rfl, rfl⟩
      · rcases (mem_insL h.sr y).1 hy with rfl | ⟨hy, _⟩
        · exact ⟨x, freeI_mem hx, rfl⟩
        · exact h.sub y hy
      · rcases (mem_insL h.sr y).1 hy with rfl | ⟨hy, _⟩
        · unfold takeBad at hb
          simp only
          omega
        · exact h.cl y hy
    · exact ⟨h, rfl, rfl⟩
theorem QOk.fold : ∀ {h : List Ch} {q : Qu} {i : Nat}, QOk q → QOk (foldQ q h i).q
  | [], _, _, hq => hq
  | x :: h, q, i, hq => by
    unfold foldQ
    split
    · exact QOk.fold (hq.app x)
    · exact hq

/-- The reference's queue holds the same. -/
structure QRel (q q' : Qu) : Prop where
  l : q'.l = q.l
  most : q'.most = q.most
  mem : ∀ y, y ∈ q'.r ↔ y ∈ q.r
  nd : q'.r.Pairwise fun a b => a.item ≠ b.item
theorem QRel.refl {q : Qu} (h : QOk q) : QRel q q := ⟨rfl, rfl, fun _ => Iff.rfl, h.sr.imp fun {a b} h => by simp only [ltL] at h; omega⟩
theorem QRel.uniq {q q' : Qu} (h : QRel q q') (hq : QOk q) {a b : Le} (ha : a ∈ q'.r) (hb : b ∈ q'.r) (he : a.item = b.item) : a = b := ltL_uniq hq.sr ((h.mem a).1 ha) ((h.mem b).1 hb) he
theorem QRel.rlen {q q' : Qu} (h : QRel q q') (hq : QOk q) : q'.r.length ≤ 16 := by
  have := len_sub (a := q'.r.map Le.item) (b := q.l.map It.number) (by rw [List.pairwise_map]; exact h.nd) (by
    intro x hx
    obtain ⟨y, hy, rfl⟩ := List.mem_map.1 hx
    obtain ⟨z, hz, e⟩ := hq.sub y ((h.mem y).1 hy)
    exact List.mem_map.2 ⟨z, hz, e⟩)
  simp only [List.length_map] at this
  have := hq.len
  omega
theorem heldB_congr {a b : List Le} (h : ∀ y, y ∈ a ↔ y ∈ b) (n ep tk : Int) : heldB a n ep tk = heldB b n ep tk := by
  unfold heldB
  rw [Bool.eq_iff_iff, List.any_eq_true, List.any_eq_true]
  constructor
  · rintro ⟨y, hy, h1⟩
    exact ⟨y, (h y).1 hy, h1⟩
  · rintro ⟨y, hy, h1⟩
    exact ⟨y, (h y).2 hy, h1⟩
theorem QRel.app {q q' : Qu} (h : QRel q q') (x : Ch) : (qApp q' x).2 = (qApp q x).2 ∧ QRel (qApp q x).1 (qApp q' x).1 := by
  unfold qApp
  rw [h.l, h.most]
  split
  case isFalse => exact ⟨rfl, h⟩
  case isTrue hv =>
    split
    case isTrue hk =>
      split
      case isTrue => exact ⟨rfl, h⟩
      case isFalse h1 =>
        split
        case isTrue => exact ⟨rfl, h⟩
        case isFalse h2 => exact ⟨rfl, rfl, rfl, h.mem, h.nd⟩
    case isFalse hk =>
      split
      case isFalse => exact ⟨rfl, h⟩
      case isTrue hk4 =>
        split
        case isTrue => exact ⟨rfl, h⟩
        case isFalse h1 =>
          refine ⟨rfl, rfl, rfl, fun y => ?_, h.nd.filter _⟩
          simp only [without, List.mem_filter, h.mem]
theorem QRel.take {q q' : Qu} (h : QRel q q') (hq : QOk q) (cl ep tk ho : Int) : (takeR q' cl ep tk ho).x = (takeP q cl ep tk ho).x ∧ (takeR q' cl ep tk ho).l = (takeP q cl ep tk ho).l ∧ (takeR q' cl ep tk ho).e = (takeP q cl ep tk ho).e ∧ QRel (takeP q cl ep tk ho).q (takeR q' cl ep tk ho).q := by
  have hf : freeI q'.l q'.r ep tk = freeI q.l q.r ep tk := by
    unfold freeI
    rw [h.l]
    congr 1
    funext x
    rw [heldB_congr h.mem]
  unfold takeP takeR
  rw [hf]
  by_cases hbad : takeBad cl ep tk ho
  · simp only [if_pos hbad]
    exact ⟨trivial, trivial, trivial, h⟩
  · simp only [if_neg hbad]
    cases hx : freeI q.l q.r ep tk with
    | none => exact ⟨rfl, rfl, rfl, h⟩
    | some x =>
      refine ⟨rfl, rfl, rfl, h.l, h.most, fun y => ?_, ?_⟩
      · simp only
        rw [mem_insL hq.sr]
        simp only [List.mem_append, without, List.mem_filter, h.mem, List.mem_cons, List.not_mem_nil, or_false, bne_iff_ne]
        exact or_comm
      · simp only
        rw [List.pairwise_append]
        refine ⟨h.nd.filter _, by simp, fun a ha b hb => ?_⟩
        simp at hb
        subst hb
        have := (List.mem_filter.1 ha).2
        simpa using this
theorem QRel.forget {q q' : Qu} (h : QRel q q') : QRel ⟨q.l, [], q.most⟩ ⟨q'.l, [], q'.most⟩ := ⟨h.l, h.most, fun _ => Iff.rfl, .nil⟩
theorem liveF_some {rs : List Le} {ep n tk : Int} {y : Le} (h : liveF rs ep n tk = some y) : y ∈ rs ∧ y.item = n ∧ liveL y ep tk := by
  unfold liveF at h
  have h1 := List.mem_of_find?_eq_some h
  have h2 := List.find?_some h
  simp at h2
  exact ⟨h1, h2⟩
theorem liveF_of {rs : List Le} {ep n tk : Int} {y : Le} (hy : y ∈ rs) (h1 : y.item = n) (h2 : liveL y ep tk) : ∃ z, liveF rs ep n tk = some z := by
  have : (liveF rs ep n tk).isSome = true := by
    rw [liveF_isSome]
    obtain ⟨i, hi, rfl⟩ := List.mem_iff_getElem.1 hy
    exact heldB_at hi h1 h2
  exact Option.isSome_iff_exists.1 this
theorem QRel.holds {q q' : Qu} (h : QRel q q') (hq : QOk q) (cl ep n tk : Int) : holdsR q'.r cl ep n tk = holdsP q.r cl ep n tk := by
  rw [Bool.eq_iff_iff]
  unfold holdsP holdsR
  rw [List.any_eq_true]
  constructor
  · intro h1
    cases hz : liveF q'.r ep n tk with
    | none => rw [hz] at h1; cases h1
    | some z =>
      rw [hz] at h1
      obtain ⟨h2, h3, h4⟩ := liveF_some hz
      simp at h1
      exact ⟨z, (h.mem z).1 h2, by simp [h1, h3, h4]⟩
  · rintro ⟨y, hy, h1⟩
    simp only [Bool.and_eq_true, decide_eq_true_eq] at h1
    obtain ⟨⟨h1, h2⟩, h3⟩ := h1
    have hy' := (h.mem y).2 hy
    obtain ⟨z, hz⟩ := liveF_of hy' h1 h3
    obtain ⟨h4, h5, _⟩ := liveF_some hz
    have := h.uniq hq h4 hy' (by omega)
    rw [hz, this]
    simpa using h2
theorem QRel.leases {q q' : Qu} (h : QRel q q') (hq : QOk q) (ep tk : Int) : leasesR q'.l q'.r ep tk = leasesP q.r ep tk := by
  refine sortedL_eq ?_ (hq.sr.filter _) fun y => ?_
  · unfold leasesR
    rw [h.l, List.pairwise_filterMap]
    refine hq.up.imp fun {a b} hab y hy z hz => ?_
    have h1 := liveF_some hy
    have h2 := liveF_some hz
    simp only [ltL]
    omega
  · unfold leasesR leasesP
    rw [List.mem_filterMap, List.mem_filter, h.l]
    constructor
    · rintro ⟨x, hx, hl⟩
      have h1 := liveF_some hl
      exact ⟨(h.mem y).1 h1.1, by simpa using h1.2.2⟩
    · rintro ⟨hy, hl⟩
      obtain ⟨x, hx, e⟩ := hq.sub y hy
      have hy' := (h.mem y).2 hy
      obtain ⟨z, hz⟩ := liveF_of hy' e.symm (by simpa using hl)
      obtain ⟨h4, h5, _⟩ := liveF_some hz
      have := h.uniq hq h4 hy' (by omega)
      exact ⟨x, hx, by rw [hz, this]⟩
end Go.Proofs.YtiabhlogadboeaaGreat
