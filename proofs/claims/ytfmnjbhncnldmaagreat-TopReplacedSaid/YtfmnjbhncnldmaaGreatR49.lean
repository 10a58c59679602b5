import Derived.Test.YtfmnjbhncnldmaaGreatR46
import Derived.Test.YtfmnjbhncnldmaaGreatR47
import Derived.Test.YtfmnjbhncnldmaaGreatR48
set_option linter.unusedSimpArgs false
set_option linter.unusedVariables false
namespace Go.Proofs.YtfmnjbhncnldmaaGreat
open Go.RowKit
attribute [local irreducible] Res.blk Res.sl Res.all Res.ex Res.pure Res.star
structure StpT (r : World) (B : Nat) (x x' : Pr) (sv' : Nat → List ShV) (G' : Res) (nb' : Nat → Int) : Prop where
  pi : PI x' B
  rdy : Rdy x → Rdy x'
  two : x'.two = x.two
  lag : x'.lag = x.lag
  msg : ∀ k, k < 2 → x'.sh k = (sv' k).map ShV.m
  rd : ∀ k, k < 2 → ∀ m, m ∈ sv' k → Reads r [G'] 8 m.v (m.m.ch.map Ch.cells)
  nb : ∀ k, 0 ≤ nb' k ∧ nb' k ≤ (B : Int)
theorem pstep2_z (gx : Nat) (q : PQd) (c f : Nat → Nat) (vg : Nat → Value) (S H : Nat → Option Addr × Nat) (nb : Nat → Int) (x : Pr) (sv : Nat → List ShV) (G : Res) (B : Nat) (wh a b : Int) (r : World) (w : World)
    (hS : Sep r [] (.blk gx 42 (prC q 2 nb x.acked) :: PC q.gh 0 0 (.pointer (some ⟨q.gg, 0, .none⟩)) x.home :: GP q.gg pairG :: PL q.gl x.ld :: .sl 34 1 (.slice q.cA 2 q.cc) (((List.range 2).map c).map ptC) :: .sl 106 1 (.slice q.fA 2 q.fc) (((List.range 2).map f).map ptC) :: .sl 135 1 (.slice q.sA 2 q.sc) (((List.range 2).map (rsv S fun k => (sv k).length)).map Sv.cells) :: .sl 140 1 (.slice q.hA 2 q.hc) (((List.range 2).map (rsv H fun k => (x.he k).length)).map Sv.cells) :: PC (c 0) ((0 : Nat) + 1) 0 (vg 0) (x.fo 0).c :: .blk (f 0) 222 [.pointer (some ⟨c 0, 0, .none⟩), .int .i64 (x.fo 0).seen, .int .i64 (x.fo 0).agreed] :: .sl 131 4 (.slice (S 0).1 (sv 0).length (S 0).2) ((sv 0).map ShV.cells) :: .sl 137 3 (.slice (H 0).1 (x.he 0).length (H 0).2) ((x.he 0).map He.cells) :: PC (c 1) ((1 : Nat) + 1) 0 (vg 1) (x.fo 1).c :: .blk (f 1) 222 [.pointer (some ⟨c 1, 0, .none⟩), .int .i64 (x.fo 1).seen, .int .i64 (x.fo 1).agreed] :: .sl 131 4 (.slice (S 1).1 (sv 1).length (S 1).2) ((sv 1).map ShV.cells) :: .sl 137 3 (.slice (H 1).1 (x.he 1).length (H 1).2) ((x.he 1).map He.cells) :: G :: []) w) (hI : PI x B) (hB : B ≤ 500) (hmsg : ∀ k, k < 2 → x.sh k = (sv k).map ShV.m) (hrd : ∀ k, k < 2 → ∀ m, m ∈ sv k → Reads r [G] 8 m.v (m.m.ch.map Ch.cells)) (hnb : ∀ k, 0 ≤ nb k ∧ nb k ≤ (B : Int)) :
    Calls Tryz.prog 10 #[.pointer (some ⟨gx, 0, .none⟩), .agg #[.int .i64 wh, .int .i64 a, .int .i64 b]] w fun e w' => ∃ (x' : Pr) (nb' : Nat → Int) (sv' : Nat → List ShV) (G' : Res) (S' H' : Nat → Option Addr × Nat), e = .returned (.bool true) ∧ StpT r (B + 1) x x' sv' G' nb' ∧ Sep r [] (.blk gx 42 (prC q 2 nb' x'.acked) :: PC q.gh 0 0 (.pointer (some ⟨q.gg, 0, .none⟩)) x'.home :: GP q.gg pairG :: PL q.gl x'.ld :: .sl 34 1 (.slice q.cA 2 q.cc) (((List.range 2).map c).map ptC) :: .sl 106 1 (.slice q.fA 2 q.fc) (((List.range 2).map f).map ptC) :: .sl 135 1 (.slice q.sA 2 q.sc) (((List.range 2).map (rsv S' fun k => (sv' k).length)).map Sv.cells) :: .sl 140 1 (.slice q.hA 2 q.hc) (((List.range 2).map (rsv H' fun k => (x'.he k).length)).map Sv.cells) :: PC (c 0) ((0 : Nat) + 1) 0 (vg 0) (x'.fo 0).c :: .blk (f 0) 222 [.pointer (some ⟨c 0, 0, .none⟩), .int .i64 (x'.fo 0).seen, .int .i64 (x'.fo 0).agreed] :: .sl 131 4 (.slice (S' 0).1 (sv' 0).length (S' 0).2) ((sv' 0).map ShV.cells) :: .sl 137 3 (.slice (H' 0).1 (x'.he 0).length (H' 0).2) ((x'.he 0).map He.cells) :: PC (c 1) ((1 : Nat) + 1) 0 (vg 1) (x'.fo 1).c :: .blk (f 1) 222 [.pointer (some ⟨c 1, 0, .none⟩), .int .i64 (x'.fo 1).seen, .int .i64 (x'.fo 1).agreed] :: .sl 131 4 (.slice (S' 1).1 (sv' 1).length (S' 1).2) ((sv' 1).map ShV.cells) :: .sl 137 3 (.slice (H' 1).1 (x'.he 1).length (H' 1).2) ((x'.he 1).map He.cells) :: G' :: []) w' := by
  have hm := modM_bd a 2 (by omega)
  rcases (by omega : modM a 2 = 0 ∨ modM a 2 = 1) with hi | hi
  · refine (pstep_z gx 2 0 q c f vg S H nb x sv G B wh a b r (PC (c 1) ((1 : Nat) + 1) 0 (vg 1) (x.fo 1).c :: .blk (f 1) 222 [.pointer (some ⟨c 1, 0, .none⟩), .int .i64 (x.fo 1).seen, .int .i64 (x.fo 1).agreed] :: .sl 131 4 (.slice (S 1).1 (sv 1).length (S 1).2) ((sv 1).map ShV.cells) :: .sl 137 3 (.slice (H 1).1 (x.he 1).length (H 1).2) ((x.he 1).map He.cells) :: []) w (hS.sb) hI hB (by omega) (by omega) hi hmsg hrd hnb).mono ?_
    rintro e w' ⟨x', nb', sv', G', S', H', rfl, hR, h⟩
    obtain ⟨o1, o2, o3, o4, o5⟩ := hR.oth 1 (by decide)
    rw [← o1, ← o2, ← o3, ← o4, ← o5] at h
    exact ⟨x', nb', sv', G', S', H', rfl, ⟨hR.pi, hR.rdy, hR.two, hR.lag, hR.msg, hR.rd, hR.nb⟩, h.sub SuF⟩
  · refine (pstep_z gx 2 1 q c f vg S H nb x sv G B wh a b r (PC (c 0) ((0 : Nat) + 1) 0 (vg 0) (x.fo 0).c :: .blk (f 0) 222 [.pointer (some ⟨c 0, 0, .none⟩), .int .i64 (x.fo 0).seen, .int .i64 (x.fo 0).agreed] :: .sl 131 4 (.slice (S 0).1 (sv 0).length (S 0).2) ((sv 0).map ShV.cells) :: .sl 137 3 (.slice (H 0).1 (x.he 0).length (H 0).2) ((x.he 0).map He.cells) :: []) w (hS.sb) hI hB (by omega) (by omega) hi hmsg hrd hnb).mono ?_
    rintro e w' ⟨x', nb', sv', G', S', H', rfl, hR, h⟩
    obtain ⟨o1, o2, o3, o4, o5⟩ := hR.oth 0 (by decide)
    rw [← o1, ← o2, ← o3, ← o4, ← o5] at h
    exact ⟨x', nb', sv', G', S', H', rfl, ⟨hR.pi, hR.rdy, hR.two, hR.lag, hR.msg, hR.rd, hR.nb⟩, h.sub SuF⟩
structure StpL (r : World) (lag J : Int) (k : Nat) (two : Bool) (rd : Bool) (x : Pr) (sv : Nat → List ShV) (G : Res) (nb : Nat → Int) : Prop where
  pi : PI x k
  lag : x.lag = lag
  two : x.two = two
  rdy : rd = true → Rdy x
  msg : ∀ i, i < 2 → x.sh i = (sv i).map ShV.m
  rd : ∀ i, i < 2 → ∀ m, m ∈ sv i → Reads r [G] 8 m.v (m.m.ch.map Ch.cells)
  nb : ∀ i, 0 ≤ nb i ∧ nb i ≤ (k : Int)
set_option maxHeartbeats 16000000 in
set_option maxRecDepth 10000 in
theorem topReplaced_z (z : Int) (l : List St3) (A : Option Addr) (cap : Nat) (jn hd : Int) (r : World) (hz : -9223372036854775808 ≤ z ∧ z ≤ 9223372036854775807) (hr : Rows' r 3 (.slice A l.length cap) (l.map St3.cells)) (hjn : -9223372036854775808 ≤ jn ∧ jn ≤ 9223372036854775807) (hhd : -9223372036854775808 ≤ hd ∧ hd ≤ 9223372036854775807) :
    Calls Tryz.prog 4 #[.int .i64 z, .slice A l.length cap, .int .i64 jn, .int .i64 hd] r fun e w' => e = .returned (.bool true) ∧ Chg [] r w' := by
  have hS := Sep.root r
  have hrd : Reads r [] 3 (.slice A l.length cap) (l.map St3.cells) := Reads.root hr
  obtain ⟨J, hJ⟩ : ∃ J, modM jn 20 = J := ⟨_, rfl⟩
  obtain ⟨M, hK⟩ : ∃ M, modM hd 20 = M := ⟨_, rfl⟩
  have hJb := modM_bd jn 20 (by omega)
  have hKb := modM_bd hd 20 (by omega)
  rw [hJ] at hJb
  rw [hK] at hKb
  refine Z.enter Tryz.func4 Tryz.ntmps4 rfl rfl ?_
  repeat' (first|refine K ?_|(refine Sh.sa hS ?_;clear hS;intro w hS)|(refine K3 ?_;clear hS;intro g w hS hge)|((first|refine GS ?_ ?_|refine VB ?_ ?_)<;>intro hb<;>(try simp only [JJ] at hb)<;>(try exact JX)))
  refine Z.eff (Z.cl (between_z z 0 4 _ _ _ hS (by omega) (by omega) (by omega)) rfl ?_) rfl
  clear hS
  rintro e w ⟨lag, rfl, hlag, hS⟩
  refine ⟨_, rfl, ?_⟩
  repeat' (first|refine K ?_|(refine Sh.sa hS ?_;clear hS;intro w hS)|(refine K3 ?_;clear hS;intro g w hS hge)|((first|refine GS ?_ ?_|refine VB ?_ ?_)<;>intro hb<;>(try simp only [JJ] at hb)<;>(try exact JX)))
  refine Z.eff (Z.cl (ptogether_z lag 2 _ _ _ hS (by omega) (by omega)) rfl ?_) rfl
  clear hS
  rintro e w ⟨gx, q, c, f, vg, rfl, hS⟩
  refine ⟨_, rfl, ?_⟩
  repeat' (first|refine K ?_|(refine Sh.sa hS ?_;clear hS;intro w hS)|(refine K3 ?_;clear hS;intro g w hS hge)|((first|refine GS ?_ ?_|refine VB ?_ ?_)<;>intro hb<;>(try simp only [JJ] at hb)<;>(try exact JX)))
  refine Z.eff (Z.cl (awake_z _ _ _ hS) rfl ?_) rfl
  clear hS
  rintro e w ⟨rfl, hS⟩
  refine ⟨_, rfl, ?_⟩
  repeat' (first|refine K ?_|(refine Sh.sa hS ?_;clear hS;intro w hS)|(refine K3 ?_;clear hS;intro g w hS hge)|((first|refine GS ?_ ?_|refine VB ?_ ?_)<;>intro hb<;>(try simp only [JJ] at hb)<;>(try exact JX)))
  · refine Z.eff (Z.cl (awake_z _ _ _ hS) rfl ?_) rfl
    clear hS
    rintro e w ⟨rfl, hS⟩
    refine ⟨_, rfl, ?_⟩
    repeat' (first|refine K ?_|(refine Sh.sa hS ?_;clear hS;intro w hS)|(refine K3 ?_;clear hS;intro g w hS hge)|((first|refine GS ?_ ?_|refine VB ?_ ?_)<;>intro hb<;>(try simp only [JJ] at hb)<;>(try exact JX)))
    refine Dnt Tryz.results4 ?_
    exact ⟨rfl, hS.chg⟩
  have hpk : (List.range 2).map (pk0 c f vg) = [pk0 c f vg 0, pk0 c f vg 1] := rfl
  rw [hpk] at hS
  replace hS := Sep.all_open.1 (hS.fo (R := .all [pk0 c f vg 0, pk0 c f vg 1]))
  simp only [List.cons_append, List.nil_append, pk0] at hS
  replace hS := Sep.all_open.1 hS
  simp only [List.cons_append, List.nil_append] at hS
  replace hS := Sep.all_open.1 (hS.fo (R := .all [PC (c 1) ((1 : Nat) + 1) 0 (vg 1) .zero, .blk (f 1) 222 [.pointer (some ⟨c 1, 0, .none⟩), .int .i64 0, .int .i64 0]]))
  simp only [List.cons_append, List.nil_append] at hS
  replace hS := Z.nilsl (Z.nilsl (Z.nilsl (Z.nilsl (Sep.pure_open.2 ⟨trivial, hS⟩ : Sep r [] (.pure True :: _) _) 131 4 none) 137 3 none) 131 4 none) 137 3 none
  refine Z.lpS [8, 10, 11, 32, 33, 34, 35, 36, 37, 38, 39, 40, 41, 42, 43, 44, 45, 46, 47, 48, 49, 50, 51, 52, 53, 54, 55, 56, 57, 58, 59, 60, 61, 62, 63, 64, 65, 66, 67, 68, 69, 70, 71, 72, 73, 74, 75, 76, 77, 78, 79, 80, 81, 82, 83, 84, 85, 86, 87, 88, 89, 90, 91, 92, 93, 94] (fun m w z => ∃ (k : Nat) (rd : Bool) (x : Pr) (nb : Nat → Int) (sv : Nat → List ShV) (G : Res) (S H : Nat → Option Addr × Nat), z = [(10, .bool rd), (11, .int .i64 k)] ∧ (k ≤ l.length ∧ StpL r lag J k (decide (J < k)) rd x sv G nb) ∧ m = l.length - k ∧ Sep r [] (.blk gx 42 (prC q 2 nb x.acked) :: PC q.gh 0 0 (.pointer (some ⟨q.gg, 0, .none⟩)) x.home :: GP q.gg pairG :: PL q.gl x.ld :: .sl 34 1 (.slice q.cA 2 q.cc) (((List.range 2).map c).map ptC) :: .sl 106 1 (.slice q.fA 2 q.fc) (((List.range 2).map f).map ptC) :: .sl 135 1 (.slice q.sA 2 q.sc) (((List.range 2).map (rsv S fun k => (sv k).length)).map Sv.cells) :: .sl 140 1 (.slice q.hA 2 q.hc) (((List.range 2).map (rsv H fun k => (x.he k).length)).map Sv.cells) :: PC (c 0) ((0 : Nat) + 1) 0 (vg 0) (x.fo 0).c :: .blk (f 0) 222 [.pointer (some ⟨c 0, 0, .none⟩), .int .i64 (x.fo 0).seen, .int .i64 (x.fo 0).agreed] :: .sl 131 4 (.slice (S 0).1 (sv 0).length (S 0).2) ((sv 0).map ShV.cells) :: .sl 137 3 (.slice (H 0).1 (x.he 0).length (H 0).2) ((x.he 0).map He.cells) :: PC (c 1) ((1 : Nat) + 1) 0 (vg 1) (x.fo 1).c :: .blk (f 1) 222 [.pointer (some ⟨c 1, 0, .none⟩), .int .i64 (x.fo 1).seen, .int .i64 (x.fo 1).agreed] :: .sl 131 4 (.slice (S 1).1 (sv 1).length (S 1).2) ((sv 1).map ShV.cells) :: .sl 137 3 (.slice (H 1).1 (x.he 1).length (H 1).2) ((x.he 1).map He.cells) :: G :: []) w) _ [(10, .bool false), (11, .int .i64 (0 : Nat))] (by repeat (first | exact trivial | refine ⟨rfl, ?_⟩)) ⟨0, false, pr0 lag, fun _ => 0, sv0, .pure True, sA0, sA0, rfl, ⟨by omega, pr0_inv (by omega), rfl, (decide_eq_false (by omega)).symm, fun h => (by cases h), fun _ _ => rfl, fun i _ m hm => (by simp [sv0] at hm), fun _ => ⟨Int.le_refl 0, Int.le_refl 0⟩⟩, rfl, hS.sb⟩ ?_
  clear hS
  rintro m f0 w _ ⟨k, rd, x, nb, sv, G, S, H, rfl, ⟨hk, hL⟩, rfl, hS⟩
  by_cases hlt : k < l.length
  rotate_left
  · repeat' (first|refine K ?_|(refine Sh.sa hS ?_;clear hS;intro w hS)|(refine K3 ?_;clear hS;intro g w hS hge)|((first|refine GS ?_ ?_|refine VB ?_ ?_)<;>intro hb<;>(try simp only [JJ] at hb)<;>(try exact JX)))
    refine Dnt Tryz.results4 ?_
    exact ⟨rfl, hS.chg⟩
  obtain ⟨gb, ob, hA, _, hra⟩ := (hrd.sub SuF [] w hS).mat (by omega) (q := k) (by simpa using hlt)
  subst hA
  have hra2 : w.rangeAt gb (ob + k * 3) l[k].cells := by simpa using hra
  clear hra hra2
  repeat' (first|refine K ?_|(refine Sh.sa hS ?_;clear hS;intro w hS)|(refine K3 ?_;clear hS;intro g w hS hge)|((first|refine GS ?_ ?_|refine VB ?_ ?_)<;>intro hb<;>(try simp only [JJ] at hb)<;>(try exact JX)))
  refine Z.cut [38, 39, 40, 41, 42, 43, 44, 45, 46, 47, 48, 49, 50, 51, 52, 53, 54] (fun w z => ∃ x' : Pr, z = [(54, .bool false)] ∧ (StpL r lag J k (decide (J < (k : Int) + 1)) rd x' sv G nb) ∧ Sep r [] (.blk gx 42 (prC q 2 nb x'.acked) :: PC q.gh 0 0 (.pointer (some ⟨q.gg, 0, .none⟩)) x'.home :: GP q.gg pairG :: PL q.gl x'.ld :: .sl 34 1 (.slice q.cA 2 q.cc) (((List.range 2).map c).map ptC) :: .sl 106 1 (.slice q.fA 2 q.fc) (((List.range 2).map f).map ptC) :: .sl 135 1 (.slice q.sA 2 q.sc) (((List.range 2).map (rsv S fun k => (sv k).length)).map Sv.cells) :: .sl 140 1 (.slice q.hA 2 q.hc) (((List.range 2).map (rsv H fun k => (x'.he k).length)).map Sv.cells) :: PC (c 0) ((0 : Nat) + 1) 0 (vg 0) (x'.fo 0).c :: .blk (f 0) 222 [.pointer (some ⟨c 0, 0, .none⟩), .int .i64 (x'.fo 0).seen, .int .i64 (x'.fo 0).agreed] :: .sl 131 4 (.slice (S 0).1 (sv 0).length (S 0).2) ((sv 0).map ShV.cells) :: .sl 137 3 (.slice (H 0).1 (x'.he 0).length (H 0).2) ((x'.he 0).map He.cells) :: PC (c 1) ((1 : Nat) + 1) 0 (vg 1) (x'.fo 1).c :: .blk (f 1) 222 [.pointer (some ⟨c 1, 0, .none⟩), .int .i64 (x'.fo 1).seen, .int .i64 (x'.fo 1).agreed] :: .sl 131 4 (.slice (S 1).1 (sv 1).length (S 1).2) ((sv 1).map ShV.cells) :: .sl 137 3 (.slice (H 1).1 (x'.he 1).length (H 1).2) ((x'.he 1).map He.cells) :: G :: []) w) ?_ ?_
  · by_cases hkJ : (k : Int) = J
    · have hx2 : x.two = false := hL.two.trans (decide_eq_false (by omega))
      obtain ⟨ha1, ha2⟩ := hL.pi.add hx2 (by omega)
      refine D.startS (Lr := [.blk gx 42 (prC q 2 nb x.acked)]) (hS.sb) 17 17 (by kernel_rfl) rfl ?_
      replace hS := hS.drew
      refine Sh.dp 0 1 ?_
      refine Sh.dp 1 3 ?_
      refine D.eff 2 7 rfl D.wantedN (by kernel_rfl) (by kernel_rfl) (fun _ _ h => h) ?_
      refine Z.cl (mmod_z jn 20 _ _ _ hS (by omega) (by omega)) rfl ?_
      clear hS
      rintro e w ⟨rfl, hS⟩
      refine ⟨_, rfl, ?_⟩
      rw [hJ]
      refine ⟨HM.s (hS.sb), ?_⟩
      first | refine D.pr 3 15 rfl D.wantedN (by kernel_rfl) rfl ?_ | refine D.pl 3 15 rfl D.wantedN (by kernel_rfl) (R.eqa rfl rfl rfl rfl) ?_
      refine Sh.dp 4 31 ?_
      refine D.slot 42 rfl (fun hb => ?_) (fun hb => by exfalso; (try simp only [decide_eq_true_eq, decide_eq_false_iff_not, Bool.not_eq_true', Bool.not_eq_false', Int.not_lt, Int.not_le] at hb) <;> first | omega | exact hb trivial | cases hb | simp at hb)
      (try simp only [decide_eq_true_eq, decide_eq_false_iff_not, Bool.not_eq_true', Bool.not_eq_false', Int.not_lt, Int.not_le] at hb)
      refine Sh.dp 5 63 ?_
      refine Sh.dp 6 127 ?_
      refine Sh.dp 7 255 ?_
      refine Sh.dp 9 767 ?_
      refine Sh.dp 10 1791 ?_
      refine Sh.dp 11 3839 ?_
      refine Sh.dl 8 4095 ?_
      refine Sh.dl 12 8191 ?_
      refine D.eff 13 16383 rfl (D.wantedT rfl rfl) (by kernel_rfl) (by kernel_rfl) (fun _ _ h => h) ?_
      refine WE.guard ?_
      replace hS := hS.fo (R := PC q.gh 0 0 (.pointer (some ⟨q.gg, 0, .none⟩)) x.home)
      refine Z.cl (pclen_z q.gh 0 0 _ x.home _ _ _ hS) rfl ?_
      clear hS
      rintro e w ⟨rfl, hS⟩
      refine ⟨_, rfl, ?_⟩
      refine ⟨HM.s (hS.sb), ?_⟩
      refine D.eff 14 32767 rfl (D.wantedT rfl rfl) (by kernel_rfl) (by kernel_rfl) (fun _ _ h => h) ?_
      refine WE.guard ?_
      replace hS := hS.fo (R := PL q.gl x.ld)
      refine Z.cl (pladd_z q.gl x.ld 2 false x.home.h.length _ _ _ hS (hL.pi.ldok (by omega))) rfl ?_
      clear hS
      rintro e w ⟨rfl, hS⟩
      refine ⟨_, rfl, ?_⟩
      rw [ha1] at hS ⊢
      dsimp only at hS ⊢
      refine ⟨HM.s (hS.sb), ?_⟩
      first | refine D.pr 15 65535 rfl (D.wantedT rfl rfl) (by kernel_rfl) rfl ?_ | refine D.pl 15 65535 rfl (D.wantedT rfl rfl) (by kernel_rfl) (R.nea rfl rfl rfl rfl) ?_
      refine Sh.dp 16 131071 ?_
      refine D.done (by kernel_rfl) ?_
      refine Sh.cut [(54, _)] ?_
      exact ⟨_, rfl, ⟨ha2, hL.lag, (decide_eq_true (by omega)).symm, fun h => (by have := (hL.rdy h).1; rw [hx2] at this; cases this), hL.msg, hL.rd, hL.nb⟩, hS.sb⟩
    · refine D.startS hS 17 17 (by kernel_rfl) rfl ?_
      replace hS := hS.drew
      refine Sh.dp 0 1 ?_
      refine Sh.dp 1 3 ?_
      refine D.eff 2 7 rfl D.wantedN (by kernel_rfl) (by kernel_rfl) (fun _ _ h => h) ?_
      refine Z.cl (mmod_z jn 20 _ _ _ hS (by omega) (by omega)) rfl ?_
      clear hS
      rintro e w ⟨rfl, hS⟩
      refine ⟨_, rfl, ?_⟩
      rw [hJ]
      refine ⟨HM.s (hS.sb), ?_⟩
      first | refine D.pr 3 15 rfl D.wantedN (by kernel_rfl) rfl ?_ | refine D.pl 3 15 rfl D.wantedN (by kernel_rfl) (R.eqa rfl rfl rfl rfl) ?_
      refine Sh.dp 4 31 ?_
      refine D.slot 42 rfl (fun hb => by exfalso; (try simp only [decide_eq_true_eq, decide_eq_false_iff_not, Bool.not_eq_true', Bool.not_eq_false', Int.not_lt, Int.not_le] at hb) <;> first | omega | exact hb trivial | cases hb | simp at hb) (fun hb => ?_)
      (try simp only [decide_eq_true_eq, decide_eq_false_iff_not, Bool.not_eq_true', Bool.not_eq_false', Int.not_lt, Int.not_le] at hb)
      refine D.skF 5 63 rfl (by kernel_rfl) rfl rfl ?_
      refine D.skF 6 127 rfl (by kernel_rfl) rfl rfl ?_
      refine D.skF 7 255 rfl (by kernel_rfl) rfl rfl ?_
      refine D.skF 8 511 rfl (by kernel_rfl) rfl rfl ?_
      refine D.skF 9 1023 rfl (by kernel_rfl) rfl rfl ?_
      refine D.skF 10 2047 rfl (by kernel_rfl) rfl rfl ?_
      refine D.skF 11 4095 rfl (by kernel_rfl) rfl rfl ?_
      refine D.skF 12 8191 rfl (by kernel_rfl) rfl rfl ?_
      refine D.skF 13 16383 rfl (by kernel_rfl) rfl rfl ?_
      refine D.skF 14 32767 rfl (by kernel_rfl) rfl rfl ?_
      refine D.skF 15 65535 rfl (by kernel_rfl) rfl rfl ?_
      refine Sh.dp 16 131071 ?_
      refine D.done (by kernel_rfl) ?_
      refine Sh.cut [(54, _)] ?_
      exact ⟨x, by simp [hkJ], ⟨hL.pi, hL.lag, hL.two.trans (by rw [decide_eq_decide]; omega), hL.rdy, hL.msg, hL.rd, hL.nb⟩, hS.sb⟩
  clear hS hL x
  rintro q1 w _ ⟨x, rfl, hL, hS⟩
  repeat' (first|refine K ?_|(refine Sh.sa hS ?_;clear hS;intro w hS)|(refine K3 ?_;clear hS;intro g w hS hge)|((first|refine GS ?_ ?_|refine VB ?_ ?_)<;>intro hb<;>(try simp only [JJ] at hb)<;>(try exact JX)))
  refine Z.eff (Z.cl (mmod_z jn 20 _ _ _ hS (by omega) (by omega)) rfl ?_) rfl
  clear hS
  rintro e w ⟨rfl, hS⟩
  refine ⟨_, rfl, ?_⟩
  rw [hJ]
  repeat' (first|refine K ?_|(refine Sh.sa hS ?_;clear hS;intro w hS)|(refine K3 ?_;clear hS;intro g w hS hge)|((first|refine GS ?_ ?_|refine VB ?_ ?_)<;>intro hb<;>(try simp only [JJ] at hb)<;>(try exact JX)))
  refine Z.eff (Z.cl (mmod_z hd 20 _ _ _ hS (by omega) (by omega)) rfl ?_) rfl
  clear hS
  rintro e w ⟨rfl, hS⟩
  refine ⟨_, rfl, ?_⟩
  rw [hK]
  repeat' (first|refine K ?_|(refine Sh.sa hS ?_;clear hS;intro w hS)|(refine K3 ?_;clear hS;intro g w hS hge)|((first|refine GS ?_ ?_|refine VB ?_ ?_)<;>intro hb<;>(try simp only [JJ] at hb)<;>(try exact JX)))
  focus
    have hx2 : x.two = true := hL.two.trans (decide_eq_true (by omega))
    obtain ⟨ha1, ha2, ha3⟩ := hL.pi.require hx2
    replace hS := hS.fo (R := PL q.gl x.ld)
    refine Z.eff (Z.cl (plreq_z q.gl x.ld 2 (by unfold I64; omega) _ _ _ hS (hL.pi.ldok (by omega))) rfl ?_) rfl
    clear hS
    rintro e w ⟨rfl, hS⟩
    refine ⟨_, rfl, ?_⟩
    rw [ha1] at hS
    obtain ⟨x, hL, hS⟩ : ∃ x : Pr, StpL r lag J k (decide (J < (k : Int) + 1)) rd x sv G nb ∧ Sep r [] (.blk gx 42 (prC q 2 nb x.acked) :: PC q.gh 0 0 (.pointer (some ⟨q.gg, 0, .none⟩)) x.home :: GP q.gg pairG :: PL q.gl x.ld :: .sl 34 1 (.slice q.cA 2 q.cc) (((List.range 2).map c).map ptC) :: .sl 106 1 (.slice q.fA 2 q.fc) (((List.range 2).map f).map ptC) :: .sl 135 1 (.slice q.sA 2 q.sc) (((List.range 2).map (rsv S fun k => (sv k).length)).map Sv.cells) :: .sl 140 1 (.slice q.hA 2 q.hc) (((List.range 2).map (rsv H fun k => (x.he k).length)).map Sv.cells) :: PC (c 0) ((0 : Nat) + 1) 0 (vg 0) (x.fo 0).c :: .blk (f 0) 222 [.pointer (some ⟨c 0, 0, .none⟩), .int .i64 (x.fo 0).seen, .int .i64 (x.fo 0).agreed] :: .sl 131 4 (.slice (S 0).1 (sv 0).length (S 0).2) ((sv 0).map ShV.cells) :: .sl 137 3 (.slice (H 0).1 (x.he 0).length (H 0).2) ((x.he 0).map He.cells) :: PC (c 1) ((1 : Nat) + 1) 0 (vg 1) (x.fo 1).c :: .blk (f 1) 222 [.pointer (some ⟨c 1, 0, .none⟩), .int .i64 (x.fo 1).seen, .int .i64 (x.fo 1).agreed] :: .sl 131 4 (.slice (S 1).1 (sv 1).length (S 1).2) ((sv 1).map ShV.cells) :: .sl 137 3 (.slice (H 1).1 (x.he 1).length (H 1).2) ((x.he 1).map He.cells) :: G :: []) w := ⟨{ x with sd := setN x.sd 1 ⟨(x.sd 1).cell, (x.sd 1).applied, (x.sd 1).next, true⟩ }, ⟨ha2, hL.lag, hL.two, fun h => ha3 (hL.rdy h), hL.msg, hL.rd, hL.nb⟩, hS.sb⟩
    repeat' (first|refine K ?_|(refine Sh.sa hS ?_;clear hS;intro w hS)|(refine K3 ?_;clear hS;intro g w hS hge)|((first|refine GS ?_ ?_|refine VB ?_ ?_)<;>intro hb<;>(try simp only [JJ] at hb)<;>(try exact JX)))
  all_goals
    have hra2 : w.rangeAt gb (ob + k * 3) l[k].cells := by
      obtain ⟨gb2, ob2, hA2, _, hra⟩ := (hrd.sub SuF [] w hS).mat (by omega) (q := k) (by simpa using hlt)
      simp only [Option.some.injEq, Addr.mk.injEq] at hA2
      obtain ⟨rfl, rfl, _⟩ := hA2
      simpa using hra
    generalize l[k] = y at *
    repeat' (first|refine K ?_|(refine Sh.sa hS ?_;clear hS;intro w hS)|(refine K3 ?_;clear hS;intro g w hS hge)|((first|refine GS ?_ ?_|refine VB ?_ ?_)<;>intro hb<;>(try simp only [JJ] at hb)<;>(try exact JX)))
    refine Z.eff (Z.cl (pstep2_z gx q c f vg S H nb x sv G k y.wh y.a y.b _ _ hS hL.pi (by omega) hL.msg hL.rd hL.nb) rfl ?_) rfl
    clear hS
    rintro e w ⟨x', nb', sv', G', S', H', rfl, hR, hS⟩
    refine ⟨_, rfl, ?_⟩
    have hla : x'.lag = lag := hR.lag.trans hL.lag
    obtain ⟨j, hj1, hj2, hj3⟩ := hR.pi.kept0
    rw [hla] at hj3
    have hhl := hR.pi.len
    repeat' (first|refine K ?_|(refine Sh.sa hS ?_;clear hS;intro w hS)|(refine K3 ?_;clear hS;intro g w hS hge)|((first|refine GS ?_ ?_|refine VB ?_ ?_)<;>intro hb<;>(try simp only [JJ] at hb)<;>(try exact JX)))
    replace hS := hS.fo (R := PC (c 0) ((0 : Nat) + 1) 0 (vg 0) (x'.fo 0).c)
    replace hS := hS.fo (R := .sl 34 1 (.slice q.cA 2 q.cc) (((List.range 2).map c).map ptC))
    replace hS := hS.fo (R := PC q.gh 0 0 (.pointer (some ⟨q.gg, 0, .none⟩)) x'.home)
    replace hS := hS.fo (R := .blk gx 42 (prC q 2 nb' x'.acked))
    refine Z.eff (Z.cl (pkept_z gx 2 0 q c vg nb' x'.acked lag x'.home (x'.fo 0).c j _ _ _ hS (by omega) (by omega) hR.pi.isH (by omega) hj1 hj2 hR.pi.a0 hj3 (by omega)) rfl ?_) rfl
    clear hS
    rintro e w ⟨rfl, hS⟩
    refine ⟨_, rfl, ?_⟩
    clear j hj1 hj2 hj3
    have hkr := hL.rdy
    have ht' : x'.two = decide (J < ((k + 1 : Nat) : Int)) := hR.two.trans (hL.two.trans (by rw [decide_eq_decide]; omega))
    cases rd
    · repeat' (first|refine K ?_|(refine Sh.sa hS ?_;clear hS;intro w hS)|(refine K3 ?_;clear hS;intro g w hS hge)|((first|refine GS ?_ ?_|refine VB ?_ ?_)<;>intro hb<;>(try simp only [JJ] at hb)<;>(try exact JX)))
      replace hS := hS.fo (R := PL q.gl x'.ld)
      refine Z.eff (Z.cl (plready_z q.gl x'.ld 2 (by unfold I64; omega) _ _ _ hS (hR.pi.ldok (by omega))) rfl ?_) rfl
      clear hS
      rintro e w ⟨rfl, hS⟩
      refine ⟨_, rfl, ?_⟩
      cases hry : readyL x'.ld 2
      · repeat' (first|refine K ?_|(refine Sh.sa hS ?_;clear hS;intro w hS)|(refine K3 ?_;clear hS;intro g w hS hge)|((first|refine GS ?_ ?_|refine VB ?_ ?_)<;>intro hb<;>(try simp only [JJ] at hb)<;>(try exact JX)))
        refine Sh.again (l.length - (k + 1)) [(10, .bool false), (11, .int .i64 (k + 1 : Nat))] ?_
        exact ⟨k + 1, false, x', nb', sv', G', S', H', rfl, ⟨by omega, hR.pi, hla, ht', fun h => (by cases h), hR.msg, hR.rd, hR.nb⟩, rfl, hS.sb⟩
      · have hRd := hR.pi.ready hry
        obtain ⟨j, hj1, hj2, hj3⟩ := hR.pi.kept1 hRd
        rw [hla] at hj3
        repeat' (first|refine K ?_|(refine Sh.sa hS ?_;clear hS;intro w hS)|(refine K3 ?_;clear hS;intro g w hS hge)|((first|refine GS ?_ ?_|refine VB ?_ ?_)<;>intro hb<;>(try simp only [JJ] at hb)<;>(try exact JX)))
        replace hS := hS.fo (R := PC (c 1) ((1 : Nat) + 1) 0 (vg 1) (x'.fo 1).c)
        replace hS := hS.fo (R := .sl 34 1 (.slice q.cA 2 q.cc) (((List.range 2).map c).map ptC))
        replace hS := hS.fo (R := PC q.gh 0 0 (.pointer (some ⟨q.gg, 0, .none⟩)) x'.home)
        replace hS := hS.fo (R := .blk gx 42 (prC q 2 nb' x'.acked))
        refine Z.eff (Z.cl (pkept_z gx 2 1 q c vg nb' x'.acked lag x'.home (x'.fo 1).c j _ _ _ hS (by omega) (by omega) hR.pi.isH (by omega) hj1 hj2 hR.pi.a0 hj3 (by omega)) rfl ?_) rfl
        clear hS
        rintro e w ⟨rfl, hS⟩
        refine ⟨_, rfl, ?_⟩
        repeat' (first|refine K ?_|(refine Sh.sa hS ?_;clear hS;intro w hS)|(refine K3 ?_;clear hS;intro g w hS hge)|((first|refine GS ?_ ?_|refine VB ?_ ?_)<;>intro hb<;>(try simp only [JJ] at hb)<;>(try exact JX)))
        refine Sh.again (l.length - (k + 1)) [(10, .bool true), (11, .int .i64 (k + 1 : Nat))] ?_
        exact ⟨k + 1, true, x', nb', sv', G', S', H', rfl, ⟨by omega, hR.pi, hla, ht', fun _ => hRd, hR.msg, hR.rd, hR.nb⟩, rfl, hS.sb⟩
    · have hRd := hR.rdy (hkr rfl)
      obtain ⟨j, hj1, hj2, hj3⟩ := hR.pi.kept1 hRd
      rw [hla] at hj3
      repeat' (first|refine K ?_|(refine Sh.sa hS ?_;clear hS;intro w hS)|(refine K3 ?_;clear hS;intro g w hS hge)|((first|refine GS ?_ ?_|refine VB ?_ ?_)<;>intro hb<;>(try simp only [JJ] at hb)<;>(try exact JX)))
      replace hS := hS.fo (R := PC (c 1) ((1 : Nat) + 1) 0 (vg 1) (x'.fo 1).c)
      replace hS := hS.fo (R := .sl 34 1 (.slice q.cA 2 q.cc) (((List.range 2).map c).map ptC))
      replace hS := hS.fo (R := PC q.gh 0 0 (.pointer (some ⟨q.gg, 0, .none⟩)) x'.home)
      replace hS := hS.fo (R := .blk gx 42 (prC q 2 nb' x'.acked))
      refine Z.eff (Z.cl (pkept_z gx 2 1 q c vg nb' x'.acked lag x'.home (x'.fo 1).c j _ _ _ hS (by omega) (by omega) hR.pi.isH (by omega) hj1 hj2 hR.pi.a0 hj3 (by omega)) rfl ?_) rfl
      clear hS
      rintro e w ⟨rfl, hS⟩
      refine ⟨_, rfl, ?_⟩
      repeat' (first|refine K ?_|(refine Sh.sa hS ?_;clear hS;intro w hS)|(refine K3 ?_;clear hS;intro g w hS hge)|((first|refine GS ?_ ?_|refine VB ?_ ?_)<;>intro hb<;>(try simp only [JJ] at hb)<;>(try exact JX)))
      refine Sh.again (l.length - (k + 1)) [(10, .bool true), (11, .int .i64 (k + 1 : Nat))] ?_
      exact ⟨k + 1, true, x', nb', sv', G', S', H', rfl, ⟨by omega, hR.pi, hla, ht', fun _ => hRd, hR.msg, hR.rd, hR.nb⟩, rfl, hS.sb⟩
open Go.ChangeShapes Go.WideShapes Go.ChangeAt
set_option maxRecDepth 100000 in
theorem topReplaced_lifted (os : Os) (started : os.Started) (H : Type) (enc : TypeId × Value → H) :
    ReturnsInHanded {} Tryz.checked os 4 .any (Rows.topReplacedSpec.pre6 enc Tryz.prog Tryz.f4 Rows.topReplacedRow.domain false) (Rows.topReplacedSpec.post enc Tryz.prog Tryz.f4 false Rows.topReplacedRow.fresh Rows.topReplacedRow.handsOn Rows.topReplacedRow.again) := by
  refine returnsInHanded_of_change (C := Tryz.checked) Tryz.own started (by kernel_rfl) Tryz.func4
    (ChangeSpec.witness6 (enc := enc) (C := Tryz.checked) false ⟨#[], #[.int .i64 0, .slice none 0 0, .int .i64 0, .int .i64 0], []⟩ 8 (by kernel_rfl) (by kernel_rfl) (by kernel_rfl) (by kernel_rfl)) ?_
  intro W base args ds gs before hval0 hW _ _
  have hval : ∀ (j : Nat) t v, Tryz.f4.params[j]? = some t → args[j]? = some v → Value.okWide Tryz.prog W .any base t v := hval0
  have hW0 := hW
  obtain ⟨p, q, hA0, hV, hpq, _, _⟩ := hW
  obtain ⟨la⟩ := args
  have hA : DataW.TrodAll enc Tryz.prog W 0 (fun _ => true) true [3, 22, 3, 3] la ds p := by have := hA0; rw [Tryz.params4] at this; exact this
  rw [Tryz.params4] at hval
  obtain ⟨v0, la0, d0, ds0, p0, q0, rfl, rfl, rfl, h0, hA⟩ := trodAll_cons hA
  obtain ⟨v1, la1, d1, ds1, p1, q1, rfl, rfl, rfl, h1, hA⟩ := trodAll_cons hA
  obtain ⟨v2, la2, d2, ds2, p2, q2, rfl, rfl, rfl, h2, hA⟩ := trodAll_cons hA
  obtain ⟨v3, la3, d3, ds3, p3, q3, rfl, rfl, rfl, h3, hA⟩ := trodAll_cons hA
  obtain ⟨rfl, rfl, rfl⟩ := trodAll_nil hA
  obtain ⟨z0, rfl, hr0⟩ := arg_int (hval 0 _ _ rfl rfl) h0
  obtain ⟨l1, A1, cap1, rfl, hr1⟩ := arg_steps (hval 1 _ _ rfl rfl) h1
  obtain ⟨z2, rfl, hr2⟩ := arg_int (hval 2 _ _ rfl rfl) h2
  obtain ⟨z3, rfl, hr3⟩ := arg_int (hval 3 _ _ rfl rfl) h3
  have fin : Calls Tryz.prog 4 _ W fun e W' => e = .returned (.bool true) ∧ Chg [] W W' := topReplaced_z z0 l1 A1 cap1 z2 z3 W hr0 hr1 hr2 hr3
  refine fin.mono fun e W' ⟨he, hc⟩ => ⟨_, he, ?_⟩
  exact law_post Tryz.laidOut (by rw [Tryz.params4]; intro t ht; simp only [List.mem_cons, List.not_mem_nil, or_false] at ht; rcases ht with rfl | rfl | rfl | rfl <;> exact ⟨by kernel_rfl, of_decide_eq_true (by kernel_rfl)⟩) rfl rfl Tryz.underlying4 rfl hW0 hc.below
theorem topReplaced_f0 : Tryz.prog.funcNamed Rows.topReplacedRow.func = some 4 := by kernel_rfl
theorem topReplaced_f1 : (Rows.topReplacedRow.inPlace == Tryz.prog.inPlace 4) = true := by kernel_rfl
theorem topReplaced_f2 : (Rows.topReplacedRow.unfollowed == Tryz.prog.unfollowed 4) = true := by kernel_rfl
theorem topReplaced_f3 : (Rows.topReplacedRow.recurses == Tryz.prog.recurses 4) = true := by kernel_rfl
theorem topReplaced_f4 : (Rows.topReplacedRow.named == Tryz.prog.varsNamed 4) = true := by kernel_rfl
theorem topReplaced_closed : joinedFacts Tryz.prog 4 Tryz.f4 Rows.topReplacedSpec Rows.topReplacedRow = true := by
  unfold joinedFacts
  exact (andT (andT (andT (andT (andT (andT (andT (andT (andT (andT (andT (andT (andT (andT (andT (andT (andT (andT (andT (andT (andT (andT (andT (andT (andT (andT (andT (andT (andT (andT (andT (by kernel_rfl) Tryz.laidOut) fact_mapsRowed) (by kernel_rfl)) (by kernel_rfl)) (by kernel_rfl)) fact_stops) (by kernel_rfl)) fact_knobs) topReplaced_f1) topReplaced_f2) topReplaced_f3) topReplaced_f4) (by kernel_rfl)) (by kernel_rfl)) (by kernel_rfl)) (by kernel_rfl)) (by kernel_rfl)) (by kernel_rfl)) (by kernel_rfl)) (by kernel_rfl)) (by kernel_rfl)) fact_plainKeys) (by kernel_rfl)) fact_stopsHeard) fact_mayEnter) fact_lifted) fact_make) (by kernel_rfl)) (by kernel_rfl)) (by kernel_rfl)) (by kernel_rfl))
theorem topReplaced_holds : Rows.TopReplacedSaid :=
  OpenClaim.holds_of_wide 4 Tryz.f4 rfl rfl rfl rfl rfl rfl rfl ⟨rfl, rfl, rfl, rfl, rfl⟩ rfl rfl rfl rfl rfl topReplaced_f0 Tryz.func4 topReplaced_closed
    (of_decide_eq_true (by kernel_rfl)) (by unfold Func.isWrapper; rw [if_neg (of_decide_eq_false (by kernel_rfl))]; exact ⟨rfl, rfl⟩)
    (fun os started H enc _ => topReplaced_lifted os started H enc)
end Go.Proofs.YtfmnjbhncnldmaaGreat
