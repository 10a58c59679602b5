import Derived.Test.YtfmnjbhncnldmaaGreatR45
set_option linter.unusedSimpArgs false
set_option linter.unusedVariables false
namespace Go.Proofs.YtfmnjbhncnldmaaGreat
open Go.RowKit
attribute [local irreducible] Res.blk Res.sl Res.all Res.ex Res.pure Res.star
def pr0 (lag : Int) : Pr := ⟨.zero, lag, 0, false, fun i => if i = 0 then ⟨1, 0, 0, true⟩ else ⟨2, 0, 0, false⟩, fun _ => fo0, fun _ => [], fun _ => []⟩
theorem pr0_inv {lag : Int} (h : -1 ≤ lag ∧ lag ≤ 4) : PI (pr0 lag) 0 := by
  refine ⟨CG.zero, by simp [pr0, Cp.zero], fun y hy => by simp [pr0, Cp.zero] at hy, h, by simp [pr0, Cp.zero], rfl, rfl, rfl, fun i hi => ⟨0, ?_⟩, fun _ => ⟨rfl, rfl, rfl⟩, ?_, fun i => Nat.le_refl 0, fun i => Nat.le_refl 0⟩
  · rcases hi with rfl | ⟨_, h2⟩
    · exact ⟨Nat.zero_le _, by simp [pr0, fo0], by show (0 : Int) ≤ 1; omega, .inr ⟨rfl, by show (0 : Int) ≤ 0; omega, by simp [pr0], by simp [pr0]⟩, Int.le_refl _, Int.le_refl _, Int.le_refl _, by simp [pr0, Cp.zero], by simp [pr0], by simp [pr0]⟩
    · cases h2
  · rcases (by omega : lag = -1 ∨ 0 ≤ lag) with h1 | h1
    · exact .inl h1
    · exact .inr (by show (0 : Int) ≤ 0 + lag; omega)
def pk0 (c f : Nat → Nat) (vg : Nat → Value) (k : Nat) : Res := .all [PC (c k) (k + 1) 0 (vg k) .zero, .blk (f k) 222 [.pointer (some ⟨c k, 0, .none⟩), .int .i64 0, .int .i64 0]]
theorem all_snoc {r w : World} {M : List Nat} {F Ls : List Res} {R : Res} (h : Sep r M (.all Ls :: R :: F) w) : Sep r M (.all (Ls ++ [R]) :: F) w := by
  have h1 := Sep.all_open.1 h
  refine Sep.all_open.2 ?_
  rw [List.append_assoc]
  exact h1
theorem range_ext {α : Type} {g g' : Nat → α} {i : Nat} (z : α) (hg : g' = setN g i z) : (List.range (i + 1)).map g' = (List.range i).map g ++ [z] := by
  subst hg
  rw [List.range_succ, List.map_append]
  congr 1
  · apply List.map_congr_left
    intro k hk
    exact setN_ne _ _ (by have := List.mem_range.1 hk; omega)
  · simp [setN]
def sv0 : Nat → List ShV := fun _ => []
def sA0 : Nat → Option Addr × Nat := fun _ => (none, 0)
theorem pair_give : giveP ⟨0, 0, []⟩ ⟨0, 1, 0, 0, 1000⟩ = (pairG, 0) := by kernel_rfl
theorem pfnw_z (gc : Nat) (r : World) (F : List Res) (w : World) (hS : Sep r [] F w) :
    Calls Tryz.prog 39 #[.pointer (some ⟨gc, 0, .none⟩)] w fun e w' => ∃ g, e = .returned (.pointer (some ⟨g, 0, .none⟩)) ∧ Sep r [] (.blk g 222 [.pointer (some ⟨gc, 0, .none⟩), .int .i64 0, .int .i64 0] :: F) w' := by
  refine Z.enter Tryz.func39 Tryz.ntmps39 rfl rfl ?_
  repeat' (first|refine K ?_|(refine Sh.sa hS ?_;clear hS;intro w hS)|(refine K3 ?_;clear hS;intro g w hS hge)|((first|refine GS ?_ ?_|refine VB ?_ ?_)<;>intro hb<;>(try simp only [JJ] at hb)<;>(try exact JX)))
  rename Nat => g
  refine Dnt Tryz.results39 ?_
  exact ⟨g, rfl, hS.sb⟩
theorem sv_row (l : List Sv) : ∀ row, row ∈ l.map Sv.cells → row.length = 1 ∧ ∀ u, u ∈ row → u.oneCell' = true := by
  intro row hr
  obtain ⟨x, _, rfl⟩ := List.mem_map.1 hr
  exact ⟨rfl, by simp [Sv.cells, Value.oneCell']⟩
theorem range_const (n : Nat) : List.replicate n (⟨none, 0, 0⟩ : Sv) = (List.range n).map (rsv sA0 fun _ => 0) := by
  symm
  rw [List.eq_replicate_iff]
  refine ⟨by simp, fun x hx => ?_⟩
  obtain ⟨k, _, rfl⟩ := List.mem_map.1 hx
  rfl
set_option maxHeartbeats 16000000 in
theorem ptogether_z (lag : Int) (n : Nat) (r : World) (F : List Res) (w : World) (hS : Sep r [] F w) (hl : -1 ≤ lag ∧ lag ≤ 4) (hn : 1 ≤ n ∧ n ≤ 2) :
    Calls Tryz.prog 8 #[.int .i64 1, .int .i64 lag, .int .i64 n] w fun e w' => ∃ (gx : Nat) (q : PQd) (c f : Nat → Nat) (vg : Nat → Value), e = .returned (.pointer (some ⟨gx, 0, .none⟩)) ∧
      Sep r [] (.blk gx 42 (prC q n (fun _ => 0) (pr0 lag).acked) :: PC q.gh 0 0 (.pointer (some ⟨q.gg, 0, .none⟩)) (pr0 lag).home :: GP q.gg pairG :: PL q.gl (pr0 lag).ld :: .sl 34 1 (.slice q.cA n q.cc) (((List.range n).map c).map ptC) :: .sl 106 1 (.slice q.fA n q.fc) (((List.range n).map f).map ptC) ::
        .sl 135 1 (.slice q.sA n q.sc) (((List.range n).map (rsv sA0 fun k => (sv0 k).length)).map Sv.cells) :: .sl 140 1 (.slice q.hA n q.hc) (((List.range n).map (rsv sA0 fun k => ((pr0 lag).he k).length)).map Sv.cells) :: .all ((List.range n).map (pk0 c f vg)) :: F) w' := by
  have hadd : addL ⟨1, lag, 0, []⟩ 1 true 0 = (⟨1, lag, 0, [⟨1, 0, 0, true⟩]⟩, 0) := by unfold addL; rw [if_neg (by omega)]; rfl
  refine Z.enter Tryz.func8 Tryz.ntmps8 rfl rfl ?_
  repeat' (first|refine K ?_|(refine Sh.sa hS ?_;clear hS;intro w hS)|(refine K3 ?_;clear hS;intro g w hS hge)|((first|refine GS ?_ ?_|refine VB ?_ ?_)<;>intro hb<;>(try simp only [JJ] at hb)<;>(try exact JX)))
  refine Z.eff (Z.cl (pcnew_z 0 0 _ _ _ hS) rfl ?_) rfl
  clear hS
  rintro e w ⟨gh, gg, rfl, hS⟩
  refine ⟨_, rfl, ?_⟩
  replace hS := (Sep.gate0 (hS.focus (R := .blk gg _ _) AtF)).focus (R := PC gh _ _ _ _) AtF
  repeat' (first|refine K ?_|(refine Sh.sa hS ?_;clear hS;intro w hS)|(refine K3 ?_;clear hS;intro g w hS hge)|((first|refine GS ?_ ?_|refine VB ?_ ?_)<;>intro hb<;>(try simp only [JJ] at hb)<;>(try exact JX)))
  refine Z.eff (Z.cl (plnew_z 1 lag 0 _ _ _ hS) rfl ?_) rfl
  clear hS
  rintro e w (⟨hno, _⟩ | ⟨_, gl, rfl, hS⟩)
  · exact absurd ⟨by omega, by omega, by omega, by omega, by omega, by omega⟩ hno
  refine ⟨_, rfl, ?_⟩
  repeat' (first|refine K ?_|(refine Sh.sa hS ?_;clear hS;intro w hS)|(refine K3 ?_;clear hS;intro g w hS hge)|((first|refine GS ?_ ?_|refine VB ?_ ?_)<;>intro hb<;>(try simp only [JJ] at hb)<;>(try exact JX)))
  replace hS := hS.fo (R := PC gh 0 0 _ _)
  refine Z.eff (Z.cl (pcgate_z gh gg 0 0 .zero _ _ _ hS) rfl ?_) rfl
  clear hS
  rintro e w ⟨rfl, hS⟩
  refine ⟨_, rfl, ?_⟩
  repeat' (first|refine K ?_|(refine Sh.sa hS ?_;clear hS;intro w hS)|(refine K3 ?_;clear hS;intro g w hS hge)|((first|refine GS ?_ ?_|refine VB ?_ ?_)<;>intro hb<;>(try simp only [JJ] at hb)<;>(try exact JX)))
  refine Z.eff (Z.cl (pcgate_z gh gg 0 0 .zero _ _ _ hS) rfl ?_) rfl
  clear hS
  rintro e w ⟨rfl, hS⟩
  refine ⟨_, rfl, ?_⟩
  repeat' (first|refine K ?_|(refine Sh.sa hS ?_;clear hS;intro w hS)|(refine K3 ?_;clear hS;intro g w hS hge)|((first|refine GS ?_ ?_|refine VB ?_ ?_)<;>intro hb<;>(try simp only [JJ] at hb)<;>(try exact JX)))
  replace hS := hS.fo (R := GP gg _)
  refine Z.eff (Z.cl (ggive_z gg ⟨0, 0, []⟩ ⟨0, 1, 0, 0, 1000⟩ _ _ _ hS (by simp) (by simp)) rfl ?_) rfl
  clear hS
  rintro e w ⟨rfl, hS⟩
  refine ⟨_, rfl, ?_⟩
  rw [pair_give] at hS ⊢
  repeat' (first|refine K ?_|(refine Sh.sa hS ?_;clear hS;intro w hS)|(refine K3 ?_;clear hS;intro g w hS hge)|((first|refine GS ?_ ?_|refine VB ?_ ?_)<;>intro hb<;>(try simp only [JJ] at hb)<;>(try exact JX)))
  refine Z.cut [10, 42, 43, 44, 45, 46, 47, 48, 49] (fun w z => ∃ gx gS gH, z = [(10, .pointer (some ⟨gx, 0, .none⟩))] ∧ Sep r [] (.blk gS 135 (Z.zerosL (Sv.cells ⟨none, 0, 0⟩) n) :: .blk gH 140 (Z.zerosL (Sv.cells ⟨none, 0, 0⟩) n) :: .blk gx 42 [.pointer (some ⟨gh, 0, .none⟩), .pointer (some ⟨gl, 0, .none⟩), .slice none 0 0, .slice none 0 0, .slice (some ⟨gS, 0, none⟩) n n, .slice (some ⟨gH, 0, none⟩) n n, .int .i64 0, .int .i64 0, .int .i64 0, .int .i64 0, .int .i64 0] :: PC gh 0 0 (.pointer (some ⟨gg, 0, .none⟩)) .zero :: GP gg pairG :: PL gl ⟨1, lag, 0, []⟩ :: F) w) ?_ ?_
  · refine D.startS hS 9 9 (by kernel_rfl) rfl ?_
    replace hS := hS.drew
    refine Sh.dp 0 1 ?_
    refine Sh.dp 1 3 ?_
    refine Sh.dp 2 7 ?_
    refine Sh.dp 4 23 ?_
    refine D.each [3, 5] (by kernel_rfl) rfl ?_
    refine D.econs 3 31 rfl D.wantedN (by kernel_rfl) (fun _ _ h => h) ?_ ?_
    · refine Z.mks (l := n) (c := n) hS rfl rfl rfl (Nat.le_refl _) (by show 24 * n ≤ 281474976710656; omega) (by unfold maxLen; omega) ?_
      clear hS; intro gS w hS hge1
      refine ⟨HM.s (hS.sb), ?_⟩
      refine D.eff 5 63 rfl D.wantedN (by kernel_rfl) (by kernel_rfl) (fun _ _ h => h) ?_
      refine Z.mks (l := n) (c := n) hS rfl rfl rfl (Nat.le_refl _) (by show 24 * n ≤ 281474976710656; omega) (by unfold maxLen; omega) ?_
      clear hS; intro gH w hS hge2
      refine ⟨HM.s (hS.sb), ?_⟩
      first | refine D.bu 6 127 rfl D.wantedN (by kernel_rfl) rfl rfl ?_ | refine D.buA 6 127 rfl D.wantedN (by kernel_rfl) rfl rfl ?_
      refine D.eff 7 255 rfl D.wantedN (by kernel_rfl) (by kernel_rfl) (fun _ _ h => h) ?_
      refine Z.bx hS rfl ?_
      clear hS; intro gx w hS hge3
      refine ⟨HM.s (hS.sb), ?_⟩
      refine Sh.dp 8 511 ?_
      refine D.done (by kernel_rfl) ?_
      refine Sh.cut [(10, _)] ?_
      exact ⟨gx, gS, gH, rfl, hS.sb⟩
    refine D.econs 5 55 rfl D.wantedN (by kernel_rfl) (fun _ _ h => h) ?_ ?_
    · refine Z.mks (l := n) (c := n) hS rfl rfl rfl (Nat.le_refl _) (by show 24 * n ≤ 281474976710656; omega) (by unfold maxLen; omega) ?_
      clear hS; intro gH w hS hge2
      refine ⟨HM.s (hS.sb), ?_⟩
      refine D.eff 3 63 rfl D.wantedN (by kernel_rfl) (by kernel_rfl) (fun _ _ h => h) ?_
      refine Z.mks (l := n) (c := n) hS rfl rfl rfl (Nat.le_refl _) (by show 24 * n ≤ 281474976710656; omega) (by unfold maxLen; omega) ?_
      clear hS; intro gS w hS hge1
      refine ⟨HM.s (hS.sb), ?_⟩
      first | refine D.bu 6 127 rfl D.wantedN (by kernel_rfl) rfl rfl ?_ | refine D.buA 6 127 rfl D.wantedN (by kernel_rfl) rfl rfl ?_
      refine D.eff 7 255 rfl D.wantedN (by kernel_rfl) (by kernel_rfl) (fun _ _ h => h) ?_
      refine Z.bx hS rfl ?_
      clear hS; intro gx w hS hge3
      refine ⟨HM.s (hS.sb), ?_⟩
      refine Sh.dp 8 511 ?_
      refine D.done (by kernel_rfl) ?_
      refine Sh.cut [(10, _)] ?_
      exact ⟨gx, gS, gH, rfl, hS.sb⟩
    exact D.enil
  clear hS
  rintro f0 w _ ⟨gx, gS, gH, rfl, hS⟩
  replace hS := mk_zero (e := 135) (sz := 1) Sv.cells ⟨none, 0, 0⟩ hS (by unfold maxLen; omega) sv_row
  replace hS := hS.focus (R := .blk gH 140 _) AtF
  replace hS := mk_zero (e := 140) (sz := 1) Sv.cells ⟨none, 0, 0⟩ hS (by unfold maxLen; omega) sv_row
  rw [range_const] at hS
  replace hS := Z.nilsl (Z.nilsl hS 34 1 none) 106 1 none
  repeat' (first|refine K ?_|(refine Sh.sa hS ?_;clear hS;intro w hS)|(refine K3 ?_;clear hS;intro g w hS hge)|((first|refine GS ?_ ?_|refine VB ?_ ?_)<;>intro hb<;>(try simp only [JJ] at hb)<;>(try exact JX)))
  refine Z.lpS [6, 11, 12, 13, 50, 51, 52, 53, 54, 55, 56, 57, 58, 59, 60, 61, 62, 63, 64, 65, 66, 67, 68, 69, 70, 71, 72, 73, 74, 75, 76, 77, 78, 79, 80, 81, 82, 83] (fun m w z => ∃ (i : Nat) (c f : Nat → Nat) (vg : Nat → Value) (lc lf : List Nat) (cA : Option Addr) (cc : Nat) (fA : Option Addr) (fc : Nat), z = [(11, .int .i64 i)] ∧ i ≤ n ∧ lc = (List.range i).map c ∧ lf = (List.range i).map f ∧ m = n - i ∧ Sep r [] (.blk gx 42 [.pointer (some ⟨gh, 0, .none⟩), .pointer (some ⟨gl, 0, .none⟩), .slice cA lc.length cc, .slice fA lf.length fc, .slice (some ⟨gS, 0, none⟩) n n, .slice (some ⟨gH, 0, none⟩) n n, .int .i64 0, .int .i64 0, .int .i64 0, .int .i64 0, .int .i64 0] :: .sl 34 1 (.slice cA lc.length cc) (lc.map ptC) :: .sl 106 1 (.slice fA lf.length fc) (lf.map ptC) :: .all ((List.range i).map (pk0 c f vg)) :: PC gh 0 0 (.pointer (some ⟨gg, 0, .none⟩)) .zero :: GP gg pairG :: PL gl ⟨1, lag, 0, []⟩ :: .sl 135 1 (.slice (some ⟨gS, 0, none⟩) n n) (((List.range n).map (rsv sA0 fun k => (sv0 k).length)).map Sv.cells) :: .sl 140 1 (.slice (some ⟨gH, 0, none⟩) n n) (((List.range n).map (rsv sA0 fun k => ((pr0 lag).he k).length)).map Sv.cells) :: F) w) _ [(11, .int .i64 (0 : Nat))] (by repeat (first | exact trivial | refine ⟨rfl, ?_⟩)) ⟨0, fun _ => 0, fun _ => 0, fun _ => .bool false, [], [], none, 0, none, 0, rfl, by omega, rfl, rfl, rfl, (Sep.sub (L := .all [] :: .blk gx 42 [.pointer (some ⟨gh, 0, .none⟩), .pointer (some ⟨gl, 0, .none⟩), .slice none 0 0, .slice none 0 0, .slice (some ⟨gS, 0, none⟩) n n, .slice (some ⟨gH, 0, none⟩) n n, .int .i64 0, .int .i64 0, .int .i64 0, .int .i64 0, .int .i64 0] :: .sl 34 1 (.slice none 0 0) [] :: .sl 106 1 (.slice none 0 0) [] :: PC gh 0 0 (.pointer (some ⟨gg, 0, .none⟩)) .zero :: GP gg pairG :: PL gl ⟨1, lag, 0, []⟩ :: .sl 135 1 (.slice (some ⟨gS, 0, none⟩) n n) (((List.range n).map (rsv sA0 fun k => (sv0 k).length)).map Sv.cells) :: .sl 140 1 (.slice (some ⟨gH, 0, none⟩) n n) (((List.range n).map (rsv sA0 fun k => ((pr0 lag).he k).length)).map Sv.cells) :: F) (Sep.all_open.2 (hS.sb)) SuF)⟩ ?_
  clear hS
  rintro m f1 w _ ⟨i, c, f, vg, lc, lf, cA, cc, fA, fc, rfl, hi, hlc, hlf, rfl, hS⟩
  by_cases hlt : i < n
  · repeat' (first|refine K ?_|(refine Sh.sa hS ?_;clear hS;intro w hS)|(refine K3 ?_;clear hS;intro g w hS hge)|((first|refine GS ?_ ?_|refine VB ?_ ?_)<;>intro hb<;>(try simp only [JJ] at hb)<;>(try exact JX)))
    refine Z.eff (Z.cl (pcnew_z (i + 1) 0 _ _ _ hS) rfl ?_) rfl
    clear hS
    rintro e w ⟨ci, gi, rfl, hS⟩
    refine ⟨_, rfl, ?_⟩
    repeat' (first|refine K ?_|(refine Sh.sa hS ?_;clear hS;intro w hS)|(refine K3 ?_;clear hS;intro g w hS hge)|((first|refine GS ?_ ?_|refine VB ?_ ?_)<;>intro hb<;>(try simp only [JJ] at hb)<;>(try exact JX)))
    refine Z.eff (Z.cl (pfnw_z ci _ _ _ hS) rfl ?_) rfl
    clear hS
    rintro e w ⟨fi, rfl, hS⟩
    refine ⟨_, rfl, ?_⟩
    repeat' (first|refine K ?_|(refine Sh.sa hS ?_;clear hS;intro w hS)|(refine K3 ?_;clear hS;intro g w hS hge)|((first|refine GS ?_ ?_|refine VB ?_ ?_)<;>intro hb<;>(try simp only [JJ] at hb)<;>(try exact JX)))
    have hll : lc.length = i ∧ lf.length = i := ⟨by rw [hlc]; simp, by rw [hlf]; simp⟩
    have fin : ∀ (cA : Option Addr) (cc : Nat) (fA : Option Addr) (fc : Nat) (w : World) {L : List Res}, Sep r [] L w → Sub L (.blk gx 42 [.pointer (some ⟨gh, 0, .none⟩), .pointer (some ⟨gl, 0, .none⟩), .slice cA (lc ++ [ci]).length cc, .slice fA (lf ++ [fi]).length fc, .slice (some ⟨gS, 0, none⟩) n n, .slice (some ⟨gH, 0, none⟩) n n, .int .i64 0, .int .i64 0, .int .i64 0, .int .i64 0, .int .i64 0] :: .sl 34 1 (.slice cA (lc ++ [ci]).length cc) ((lc ++ [ci]).map ptC) :: .sl 106 1 (.slice fA (lf ++ [fi]).length fc) ((lf ++ [fi]).map ptC) :: .all ((List.range i).map (pk0 c f vg)) :: PC ci (i + 1) 0 (.pointer (some ⟨gi, 0, .none⟩)) .zero :: .blk fi 222 [.pointer (some ⟨ci, 0, .none⟩), .int .i64 0, .int .i64 0] :: PC gh 0 0 (.pointer (some ⟨gg, 0, .none⟩)) .zero :: GP gg pairG :: PL gl ⟨1, lag, 0, []⟩ :: .sl 135 1 (.slice (some ⟨gS, 0, none⟩) n n) (((List.range n).map (rsv sA0 fun k => (sv0 k).length)).map Sv.cells) :: .sl 140 1 (.slice (some ⟨gH, 0, none⟩) n n) (((List.range n).map (rsv sA0 fun k => ((pr0 lag).he k).length)).map Sv.cells) :: F) →
        ∃ (i' : Nat) (c f : Nat → Nat) (vg : Nat → Value) (lc lf : List Nat) (cA : Option Addr) (cc : Nat) (fA : Option Addr) (fc : Nat), [(11, .int .i64 ((i + 1 : Nat) : Int))] = [(11, Value.int .i64 i')] ∧ i' ≤ n ∧ lc = (List.range i').map c ∧ lf = (List.range i').map f ∧ n - (i + 1) = n - i' ∧ Sep r [] (.blk gx 42 [.pointer (some ⟨gh, 0, .none⟩), .pointer (some ⟨gl, 0, .none⟩), .slice cA lc.length cc, .slice fA lf.length fc, .slice (some ⟨gS, 0, none⟩) n n, .slice (some ⟨gH, 0, none⟩) n n, .int .i64 0, .int .i64 0, .int .i64 0, .int .i64 0, .int .i64 0] :: .sl 34 1 (.slice cA lc.length cc) (lc.map ptC) :: .sl 106 1 (.slice fA lf.length fc) (lf.map ptC) :: .all ((List.range i').map (pk0 c f vg)) :: PC gh 0 0 (.pointer (some ⟨gg, 0, .none⟩)) .zero :: GP gg pairG :: PL gl ⟨1, lag, 0, []⟩ :: .sl 135 1 (.slice (some ⟨gS, 0, none⟩) n n) (((List.range n).map (rsv sA0 fun k => (sv0 k).length)).map Sv.cells) :: .sl 140 1 (.slice (some ⟨gH, 0, none⟩) n n) (((List.range n).map (rsv sA0 fun k => ((pr0 lag).he k).length)).map Sv.cells) :: F) w := by
      intro cA cc fA fc w L h hs
      have hpk : (List.range (i + 1)).map (pk0 (setN c i ci) (setN f i fi) (setN vg i (.pointer (some ⟨gi, 0, .none⟩)))) = (List.range i).map (pk0 c f vg) ++ [.all [PC ci (i + 1) 0 (.pointer (some ⟨gi, 0, .none⟩)) .zero, .blk fi 222 [.pointer (some ⟨ci, 0, .none⟩), .int .i64 0, .int .i64 0]]] := by
        rw [List.range_succ, List.map_append]
        congr 1
        · apply List.map_congr_left
          intro k hk
          have hne : k ≠ i := by have := List.mem_range.1 hk; omega
          simp only [pk0, setN_ne _ _ hne]
        · simp only [pk0, List.map_cons, List.map_nil, setN_at]
      refine ⟨i + 1, setN c i ci, setN f i fi, setN vg i (.pointer (some ⟨gi, 0, .none⟩)), lc ++ [ci], lf ++ [fi], cA, cc, fA, fc, rfl, by omega, ?_, ?_, rfl, ?_⟩
      · rw [hlc]; exact (range_ext ci rfl).symm
      · rw [hlf]; exact (range_ext fi rfl).symm
      · rw [hpk]
        have h2 := h.sub hs
        have h3 : Sep r [] (.all [PC ci (i + 1) 0 (.pointer (some ⟨gi, 0, .none⟩)) .zero, .blk fi 222 [.pointer (some ⟨ci, 0, .none⟩), .int .i64 0, .int .i64 0]] :: .blk gx 42 [.pointer (some ⟨gh, 0, .none⟩), .pointer (some ⟨gl, 0, .none⟩), .slice cA (lc ++ [ci]).length cc, .slice fA (lf ++ [fi]).length fc, .slice (some ⟨gS, 0, none⟩) n n, .slice (some ⟨gH, 0, none⟩) n n, .int .i64 0, .int .i64 0, .int .i64 0, .int .i64 0, .int .i64 0] :: .sl 34 1 (.slice cA (lc ++ [ci]).length cc) ((lc ++ [ci]).map ptC) :: .sl 106 1 (.slice fA (lf ++ [fi]).length fc) ((lf ++ [fi]).map ptC) :: .all ((List.range i).map (pk0 c f vg)) :: PC gh 0 0 (.pointer (some ⟨gg, 0, .none⟩)) .zero :: GP gg pairG :: PL gl ⟨1, lag, 0, []⟩ :: .sl 135 1 (.slice (some ⟨gS, 0, none⟩) n n) (((List.range n).map (rsv sA0 fun k => (sv0 k).length)).map Sv.cells) :: .sl 140 1 (.slice (some ⟨gH, 0, none⟩) n n) (((List.range n).map (rsv sA0 fun k => ((pr0 lag).he k).length)).map Sv.cells) :: F) w := (Sep.all_open (Ls := [_, _])).2 (h2.sub SuF)
        exact (all_snoc (h3.sub (L' := .all ((List.range i).map (pk0 c f vg)) :: .all [PC ci (i + 1) 0 (.pointer (some ⟨gi, 0, .none⟩)) .zero, .blk fi 222 [.pointer (some ⟨ci, 0, .none⟩), .int .i64 0, .int .i64 0]] :: .blk gx 42 [.pointer (some ⟨gh, 0, .none⟩), .pointer (some ⟨gl, 0, .none⟩), .slice cA (lc ++ [ci]).length cc, .slice fA (lf ++ [fi]).length fc, .slice (some ⟨gS, 0, none⟩) n n, .slice (some ⟨gH, 0, none⟩) n n, .int .i64 0, .int .i64 0, .int .i64 0, .int .i64 0, .int .i64 0] :: .sl 34 1 (.slice cA (lc ++ [ci]).length cc) ((lc ++ [ci]).map ptC) :: .sl 106 1 (.slice fA (lf ++ [fi]).length fc) ((lf ++ [fi]).map ptC) :: PC gh 0 0 (.pointer (some ⟨gg, 0, .none⟩)) .zero :: GP gg pairG :: PL gl ⟨1, lag, 0, []⟩ :: .sl 135 1 (.slice (some ⟨gS, 0, none⟩) n n) (((List.range n).map (rsv sA0 fun k => (sv0 k).length)).map Sv.cells) :: .sl 140 1 (.slice (some ⟨gH, 0, none⟩) n n) (((List.range n).map (rsv sA0 fun k => ((pr0 lag).he k).length)).map Sv.cells) :: F) SuF)).sub SuF
    refine D.startS (Lr := [.blk gx 42 [.pointer (some ⟨gh, 0, .none⟩), .pointer (some ⟨gl, 0, .none⟩), .slice cA lc.length cc, .slice fA lf.length fc, .slice (some ⟨gS, 0, none⟩) n n, .slice (some ⟨gH, 0, none⟩) n n, .int .i64 0, .int .i64 0, .int .i64 0, .int .i64 0, .int .i64 0]]) (hS.sb) 18 22 (by kernel_rfl) rfl ?_
    replace hS := hS.drew
    refine Sh.dp 0 1 ?_
    refine Sh.dp 1 3 ?_
    refine Sh.dp 2 7 ?_
    refine Sh.dp 3 15 ?_
    refine Sh.dp 4 31 ?_
    refine Sh.dp 6 95 ?_
    refine Sh.dp 9 607 ?_
    refine Sh.dp 10 1631 ?_
    refine Sh.dp 11 3679 ?_
    refine Sh.dp 13 11871 ?_
    refine Sh.dl 5 11903 ?_
    refine D.each [7, 12, 14] (by kernel_rfl) rfl ?_
    refine D.econs 7 12031 rfl D.wantedN (by kernel_rfl) (fun _ _ h => h) ?_ ?_
    · refine Z.bs hS rfl rfl rfl ?_
      clear hS; intro g w hS hge
      refine ⟨HM.s (hS.sb), ?_⟩
      refine D.each [8, 12, 14] (by kernel_rfl) rfl ?_
      refine D.econs 8 12287 rfl D.wantedN (by kernel_rfl) (fun _ _ h => h) ?_ ?_
      · refine Z.apm (fc := ptC) (l := lc) (l' := [ci]) hS rfl rfl rfl AtF (hS.lit1 AtF rfl rfl) (by (try simp only [maxLen, List.length_take, List.length_drop, List.length_append, List.length_cons, List.length_nil, List.length_map]); omega) (by (try simp only [maxLen, List.length_take, List.length_drop, List.length_append, List.length_cons, List.length_nil, List.length_map]); omega) ?_
        clear hS; intro cA2 cc2 w hS
        rw [← List.length_append] at hS ⊢
        refine ⟨HM.s (hS.sb), ?_⟩
        refine D.each [12, 14] (by kernel_rfl) rfl ?_
        refine D.econs 12 16383 rfl D.wantedN (by kernel_rfl) (fun _ _ h => h) ?_ ?_
        · refine Z.ld hS rfl AtF rfl ?_
          refine ⟨HM.s (hS.sb), ?_⟩
          refine D.eff 14 32767 rfl D.wantedN (by kernel_rfl) (by kernel_rfl) (fun _ _ h => h) ?_
          refine Z.bs hS rfl rfl rfl ?_
          clear hS; intro g w hS hge
          refine ⟨HM.s (hS.sb), ?_⟩
          refine D.eff 15 65535 rfl D.wantedN (by kernel_rfl) (by kernel_rfl) (fun _ _ h => h) ?_
          refine Z.apm (fc := ptC) (l := lf) (l' := [fi]) hS rfl rfl rfl AtF (hS.lit1 AtF rfl rfl) (by (try simp only [maxLen, List.length_take, List.length_drop, List.length_append, List.length_cons, List.length_nil, List.length_map]); omega) (by (try simp only [maxLen, List.length_take, List.length_drop, List.length_append, List.length_cons, List.length_nil, List.length_map]); omega) ?_
          clear hS; intro fA2 fc2 w hS
          rw [← List.length_append] at hS ⊢
          refine ⟨HM.s (hS.sb), ?_⟩
          refine Sh.dp 16 131071 ?_
          refine Sh.dp 17 262143 ?_
          refine D.eff 18 524287 rfl D.wantedN (by kernel_rfl) (by kernel_rfl) (fun _ _ h => h) ?_
          refine Z.st hS rfl AtF rfl rfl ?_
          clear hS; intro w hS
          refine ⟨HM.last (by kernel_rfl), ?_⟩
          refine Sh.dp 19 1048575 ?_
          refine Sh.dp 20 2097151 ?_
          refine D.eff 21 4194303 rfl D.wantedN (by kernel_rfl) (by kernel_rfl) (fun _ _ h => h) ?_
          refine Z.st hS rfl AtF rfl rfl ?_
          clear hS; intro w hS
          refine ⟨HM.last (by kernel_rfl), ?_⟩
          refine D.done (by kernel_rfl) ?_
          repeat' (first|refine K ?_|(refine Sh.sa hS ?_;clear hS;intro w hS)|(refine K3 ?_;clear hS;intro g w hS hge)|((first|refine GS ?_ ?_|refine VB ?_ ?_)<;>intro hb<;>(try simp only [JJ] at hb)<;>(try exact JX)))
          refine Sh.again (n - (i + 1)) [(11, .int .i64 (i + 1 : Nat))] ?_
          exact fin _ _ _ _ w hS SuF
        refine D.econs 14 28671 rfl D.wantedN (by kernel_rfl) (fun _ _ h => h) ?_ ?_
        · refine Z.bs hS rfl rfl rfl ?_
          clear hS; intro g w hS hge
          refine ⟨HM.s (hS.sb), ?_⟩
          refine D.eff 12 32767 rfl D.wantedN (by kernel_rfl) (by kernel_rfl) (fun _ _ h => h) ?_
          refine Z.ld hS rfl AtF rfl ?_
          refine ⟨HM.s (hS.sb), ?_⟩
          refine D.eff 15 65535 rfl D.wantedN (by kernel_rfl) (by kernel_rfl) (fun _ _ h => h) ?_
          refine Z.apm (fc := ptC) (l := lf) (l' := [fi]) hS rfl rfl rfl AtF (hS.lit1 AtF rfl rfl) (by (try simp only [maxLen, List.length_take, List.length_drop, List.length_append, List.length_cons, List.length_nil, List.length_map]); omega) (by (try simp only [maxLen, List.length_take, List.length_drop, List.length_append, List.length_cons, List.length_nil, List.length_map]); omega) ?_
          clear hS; intro fA2 fc2 w hS
          rw [← List.length_append] at hS ⊢
          refine ⟨HM.s (hS.sb), ?_⟩
          refine Sh.dp 16 131071 ?_
          refine Sh.dp 17 262143 ?_
          refine D.eff 18 524287 rfl D.wantedN (by kernel_rfl) (by kernel_rfl) (fun _ _ h => h) ?_
          refine Z.st hS rfl AtF rfl rfl ?_
          clear hS; intro w hS
          refine ⟨HM.last (by kernel_rfl), ?_⟩
          refine Sh.dp 19 1048575 ?_
          refine Sh.dp 20 2097151 ?_
          refine D.eff 21 4194303 rfl D.wantedN (by kernel_rfl) (by kernel_rfl) (fun _ _ h => h) ?_
          refine Z.st hS rfl AtF rfl rfl ?_
          clear hS; intro w hS
          refine ⟨HM.last (by kernel_rfl), ?_⟩
          refine D.done (by kernel_rfl) ?_
          repeat' (first|refine K ?_|(refine Sh.sa hS ?_;clear hS;intro w hS)|(refine K3 ?_;clear hS;intro g w hS hge)|((first|refine GS ?_ ?_|refine VB ?_ ?_)<;>intro hb<;>(try simp only [JJ] at hb)<;>(try exact JX)))
          refine Sh.again (n - (i + 1)) [(11, .int .i64 (i + 1 : Nat))] ?_
          exact fin _ _ _ _ w hS SuF
        exact D.enil
      refine D.econs 12 16127 rfl D.wantedN (by kernel_rfl) (fun _ _ h => h) ?_ ?_
      · refine Z.ld hS rfl AtF rfl ?_
        refine ⟨HM.s (hS.sb), ?_⟩
        refine D.each [8, 14] (by kernel_rfl) rfl ?_
        refine D.econs 8 16383 rfl D.wantedN (by kernel_rfl) (fun _ _ h => h) ?_ ?_
        · refine Z.apm (fc := ptC) (l := lc) (l' := [ci]) hS rfl rfl rfl AtF (hS.lit1 AtF rfl rfl) (by (try simp only [maxLen, List.length_take, List.length_drop, List.length_append, List.length_cons, List.length_nil, List.length_map]); omega) (by (try simp only [maxLen, List.length_take, List.length_drop, List.length_append, List.length_cons, List.length_nil, List.length_map]); omega) ?_
          clear hS; intro cA2 cc2 w hS
          rw [← List.length_append] at hS ⊢
          refine ⟨HM.s (hS.sb), ?_⟩
          refine D.eff 14 32767 rfl D.wantedN (by kernel_rfl) (by kernel_rfl) (fun _ _ h => h) ?_
          refine Z.bs hS rfl rfl rfl ?_
          clear hS; intro g w hS hge
          refine ⟨HM.s (hS.sb), ?_⟩
          refine D.eff 15 65535 rfl D.wantedN (by kernel_rfl) (by kernel_rfl) (fun _ _ h => h) ?_
          refine Z.apm (fc := ptC) (l := lf) (l' := [fi]) hS rfl rfl rfl AtF (hS.lit1 AtF rfl rfl) (by (try simp only [maxLen, List.length_take, List.length_drop, List.length_append, List.length_cons, List.length_nil, List.length_map]); omega) (by (try simp only [maxLen, List.length_take, List.length_drop, List.length_append, List.length_cons, List.length_nil, List.length_map]); omega) ?_
          clear hS; intro fA2 fc2 w hS
          rw [← List.length_append] at hS ⊢
          refine ⟨HM.s (hS.sb), ?_⟩
          refine Sh.dp 16 131071 ?_
          refine Sh.dp 17 262143 ?_
          refine D.eff 18 524287 rfl D.wantedN (by kernel_rfl) (by kernel_rfl) (fun _ _ h => h) ?_
          refine Z.st hS rfl AtF rfl rfl ?_
          clear hS; intro w hS
          refine ⟨HM.last (by kernel_rfl), ?_⟩
          refine Sh.dp 19 1048575 ?_
          refine Sh.dp 20 2097151 ?_
          refine D.eff 21 4194303 rfl D.wantedN (by kernel_rfl) (by kernel_rfl) (fun _ _ h => h) ?_
          refine Z.st hS rfl AtF rfl rfl ?_
          clear hS; intro w hS
          refine ⟨HM.last (by kernel_rfl), ?_⟩
          refine D.done (by kernel_rfl) ?_
          repeat' (first|refine K ?_|(refine Sh.sa hS ?_;clear hS;intro w hS)|(refine K3 ?_;clear hS;intro g w hS hge)|((first|refine GS ?_ ?_|refine VB ?_ ?_)<;>intro hb<;>(try simp only [JJ] at hb)<;>(try exact JX)))
          refine Sh.again (n - (i + 1)) [(11, .int .i64 (i + 1 : Nat))] ?_
          exact fin _ _ _ _ w hS SuF
        refine D.econs 14 32511 rfl D.wantedN (by kernel_rfl) (fun _ _ h => h) ?_ ?_
        · refine Z.bs hS rfl rfl rfl ?_
          clear hS; intro g w hS hge
          refine ⟨HM.s (hS.sb), ?_⟩
          refine D.eff 8 32767 rfl D.wantedN (by kernel_rfl) (by kernel_rfl) (fun _ _ h => h) ?_
          refine Z.apm (fc := ptC) (l := lc) (l' := [ci]) hS rfl rfl rfl AtF (hS.lit1 AtF rfl rfl) (by (try simp only [maxLen, List.length_take, List.length_drop, List.length_append, List.length_cons, List.length_nil, List.length_map]); omega) (by (try simp only [maxLen, List.length_take, List.length_drop, List.length_append, List.length_cons, List.length_nil, List.length_map]); omega) ?_
          clear hS; intro cA2 cc2 w hS
          rw [← List.length_append] at hS ⊢
          refine ⟨HM.s (hS.sb), ?_⟩
          refine D.eff 15 65535 rfl D.wantedN (by kernel_rfl) (by kernel_rfl) (fun _ _ h => h) ?_
          refine Z.apm (fc := ptC) (l := lf) (l' := [fi]) hS rfl rfl rfl AtF (hS.lit1 AtF rfl rfl) (by (try simp only [maxLen, List.length_take, List.length_drop, List.length_append, List.length_cons, List.length_nil, List.length_map]); omega) (by (try simp only [maxLen, List.length_take, List.length_drop, List.length_append, List.length_cons, List.length_nil, List.length_map]); omega) ?_
          clear hS; intro fA2 fc2 w hS
          rw [← List.length_append] at hS ⊢
          refine ⟨HM.s (hS.sb), ?_⟩
          refine Sh.dp 16 131071 ?_
          refine Sh.dp 17 262143 ?_
          refine D.eff 18 524287 rfl D.wantedN (by kernel_rfl) (by kernel_rfl) (fun _ _ h => h) ?_
          refine Z.st hS rfl AtF rfl rfl ?_
          clear hS; intro w hS
          refine ⟨HM.last (by kernel_rfl), ?_⟩
          refine Sh.dp 19 1048575 ?_
          refine Sh.dp 20 2097151 ?_
          refine D.eff 21 4194303 rfl D.wantedN (by kernel_rfl) (by kernel_rfl) (fun _ _ h => h) ?_
          refine Z.st hS rfl AtF rfl rfl ?_
          clear hS; intro w hS
          refine ⟨HM.last (by kernel_rfl), ?_⟩
          refine D.done (by kernel_rfl) ?_
          repeat' (first|refine K ?_|(refine Sh.sa hS ?_;clear hS;intro w hS)|(refine K3 ?_;clear hS;intro g w hS hge)|((first|refine GS ?_ ?_|refine VB ?_ ?_)<;>intro hb<;>(try simp only [JJ] at hb)<;>(try exact JX)))
          refine Sh.again (n - (i + 1)) [(11, .int .i64 (i + 1 : Nat))] ?_
          exact fin _ _ _ _ w hS SuF
        exact D.enil
      refine D.econs 14 28415 rfl D.wantedN (by kernel_rfl) (fun _ _ h => h) ?_ ?_
      · refine Z.bs hS rfl rfl rfl ?_
        clear hS; intro g w hS hge
        refine ⟨HM.s (hS.sb), ?_⟩
        refine D.each [8, 12] (by kernel_rfl) rfl ?_
        refine D.econs 8 28671 rfl D.wantedN (by kernel_rfl) (fun _ _ h => h) ?_ ?_
        · refine Z.apm (fc := ptC) (l := lc) (l' := [ci]) hS rfl rfl rfl AtF (hS.lit1 AtF rfl rfl) (by (try simp only [maxLen, List.length_take, List.length_drop, List.length_append, List.length_cons, List.length_nil, List.length_map]); omega) (by (try simp only [maxLen, List.length_take, List.length_drop, List.length_append, List.length_cons, List.length_nil, List.length_map]); omega) ?_
          clear hS; intro cA2 cc2 w hS
          rw [← List.length_append] at hS ⊢
          refine ⟨HM.s (hS.sb), ?_⟩
          refine D.eff 12 32767 rfl D.wantedN (by kernel_rfl) (by kernel_rfl) (fun _ _ h => h) ?_
          refine Z.ld hS rfl AtF rfl ?_
          refine ⟨HM.s (hS.sb), ?_⟩
          refine D.eff 15 65535 rfl D.wantedN (by kernel_rfl) (by kernel_rfl) (fun _ _ h => h) ?_
          refine Z.apm (fc := ptC) (l := lf) (l' := [fi]) hS rfl rfl rfl AtF (hS.lit1 AtF rfl rfl) (by (try simp only [maxLen, List.length_take, List.length_drop, List.length_append, List.length_cons, List.length_nil, List.length_map]); omega) (by (try simp only [maxLen, List.length_take, List.length_drop, List.length_append, List.length_cons, List.length_nil, List.length_map]); omega) ?_
          clear hS; intro fA2 fc2 w hS
          rw [← List.length_append] at hS ⊢
          refine ⟨HM.s (hS.sb), ?_⟩
          refine Sh.dp 16 131071 ?_
          refine Sh.dp 17 262143 ?_
          refine D.eff 18 524287 rfl D.wantedN (by kernel_rfl) (by kernel_rfl) (fun _ _ h => h) ?_
          refine Z.st hS rfl AtF rfl rfl ?_
          clear hS; intro w hS
          refine ⟨HM.last (by kernel_rfl), ?_⟩
          refine Sh.dp 19 1048575 ?_
          refine Sh.dp 20 2097151 ?_
          refine D.eff 21 4194303 rfl D.wantedN (by kernel_rfl) (by kernel_rfl) (fun _ _ h => h) ?_
          refine Z.st hS rfl AtF rfl rfl ?_
          clear hS; intro w hS
          refine ⟨HM.last (by kernel_rfl), ?_⟩
          refine D.done (by kernel_rfl) ?_
          repeat' (first|refine K ?_|(refine Sh.sa hS ?_;clear hS;intro w hS)|(refine K3 ?_;clear hS;intro g w hS hge)|((first|refine GS ?_ ?_|refine VB ?_ ?_)<;>intro hb<;>(try simp only [JJ] at hb)<;>(try exact JX)))
          refine Sh.again (n - (i + 1)) [(11, .int .i64 (i + 1 : Nat))] ?_
          exact fin _ _ _ _ w hS SuF
        refine D.econs 12 32511 rfl D.wantedN (by kernel_rfl) (fun _ _ h => h) ?_ ?_
        · refine Z.ld hS rfl AtF rfl ?_
          refine ⟨HM.s (hS.sb), ?_⟩
          refine D.eff 8 32767 rfl D.wantedN (by kernel_rfl) (by kernel_rfl) (fun _ _ h => h) ?_
          refine Z.apm (fc := ptC) (l := lc) (l' := [ci]) hS rfl rfl rfl AtF (hS.lit1 AtF rfl rfl) (by (try simp only [maxLen, List.length_take, List.length_drop, List.length_append, List.length_cons, List.length_nil, List.length_map]); omega) (by (try simp only [maxLen, List.length_take, List.length_drop, List.length_append, List.length_cons, List.length_nil, List.length_map]); omega) ?_
          clear hS; intro cA2 cc2 w hS
          rw [← List.length_append] at hS ⊢
          refine ⟨HM.s (hS.sb), ?_⟩
          refine D.eff 15 65535 rfl D.wantedN (by kernel_rfl) (by kernel_rfl) (fun _ _ h => h) ?_
          refine Z.apm (fc := ptC) (l := lf) (l' := [fi]) hS rfl rfl rfl AtF (hS.lit1 AtF rfl rfl) (by (try simp only [maxLen, List.length_take, List.length_drop, List.length_append, List.length_cons, List.length_nil, List.length_map]); omega) (by (try simp only [maxLen, List.length_take, List.length_drop, List.length_append, List.length_cons, List.length_nil, List.length_map]); omega) ?_
          clear hS; intro fA2 fc2 w hS
          rw [← List.length_append] at hS ⊢
          refine ⟨HM.s (hS.sb), ?_⟩
          refine Sh.dp 16 131071 ?_
          refine Sh.dp 17 262143 ?_
          refine D.eff 18 524287 rfl D.wantedN (by kernel_rfl) (by kernel_rfl) (fun _ _ h => h) ?_
          refine Z.st hS rfl AtF rfl rfl ?_
          clear hS; intro w hS
          refine ⟨HM.last (by kernel_rfl), ?_⟩
          refine Sh.dp 19 1048575 ?_
          refine Sh.dp 20 2097151 ?_
          refine D.eff 21 4194303 rfl D.wantedN (by kernel_rfl) (by kernel_rfl) (fun _ _ h => h) ?_
          refine Z.st hS rfl AtF rfl rfl ?_
          clear hS; intro w hS
          refine ⟨HM.last (by kernel_rfl), ?_⟩
          refine D.done (by kernel_rfl) ?_
          repeat' (first|refine K ?_|(refine Sh.sa hS ?_;clear hS;intro w hS)|(refine K3 ?_;clear hS;intro g w hS hge)|((first|refine GS ?_ ?_|refine VB ?_ ?_)<;>intro hb<;>(try simp only [JJ] at hb)<;>(try exact JX)))
          refine Sh.again (n - (i + 1)) [(11, .int .i64 (i + 1 : Nat))] ?_
          exact fin _ _ _ _ w hS SuF
        exact D.enil
      exact D.enil
    refine D.econs 12 15999 rfl D.wantedN (by kernel_rfl) (fun _ _ h => h) ?_ ?_
    · refine Z.ld hS rfl AtF rfl ?_
      refine ⟨HM.s (hS.sb), ?_⟩
      refine D.each [7, 14] (by kernel_rfl) rfl ?_
      refine D.econs 7 16127 rfl D.wantedN (by kernel_rfl) (fun _ _ h => h) ?_ ?_
      · refine Z.bs hS rfl rfl rfl ?_
        clear hS; intro g w hS hge
        refine ⟨HM.s (hS.sb), ?_⟩
        refine D.each [8, 14] (by kernel_rfl) rfl ?_
        refine D.econs 8 16383 rfl D.wantedN (by kernel_rfl) (fun _ _ h => h) ?_ ?_
        · refine Z.apm (fc := ptC) (l := lc) (l' := [ci]) hS rfl rfl rfl AtF (hS.lit1 AtF rfl rfl) (by (try simp only [maxLen, List.length_take, List.length_drop, List.length_append, List.length_cons, List.length_nil, List.length_map]); omega) (by (try simp only [maxLen, List.length_take, List.length_drop, List.length_append, List.length_cons, List.length_nil, List.length_map]); omega) ?_
          clear hS; intro cA2 cc2 w hS
          rw [← List.length_append] at hS ⊢
          refine ⟨HM.s (hS.sb), ?_⟩
          refine D.eff 14 32767 rfl D.wantedN (by kernel_rfl) (by kernel_rfl) (fun _ _ h => h) ?_
          refine Z.bs hS rfl rfl rfl ?_
          clear hS; intro g w hS hge
          refine ⟨HM.s (hS.sb), ?_⟩
          refine D.eff 15 65535 rfl D.wantedN (by kernel_rfl) (by kernel_rfl) (fun _ _ h => h) ?_
          refine Z.apm (fc := ptC) (l := lf) (l' := [fi]) hS rfl rfl rfl AtF (hS.lit1 AtF rfl rfl) (by (try simp only [maxLen, List.length_take, List.length_drop, List.length_append, List.length_cons, List.length_nil, List.length_map]); omega) (by (try simp only [maxLen, List.length_take, List.length_drop, List.length_append, List.length_cons, List.length_nil, List.length_map]); omega) ?_
          clear hS; intro fA2 fc2 w hS
          rw [← List.length_append] at hS ⊢
          refine ⟨HM.s (hS.sb), ?_⟩
          refine Sh.dp 16 131071 ?_
          refine Sh.dp 17 262143 ?_
          refine D.eff 18 524287 rfl D.wantedN (by kernel_rfl) (by kernel_rfl) (fun _ _ h => h) ?_
          refine Z.st hS rfl AtF rfl rfl ?_
          clear hS; intro w hS
          refine ⟨HM.last (by kernel_rfl), ?_⟩
          refine Sh.dp 19 1048575 ?_
          refine Sh.dp 20 2097151 ?_
          refine D.eff 21 4194303 rfl D.wantedN (by kernel_rfl) (by kernel_rfl) (fun _ _ h => h) ?_
          refine Z.st hS rfl AtF rfl rfl ?_
          clear hS; intro w hS
          refine ⟨HM.last (by kernel_rfl), ?_⟩
          refine D.done (by kernel_rfl) ?_
          repeat' (first|refine K ?_|(refine Sh.sa hS ?_;clear hS;intro w hS)|(refine K3 ?_;clear hS;intro g w hS hge)|((first|refine GS ?_ ?_|refine VB ?_ ?_)<;>intro hb<;>(try simp only [JJ] at hb)<;>(try exact JX)))
          refine Sh.again (n - (i + 1)) [(11, .int .i64 (i + 1 : Nat))] ?_
          exact fin _ _ _ _ w hS SuF
        refine D.econs 14 32511 rfl D.wantedN (by kernel_rfl) (fun _ _ h => h) ?_ ?_
        · refine Z.bs hS rfl rfl rfl ?_
          clear hS; intro g w hS hge
          refine ⟨HM.s (hS.sb), ?_⟩
          refine D.eff 8 32767 rfl D.wantedN (by kernel_rfl) (by kernel_rfl) (fun _ _ h => h) ?_
          refine Z.apm (fc := ptC) (l := lc) (l' := [ci]) hS rfl rfl rfl AtF (hS.lit1 AtF rfl rfl) (by (try simp only [maxLen, List.length_take, List.length_drop, List.length_append, List.length_cons, List.length_nil, List.length_map]); omega) (by (try simp only [maxLen, List.length_take, List.length_drop, List.length_append, List.length_cons, List.length_nil, List.length_map]); omega) ?_
          clear hS; intro cA2 cc2 w hS
          rw [← List.length_append] at hS ⊢
          refine ⟨HM.s (hS.sb), ?_⟩
          refine D.eff 15 65535 rfl D.wantedN (by kernel_rfl) (by kernel_rfl) (fun _ _ h => h) ?_
          refine Z.apm (fc := ptC) (l := lf) (l' := [fi]) hS rfl rfl rfl AtF (hS.lit1 AtF rfl rfl) (by (try simp only [maxLen, List.length_take, List.length_drop, List.length_append, List.length_cons, List.length_nil, List.length_map]); omega) (by (try simp only [maxLen, List.length_take, List.length_drop, List.length_append, List.length_cons, List.length_nil, List.length_map]); omega) ?_
          clear hS; intro fA2 fc2 w hS
          rw [← List.length_append] at hS ⊢
          refine ⟨HM.s (hS.sb), ?_⟩
          refine Sh.dp 16 131071 ?_
          refine Sh.dp 17 262143 ?_
          refine D.eff 18 524287 rfl D.wantedN (by kernel_rfl) (by kernel_rfl) (fun _ _ h => h) ?_
          refine Z.st hS rfl AtF rfl rfl ?_
          clear hS; intro w hS
          refine ⟨HM.last (by kernel_rfl), ?_⟩
          refine Sh.dp 19 1048575 ?_
          refine Sh.dp 20 2097151 ?_
          refine D.eff 21 4194303 rfl D.wantedN (by kernel_rfl) (by kernel_rfl) (fun _ _ h => h) ?_
          refine Z.st hS rfl AtF rfl rfl ?_
          clear hS; intro w hS
          refine ⟨HM.last (by kernel_rfl), ?_⟩
          refine D.done (by kernel_rfl) ?_
          repeat' (first|refine K ?_|(refine Sh.sa hS ?_;clear hS;intro w hS)|(refine K3 ?_;clear hS;intro g w hS hge)|((first|refine GS ?_ ?_|refine VB ?_ ?_)<;>intro hb<;>(try simp only [JJ] at hb)<;>(try exact JX)))
          refine Sh.again (n - (i + 1)) [(11, .int .i64 (i + 1 : Nat))] ?_
          exact fin _ _ _ _ w hS SuF
        exact D.enil
      refine D.econs 14 32383 rfl D.wantedN (by kernel_rfl) (fun _ _ h => h) ?_ ?_
      · refine Z.bs hS rfl rfl rfl ?_
        clear hS; intro g w hS hge
        refine ⟨HM.s (hS.sb), ?_⟩
        refine D.eff 7 32511 rfl D.wantedN (by kernel_rfl) (by kernel_rfl) (fun _ _ h => h) ?_
        refine Z.bs hS rfl rfl rfl ?_
        clear hS; intro g w hS hge
        refine ⟨HM.s (hS.sb), ?_⟩
        refine D.eff 8 32767 rfl D.wantedN (by kernel_rfl) (by kernel_rfl) (fun _ _ h => h) ?_
        refine Z.apm (fc := ptC) (l := lc) (l' := [ci]) hS rfl rfl rfl AtF (hS.lit1 AtF rfl rfl) (by (try simp only [maxLen, List.length_take, List.length_drop, List.length_append, List.length_cons, List.length_nil, List.length_map]); omega) (by (try simp only [maxLen, List.length_take, List.length_drop, List.length_append, List.length_cons, List.length_nil, List.length_map]); omega) ?_
        clear hS; intro cA2 cc2 w hS
        rw [← List.length_append] at hS ⊢
        refine ⟨HM.s (hS.sb), ?_⟩
        refine D.eff 15 65535 rfl D.wantedN (by kernel_rfl) (by kernel_rfl) (fun _ _ h => h) ?_
        refine Z.apm (fc := ptC) (l := lf) (l' := [fi]) hS rfl rfl rfl AtF (hS.lit1 AtF rfl rfl) (by (try simp only [maxLen, List.length_take, List.length_drop, List.length_append, List.length_cons, List.length_nil, List.length_map]); omega) (by (try simp only [maxLen, List.length_take, List.length_drop, List.length_append, List.length_cons, List.length_nil, List.length_map]); omega) ?_
        clear hS; intro fA2 fc2 w hS
        rw [← List.length_append] at hS ⊢
        refine ⟨HM.s (hS.sb), ?_⟩
        refine Sh.dp 16 131071 ?_
        refine Sh.dp 17 262143 ?_
        refine D.eff 18 524287 rfl D.wantedN (by kernel_rfl) (by kernel_rfl) (fun _ _ h => h) ?_
        refine Z.st hS rfl AtF rfl rfl ?_
        clear hS; intro w hS
        refine ⟨HM.last (by kernel_rfl), ?_⟩
        refine Sh.dp 19 1048575 ?_
        refine Sh.dp 20 2097151 ?_
        refine D.eff 21 4194303 rfl D.wantedN (by kernel_rfl) (by kernel_rfl) (fun _ _ h => h) ?_
        refine Z.st hS rfl AtF rfl rfl ?_
        clear hS; intro w hS
        refine ⟨HM.last (by kernel_rfl), ?_⟩
        refine D.done (by kernel_rfl) ?_
        repeat' (first|refine K ?_|(refine Sh.sa hS ?_;clear hS;intro w hS)|(refine K3 ?_;clear hS;intro g w hS hge)|((first|refine GS ?_ ?_|refine VB ?_ ?_)<;>intro hb<;>(try simp only [JJ] at hb)<;>(try exact JX)))
        refine Sh.again (n - (i + 1)) [(11, .int .i64 (i + 1 : Nat))] ?_
        exact fin _ _ _ _ w hS SuF
      exact D.enil
    refine D.econs 14 28287 rfl D.wantedN (by kernel_rfl) (fun _ _ h => h) ?_ ?_
    · refine Z.bs hS rfl rfl rfl ?_
      clear hS; intro g w hS hge
      refine ⟨HM.s (hS.sb), ?_⟩
      refine D.each [7, 12] (by kernel_rfl) rfl ?_
      refine D.econs 7 28415 rfl D.wantedN (by kernel_rfl) (fun _ _ h => h) ?_ ?_
      · refine Z.bs hS rfl rfl rfl ?_
        clear hS; intro g w hS hge
        refine ⟨HM.s (hS.sb), ?_⟩
        refine D.each [8, 12] (by kernel_rfl) rfl ?_
        refine D.econs 8 28671 rfl D.wantedN (by kernel_rfl) (fun _ _ h => h) ?_ ?_
        · refine Z.apm (fc := ptC) (l := lc) (l' := [ci]) hS rfl rfl rfl AtF (hS.lit1 AtF rfl rfl) (by (try simp only [maxLen, List.length_take, List.length_drop, List.length_append, List.length_cons, List.length_nil, List.length_map]); omega) (by (try simp only [maxLen, List.length_take, List.length_drop, List.length_append, List.length_cons, List.length_nil, List.length_map]); omega) ?_
          clear hS; intro cA2 cc2 w hS
          rw [← List.length_append] at hS ⊢
          refine ⟨HM.s (hS.sb), ?_⟩
          refine D.eff 12 32767 rfl D.wantedN (by kernel_rfl) (by kernel_rfl) (fun _ _ h => h) ?_
          refine Z.ld hS rfl AtF rfl ?_
          refine ⟨HM.s (hS.sb), ?_⟩
          refine D.eff 15 65535 rfl D.wantedN (by kernel_rfl) (by kernel_rfl) (fun _ _ h => h) ?_
          refine Z.apm (fc := ptC) (l := lf) (l' := [fi]) hS rfl rfl rfl AtF (hS.lit1 AtF rfl rfl) (by (try simp only [maxLen, List.length_take, List.length_drop, List.length_append, List.length_cons, List.length_nil, List.length_map]); omega) (by (try simp only [maxLen, List.length_take, List.length_drop, List.length_append, List.length_cons, List.length_nil, List.length_map]); omega) ?_
          clear hS; intro fA2 fc2 w hS
          rw [← List.length_append] at hS ⊢
          refine ⟨HM.s (hS.sb), ?_⟩
          refine Sh.dp 16 131071 ?_
          refine Sh.dp 17 262143 ?_
          refine D.eff 18 524287 rfl D.wantedN (by kernel_rfl) (by kernel_rfl) (fun _ _ h => h) ?_
          refine Z.st hS rfl AtF rfl rfl ?_
          clear hS; intro w hS
          refine ⟨HM.last (by kernel_rfl), ?_⟩
          refine Sh.dp 19 1048575 ?_
          refine Sh.dp 20 2097151 ?_
          refine D.eff 21 4194303 rfl D.wantedN (by kernel_rfl) (by kernel_rfl) (fun _ _ h => h) ?_
          refine Z.st hS rfl AtF rfl rfl ?_
          clear hS; intro w hS
          refine ⟨HM.last (by kernel_rfl), ?_⟩
          refine D.done (by kernel_rfl) ?_
          repeat' (first|refine K ?_|(refine Sh.sa hS ?_;clear hS;intro w hS)|(refine K3 ?_;clear hS;intro g w hS hge)|((first|refine GS ?_ ?_|refine VB ?_ ?_)<;>intro hb<;>(try simp only [JJ] at hb)<;>(try exact JX)))
          refine Sh.again (n - (i + 1)) [(11, .int .i64 (i + 1 : Nat))] ?_
          exact fin _ _ _ _ w hS SuF
        refine D.econs 12 32511 rfl D.wantedN (by kernel_rfl) (fun _ _ h => h) ?_ ?_
        · refine Z.ld hS rfl AtF rfl ?_
          refine ⟨HM.s (hS.sb), ?_⟩
          refine D.eff 8 32767 rfl D.wantedN (by kernel_rfl) (by kernel_rfl) (fun _ _ h => h) ?_
          refine Z.apm (fc := ptC) (l := lc) (l' := [ci]) hS rfl rfl rfl AtF (hS.lit1 AtF rfl rfl) (by (try simp only [maxLen, List.length_take, List.length_drop, List.length_append, List.length_cons, List.length_nil, List.length_map]); omega) (by (try simp only [maxLen, List.length_take, List.length_drop, List.length_append, List.length_cons, List.length_nil, List.length_map]); omega) ?_
          clear hS; intro cA2 cc2 w hS
          rw [← List.length_append] at hS ⊢
          refine ⟨HM.s (hS.sb), ?_⟩
          refine D.eff 15 65535 rfl D.wantedN (by kernel_rfl) (by kernel_rfl) (fun _ _ h => h) ?_
          refine Z.apm (fc := ptC) (l := lf) (l' := [fi]) hS rfl rfl rfl AtF (hS.lit1 AtF rfl rfl) (by (try simp only [maxLen, List.length_take, List.length_drop, List.length_append, List.length_cons, List.length_nil, List.length_map]); omega) (by (try simp only [maxLen, List.length_take, List.length_drop, List.length_append, List.length_cons, List.length_nil, List.length_map]); omega) ?_
          clear hS; intro fA2 fc2 w hS
          rw [← List.length_append] at hS ⊢
          refine ⟨HM.s (hS.sb), ?_⟩
          refine Sh.dp 16 131071 ?_
          refine Sh.dp 17 262143 ?_
          refine D.eff 18 524287 rfl D.wantedN (by kernel_rfl) (by kernel_rfl) (fun _ _ h => h) ?_
          refine Z.st hS rfl AtF rfl rfl ?_
          clear hS; intro w hS
          refine ⟨HM.last (by kernel_rfl), ?_⟩
          refine Sh.dp 19 1048575 ?_
          refine Sh.dp 20 2097151 ?_
          refine D.eff 21 4194303 rfl D.wantedN (by kernel_rfl) (by kernel_rfl) (fun _ _ h => h) ?_
          refine Z.st hS rfl AtF rfl rfl ?_
          clear hS; intro w hS
          refine ⟨HM.last (by kernel_rfl), ?_⟩
          refine D.done (by kernel_rfl) ?_
          repeat' (first|refine K ?_|(refine Sh.sa hS ?_;clear hS;intro w hS)|(refine K3 ?_;clear hS;intro g w hS hge)|((first|refine GS ?_ ?_|refine VB ?_ ?_)<;>intro hb<;>(try simp only [JJ] at hb)<;>(try exact JX)))
          refine Sh.again (n - (i + 1)) [(11, .int .i64 (i + 1 : Nat))] ?_
          exact fin _ _ _ _ w hS SuF
        exact D.enil
      refine D.econs 12 32383 rfl D.wantedN (by kernel_rfl) (fun _ _ h => h) ?_ ?_
      · refine Z.ld hS rfl AtF rfl ?_
        refine ⟨HM.s (hS.sb), ?_⟩
        refine D.eff 7 32511 rfl D.wantedN (by kernel_rfl) (by kernel_rfl) (fun _ _ h => h) ?_
        refine Z.bs hS rfl rfl rfl ?_
        clear hS; intro g w hS hge
        refine ⟨HM.s (hS.sb), ?_⟩
        refine D.eff 8 32767 rfl D.wantedN (by kernel_rfl) (by kernel_rfl) (fun _ _ h => h) ?_
        refine Z.apm (fc := ptC) (l := lc) (l' := [ci]) hS rfl rfl rfl AtF (hS.lit1 AtF rfl rfl) (by (try simp only [maxLen, List.length_take, List.length_drop, List.length_append, List.length_cons, List.length_nil, List.length_map]); omega) (by (try simp only [maxLen, List.length_take, List.length_drop, List.length_append, List.length_cons, List.length_nil, List.length_map]); omega) ?_
        clear hS; intro cA2 cc2 w hS
        rw [← List.length_append] at hS ⊢
        refine ⟨HM.s (hS.sb), ?_⟩
        refine D.eff 15 65535 rfl D.wantedN (by kernel_rfl) (by kernel_rfl) (fun _ _ h => h) ?_
        refine Z.apm (fc := ptC) (l := lf) (l' := [fi]) hS rfl rfl rfl AtF (hS.lit1 AtF rfl rfl) (by (try simp only [maxLen, List.length_take, List.length_drop, List.length_append, List.length_cons, List.length_nil, List.length_map]); omega) (by (try simp only [maxLen, List.length_take, List.length_drop, List.length_append, List.length_cons, List.length_nil, List.length_map]); omega) ?_
        clear hS; intro fA2 fc2 w hS
        rw [← List.length_append] at hS ⊢
        refine ⟨HM.s (hS.sb), ?_⟩
        refine Sh.dp 16 131071 ?_
        refine Sh.dp 17 262143 ?_
        refine D.eff 18 524287 rfl D.wantedN (by kernel_rfl) (by kernel_rfl) (fun _ _ h => h) ?_
        refine Z.st hS rfl AtF rfl rfl ?_
        clear hS; intro w hS
        refine ⟨HM.last (by kernel_rfl), ?_⟩
        refine Sh.dp 19 1048575 ?_
        refine Sh.dp 20 2097151 ?_
        refine D.eff 21 4194303 rfl D.wantedN (by kernel_rfl) (by kernel_rfl) (fun _ _ h => h) ?_
        refine Z.st hS rfl AtF rfl rfl ?_
        clear hS; intro w hS
        refine ⟨HM.last (by kernel_rfl), ?_⟩
        refine D.done (by kernel_rfl) ?_
        repeat' (first|refine K ?_|(refine Sh.sa hS ?_;clear hS;intro w hS)|(refine K3 ?_;clear hS;intro g w hS hge)|((first|refine GS ?_ ?_|refine VB ?_ ?_)<;>intro hb<;>(try simp only [JJ] at hb)<;>(try exact JX)))
        refine Sh.again (n - (i + 1)) [(11, .int .i64 (i + 1 : Nat))] ?_
        exact fin _ _ _ _ w hS SuF
      exact D.enil
    exact D.enil
  · obtain rfl : i = n := by omega
    have hl1 : lc.length = i := by rw [hlc]; simp
    have hl2 : lf.length = i := by rw [hlf]; simp
    rw [hl1, hl2] at hS
    subst hlc hlf
    repeat' (first|refine K ?_|(refine Sh.sa hS ?_;clear hS;intro w hS)|(refine K3 ?_;clear hS;intro g w hS hge)|((first|refine GS ?_ ?_|refine VB ?_ ?_)<;>intro hb<;>(try simp only [JJ] at hb)<;>(try exact JX)))
    refine Z.eff (Z.cl (pladd_z gl ⟨1, lag, 0, []⟩ 1 true 0 _ _ _ (hS.fo (R := PL gl _)) ⟨by simp, by simp, by show -1 ≤ lag ∧ lag ≤ 1000; omega, by show (0 : Int) ≤ 0 ∧ (0 : Int) ≤ 4096; omega⟩) rfl ?_) rfl
    clear hS
    rintro e w ⟨rfl, hS⟩
    refine ⟨_, rfl, ?_⟩
    rw [hadd] at hS ⊢
    dsimp only at hS ⊢
    repeat' (first|refine K ?_|(refine Sh.sa hS ?_;clear hS;intro w hS)|(refine K3 ?_;clear hS;intro g w hS hge)|((first|refine GS ?_ ?_|refine VB ?_ ?_)<;>intro hb<;>(try simp only [JJ] at hb)<;>(try exact JX)))
    refine Dnt Tryz.results8 ?_
    exact ⟨gx, ⟨gh, gg, gl, cA, cc, fA, fc, some ⟨gS, 0, none⟩, i, some ⟨gH, 0, none⟩, i⟩, c, f, vg, rfl, hS.sb⟩
end Go.Proofs.YtfmnjbhncnldmaaGreat
