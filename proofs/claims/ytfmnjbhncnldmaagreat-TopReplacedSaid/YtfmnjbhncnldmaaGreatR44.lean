import Derived.Test.YtfmnjbhncnldmaaGreatR19
import Derived.Test.YtfmnjbhncnldmaaGreatR40
import Derived.Test.YtfmnjbhncnldmaaGreatR41
import Derived.Test.YtfmnjbhncnldmaaGreatR42
import Derived.Test.YtfmnjbhncnldmaaGreatR43
set_option linter.unusedSimpArgs false
set_option linter.unusedVariables false
namespace Go.Proofs.YtfmnjbhncnldmaaGreat
open Go.RowKit
attribute [local irreducible] Res.blk Res.sl Res.all Res.ex Res.pure Res.star
theorem Sub.toEnd {R : Res} : ∀ L : List Res, Sub (L ++ [R]) [R]
  | [] => .rest
  | _ :: L => .skip (Sub.toEnd L)
theorem Reads.starR {r : World} {X G : Res} {sz : Nat} {v : Value} {rows : List (List Value)} (h : Reads r [G] sz v rows) : Reads r [Res.star X G] sz v rows :=
  fun L w hS => h [] w (Sep.star_open.1 (hS.sub (Sub.toEnd L))).tail
theorem Reads.starL {r : World} {G : Res} {e sz : Nat} {v : Value} {rows : List (List Value)} : Reads r [Res.star (.sl e sz v rows) G] sz v rows :=
  fun L w hS => (Sep.star_open.1 (hS.sub (Sub.toEnd L))).slrows .here
def rsv (S : Nat → Option Addr × Nat) (l : Nat → Nat) (i : Nat) : Sv := ⟨(S i).1, l i, (S i).2⟩
theorem rsv_set {α : Type} (S : Nat → Option Addr × Nat) (sv : Nat → List α) {n i : Nat} (hi : i < n) (a : Option Addr × Nat) (l : List α) :
    ((List.range n).map (rsv S fun k => (sv k).length)).set i ⟨a.1, l.length, a.2⟩ = (List.range n).map (rsv (setN S i a) fun k => (setN sv i l k).length) := by
  rw [range_set _ hi]
  congr 1
  funext k
  by_cases h : k = i
  · subst h
    simp [setN, rsv]
  · simp [setN, rsv, h]
structure StpR (r : World) (n i : Nat) (B : Nat) (x x' : Pr) (sv sv' : Nat → List ShV) (G' : Res) (S S' H H' : Nat → Option Addr × Nat) (nb' : Nat → Int) : Prop where
  pi : PI x' B
  rdy : Rdy x → Rdy x'
  two : x'.two = x.two
  lag : x'.lag = x.lag
  msg : ∀ k, k < n → x'.sh k = (sv' k).map ShV.m
  rd : ∀ k, k < n → ∀ m, m ∈ sv' k → Reads r [G'] 8 m.v (m.m.ch.map Ch.cells)
  oth : ∀ k, k ≠ i → x'.fo k = x.fo k ∧ x'.he k = x.he k ∧ sv' k = sv k ∧ S' k = S k ∧ H' k = H k
  nb : ∀ k, 0 ≤ nb' k ∧ nb' k ≤ (B : Int)
set_option maxHeartbeats 16000000 in
set_option maxRecDepth 10000 in
theorem pstep_z (gx n i : Nat) (q : PQd) (c f : Nat → Nat) (vg : Nat → Value) (S H : Nat → Option Addr × Nat) (nb : Nat → Int) (x : Pr) (sv : Nat → List ShV) (G : Res) (B : Nat) (wh a b : Int) (r : World) (F : List Res) (w : World)
    (hS : Sep r [] (.blk gx 42 (prC q n nb x.acked) :: PC q.gh 0 0 (.pointer (some ⟨q.gg, 0, .none⟩)) x.home :: GP q.gg pairG :: PL q.gl x.ld :: .sl 34 1 (.slice q.cA n q.cc) (((List.range n).map c).map ptC) :: .sl 106 1 (.slice q.fA n q.fc) (((List.range n).map f).map ptC) :: .sl 135 1 (.slice q.sA n q.sc) (((List.range n).map (rsv S fun k => (sv k).length)).map Sv.cells) :: .sl 140 1 (.slice q.hA n q.hc) (((List.range n).map (rsv H fun k => (x.he k).length)).map Sv.cells) :: PC (c i) (i + 1) 0 (vg i) (x.fo i).c :: .blk (f i) 222 [.pointer (some ⟨c i, 0, .none⟩), .int .i64 (x.fo i).seen, .int .i64 (x.fo i).agreed] :: .sl 131 4 (.slice (S i).1 (sv i).length (S i).2) ((sv i).map ShV.cells) :: .sl 137 3 (.slice (H i).1 (x.he i).length (H i).2) ((x.he i).map He.cells) :: G :: F) w) (hI : PI x B) (hB : B ≤ 500) (hn2 : n ≤ 2) (hin : i < n) (hia : modM a n = i) (hmsg : ∀ k, k < n → x.sh k = (sv k).map ShV.m) (hrd : ∀ k, k < n → ∀ m, m ∈ sv k → Reads r [G] 8 m.v (m.m.ch.map Ch.cells)) (hnb : ∀ k, 0 ≤ nb k ∧ nb k ≤ (B : Int)) :
    Calls Tryz.prog 10 #[.pointer (some ⟨gx, 0, .none⟩), .agg #[.int .i64 wh, .int .i64 a, .int .i64 b]] w fun e w' => ∃ (x' : Pr) (nb' : Nat → Int) (sv' : Nat → List ShV) (G' : Res) (S' H' : Nat → Option Addr × Nat), e = .returned (.bool true) ∧ StpR r n i (B + 1) x x' sv sv' G' S S' H H' nb' ∧ Sep r [] (.blk gx 42 (prC q n nb' x'.acked) :: PC q.gh 0 0 (.pointer (some ⟨q.gg, 0, .none⟩)) x'.home :: GP q.gg pairG :: PL q.gl x'.ld :: .sl 34 1 (.slice q.cA n q.cc) (((List.range n).map c).map ptC) :: .sl 106 1 (.slice q.fA n q.fc) (((List.range n).map f).map ptC) :: .sl 135 1 (.slice q.sA n q.sc) (((List.range n).map (rsv S' fun k => (sv' k).length)).map Sv.cells) :: .sl 140 1 (.slice q.hA n q.hc) (((List.range n).map (rsv H' fun k => (x'.he k).length)).map Sv.cells) :: PC (c i) (i + 1) 0 (vg i) (x'.fo i).c :: .blk (f i) 222 [.pointer (some ⟨c i, 0, .none⟩), .int .i64 (x'.fo i).seen, .int .i64 (x'.fo i).agreed] :: .sl 131 4 (.slice (S' i).1 (sv' i).length (S' i).2) ((sv' i).map ShV.cells) :: .sl 137 3 (.slice (H' i).1 (x'.he i).length (H' i).2) ((x'.he i).map He.cells) :: G' :: F) w' := by
  have hhl := hI.len
  have hk8 := modM_bd wh 8 (by omega)
  have hld := hI.ldok (by omega)
  have hln : 0 < n := by omega
  obtain ⟨gC, hqC⟩ := Z.Sep_slform hS (e := 34) (sz := 1) (A := q.cA) (n0 := n) (c := q.cc) (rows := ((List.range n).map c).map ptC) AtF (by simpa using hln)
  obtain ⟨gF, hqF⟩ := Z.Sep_slform hS (e := 106) (sz := 1) (A := q.fA) (n0 := n) (c := q.fc) (rows := ((List.range n).map f).map ptC) AtF (by simpa using hln)
  obtain ⟨gS, hqS⟩ := Z.Sep_slform hS (e := 135) (sz := 1) (A := q.sA) (n0 := n) (c := q.sc) (rows := ((List.range n).map (rsv S fun k => (sv k).length)).map Sv.cells) AtF (by simpa using hln)
  obtain ⟨gH, hqH⟩ := Z.Sep_slform hS (e := 140) (sz := 1) (A := q.hA) (n0 := n) (c := q.hc) (rows := ((List.range n).map (rsv H fun k => (x.he k).length)).map Sv.cells) AtF (by simpa using hln)
  obtain ⟨gh, gg, gl, cA, cc, fA, fc, sA, sc, hA, hc⟩ := q
  simp only at hqC hqF hqS hqH
  subst hqC hqF hqS hqH
  dsimp only at hS
  have aF : ∀ W L, Sep r [] L W → ∀ {k}, At L k (.sl 106 1 (.slice (some ⟨gF, 0, none⟩) n fc) (((List.range n).map f).map ptC)) → W.rangeAt gF (0 + i * 1) (ptC (f i)) := fun W L h k ha => row_at (fc := ptC) h ha (by omega) (by simpa using hin) (by simp)
  have aS : ∀ W L, Sep r [] L W → ∀ {k}, At L k (.sl 135 1 (.slice (some ⟨gS, 0, none⟩) n sc) (((List.range n).map (rsv S fun k => (sv k).length)).map Sv.cells)) → W.rangeAt gS (0 + i * 1) [.slice (S i).1 (sv i).length (S i).2] := fun W L h k ha => row_at (fc := Sv.cells) (x := rsv S (fun k => (sv k).length) i) h ha (by omega) (by simpa using hin) (by simp)
  have aH : ∀ W L, Sep r [] L W → ∀ {k}, At L k (.sl 140 1 (.slice (some ⟨gH, 0, none⟩) n hc) (((List.range n).map (rsv H fun k => (x.he k).length)).map Sv.cells)) → W.rangeAt gH (0 + i * 1) [.slice (H i).1 (x.he i).length (H i).2] := fun W L h k ha => row_at (fc := Sv.cells) (x := rsv H (fun k => (x.he k).length) i) h ha (by omega) (by simpa using hin) (by simp)
  refine Z.enter Tryz.func10 Tryz.ntmps10 rfl rfl ?_
  repeat' (first|refine K ?_|(refine Sh.sa hS ?_;clear hS;intro w hS)|(refine K3 ?_;clear hS;intro g w hS hge)|((first|refine GS ?_ ?_|refine VB ?_ ?_)<;>intro hb<;>(try simp only [JJ] at hb)<;>(try exact JX)))
  rename Nat => g3
  refine D.startS (Lr := [.blk g3 29 [.int .i64 wh, .int .i64 a, .int .i64 b], .blk gx 42 (prC ⟨gh, gg, gl, some ⟨gC, 0, none⟩, cc, some ⟨gF, 0, none⟩, fc, some ⟨gS, 0, none⟩, sc, some ⟨gH, 0, none⟩, hc⟩ n nb x.acked)]) (hS.sb) 9 9 (by kernel_rfl) rfl ?_
  replace hS := hS.drew
  refine Sh.dp 0 1 ?_
  refine Sh.dp 2 5 ?_
  refine Sh.dp 3 13 ?_
  refine Sh.dp 4 29 ?_
  refine Sh.dl 1 31 ?_
  refine Sh.dl 5 63 ?_
  refine Sh.dp 6 127 ?_
  refine D.eff 7 255 rfl D.wantedN (by kernel_rfl) (by kernel_rfl) (fun _ _ h => h) ?_
  refine Z.cl (mmod_z a n _ _ _ hS (by omega) (by omega)) rfl ?_
  clear hS
  rintro e w ⟨rfl, hS⟩
  refine ⟨_, rfl, ?_⟩
  rw [hia]
  refine ⟨HM.s (hS.sb), ?_⟩
  refine Sh.dp 8 511 ?_
  refine D.done (by kernel_rfl) ?_
  repeat' (first|refine Kn ?_|(refine Sh.sa hS ?_;clear hS;intro w hS)|(refine K3 ?_;clear hS;intro g w hS hge)|((first|refine GS ?_ ?_|refine VB ?_ ?_)<;>intro hb<;>(try simp only [JJ] at hb)<;>(try exact JX)))
  refine Z.thN ?_
  repeat' (first|refine Kn ?_|(refine Sh.sa hS ?_;clear hS;intro w hS)|(refine K3 ?_;clear hS;intro g w hS hge)|((first|refine GS ?_ ?_|refine VB ?_ ?_)<;>intro hb<;>(try simp only [JJ] at hb)<;>(try exact JX)))
  refine Z.eff (Z.cl (mmod_z wh 8 _ _ _ hS (by omega) (by omega)) rfl ?_) rfl
  clear hS
  rintro e w ⟨rfl, hS⟩
  refine ⟨_, rfl, ?_⟩
  generalize modM wh 8 = k8 at *
  repeat' (first|refine Kn ?_|(refine Sh.sa hS ?_;clear hS;intro w hS)|(refine K3 ?_;clear hS;intro g w hS hge)|((first|refine GS ?_ ?_|refine VB ?_ ?_)<;>intro hb<;>(try simp only [JJ] at hb)<;>(try exact JX)))
  refine Z.thN ?_
  refine Z.cut [6, 7, 8, 9, 22, 23, 24, 25, 26, 27, 28, 29, 30, 31, 32, 33, 34, 35, 36, 37, 38, 39, 40, 41, 42, 43, 44, 45, 46, 47, 48, 49, 50, 51, 52, 53, 54, 55, 56, 57, 58, 59, 60, 61, 62, 63, 64, 65, 66, 67, 68, 69, 70, 71, 72, 73, 74, 75, 76, 77, 78, 79, 80, 81, 82, 83, 84, 85, 86, 87, 88, 89, 90, 91, 92, 93, 94, 95, 96, 97, 98, 99, 100, 101, 102, 103, 104, 105, 106, 107, 108, 109, 110, 111, 112, 113, 114, 115, 116, 117, 118, 119, 120, 121, 122, 123, 124, 125, 126, 127, 128, 129, 130, 131, 132, 133, 134, 135, 136, 137, 138, 139, 140, 141, 142, 143, 144, 145, 146, 147, 148, 149, 150, 151, 152, 153, 154, 155, 156, 157, 158, 159, 160, 161, 162, 163, 164] (fun w z => ∃ (x' : Pr) (nb' : Nat → Int) (sv' : Nat → List ShV) (G' : Res) (S' H' : Nat → Option Addr × Nat), z = [] ∧ (x'.acked = x.acked ∧ StpR r n i (B + 1) x x' sv sv' G' S S' H H' nb') ∧ Sep r [] (.blk gx 42 (prC ⟨gh, gg, gl, some ⟨gC, 0, none⟩, cc, some ⟨gF, 0, none⟩, fc, some ⟨gS, 0, none⟩, sc, some ⟨gH, 0, none⟩, hc⟩ n nb' x'.acked) :: PC gh 0 0 (.pointer (some ⟨gg, 0, .none⟩)) x'.home :: GP gg pairG :: PL gl x'.ld :: .sl 34 1 (.slice (some ⟨gC, 0, none⟩) n cc) (((List.range n).map c).map ptC) :: .sl 106 1 (.slice (some ⟨gF, 0, none⟩) n fc) (((List.range n).map f).map ptC) :: .sl 135 1 (.slice (some ⟨gS, 0, none⟩) n sc) (((List.range n).map (rsv S' fun k => (sv' k).length)).map Sv.cells) :: .sl 140 1 (.slice (some ⟨gH, 0, none⟩) n hc) (((List.range n).map (rsv H' fun k => (x'.he k).length)).map Sv.cells) :: PC (c i) (i + 1) 0 (vg i) (x'.fo i).c :: .blk (f i) 222 [.pointer (some ⟨c i, 0, .none⟩), .int .i64 (x'.fo i).seen, .int .i64 (x'.fo i).agreed] :: .sl 131 4 (.slice (S' i).1 (sv' i).length (S' i).2) ((sv' i).map ShV.cells) :: .sl 137 3 (.slice (H' i).1 (x'.he i).length (H' i).2) ((x'.he i).map He.cells) :: G' :: F) w) ?_ ?_
  · have hnb2 : ∀ k, 0 ≤ nb k ∧ nb k ≤ ((B + 1 : Nat) : Int) := fun k => by have := hnb k; omega
    rcases (by omega : (k8 = 0 ∨ k8 = 1) ∨ (k8 = 2 ∨ k8 = 3) ∨ (k8 = 4 ∨ k8 = 5) ∨ k8 = 6 ∨ k8 = 7) with h8 | h8 | h8 | h8 | h8
    · rcases h8 with rfl | rfl
      all_goals
        repeat' (first|refine K ?_|(refine Sh.sa hS ?_;clear hS;intro w hS)|(refine K3 ?_;clear hS;intro g w hS hge)|((first|refine GS ?_ ?_|refine VB ?_ ?_)<;>intro hb<;>(try simp only [JJ] at hb)<;>(try exact JX)))
        replace hS := hS.fo (R := GP gg pairG)
        replace hS := hS.fo (R := PC gh 0 0 (.pointer (some ⟨gg, 0, .none⟩)) x.home)
        replace hS := hS.fo (R := .blk gx 42 (prC ⟨gh, gg, gl, some ⟨gC, 0, none⟩, cc, some ⟨gF, 0, none⟩, fc, some ⟨gS, 0, none⟩, sc, some ⟨gH, 0, none⟩, hc⟩ n nb x.acked))
        refine Z.eff (Z.cl (pwr_z gx ⟨gh, gg, gl, some ⟨gC, 0, none⟩, cc, some ⟨gF, 0, none⟩, fc, some ⟨gS, 0, none⟩, sc, some ⟨gH, 0, none⟩, hc⟩ n nb x.acked x.home a b B _ _ _ hS hI.cg (by omega) hnb (by omega)) rfl ?_) rfl
        clear hS
        rintro e w ⟨nb', c', rfl, ⟨k1, k2, k3⟩, hS⟩
        refine ⟨_, rfl, ?_⟩
        repeat' (first|refine K ?_|(refine Sh.sa hS ?_;clear hS;intro w hS)|(refine K3 ?_;clear hS;intro g w hS hge)|((first|refine GS ?_ ?_|refine VB ?_ ?_)<;>intro hb<;>(try simp only [JJ] at hb)<;>(try exact JX)))
        refine Sh.cut [] ?_
        exact ⟨{ x with home := c' }, nb', sv, G, S, H, rfl, ⟨rfl, hI.write k2 k3, fun h => h, rfl, rfl, hmsg, hrd, fun k _ => ⟨rfl, rfl, rfl, rfl, rfl⟩, fun k => by have := k1 k; omega⟩, hS.sb⟩
    · by_cases hon : x.on i
      · have hsl := hI.shipOn hon x.home.h
        rcases h8 with rfl | rfl
        all_goals
          repeat' (first|refine K ?_|(refine Sh.sa hS ?_;clear hS;intro w hS)|(refine K3 ?_;clear hS;intro g w hS hge)|((first|refine GS ?_ ?_|refine VB ?_ ?_)<;>intro hb<;>(try simp only [JJ] at hb)<;>(try exact JX)))
          refine Z.cut [6, 7, 34, 35, 36, 37, 38, 39, 40, 41, 42, 43, 44, 45, 46, 47, 48] (fun w z => ∃ g6 A6 c6, z = [(6, .pointer (some ⟨g6, 0, .none⟩)), (7, .bool true)] ∧ Sep r [] (.blk g6 131 (ShV.cells ⟨shipS 1 (x.sd i) x.home.h, A6, c6⟩) :: .sl 149 8 (.slice A6 (shipS 1 (x.sd i) x.home.h).ch.length c6) ((shipS 1 (x.sd i) x.home.h).ch.map Ch.cells) :: .blk g3 29 [.int .i64 wh, .int .i64 a, .int .i64 b] :: .blk gx 42 (prC ⟨gh, gg, gl, some ⟨gC, 0, none⟩, cc, some ⟨gF, 0, none⟩, fc, some ⟨gS, 0, none⟩, sc, some ⟨gH, 0, none⟩, hc⟩ n nb x.acked) :: PC gh 0 0 (.pointer (some ⟨gg, 0, .none⟩)) x.home :: GP gg pairG :: PL gl x.ld :: .sl 34 1 (.slice (some ⟨gC, 0, none⟩) n cc) (((List.range n).map c).map ptC) :: .sl 106 1 (.slice (some ⟨gF, 0, none⟩) n fc) (((List.range n).map f).map ptC) :: .sl 135 1 (.slice (some ⟨gS, 0, none⟩) n sc) (((List.range n).map (rsv S fun k => (sv k).length)).map Sv.cells) :: .sl 140 1 (.slice (some ⟨gH, 0, none⟩) n hc) (((List.range n).map (rsv H fun k => (x.he k).length)).map Sv.cells) :: PC (c i) (i + 1) 0 (vg i) (x.fo i).c :: .blk (f i) 222 [.pointer (some ⟨c i, 0, .none⟩), .int .i64 (x.fo i).seen, .int .i64 (x.fo i).agreed] :: .sl 131 4 (.slice (S i).1 (sv i).length (S i).2) ((sv i).map ShV.cells) :: .sl 137 3 (.slice (H i).1 (x.he i).length (H i).2) ((x.he i).map He.cells) :: G :: F) w) ?_ ?_
          · refine D.startS (Lr := [.blk gx 42 (prC ⟨gh, gg, gl, some ⟨gC, 0, none⟩, cc, some ⟨gF, 0, none⟩, fc, some ⟨gS, 0, none⟩, sc, some ⟨gH, 0, none⟩, hc⟩ n nb x.acked)]) (hS.sb) 16 18 (by kernel_rfl) rfl ?_
            replace hS := hS.drew
            refine Sh.dp 0 1 ?_
            refine Sh.dp 1 3 ?_
            refine Sh.dp 2 7 ?_
            refine Sh.dp 4 23 ?_
            first | refine D.sum 5 55 rfl D.wantedN (by kernel_rfl) rfl (by constructor <;> omega) ?_ | refine D.sumW 5 55 rfl D.wantedN (by kernel_rfl) rfl ?_
            refine Sh.dp 6 119 ?_
            refine Sh.dp 7 247 ?_
            refine Sh.dp 8 503 ?_
            refine Sh.dl 3 511 ?_
            refine Sh.dl 9 1023 ?_
            refine D.each [10, 15] (by kernel_rfl) rfl ?_
            refine D.econs 10 2047 rfl D.wantedN (by kernel_rfl) (fun _ _ h => h) ?_ ?_
            · replace hS := hS.fo (R := PC gh 0 0 (.pointer (some ⟨gg, 0, .none⟩)) x.home)
              refine Z.cl (phist0_z gh 0 0 _ x.home _ _ _ hS (by omega)) rfl ?_
              clear hS
              rintro e w ⟨A5, c5, rfl, hS⟩
              refine ⟨_, rfl, ?_⟩
              refine ⟨HM.s (hS.sb), ?_⟩
              refine D.each [11, 15] (by kernel_rfl) rfl ?_
              refine D.econs 11 4095 rfl D.wantedN (by kernel_rfl) (fun _ _ h => h) ?_ ?_
              · replace hS := hS.fo (R := PL gl x.ld)
                refine Z.cl (plship_z gl x.ld ((i : Int) + 1) (by unfold I64; omega) x.home.h _ _ _ _ hS hld (Reads.of_at (e := 149) (v := .slice A5 x.home.h.length c5) AtF) (by omega)) rfl ?_
                clear hS
                rintro e w ⟨A6, c6, rfl, hS⟩
                refine ⟨_, rfl, ?_⟩
                rw [hsl] at hS ⊢
                dsimp only at hS ⊢
                refine ⟨HM.s (hS.sb), ?_⟩
                refine Sh.dp 12 8191 ?_
                refine Sh.dp 13 16383 ?_
                refine Sh.dp 14 32767 ?_
                refine D.eff 15 65535 rfl D.wantedN (by kernel_rfl) (by kernel_rfl) (fun _ _ h => h) ?_
                refine Z.al hS ?_
                clear hS; intro g w hS hge
                refine ⟨HM.s (hS.sb), ?_⟩
                refine D.eff 16 131071 rfl D.wantedN (by kernel_rfl) (by kernel_rfl) (fun _ _ h => h) ?_
                refine Z.st hS rfl AtF rfl rfl ?_
                clear hS; intro w hS
                refine ⟨HM.last (by kernel_rfl), ?_⟩
                refine Sh.dp 17 262143 ?_
                refine D.done (by kernel_rfl) ?_
                refine Sh.cut [(6, _), (7, _)] ?_
                exact ⟨_, A6, c6, rfl, hS.sb⟩
              refine D.econs 15 34815 rfl D.wantedN (by kernel_rfl) (fun _ _ h => h) ?_ ?_
              · refine Z.al hS ?_
                clear hS; intro g w hS hge
                refine ⟨HM.s (hS.sb), ?_⟩
                refine D.eff 11 36863 rfl D.wantedN (by kernel_rfl) (by kernel_rfl) (fun _ _ h => h) ?_
                replace hS := hS.fo (R := PL gl x.ld)
                refine Z.cl (plship_z gl x.ld ((i : Int) + 1) (by unfold I64; omega) x.home.h _ _ _ _ hS hld (Reads.of_at (e := 149) (v := .slice A5 x.home.h.length c5) AtF) (by omega)) rfl ?_
                clear hS
                rintro e w ⟨A6, c6, rfl, hS⟩
                refine ⟨_, rfl, ?_⟩
                rw [hsl] at hS ⊢
                dsimp only at hS ⊢
                refine ⟨HM.s (hS.sb), ?_⟩
                refine Sh.dp 12 40959 ?_
                refine Sh.dp 13 49151 ?_
                refine Sh.dp 14 65535 ?_
                refine D.eff 16 131071 rfl D.wantedN (by kernel_rfl) (by kernel_rfl) (fun _ _ h => h) ?_
                refine Z.st hS rfl AtF rfl rfl ?_
                clear hS; intro w hS
                refine ⟨HM.last (by kernel_rfl), ?_⟩
                refine Sh.dp 17 262143 ?_
                refine D.done (by kernel_rfl) ?_
                refine Sh.cut [(6, _), (7, _)] ?_
                exact ⟨_, A6, c6, rfl, hS.sb⟩
              exact D.enil
            refine D.econs 15 33791 rfl D.wantedN (by kernel_rfl) (fun _ _ h => h) ?_ ?_
            · refine Z.al hS ?_
              clear hS; intro g w hS hge
              refine ⟨HM.s (hS.sb), ?_⟩
              refine D.eff 10 34815 rfl D.wantedN (by kernel_rfl) (by kernel_rfl) (fun _ _ h => h) ?_
              replace hS := hS.fo (R := PC gh 0 0 (.pointer (some ⟨gg, 0, .none⟩)) x.home)
              refine Z.cl (phist0_z gh 0 0 _ x.home _ _ _ hS (by omega)) rfl ?_
              clear hS
              rintro e w ⟨A5, c5, rfl, hS⟩
              refine ⟨_, rfl, ?_⟩
              refine ⟨HM.s (hS.sb), ?_⟩
              refine D.eff 11 36863 rfl D.wantedN (by kernel_rfl) (by kernel_rfl) (fun _ _ h => h) ?_
              replace hS := hS.fo (R := PL gl x.ld)
              refine Z.cl (plship_z gl x.ld ((i : Int) + 1) (by unfold I64; omega) x.home.h _ _ _ _ hS hld (Reads.of_at (e := 149) (v := .slice A5 x.home.h.length c5) AtF) (by omega)) rfl ?_
              clear hS
              rintro e w ⟨A6, c6, rfl, hS⟩
              refine ⟨_, rfl, ?_⟩
              rw [hsl] at hS ⊢
              dsimp only at hS ⊢
              refine ⟨HM.s (hS.sb), ?_⟩
              refine Sh.dp 12 40959 ?_
              refine Sh.dp 13 49151 ?_
              refine Sh.dp 14 65535 ?_
              refine D.eff 16 131071 rfl D.wantedN (by kernel_rfl) (by kernel_rfl) (fun _ _ h => h) ?_
              refine Z.st hS rfl AtF rfl rfl ?_
              clear hS; intro w hS
              refine ⟨HM.last (by kernel_rfl), ?_⟩
              refine Sh.dp 17 262143 ?_
              refine D.done (by kernel_rfl) ?_
              refine Sh.cut [(6, _), (7, _)] ?_
              exact ⟨_, A6, c6, rfl, hS.sb⟩
            exact D.enil
          clear hS
          rintro f1 w _ ⟨g6, A6, c6, rfl, hS⟩
          have hPI := hI.ship hon
          generalize shipS 1 (x.sd i) x.home.h = mm at *
          have hset := fun (A9 : Option Addr) (k9 : Nat) => rsv_set S sv hin (A9, k9) (sv i ++ [⟨mm, A6, c6⟩])
          have hlsv : (sv i).length ≤ B := by have h1 := hI.shB i; rw [hmsg i hin, List.length_map] at h1; exact h1
          repeat' (first|refine K ?_|(refine Sh.sa hS ?_;clear hS;intro w hS)|(refine K3 ?_;clear hS;intro g w hS hge)|((first|refine GS ?_ ?_|refine VB ?_ ?_)<;>intro hb<;>(try simp only [JJ] at hb)<;>(try exact JX)))
          refine D.startS (Lr := [.blk gx 42 (prC ⟨gh, gg, gl, some ⟨gC, 0, none⟩, cc, some ⟨gF, 0, none⟩, fc, some ⟨gS, 0, none⟩, sc, some ⟨gH, 0, none⟩, hc⟩ n nb x.acked), .blk g6 131 (ShV.cells ⟨mm, A6, c6⟩), .sl 135 1 (.slice (some ⟨gS, 0, none⟩) n sc) (((List.range n).map (rsv S fun k => (sv k).length)).map Sv.cells)]) (hS.sb) 16 17 (by kernel_rfl) rfl ?_
          replace hS := hS.drew
          refine Sh.dp 0 1 ?_
          refine Sh.dp 1 3 ?_
          refine Sh.dp 2 7 ?_
          refine Sh.dp 4 23 ?_
          refine Sh.dp 5 55 ?_
          refine Sh.dp 6 119 ?_
          refine Sh.dp 7 247 ?_
          refine Sh.dp 9 759 ?_
          refine Sh.dl 3 767 ?_
          refine Sh.dl 8 1023 ?_
          first | refine D.ixn 10 2047 rfl D.wantedN (by kernel_rfl) rfl rfl rfl (by omega) ?_ | refine D.ix 10 2047 rfl D.wantedN (by kernel_rfl) rfl rfl rfl (by omega) ?_ | refine D.ia 10 2047 rfl D.wantedN (by kernel_rfl) rfl rfl rfl (by omega) ?_
          refine D.ldR 11 4095 rfl D.wantedN (by kernel_rfl) rfl (fun W h => aS W _ h AtF) rfl ?_
          refine Sh.dl 12 8191 ?_
          refine D.eff 13 16383 rfl D.wantedN (by kernel_rfl) (by kernel_rfl) (fun _ _ h => h) ?_
          refine Z.bs hS rfl rfl rfl ?_
          clear hS; intro g w hS hge
          refine ⟨HM.s (hS.sb), ?_⟩
          refine D.eff 14 32767 rfl D.wantedN (by kernel_rfl) (by kernel_rfl) (fun _ _ h => h) ?_
          refine Z.apm (fc := ShV.cells) (l := sv i) (l' := [⟨mm, A6, c6⟩]) hS rfl rfl rfl AtF (hS.lit1 AtF rfl rfl) (by (try simp only [maxLen, List.length_take, List.length_drop, List.length_append, List.length_cons, List.length_nil, List.length_map]); omega) (by (try simp only [maxLen, List.length_take, List.length_drop, List.length_append, List.length_cons, List.length_nil, List.length_map]); omega) ?_
          clear hS; intro A9 k9 w hS
          rw [← List.length_append] at hS ⊢
          refine ⟨HM.s (hS.sb), ?_⟩
          first | refine D.ixn 15 65535 rfl D.wantedN (by kernel_rfl) rfl rfl rfl (by omega) ?_ | refine D.ix 15 65535 rfl D.wantedN (by kernel_rfl) rfl rfl rfl (by omega) ?_ | refine D.ia 15 65535 rfl D.wantedN (by kernel_rfl) rfl rfl rfl (by omega) ?_
          refine D.eff 16 131071 rfl D.wantedN (by kernel_rfl) (by kernel_rfl) (fun _ _ h => h) ?_
          refine Z.stF (sz := 1) (j := 0) (⟨A9, (sv i ++ [(⟨mm, A6, c6⟩ : ShV)]).length, k9⟩ : Sv) hS rfl AtF (by simpa using hin) rfl rfl rfl (by omega) rfl ?_
          clear hS; intro w hS
          replace hset := hset A9 k9
          dsimp only at hset
          rw [hset] at hS
          refine ⟨HM.last (by kernel_rfl), ?_⟩
          refine D.done (by kernel_rfl) ?_
          repeat' (first|refine K ?_|(refine Sh.sa hS ?_;clear hS;intro w hS)|(refine K3 ?_;clear hS;intro g w hS hge)|((first|refine GS ?_ ?_|refine VB ?_ ?_)<;>intro hb<;>(try simp only [JJ] at hb)<;>(try exact JX)))
          refine Sh.cut [] ?_
          refine ⟨{ x with sh := setN x.sh i (x.sh i ++ [mm]) }, nb, setN sv i (sv i ++ [⟨mm, A6, c6⟩]), Res.star (.sl 149 8 (.slice A6 mm.ch.length c6) (mm.ch.map Ch.cells)) G, setN S i (A9, k9), H, rfl, ⟨rfl, hPI, fun h => h, rfl, rfl, fun k hk => ?_, fun k hk m hm => ?_, fun k hk => ⟨rfl, rfl, setN_ne _ _ hk, setN_ne _ _ hk, rfl⟩, hnb2⟩, ?_⟩
          · show setN x.sh i _ k = _
            by_cases e : k = i
            · subst e
              rw [setN_at, setN_at, hmsg k hk, List.map_append]
              rfl
            · rw [setN_ne _ _ e, setN_ne _ _ e]
              exact hmsg k hk
          · by_cases e : k = i
            · subst e
              rw [setN_at] at hm
              rcases List.mem_append.1 hm with hm | hm
              · exact (hrd k hk m hm).starR
              · simp only [List.mem_singleton] at hm
                rw [hm]
                exact Reads.starL
            · rw [setN_ne _ _ e] at hm
              exact (hrd k hk m hm).starR
          · simp only [setN_at]
            replace hS := hS.fo (R := G)
            replace hS := hS.fo (R := .sl 149 8 (.slice A6 _ c6) _)
            replace hS := Sep.star_open.2 hS
            exact hS.sb
      · have hsl := hI.shipOff (by omega) hon x.home.h
        rcases h8 with rfl | rfl
        all_goals
          repeat' (first|refine K ?_|(refine Sh.sa hS ?_;clear hS;intro w hS)|(refine K3 ?_;clear hS;intro g w hS hge)|((first|refine GS ?_ ?_|refine VB ?_ ?_)<;>intro hb<;>(try simp only [JJ] at hb)<;>(try exact JX)))
          refine Z.cut [6, 7, 34, 35, 36, 37, 38, 39, 40, 41, 42, 43, 44, 45, 46, 47, 48] (fun w z => z = [(7, .bool false)] ∧ Sep r [] (.blk gx 42 (prC ⟨gh, gg, gl, some ⟨gC, 0, none⟩, cc, some ⟨gF, 0, none⟩, fc, some ⟨gS, 0, none⟩, sc, some ⟨gH, 0, none⟩, hc⟩ n nb x.acked) :: PC gh 0 0 (.pointer (some ⟨gg, 0, .none⟩)) x.home :: GP gg pairG :: PL gl x.ld :: .sl 34 1 (.slice (some ⟨gC, 0, none⟩) n cc) (((List.range n).map c).map ptC) :: .sl 106 1 (.slice (some ⟨gF, 0, none⟩) n fc) (((List.range n).map f).map ptC) :: .sl 135 1 (.slice (some ⟨gS, 0, none⟩) n sc) (((List.range n).map (rsv S fun k => (sv k).length)).map Sv.cells) :: .sl 140 1 (.slice (some ⟨gH, 0, none⟩) n hc) (((List.range n).map (rsv H fun k => (x.he k).length)).map Sv.cells) :: PC (c i) (i + 1) 0 (vg i) (x.fo i).c :: .blk (f i) 222 [.pointer (some ⟨c i, 0, .none⟩), .int .i64 (x.fo i).seen, .int .i64 (x.fo i).agreed] :: .sl 131 4 (.slice (S i).1 (sv i).length (S i).2) ((sv i).map ShV.cells) :: .sl 137 3 (.slice (H i).1 (x.he i).length (H i).2) ((x.he i).map He.cells) :: G :: F) w) ?_ ?_
          · refine D.startS (Lr := [.blk gx 42 (prC ⟨gh, gg, gl, some ⟨gC, 0, none⟩, cc, some ⟨gF, 0, none⟩, fc, some ⟨gS, 0, none⟩, sc, some ⟨gH, 0, none⟩, hc⟩ n nb x.acked)]) (hS.sb) 16 18 (by kernel_rfl) rfl ?_
            replace hS := hS.drew
            refine Sh.dp 0 1 ?_
            refine Sh.dp 1 3 ?_
            refine Sh.dp 2 7 ?_
            refine Sh.dp 4 23 ?_
            first | refine D.sum 5 55 rfl D.wantedN (by kernel_rfl) rfl (by constructor <;> omega) ?_ | refine D.sumW 5 55 rfl D.wantedN (by kernel_rfl) rfl ?_
            refine Sh.dp 6 119 ?_
            refine Sh.dp 7 247 ?_
            refine Sh.dp 8 503 ?_
            refine Sh.dl 3 511 ?_
            refine Sh.dl 9 1023 ?_
            refine D.each [10, 15] (by kernel_rfl) rfl ?_
            refine D.econs 10 2047 rfl D.wantedN (by kernel_rfl) (fun _ _ h => h) ?_ ?_
            · replace hS := hS.fo (R := PC gh 0 0 (.pointer (some ⟨gg, 0, .none⟩)) x.home)
              refine Z.cl (phist0_z gh 0 0 _ x.home _ _ _ hS (by omega)) rfl ?_
              clear hS
              rintro e w ⟨A5, c5, rfl, hS⟩
              refine ⟨_, rfl, ?_⟩
              refine ⟨HM.s (hS.sb), ?_⟩
              refine D.each [11, 15] (by kernel_rfl) rfl ?_
              refine D.econs 11 4095 rfl D.wantedN (by kernel_rfl) (fun _ _ h => h) ?_ ?_
              · replace hS := hS.fo (R := PL gl x.ld)
                refine Z.cl (plship_z gl x.ld ((i : Int) + 1) (by unfold I64; omega) x.home.h _ _ _ _ hS hld (Reads.of_at (e := 149) (v := .slice A5 x.home.h.length c5) AtF) (by omega)) rfl ?_
                clear hS
                rintro e w ⟨A6, c6, rfl, hS⟩
                refine ⟨_, rfl, ?_⟩
                rw [hsl] at hS ⊢
                dsimp only at hS ⊢
                refine ⟨HM.s (hS.sb), ?_⟩
                refine Sh.dp 12 8191 ?_
                refine Sh.dp 13 16383 ?_
                refine Sh.dp 14 32767 ?_
                refine D.eff 15 65535 rfl D.wantedN (by kernel_rfl) (by kernel_rfl) (fun _ _ h => h) ?_
                refine Z.al hS ?_
                clear hS; intro g w hS hge
                refine ⟨HM.s (hS.sb), ?_⟩
                refine D.eff 16 131071 rfl D.wantedN (by kernel_rfl) (by kernel_rfl) (fun _ _ h => h) ?_
                refine Z.st hS rfl AtF rfl rfl ?_
                clear hS; intro w hS
                refine ⟨HM.last (by kernel_rfl), ?_⟩
                refine Sh.dp 17 262143 ?_
                refine D.done (by kernel_rfl) ?_
                refine Sh.cut [(7, _)] ?_
                exact ⟨rfl, hS.sb⟩
              refine D.econs 15 34815 rfl D.wantedN (by kernel_rfl) (fun _ _ h => h) ?_ ?_
              · refine Z.al hS ?_
                clear hS; intro g w hS hge
                refine ⟨HM.s (hS.sb), ?_⟩
                refine D.eff 11 36863 rfl D.wantedN (by kernel_rfl) (by kernel_rfl) (fun _ _ h => h) ?_
                replace hS := hS.fo (R := PL gl x.ld)
                refine Z.cl (plship_z gl x.ld ((i : Int) + 1) (by unfold I64; omega) x.home.h _ _ _ _ hS hld (Reads.of_at (e := 149) (v := .slice A5 x.home.h.length c5) AtF) (by omega)) rfl ?_
                clear hS
                rintro e w ⟨A6, c6, rfl, hS⟩
                refine ⟨_, rfl, ?_⟩
                rw [hsl] at hS ⊢
                dsimp only at hS ⊢
                refine ⟨HM.s (hS.sb), ?_⟩
                refine Sh.dp 12 40959 ?_
                refine Sh.dp 13 49151 ?_
                refine Sh.dp 14 65535 ?_
                refine D.eff 16 131071 rfl D.wantedN (by kernel_rfl) (by kernel_rfl) (fun _ _ h => h) ?_
                refine Z.st hS rfl AtF rfl rfl ?_
                clear hS; intro w hS
                refine ⟨HM.last (by kernel_rfl), ?_⟩
                refine Sh.dp 17 262143 ?_
                refine D.done (by kernel_rfl) ?_
                refine Sh.cut [(7, _)] ?_
                exact ⟨rfl, hS.sb⟩
              exact D.enil
            refine D.econs 15 33791 rfl D.wantedN (by kernel_rfl) (fun _ _ h => h) ?_ ?_
            · refine Z.al hS ?_
              clear hS; intro g w hS hge
              refine ⟨HM.s (hS.sb), ?_⟩
              refine D.eff 10 34815 rfl D.wantedN (by kernel_rfl) (by kernel_rfl) (fun _ _ h => h) ?_
              replace hS := hS.fo (R := PC gh 0 0 (.pointer (some ⟨gg, 0, .none⟩)) x.home)
              refine Z.cl (phist0_z gh 0 0 _ x.home _ _ _ hS (by omega)) rfl ?_
              clear hS
              rintro e w ⟨A5, c5, rfl, hS⟩
              refine ⟨_, rfl, ?_⟩
              refine ⟨HM.s (hS.sb), ?_⟩
              refine D.eff 11 36863 rfl D.wantedN (by kernel_rfl) (by kernel_rfl) (fun _ _ h => h) ?_
              replace hS := hS.fo (R := PL gl x.ld)
              refine Z.cl (plship_z gl x.ld ((i : Int) + 1) (by unfold I64; omega) x.home.h _ _ _ _ hS hld (Reads.of_at (e := 149) (v := .slice A5 x.home.h.length c5) AtF) (by omega)) rfl ?_
              clear hS
              rintro e w ⟨A6, c6, rfl, hS⟩
              refine ⟨_, rfl, ?_⟩
              rw [hsl] at hS ⊢
              dsimp only at hS ⊢
              refine ⟨HM.s (hS.sb), ?_⟩
              refine Sh.dp 12 40959 ?_
              refine Sh.dp 13 49151 ?_
              refine Sh.dp 14 65535 ?_
              refine D.eff 16 131071 rfl D.wantedN (by kernel_rfl) (by kernel_rfl) (fun _ _ h => h) ?_
              refine Z.st hS rfl AtF rfl rfl ?_
              clear hS; intro w hS
              refine ⟨HM.last (by kernel_rfl), ?_⟩
              refine Sh.dp 17 262143 ?_
              refine D.done (by kernel_rfl) ?_
              refine Sh.cut [(7, _)] ?_
              exact ⟨rfl, hS.sb⟩
            exact D.enil
          clear hS
          rintro f1 w _ ⟨rfl, hS⟩
          repeat' (first|refine K ?_|(refine Sh.sa hS ?_;clear hS;intro w hS)|(refine K3 ?_;clear hS;intro g w hS hge)|((first|refine GS ?_ ?_|refine VB ?_ ?_)<;>intro hb<;>(try simp only [JJ] at hb)<;>(try exact JX)))
          refine Sh.cut [] ?_
          exact ⟨x, nb, sv, G, S, H, rfl, ⟨rfl, hI.le (by omega), fun h => h, rfl, rfl, hmsg, hrd, fun k _ => ⟨rfl, rfl, rfl, rfl, rfl⟩, hnb2⟩, hS.sb⟩
    · by_cases hq0 : 0 < (sv i).length
      · have hon : x.on i := by
          by_cases h : x.on i
          · exact h
          · have h1 := (hI.shNil (by omega) h).1
            rw [hmsg i hin] at h1
            have h2 := congrArg List.length h1
            rw [List.length_map, List.length_nil] at h2
            omega
        have hlsv : (sv i).length ≤ B := by have h1 := hI.shB i; rw [hmsg i hin, List.length_map] at h1; exact h1
        have hkb := modM_bd b ((sv i).length : Int) (by omega)
        obtain ⟨kk, hkk⟩ := Int.eq_ofNat_of_zero_le hkb.1
        have hkl : kk < (sv i).length := by omega
        obtain ⟨xm, hxm⟩ : ∃ xm, (sv i)[kk]'hkl = xm := ⟨_, rfl⟩
        have hmem : xm ∈ sv i := by rw [← hxm]; exact List.getElem_mem hkl
        have hrx := hrd i hin xm hmem
        have hmm : xm.m ∈ x.sh i := by rw [hmsg i hin]; exact List.mem_map.2 ⟨xm, hmem, rfl⟩
        obtain ⟨he0, hPI⟩ := hI.take hon hmm
        have hgd : Good (x.fo i).c := by
          obtain ⟨j, hj⟩ := hI.f i hon
          rw [hj.c]
          exact (hI.isH.take j).good.1
        have hlhe := hI.heB i
        obtain ⟨gP, hgP⟩ := Z.Sep_slform hS (e := 131) (sz := 4) (A := (S i).1) (n0 := (sv i).length) (c := (S i).2) (rows := (sv i).map ShV.cells) AtF (by simpa using hq0)
        replace aS : ∀ W L, Sep r [] L W → ∀ {k}, At L k (.sl 135 1 (.slice (some ⟨gS, 0, none⟩) n sc) (((List.range n).map (rsv S fun k => (sv k).length)).map Sv.cells)) → W.rangeAt gS (0 + i * 1) [.slice (some ⟨gP, 0, none⟩) (sv i).length (S i).2] := fun W L h k ha => by have h1 := aS W L h ha; rw [hgP] at h1; exact h1
        replace hS := hS.sub (L' := .sl 131 4 (.slice (S i).1 (sv i).length (S i).2) ((sv i).map ShV.cells) :: .sl 135 1 (.slice (some ⟨gS, 0, none⟩) n sc) (((List.range n).map (rsv S fun k => (sv k).length)).map Sv.cells) :: .blk g3 29 [.int .i64 wh, .int .i64 a, .int .i64 b] :: .blk gx 42 (prC ⟨gh, gg, gl, some ⟨gC, 0, none⟩, cc, some ⟨gF, 0, none⟩, fc, some ⟨gS, 0, none⟩, sc, some ⟨gH, 0, none⟩, hc⟩ n nb x.acked) :: PC gh 0 0 (.pointer (some ⟨gg, 0, .none⟩)) x.home :: GP gg pairG :: PL gl x.ld :: .sl 34 1 (.slice (some ⟨gC, 0, none⟩) n cc) (((List.range n).map c).map ptC) :: .sl 106 1 (.slice (some ⟨gF, 0, none⟩) n fc) (((List.range n).map f).map ptC) :: .sl 140 1 (.slice (some ⟨gH, 0, none⟩) n hc) (((List.range n).map (rsv H fun k => (x.he k).length)).map Sv.cells) :: PC (c i) (i + 1) 0 (vg i) (x.fo i).c :: .blk (f i) 222 [.pointer (some ⟨c i, 0, .none⟩), .int .i64 (x.fo i).seen, .int .i64 (x.fo i).agreed] :: .sl 137 3 (.slice (H i).1 (x.he i).length (H i).2) ((x.he i).map He.cells) :: G :: F) SuF
        rw [hgP] at hS
        have aP : ∀ W L, Sep r [] L W → ∀ {k}, At L k (.sl 131 4 (.slice (some ⟨gP, 0, none⟩) (sv i).length (S i).2) ((sv i).map ShV.cells)) → W.rangeAt gP (0 + kk * 4) xm.cells := fun W L h k ha => row_at (fc := ShV.cells) h ha (by omega) hkl hxm
        rcases h8 with rfl | rfl
        all_goals
          have aS0 := aS _ _ hS (.next .here)
          repeat' (first|refine K ?_|(refine Sh.sa hS ?_;clear hS;intro w hS)|(refine K3 ?_;clear hS;intro g w hS hge)|((first|refine GS ?_ ?_|refine VB ?_ ?_)<;>intro hb<;>(try simp only [JJ] at hb)<;>(try exact JX)))
          refine Z.cut [8, 9, 78, 79, 80, 81, 82, 83, 84, 85, 86, 87, 88, 89, 90, 91, 92, 93, 94, 95, 96, 97, 98, 99, 100, 101, 102, 103, 104, 105, 106, 107, 108] (fun w z => ∃ g8, z = [(8, .pointer (some ⟨g8, 0, .none⟩)), (9, .int .i64 0)] ∧ Sep r [] (.blk g8 137 (takeF (x.fo i) xm.m).2.1.cells :: PC (c i) (i + 1) 0 (vg i) (takeF (x.fo i) xm.m).1.c :: .blk (f i) 222 [.pointer (some ⟨c i, 0, .none⟩), .int .i64 (takeF (x.fo i) xm.m).1.seen, .int .i64 (takeF (x.fo i) xm.m).1.agreed] :: .sl 131 4 (.slice (some ⟨gP, 0, none⟩) (sv i).length (S i).2) ((sv i).map ShV.cells) :: .blk g3 29 [.int .i64 wh, .int .i64 a, .int .i64 b] :: .sl 135 1 (.slice (some ⟨gS, 0, none⟩) n sc) (((List.range n).map (rsv S fun k => (sv k).length)).map Sv.cells) :: .blk gx 42 (prC ⟨gh, gg, gl, some ⟨gC, 0, none⟩, cc, some ⟨gF, 0, none⟩, fc, some ⟨gS, 0, none⟩, sc, some ⟨gH, 0, none⟩, hc⟩ n nb x.acked) :: PC gh 0 0 (.pointer (some ⟨gg, 0, .none⟩)) x.home :: GP gg pairG :: PL gl x.ld :: .sl 34 1 (.slice (some ⟨gC, 0, none⟩) n cc) (((List.range n).map c).map ptC) :: .sl 106 1 (.slice (some ⟨gF, 0, none⟩) n fc) (((List.range n).map f).map ptC) :: .sl 140 1 (.slice (some ⟨gH, 0, none⟩) n hc) (((List.range n).map (rsv H fun k => (x.he k).length)).map Sv.cells) :: .sl 137 3 (.slice (H i).1 (x.he i).length (H i).2) ((x.he i).map He.cells) :: G :: F) w) ?_ ?_
          · refine D.startS (Lr := [.blk gx 42 (prC ⟨gh, gg, gl, some ⟨gC, 0, none⟩, cc, some ⟨gF, 0, none⟩, fc, some ⟨gS, 0, none⟩, sc, some ⟨gH, 0, none⟩, hc⟩ n nb x.acked), .sl 106 1 (.slice (some ⟨gF, 0, none⟩) n fc) (((List.range n).map f).map ptC), .sl 135 1 (.slice (some ⟨gS, 0, none⟩) n sc) (((List.range n).map (rsv S fun k => (sv k).length)).map Sv.cells), .blk g3 29 [.int .i64 wh, .int .i64 a, .int .i64 b], .sl 131 4 (.slice (some ⟨gP, 0, none⟩) (sv i).length (S i).2) ((sv i).map ShV.cells)]) (hS.sb) 32 34 (by kernel_rfl) rfl ?_
            replace hS := hS.drew
            refine Sh.dp 0 1 ?_
            refine Sh.dp 1 3 ?_
            refine Sh.dp 2 7 ?_
            refine Sh.dp 4 23 ?_
            refine Sh.dp 7 151 ?_
            refine Sh.dp 8 407 ?_
            refine Sh.dp 9 919 ?_
            refine Sh.dp 11 2967 ?_
            refine Sh.dp 14 19351 ?_
            refine Sh.dp 16 84887 ?_
            refine Sh.dp 17 215959 ?_
            refine Sh.dp 18 478103 ?_
            refine Sh.dp 20 1526679 ?_
            refine Sh.dl 3 1526687 ?_
            first | refine D.ixn 5 1526719 rfl D.wantedN (by kernel_rfl) rfl rfl rfl (by omega) ?_ | refine D.ix 5 1526719 rfl D.wantedN (by kernel_rfl) rfl rfl rfl (by omega) ?_ | refine D.ia 5 1526719 rfl D.wantedN (by kernel_rfl) rfl rfl rfl (by omega) ?_
            refine D.ldR 6 1526783 rfl D.wantedN (by kernel_rfl) rfl (fun W h => aF W _ h AtF) rfl ?_
            refine Sh.dl 10 1527807 ?_
            first | refine D.ixn 12 1531903 rfl D.wantedN (by kernel_rfl) rfl rfl rfl (by omega) ?_ | refine D.ix 12 1531903 rfl D.wantedN (by kernel_rfl) rfl rfl rfl (by omega) ?_ | refine D.ia 12 1531903 rfl D.wantedN (by kernel_rfl) rfl rfl rfl (by omega) ?_
            refine D.ldR 13 1540095 rfl D.wantedN (by kernel_rfl) rfl (fun W h => aS W _ h AtF) rfl ?_
            refine Sh.dl 15 1572863 ?_
            refine Sh.dl 19 2097151 ?_
            first | refine D.ixn 21 4194303 rfl D.wantedN (by kernel_rfl) rfl rfl rfl (by omega) ?_ | refine D.ix 21 4194303 rfl D.wantedN (by kernel_rfl) rfl rfl rfl (by omega) ?_ | refine D.ia 21 4194303 rfl D.wantedN (by kernel_rfl) rfl rfl rfl (by omega) ?_
            refine D.ldR 22 8388607 rfl D.wantedN (by kernel_rfl) rfl (fun W h => aS W _ h AtF) rfl ?_
            refine Sh.dp 23 16777215 ?_
            refine D.each [24, 31] (by kernel_rfl) rfl ?_
            refine D.econs 24 33554431 rfl D.wantedN (by kernel_rfl) (fun _ _ h => h) ?_ ?_
            · refine Z.cl (mmod_z b ((sv i).length : Int) _ _ _ hS (by omega) (by omega)) rfl ?_
              clear hS
              rintro e w ⟨rfl, hS⟩
              refine ⟨_, rfl, ?_⟩
              rw [hkk]
              refine ⟨HM.s (hS.sb), ?_⟩
              first | refine D.ixn 25 67108863 rfl D.wantedN (by kernel_rfl) rfl rfl rfl (by omega) ?_ | refine D.ix 25 67108863 rfl D.wantedN (by kernel_rfl) rfl rfl rfl (by omega) ?_ | refine D.ia 25 67108863 rfl D.wantedN (by kernel_rfl) rfl rfl rfl (by omega) ?_
              refine D.ldR 26 134217727 rfl D.wantedN (by kernel_rfl) rfl (fun W h => aP W _ h AtF) rfl ?_
              refine D.each [27, 31] (by kernel_rfl) rfl ?_
              refine D.econs 27 268435455 rfl D.wantedN (by kernel_rfl) (fun _ _ h => h) ?_ ?_
              · replace hS := hS.fo (R := PC (c i) (i + 1) 0 (vg i) (x.fo i).c)
                replace hS := hS.fo (R := .blk (f i) 222 [.pointer (some ⟨c i, 0, .none⟩), .int .i64 (x.fo i).seen, .int .i64 (x.fo i).agreed])
                refine Z.cl (ptake_z (f i) (c i) (i + 1) 0 (vg i) (x.fo i) xm.m xm.v _ _ _ hS (hrx.sub SuF) hgd) rfl ?_
                clear hS
                rintro e w ⟨rfl, hS⟩
                refine ⟨_, rfl, ?_⟩
                rw [he0]
                refine ⟨HM.s (hS.sb), ?_⟩
                refine Sh.dp 28 536870911 ?_
                refine Sh.dp 29 1073741823 ?_
                refine Sh.dp 30 2147483647 ?_
                refine D.eff 31 4294967295 rfl D.wantedN (by kernel_rfl) (by kernel_rfl) (fun _ _ h => h) ?_
                refine Z.al hS ?_
                clear hS; intro g w hS hge
                refine ⟨HM.s (hS.sb), ?_⟩
                refine D.eff 32 8589934591 rfl D.wantedN (by kernel_rfl) (by kernel_rfl) (fun _ _ h => h) ?_
                refine Z.st hS rfl AtF rfl rfl ?_
                clear hS; intro w hS
                refine ⟨HM.last (by kernel_rfl), ?_⟩
                refine Sh.dp 33 17179869183 ?_
                refine D.done (by kernel_rfl) ?_
                refine Sh.cut [(8, _), (9, _)] ?_
                exact ⟨_, rfl, hS.sb⟩
              refine D.econs 31 2281701375 rfl D.wantedN (by kernel_rfl) (fun _ _ h => h) ?_ ?_
              · refine Z.al hS ?_
                clear hS; intro g w hS hge
                refine ⟨HM.s (hS.sb), ?_⟩
                refine D.eff 27 2415919103 rfl D.wantedN (by kernel_rfl) (by kernel_rfl) (fun _ _ h => h) ?_
                replace hS := hS.fo (R := PC (c i) (i + 1) 0 (vg i) (x.fo i).c)
                replace hS := hS.fo (R := .blk (f i) 222 [.pointer (some ⟨c i, 0, .none⟩), .int .i64 (x.fo i).seen, .int .i64 (x.fo i).agreed])
                refine Z.cl (ptake_z (f i) (c i) (i + 1) 0 (vg i) (x.fo i) xm.m xm.v _ _ _ hS (hrx.sub SuF) hgd) rfl ?_
                clear hS
                rintro e w ⟨rfl, hS⟩
                refine ⟨_, rfl, ?_⟩
                rw [he0]
                refine ⟨HM.s (hS.sb), ?_⟩
                refine Sh.dp 28 2684354559 ?_
                refine Sh.dp 29 3221225471 ?_
                refine Sh.dp 30 4294967295 ?_
                refine D.eff 32 8589934591 rfl D.wantedN (by kernel_rfl) (by kernel_rfl) (fun _ _ h => h) ?_
                refine Z.st hS rfl AtF rfl rfl ?_
                clear hS; intro w hS
                refine ⟨HM.last (by kernel_rfl), ?_⟩
                refine Sh.dp 33 17179869183 ?_
                refine D.done (by kernel_rfl) ?_
                refine Sh.cut [(8, _), (9, _)] ?_
                exact ⟨_, rfl, hS.sb⟩
              exact D.enil
            refine D.econs 31 2164260863 rfl D.wantedN (by kernel_rfl) (fun _ _ h => h) ?_ ?_
            · refine Z.al hS ?_
              clear hS; intro g w hS hge
              refine ⟨HM.s (hS.sb), ?_⟩
              refine D.eff 24 2181038079 rfl D.wantedN (by kernel_rfl) (by kernel_rfl) (fun _ _ h => h) ?_
              refine Z.cl (mmod_z b ((sv i).length : Int) _ _ _ hS (by omega) (by omega)) rfl ?_
              clear hS
              rintro e w ⟨rfl, hS⟩
              refine ⟨_, rfl, ?_⟩
              rw [hkk]
              refine ⟨HM.s (hS.sb), ?_⟩
              first | refine D.ixn 25 2214592511 rfl D.wantedN (by kernel_rfl) rfl rfl rfl (by omega) ?_ | refine D.ix 25 2214592511 rfl D.wantedN (by kernel_rfl) rfl rfl rfl (by omega) ?_ | refine D.ia 25 2214592511 rfl D.wantedN (by kernel_rfl) rfl rfl rfl (by omega) ?_
              refine D.ldR 26 2281701375 rfl D.wantedN (by kernel_rfl) rfl (fun W h => aP W _ h AtF) rfl ?_
              refine D.eff 27 2415919103 rfl D.wantedN (by kernel_rfl) (by kernel_rfl) (fun _ _ h => h) ?_
              replace hS := hS.fo (R := PC (c i) (i + 1) 0 (vg i) (x.fo i).c)
              replace hS := hS.fo (R := .blk (f i) 222 [.pointer (some ⟨c i, 0, .none⟩), .int .i64 (x.fo i).seen, .int .i64 (x.fo i).agreed])
              refine Z.cl (ptake_z (f i) (c i) (i + 1) 0 (vg i) (x.fo i) xm.m xm.v _ _ _ hS (hrx.sub SuF) hgd) rfl ?_
              clear hS
              rintro e w ⟨rfl, hS⟩
              refine ⟨_, rfl, ?_⟩
              rw [he0]
              refine ⟨HM.s (hS.sb), ?_⟩
              refine Sh.dp 28 2684354559 ?_
              refine Sh.dp 29 3221225471 ?_
              refine Sh.dp 30 4294967295 ?_
              refine D.eff 32 8589934591 rfl D.wantedN (by kernel_rfl) (by kernel_rfl) (fun _ _ h => h) ?_
              refine Z.st hS rfl AtF rfl rfl ?_
              clear hS; intro w hS
              refine ⟨HM.last (by kernel_rfl), ?_⟩
              refine Sh.dp 33 17179869183 ?_
              refine D.done (by kernel_rfl) ?_
              refine Sh.cut [(8, _), (9, _)] ?_
              exact ⟨_, rfl, hS.sb⟩
            exact D.enil
          clear hS
          rintro f1 w _ ⟨g8, rfl, hS⟩
          generalize hto : takeF (x.fo i) xm.m = tkr at *
          obtain ⟨fo2, an, ec⟩ := tkr
          dsimp only at hS he0 hPI
          have hset := fun (A9 : Option Addr) (k9 : Nat) => rsv_set H x.he hin (A9, k9) (x.he i ++ [an])
          repeat' (first|refine K ?_|(refine Sh.sa hS ?_;clear hS;intro w hS)|(refine K3 ?_;clear hS;intro g w hS hge)|((first|refine GS ?_ ?_|refine VB ?_ ?_)<;>intro hb<;>(try simp only [JJ] at hb)<;>(try exact JX)))
          refine D.startS (Lr := [.blk gx 42 (prC ⟨gh, gg, gl, some ⟨gC, 0, none⟩, cc, some ⟨gF, 0, none⟩, fc, some ⟨gS, 0, none⟩, sc, some ⟨gH, 0, none⟩, hc⟩ n nb x.acked), .blk g8 137 an.cells, .sl 140 1 (.slice (some ⟨gH, 0, none⟩) n hc) (((List.range n).map (rsv H fun k => (x.he k).length)).map Sv.cells)]) (hS.sb) 16 17 (by kernel_rfl) rfl ?_
          replace hS := hS.drew
          refine Sh.dp 0 1 ?_
          refine Sh.dp 1 3 ?_
          refine Sh.dp 2 7 ?_
          refine Sh.dp 4 23 ?_
          refine Sh.dp 5 55 ?_
          refine Sh.dp 6 119 ?_
          refine Sh.dp 7 247 ?_
          refine Sh.dp 9 759 ?_
          refine Sh.dl 3 767 ?_
          refine Sh.dl 8 1023 ?_
          first | refine D.ixn 10 2047 rfl D.wantedN (by kernel_rfl) rfl rfl rfl (by omega) ?_ | refine D.ix 10 2047 rfl D.wantedN (by kernel_rfl) rfl rfl rfl (by omega) ?_ | refine D.ia 10 2047 rfl D.wantedN (by kernel_rfl) rfl rfl rfl (by omega) ?_
          refine D.ldR 11 4095 rfl D.wantedN (by kernel_rfl) rfl (fun W h => aH W _ h AtF) rfl ?_
          refine Sh.dl 12 8191 ?_
          refine D.eff 13 16383 rfl D.wantedN (by kernel_rfl) (by kernel_rfl) (fun _ _ h => h) ?_
          refine Z.bs hS rfl rfl rfl ?_
          clear hS; intro g w hS hge
          refine ⟨HM.s (hS.sb), ?_⟩
          refine D.eff 14 32767 rfl D.wantedN (by kernel_rfl) (by kernel_rfl) (fun _ _ h => h) ?_
          refine Z.apm (fc := He.cells) (l := x.he i) (l' := [an]) hS rfl rfl rfl AtF (hS.lit1 AtF rfl rfl) (by (try simp only [maxLen, List.length_take, List.length_drop, List.length_append, List.length_cons, List.length_nil, List.length_map]); omega) (by (try simp only [maxLen, List.length_take, List.length_drop, List.length_append, List.length_cons, List.length_nil, List.length_map]); omega) ?_
          clear hS; intro A9 k9 w hS
          rw [← List.length_append] at hS ⊢
          refine ⟨HM.s (hS.sb), ?_⟩
          first | refine D.ixn 15 65535 rfl D.wantedN (by kernel_rfl) rfl rfl rfl (by omega) ?_ | refine D.ix 15 65535 rfl D.wantedN (by kernel_rfl) rfl rfl rfl (by omega) ?_ | refine D.ia 15 65535 rfl D.wantedN (by kernel_rfl) rfl rfl rfl (by omega) ?_
          refine D.eff 16 131071 rfl D.wantedN (by kernel_rfl) (by kernel_rfl) (fun _ _ h => h) ?_
          refine Z.stF (sz := 1) (j := 0) (⟨A9, (x.he i ++ [an]).length, k9⟩ : Sv) hS rfl AtF (by simpa using hin) rfl rfl rfl (by omega) rfl ?_
          clear hS; intro w hS
          replace hset := hset A9 k9
          dsimp only at hset
          rw [hset] at hS
          refine ⟨HM.last (by kernel_rfl), ?_⟩
          refine D.done (by kernel_rfl) ?_
          repeat' (first|refine K ?_|(refine Sh.sa hS ?_;clear hS;intro w hS)|(refine K3 ?_;clear hS;intro g w hS hge)|((first|refine GS ?_ ?_|refine VB ?_ ?_)<;>intro hb<;>(try simp only [JJ] at hb)<;>(try exact JX)))
          refine Sh.cut [] ?_
          refine ⟨{ x with fo := setN x.fo i fo2, he := setN x.he i (x.he i ++ [an]) }, nb, sv, G, S, setN H i (A9, k9), rfl, ⟨rfl, hPI, fun h => h, rfl, rfl, hmsg, hrd, fun k hk => ⟨setN_ne _ _ hk, setN_ne _ _ hk, rfl, rfl, setN_ne _ _ hk⟩, hnb2⟩, ?_⟩
          simp only [setN_at]
          rw [hgP]
          exact hS.sb
      · have aS0 := aS _ _ hS AtF
        rcases h8 with rfl | rfl
        all_goals
          repeat' (first|refine K ?_|(refine Sh.sa hS ?_;clear hS;intro w hS)|(refine K3 ?_;clear hS;intro g w hS hge)|((first|refine GS ?_ ?_|refine VB ?_ ?_)<;>intro hb<;>(try simp only [JJ] at hb)<;>(try exact JX)))
          refine Sh.cut [] ?_
          exact ⟨x, nb, sv, G, S, H, rfl, ⟨rfl, hI.le (by omega), fun h => h, rfl, rfl, hmsg, hrd, fun k _ => ⟨rfl, rfl, rfl, rfl, rfl⟩, hnb2⟩, hS.sb⟩
    · subst h8
      by_cases hq0 : 0 < (x.he i).length
      · have hon : x.on i := by
          by_cases h : x.on i
          · exact h
          · have h1 := (hI.shNil (by omega) h).2.1
            rw [h1] at hq0
            exact absurd hq0 (by decide)
        have hlhe := hI.heB i
        have hkb := modM_bd b ((x.he i).length : Int) (by omega)
        obtain ⟨kk, hkk⟩ := Int.eq_ofNat_of_zero_le hkb.1
        have hkl : kk < (x.he i).length := by omega
        obtain ⟨xa, hxa⟩ : ∃ xa, (x.he i)[kk]'hkl = xa := ⟨_, rfl⟩
        have hmem : xa ∈ x.he i := by rw [← hxa]; exact List.getElem_mem hkl
        have hhr := hI.hearOn hon (by omega) hmem
        obtain ⟨hPI, hRd⟩ := hI.hear hon hmem
        obtain ⟨gP, hgP⟩ := Z.Sep_slform hS (e := 137) (sz := 3) (A := (H i).1) (n0 := (x.he i).length) (c := (H i).2) (rows := (x.he i).map He.cells) AtF (by simpa using hq0)
        replace aH : ∀ W L, Sep r [] L W → ∀ {k}, At L k (.sl 140 1 (.slice (some ⟨gH, 0, none⟩) n hc) (((List.range n).map (rsv H fun k => (x.he k).length)).map Sv.cells)) → W.rangeAt gH (0 + i * 1) [.slice (some ⟨gP, 0, none⟩) (x.he i).length (H i).2] := fun W L h k ha => by have h1 := aH W L h ha; rw [hgP] at h1; exact h1
        replace hS := hS.sub (L' := .sl 137 3 (.slice (H i).1 (x.he i).length (H i).2) ((x.he i).map He.cells) :: .sl 140 1 (.slice (some ⟨gH, 0, none⟩) n hc) (((List.range n).map (rsv H fun k => (x.he k).length)).map Sv.cells) :: .blk g3 29 [.int .i64 wh, .int .i64 a, .int .i64 b] :: .blk gx 42 (prC ⟨gh, gg, gl, some ⟨gC, 0, none⟩, cc, some ⟨gF, 0, none⟩, fc, some ⟨gS, 0, none⟩, sc, some ⟨gH, 0, none⟩, hc⟩ n nb x.acked) :: PC gh 0 0 (.pointer (some ⟨gg, 0, .none⟩)) x.home :: GP gg pairG :: PL gl x.ld :: .sl 34 1 (.slice (some ⟨gC, 0, none⟩) n cc) (((List.range n).map c).map ptC) :: .sl 106 1 (.slice (some ⟨gF, 0, none⟩) n fc) (((List.range n).map f).map ptC) :: .sl 135 1 (.slice (some ⟨gS, 0, none⟩) n sc) (((List.range n).map (rsv S fun k => (sv k).length)).map Sv.cells) :: PC (c i) (i + 1) 0 (vg i) (x.fo i).c :: .blk (f i) 222 [.pointer (some ⟨c i, 0, .none⟩), .int .i64 (x.fo i).seen, .int .i64 (x.fo i).agreed] :: .sl 131 4 (.slice (S i).1 (sv i).length (S i).2) ((sv i).map ShV.cells) :: G :: F) SuF
        rw [hgP] at hS
        have aP : ∀ W L, Sep r [] L W → ∀ {k}, At L k (.sl 137 3 (.slice (some ⟨gP, 0, none⟩) (x.he i).length (H i).2) ((x.he i).map He.cells)) → W.rangeAt gP (0 + kk * 3) xa.cells := fun W L h k ha => row_at (fc := He.cells) h ha (by omega) hkl hxa
        have aH0 := aH _ _ hS (.next .here)
        repeat' (first|refine K ?_|(refine Sh.sa hS ?_;clear hS;intro w hS)|(refine K3 ?_;clear hS;intro g w hS hge)|((first|refine GS ?_ ?_|refine VB ?_ ?_)<;>intro hb<;>(try simp only [JJ] at hb)<;>(try exact JX)))
        refine D.startS (Lr := [.blk gx 42 (prC ⟨gh, gg, gl, some ⟨gC, 0, none⟩, cc, some ⟨gF, 0, none⟩, fc, some ⟨gS, 0, none⟩, sc, some ⟨gH, 0, none⟩, hc⟩ n nb x.acked), .sl 140 1 (.slice (some ⟨gH, 0, none⟩) n hc) (((List.range n).map (rsv H fun k => (x.he k).length)).map Sv.cells), .blk g3 29 [.int .i64 wh, .int .i64 a, .int .i64 b], .sl 137 3 (.slice (some ⟨gP, 0, none⟩) (x.he i).length (H i).2) ((x.he i).map He.cells)]) (hS.sb) 27 27 (by kernel_rfl) rfl ?_
        replace hS := hS.drew
        refine Sh.dp 0 1 ?_
        refine Sh.dp 1 3 ?_
        refine Sh.dp 2 7 ?_
        refine Sh.dp 4 23 ?_
        first | refine D.sum 5 55 rfl D.wantedN (by kernel_rfl) rfl (by constructor <;> omega) ?_ | refine D.sumW 5 55 rfl D.wantedN (by kernel_rfl) rfl ?_
        refine Sh.dp 6 119 ?_
        refine Sh.dp 7 247 ?_
        refine Sh.dp 8 503 ?_
        refine Sh.dp 10 1527 ?_
        refine Sh.dp 13 9719 ?_
        refine Sh.dp 15 42487 ?_
        refine Sh.dp 16 108023 ?_
        refine Sh.dp 17 239095 ?_
        refine Sh.dp 19 763383 ?_
        refine Sh.dl 3 763391 ?_
        refine Sh.dl 9 763903 ?_
        first | refine D.ixn 11 765951 rfl D.wantedN (by kernel_rfl) rfl rfl rfl (by omega) ?_ | refine D.ix 11 765951 rfl D.wantedN (by kernel_rfl) rfl rfl rfl (by omega) ?_ | refine D.ia 11 765951 rfl D.wantedN (by kernel_rfl) rfl rfl rfl (by omega) ?_
        refine D.ldR 12 770047 rfl D.wantedN (by kernel_rfl) rfl (fun W h => aH W _ h AtF) rfl ?_
        refine Sh.dl 14 786431 ?_
        refine Sh.dl 18 1048575 ?_
        first | refine D.ixn 20 2097151 rfl D.wantedN (by kernel_rfl) rfl rfl rfl (by omega) ?_ | refine D.ix 20 2097151 rfl D.wantedN (by kernel_rfl) rfl rfl rfl (by omega) ?_ | refine D.ia 20 2097151 rfl D.wantedN (by kernel_rfl) rfl rfl rfl (by omega) ?_
        refine D.ldR 21 4194303 rfl D.wantedN (by kernel_rfl) rfl (fun W h => aH W _ h AtF) rfl ?_
        refine Sh.dp 22 8388607 ?_
        refine D.eff 23 16777215 rfl D.wantedN (by kernel_rfl) (by kernel_rfl) (fun _ _ h => h) ?_
        refine Z.cl (mmod_z b ((x.he i).length : Int) _ _ _ hS (by omega) (by omega)) rfl ?_
        clear hS
        rintro e w ⟨rfl, hS⟩
        refine ⟨_, rfl, ?_⟩
        rw [hkk]
        refine ⟨HM.s (hS.sb), ?_⟩
        first | refine D.ixn 24 33554431 rfl D.wantedN (by kernel_rfl) rfl rfl rfl (by omega) ?_ | refine D.ix 24 33554431 rfl D.wantedN (by kernel_rfl) rfl rfl rfl (by omega) ?_ | refine D.ia 24 33554431 rfl D.wantedN (by kernel_rfl) rfl rfl rfl (by omega) ?_
        refine D.ldR 25 67108863 rfl D.wantedN (by kernel_rfl) rfl (fun W h => aP W _ h AtF) rfl ?_
        refine D.eff 26 134217727 rfl D.wantedN (by kernel_rfl) (by kernel_rfl) (fun _ _ h => h) ?_
        replace hS := hS.fo (R := PL gl x.ld)
        refine Z.cl (plhear_z gl x.ld ((i : Int) + 1) (by unfold I64; omega) xa _ _ _ hS hld) rfl ?_
        clear hS
        rintro e w ⟨rfl, hS⟩
        refine ⟨_, rfl, ?_⟩
        rw [hhr] at hS ⊢
        dsimp only at hS ⊢
        refine ⟨HM.s (hS.sb), ?_⟩
        refine D.done (by kernel_rfl) ?_
        repeat' (first|refine K ?_|(refine Sh.sa hS ?_;clear hS;intro w hS)|(refine K3 ?_;clear hS;intro g w hS hge)|((first|refine GS ?_ ?_|refine VB ?_ ?_)<;>intro hb<;>(try simp only [JJ] at hb)<;>(try exact JX)))
        refine Sh.cut [] ?_
        refine ⟨{ x with sd := setN x.sd i (hearS (x.sd i) xa) }, nb, sv, G, S, H, rfl, ⟨rfl, hPI.le (by omega), hRd, rfl, rfl, hmsg, hrd, fun k _ => ⟨rfl, rfl, rfl, rfl, rfl⟩, hnb2⟩, ?_⟩
        rw [hgP]
        exact hS.sb
      · have aH0 := aH _ _ hS AtF
        repeat' (first|refine K ?_|(refine Sh.sa hS ?_;clear hS;intro w hS)|(refine K3 ?_;clear hS;intro g w hS hge)|((first|refine GS ?_ ?_|refine VB ?_ ?_)<;>intro hb<;>(try simp only [JJ] at hb)<;>(try exact JX)))
        refine Sh.cut [] ?_
        exact ⟨x, nb, sv, G, S, H, rfl, ⟨rfl, hI.le (by omega), fun h => h, rfl, rfl, hmsg, hrd, fun k _ => ⟨rfl, rfl, rfl, rfl, rfl⟩, hnb2⟩, hS.sb⟩
    · subst h8
      repeat' (first|refine K ?_|(refine Sh.sa hS ?_;clear hS;intro w hS)|(refine K3 ?_;clear hS;intro g w hS hge)|((first|refine GS ?_ ?_|refine VB ?_ ?_)<;>intro hb<;>(try simp only [JJ] at hb)<;>(try exact JX)))
      refine Sh.cut [] ?_
      exact ⟨x, nb, sv, G, S, H, rfl, ⟨rfl, hI.le (by omega), fun h => h, rfl, rfl, hmsg, hrd, fun k _ => ⟨rfl, rfl, rfl, rfl, rfl⟩, hnb2⟩, hS.sb⟩
  · clear hS
    rintro f0 w _ ⟨x', nb', sv', G', S', H', rfl, ⟨hak, hR⟩, hS⟩
    have hl' := hR.pi.len
    have hld' := hR.pi.ldok (by omega)
    obtain ⟨a2, hak2, ha1, ha2, hPI, hRd⟩ := hR.pi.ack (by omega)
    repeat' (first|refine K ?_|(refine Sh.sa hS ?_;clear hS;intro w hS)|(refine K3 ?_;clear hS;intro g w hS hge)|((first|refine GS ?_ ?_|refine VB ?_ ?_)<;>intro hb<;>(try simp only [JJ] at hb)<;>(try exact JX)))
    refine D.startS (Lr := [.blk gx 42 (prC ⟨gh, gg, gl, some ⟨gC, 0, none⟩, cc, some ⟨gF, 0, none⟩, fc, some ⟨gS, 0, none⟩, sc, some ⟨gH, 0, none⟩, hc⟩ n nb' x'.acked)]) (hS.sb) 13 14 (by kernel_rfl) rfl ?_
    replace hS := hS.drew
    refine Sh.dp 0 1 ?_
    refine Sh.dp 1 3 ?_
    refine Sh.dp 2 7 ?_
    refine Sh.dp 3 15 ?_
    refine Sh.dp 5 47 ?_
    refine Sh.dp 6 111 ?_
    refine Sh.dp 7 239 ?_
    refine Sh.dl 4 255 ?_
    refine Sh.dl 8 511 ?_
    refine D.eff 9 1023 rfl D.wantedN (by kernel_rfl) (by kernel_rfl) (fun _ _ h => h) ?_
    replace hS := hS.fo (R := PC gh 0 0 (.pointer (some ⟨gg, 0, .none⟩)) x'.home)
    refine Z.cl (pclen_z gh 0 0 _ x'.home _ _ _ hS) rfl ?_
    clear hS
    rintro e w ⟨rfl, hS⟩
    refine ⟨_, rfl, ?_⟩
    refine ⟨HM.s (hS.sb), ?_⟩
    refine D.eff 10 2047 rfl D.wantedN (by kernel_rfl) (by kernel_rfl) (fun _ _ h => h) ?_
    replace hS := hS.fo (R := PL gl x'.ld)
    refine Z.cl (plack_z gl x'.ld _ _ _ _ hS hld') rfl ?_
    clear hS
    rintro e w ⟨rfl, hS⟩
    refine ⟨_, rfl, ?_⟩
    rw [hak2] at hS ⊢
    dsimp only at hS ⊢
    refine ⟨HM.s (hS.sb), ?_⟩
    refine Sh.dp 11 4095 ?_
    refine Sh.dp 12 8191 ?_
    refine D.eff 13 16383 rfl D.wantedN (by kernel_rfl) (by kernel_rfl) (fun _ _ h => h) ?_
    refine Z.st hS rfl AtF rfl rfl ?_
    clear hS; intro w hS
    refine ⟨HM.last (by kernel_rfl), ?_⟩
    refine D.done (by kernel_rfl) ?_
    repeat' (first|refine K ?_|(refine Sh.sa hS ?_;clear hS;intro w hS)|(refine K3 ?_;clear hS;intro g w hS hge)|((first|refine GS ?_ ?_|refine VB ?_ ?_)<;>intro hb<;>(try simp only [JJ] at hb)<;>(try exact JX)))
    refine D.startS (Lr := [.blk gx 42 (prC ⟨gh, gg, gl, some ⟨gC, 0, none⟩, cc, some ⟨gF, 0, none⟩, fc, some ⟨gS, 0, none⟩, sc, some ⟨gH, 0, none⟩, hc⟩ n nb' a2)]) (hS.sb) 19 19 (by kernel_rfl) rfl ?_
    replace hS := hS.drew
    refine Sh.dp 0 1 ?_
    refine Sh.dp 1 3 ?_
    refine Sh.dp 2 7 ?_
    refine Sh.dp 4 23 ?_
    refine Sh.dl 3 31 ?_
    refine Sh.dp 5 63 ?_
    refine Sh.dp 6 127 ?_
    refine D.slot 188 rfl (fun hb => ?_) (fun hb => by exfalso; (try simp only [decide_eq_true_eq, decide_eq_false_iff_not, Bool.not_eq_true', Bool.not_eq_false', Int.not_lt, Int.not_le] at hb) <;> first | omega | exact hb trivial | cases hb | simp at hb)
    (try simp only [decide_eq_true_eq, decide_eq_false_iff_not, Bool.not_eq_true', Bool.not_eq_false', Int.not_lt, Int.not_le] at hb)
    refine Sh.dp 7 255 ?_
    refine Sh.dp 8 511 ?_
    refine Sh.dp 9 1023 ?_
    refine Sh.dp 11 3071 ?_
    refine Sh.dp 12 7167 ?_
    refine Sh.dp 13 15359 ?_
    refine Sh.dl 10 16383 ?_
    refine Sh.dl 14 32767 ?_
    refine D.eff 15 65535 rfl (D.wantedT rfl rfl) (by kernel_rfl) (by kernel_rfl) (fun _ _ h => h) ?_
    refine WE.guard ?_
    replace hS := hS.fo (R := PC gh 0 0 (.pointer (some ⟨gg, 0, .none⟩)) x'.home)
    refine Z.cl (pclen_z gh 0 0 _ x'.home _ _ _ hS) rfl ?_
    clear hS
    rintro e w ⟨rfl, hS⟩
    refine ⟨_, rfl, ?_⟩
    refine ⟨HM.s (hS.sb), ?_⟩
    refine Sh.dp 16 131071 ?_
    refine Sh.dp 17 262143 ?_
    refine Sh.dp 18 524287 ?_
    refine D.done (by kernel_rfl) ?_
    repeat' (first|refine K ?_|(refine Sh.sa hS ?_;clear hS;intro w hS)|(refine K3 ?_;clear hS;intro g w hS hge)|((first|refine GS ?_ ?_|refine VB ?_ ?_)<;>intro hb<;>(try simp only [JJ] at hb)<;>(try exact JX)))
    refine Dnt Tryz.results10 ?_
    exact ⟨{ x' with acked := a2 }, nb', sv', G', S', H', by simp [Z.packR, ha2], ⟨hPI, fun h => hRd (hR.rdy h), hR.two, hR.lag, hR.msg, hR.rd, hR.oth, hR.nb⟩, hS.sb⟩
end Go.Proofs.YtfmnjbhncnldmaaGreat
