/-
  Which waves are permitted, and what is wrong with others: the program's Check answers as the reference's.
-/
import Derived.Test.YtmgpionlfemhdaaGreatNXi
import Derived.Test.YtmgpionlfemhdaaGreatNXj
namespace Go.Proofs.YtmgpionlfemhdaaGreat
open Go.RowKit Go.ChangeShapes Go.WideShapes Go.ChangeAt
set_option linter.unusedSimpArgs false
set_option linter.unusedVariables false

/-- Waves, and where they lie. -/
structure Ws where
  W : List Wv
  B : Option Addr
  C : Nat
def Ws.cells (x : Ws) : List Value := [.slice x.B x.W.length x.C]
theorem ws_ok (l : List Ws) : ∀ row, row ∈ l.map Ws.cells → row.length = 1 ∧ ∀ u, u ∈ row → u.oneCell' = true := by
  intro row hr
  obtain ⟨x, _, rfl⟩ := List.mem_map.1 hr
  exact ⟨rfl, by simp [Ws.cells, Value.oneCell']⟩
theorem wv_flat (l : List Wv) : ((l.map Wv.cells).flatten).length = l.length := by
  rw [flatten_length (sz := 1) fun row hr => (wv_ok l row hr).1]
  simp
/-- Some of a block's rows. -/
theorem sub_rows {α : Type} {c : α → List Value} {sz : Nat} (hc : ∀ x, (c x).length = sz) {l : List α} {cs : List Value} (hct : cs.take (l.length * sz) = (l.map c).flatten) (a m : Nat) (h : a + m ≤ l.length) : (cs.drop (a * sz)).take (m * sz) = (((l.drop a).take m).map c).flatten := by
  have hlen : ∀ l : List α, ((l.map c).flatten).length = l.length * sz := fun l => by rw [flatten_length (sz := sz) fun row hr => by obtain ⟨x, _, rfl⟩ := List.mem_map.1 hr; exact hc x, List.length_map]
  have h1 : l = l.take a ++ ((l.drop a).take m ++ (l.drop a).drop m) := by rw [List.take_append_drop, List.take_append_drop]
  have h2 : cs = cs.take (l.length * sz) ++ cs.drop (l.length * sz) := (List.take_append_drop _ _).symm
  rw [hct] at h2
  conv at h2 => rhs; rw [h1]
  rw [List.map_append, List.flatten_append, List.map_append, List.flatten_append] at h2
  rw [h2, List.append_assoc, List.drop_left' (by rw [hlen, List.length_take, Nat.min_eq_left (by omega)]), List.append_assoc]
  exact List.take_left' (by rw [hlen, List.length_take, List.length_drop, Nat.min_eq_left (by omega)])
theorem mk_bds5 {c : Cfg} {s : Sta} {l : List Int} {W : List Wv} (ho : c.ok) (h : W.map Wv.l = (mkR c s l).1) : W.length ≤ l.length ∧ ∀ x, x ∈ W → x.l.length ≤ l.length := by
  obtain ⟨h1, h2⟩ := mkR_bd (c := c) (s := s) (l := l) ho.b.1
  rw [← h] at h1 h2
  exact ⟨by simpa using h1, fun x hx => h2 _ (List.mem_map.2 ⟨x, hx, rfl⟩)⟩
set_option maxHeartbeats 8000000 in
theorem checks37_z (l : List Int) (A : Option Addr) (cap : Nat) (l2 : List Int) (A2 : Option Addr) (cap2 : Nat) (pk : Bool) (l3 : List Int) (A3 : Option Addr) (cap3 : Nat) (Wr : List Wv) (Br : Option Addr) (Cr : Nat) (dz : Int) (r : World) (hr0 : Rows' r 1 (.slice A l.length cap) (l.map ztC)) (hr1 : Rows' r 1 (.slice A2 l2.length cap2) (l2.map ztC)) (hr3 : Rows' r 1 (.slice A3 l3.length cap3) (l3.map ztC)) (hr4 : Rows' r 1 (.slice Br Wr.length Cr) (Wr.map Wv.cells) ∧ ∀ x, x ∈ Wr → Rows' r 1 (.slice x.A x.l.length x.c) (x.l.map ztC)) (_ : -9223372036854775808 ≤ dz ∧ dz ≤ 9223372036854775807) :
    Calls Tryz.prog 5 #[.slice A l.length cap, .slice A2 l2.length cap2, .bool pk, .slice A3 l3.length cap3, .slice Br Wr.length Cr, .int .i64 dz] r fun e w' => e = .returned (.bool true) ∧ Chg [] r w' := by
  have hS := Sep.root r
  refine Z.enter Tryz.func5 Tryz.ntmps5 rfl rfl ?_
  repeat' (first|refine K ?_|(refine Sh.sa hS ?_;clear hS;intro w hS)|(refine K3 ?_;clear hS;intro g w hS hge)|((first|refine GS ?_ ?_|refine VB ?_ ?_)<;>intro hb<;>(try simp only [J1,J2,J3,J4,J5,J6] at hb)<;>(try (exfalso;first|omega|exact hb trivial))))
  refine Z.eff (Z.cl (awake37_z r [] _ hS) rfl ?_) rfl
  clear hS
  rintro e w ⟨rfl, hS⟩
  refine ⟨_, rfl, ?_⟩
  repeat' (first|refine K ?_|(refine Sh.sa hS ?_;clear hS;intro w hS)|(refine K3 ?_;clear hS;intro g w hS hge)|((first|refine GS ?_ ?_|refine VB ?_ ?_)<;>intro hb<;>(try simp only [J1,J2,J3,J4,J5,J6] at hb)<;>(try (exfalso;first|omega|exact hb trivial))))
  refine Z.eff (Z.cl (lightS_z A l.length cap _ _ _ hS) rfl ?_) rfl
  clear hS
  rintro e w ⟨rfl, hS⟩
  refine ⟨_, rfl, ?_⟩
  repeat' (first|refine K ?_|(refine Sh.sa hS ?_;clear hS;intro w hS)|(refine K3 ?_;clear hS;intro g w hS hge)|((first|refine GS ?_ ?_|refine VB ?_ ?_)<;>intro hb<;>(try simp only [J1,J2,J3,J4,J5,J6] at hb)<;>(try (exfalso;first|omega|exact hb trivial))))
  · refine Dnt Tryz.results5 ?_
    exact ⟨rfl, hS.chg⟩
  rename _ ≤ (150 : Int) => hl1
  refine Z.eff (Z.cl (lightS_z A2 l2.length cap2 _ _ _ hS) rfl ?_) rfl
  clear hS
  rintro e w ⟨rfl, hS⟩
  refine ⟨_, rfl, ?_⟩
  repeat' (first|refine K ?_|(refine Sh.sa hS ?_;clear hS;intro w hS)|(refine K3 ?_;clear hS;intro g w hS hge)|((first|refine GS ?_ ?_|refine VB ?_ ?_)<;>intro hb<;>(try simp only [J1,J2,J3,J4,J5,J6] at hb)<;>(try (exfalso;first|omega|exact hb trivial))))
  · refine Dnt Tryz.results5 ?_
    exact ⟨rfl, hS.chg⟩
  rename _ ≤ (150 : Int) => hl2

  refine Z.eff (Z.cl (lightS_z A3 l3.length cap3 _ _ _ hS) rfl ?_) rfl
  clear hS
  rintro e w ⟨rfl, hS⟩
  refine ⟨_, rfl, ?_⟩
  repeat' (first|refine K ?_|(refine Sh.sa hS ?_;clear hS;intro w hS)|(refine K3 ?_;clear hS;intro g w hS hge)|((first|refine GS ?_ ?_|refine VB ?_ ?_)<;>intro hb<;>(try simp only [J1,J2,J3,J4,J5,J6] at hb)<;>(try (exfalso;first|omega|exact hb trivial))))
  · refine Dnt Tryz.results5 ?_
    exact ⟨rfl, hS.chg⟩
  rename _ ≤ (150 : Int) => hl3
  · refine Dnt Tryz.results5 ?_
    exact ⟨rfl, hS.chg⟩
  have hWr : Wr.length ≤ 20 := by omega
  refine Z.lpS [12, 13, 50, 51, 52, 53, 54, 55, 56, 57, 58, 59] (fun m w z => ∃ i : Nat, z = [(50, .int .i64 i)] ∧ i ≤ Wr.length ∧ (∀ j (hj : j < Wr.length), j < i → (Wr[j]).l.length ≤ 20) ∧ m = Wr.length - i ∧ Sep r [] [] w) _ [(50, .int .i64 (0 : Nat))] (by repeat (first | exact trivial | refine ⟨rfl, ?_⟩)) ⟨0, rfl, by omega, fun j _ h => absurd h (by omega), rfl, hS⟩ ?_
  clear hS
  rintro m f0 w _ ⟨i, rfl, hi, hall, rfl, hS⟩
  by_cases hlt : i < Wr.length
  · obtain ⟨gb, o, hB, hra⟩ := (WvR.root (F := []) hr4).get [] hS hlt
    subst hB
    have hnx : (Wr[i]).l.length ≤ 20 → ∀ j (hj : j < Wr.length), j < i + 1 → (Wr[j]).l.length ≤ 20 := fun h j hj hji => by
      rcases Nat.lt_or_ge j i with h3 | h3
      · exact hall j hj h3
      · have : j = i := by omega
        subst this
        exact h
    generalize Wr[i] = x at *
    obtain ⟨lx, Ax, cx⟩ := x
    repeat' (first|refine K ?_|(refine Sh.sa hS ?_;clear hS;intro w hS)|(refine K3 ?_;clear hS;intro g w hS hge)|((first|refine GS ?_ ?_|refine VB ?_ ?_)<;>intro hb<;>(try simp only [J1,J2,J3,J4,J5,J6] at hb)<;>(try (exfalso;first|omega|exact hb trivial))))
    · refine Dnt Tryz.results5 ?_
      exact ⟨rfl, hS.chg⟩
    · refine Sh.again (Wr.length - (i + 1)) [(50, .int .i64 (i + 1 : Nat))] ?_
      exact ⟨i + 1, rfl, by omega, hnx (by show lx.length ≤ 20; omega), rfl, hS⟩
  have hWx : ∀ x, x ∈ Wr → x.l.length ≤ 100 := fun x hx => by
    obtain ⟨j, hj, rfl⟩ := List.mem_iff_getElem.1 hx
    exact Nat.le_trans (hall j hj (by omega)) (by omega)
  repeat' (first|refine K ?_|(refine Sh.sa hS ?_;clear hS;intro w hS)|(refine K3 ?_;clear hS;intro g w hS hge)|((first|refine GS ?_ ?_|refine VB ?_ ?_)<;>intro hb<;>(try simp only [J1,J2,J3,J4,J5,J6] at hb)<;>(try (exfalso;first|omega|exact hb trivial))))
  clear hall hi hlt hb
  refine Z.eff (Z.cl (worlds_z A l cap A2 l2 cap2 pk r [] _ hS (Reads.root hr0) (Reads.root hr1) (by omega) (by omega)) rfl ?_) rfl
  clear hS
  rintro e w ⟨c, a, s, b, rfl, ho, hs, hS⟩
  refine ⟨_, rfl, ?_⟩
  have hk := ho.k
  repeat' (first|refine K ?_|(refine Sh.sa hS ?_;clear hS;intro w hS)|(refine K3 ?_;clear hS;intro g w hS hge)|((first|refine GS ?_ ?_|refine VB ?_ ?_)<;>intro hb<;>(try simp only [J1,J2,J3,J4,J5,J6] at hb)<;>(try (exfalso;first|omega|exact hb trivial))))
  rename_i gc _ _ _ _
  rename Nat => gs
  replace hS := Z.nilsl hS 3 1 none
  refine Z.lpS [16, 17, 70, 71, 72, 73, 74, 75, 76, 77] (fun m w z => ∃ (i : Nat) (o : List Int) (A4 : Option Addr) (c4 : Nat), z = [(16, .slice A4 o.length c4), (70, .int .i64 i)] ∧ i ≤ c.cells.length ∧ o.length = i ∧ m = c.cells.length - i ∧ Sep r [] (.sl 3 1 (.slice A4 o.length c4) (o.map ztC) :: .blk gs 34 (s.cc c b) :: .blk gc 30 (c.cl a) :: CO c a :: SO c s b :: []) w) _ [(16, .slice none 0 0), (70, .int .i64 (0 : Nat))] (by repeat (first | exact trivial | refine ⟨rfl, ?_⟩)) ⟨0, [], none, 0, rfl, by omega, rfl, rfl, hS.sb⟩ ?_
  clear hS
  rintro m f0 w _ ⟨i, o, A4, c4, rfl, hi, hol, rfl, hS⟩
  by_cases hlt : i < c.cells.length
  · repeat' (first|refine K ?_|(refine Sh.sa hS ?_;clear hS;intro w hS)|(refine K3 ?_;clear hS;intro g w hS hge)|((first|refine GS ?_ ?_|refine VB ?_ ?_)<;>intro hb<;>(try simp only [J1,J2,J3,J4,J5,J6] at hb)<;>(try (exfalso;first|omega|exact hb trivial))))
    refine Z.eff (Z.apm (l' := [(i : Int)]) hS rfl rfl rfl (by repeat (first | exact At.here | apply At.next)) (hS.lit1 (by repeat (first | exact At.here | apply At.next)) rfl rfl) (by (try simp only [maxLen, List.length_take, List.length_drop, List.length_append, List.length_cons, List.length_nil, List.length_map]); omega) (by (try simp only [maxLen, List.length_take, List.length_drop, List.length_append, List.length_cons, List.length_nil, List.length_map]); omega) ?_) rfl
    clear hS; intro A' c' w hS
    rw [← List.length_append] at hS ⊢
    repeat' (first|refine K ?_|(refine Sh.sa hS ?_;clear hS;intro w hS)|(refine K3 ?_;clear hS;intro g w hS hge)|((first|refine GS ?_ ?_|refine VB ?_ ?_)<;>intro hb<;>(try simp only [J1,J2,J3,J4,J5,J6] at hb)<;>(try (exfalso;first|omega|exact hb trivial))))
    refine Sh.again (c.cells.length - (i + 1)) [(16, _), (70, .int .i64 (i + 1 : Nat))] ?_
    exact ⟨i + 1, o ++ [(i : Int)], A', c', rfl, by omega, by simp; omega, rfl, hS.sb⟩
  repeat' (first|refine K ?_|(refine Sh.sa hS ?_;clear hS;intro w hS)|(refine K3 ?_;clear hS;intro g w hS hge)|((first|refine GS ?_ ?_|refine VB ?_ ?_)<;>intro hb<;>(try simp only [J1,J2,J3,J4,J5,J6] at hb)<;>(try (exfalso;first|omega|exact hb trivial))))
  refine Z.eff (Z.cl (rmake_z c a s b A4 o c4 _ _ _ hS (CfR.of_co (k := _) (by repeat (first | exact At.here | apply At.next))) ho hs (StC.of_so (k := _) (by repeat (first | exact At.here | apply At.next))) (Reads.of_at (e := 3) .here) (by omega)) rfl ?_) rfl
  clear hS
  rintro e w ⟨W, B, C, rfl, hW, hS⟩
  refine ⟨_, rfl, ?_⟩
  obtain ⟨hW1, hW2⟩ := mk_bds5 ho hW
  have hWl : W.length ≤ 16 := by omega
  have hWx2 : ∀ x, x ∈ W → x.l.length ≤ 16 := fun x hx => Nat.le_trans (hW2 x hx) (by omega)
  generalize (mkR c s o).2 = er at *
  clear hW hW1 hW2 hi hlt hb hol
  repeat' (first|refine K ?_|(refine Sh.sa hS ?_;clear hS;intro w hS)|(refine K3 ?_;clear hS;intro g w hS hge)|((first|refine GS ?_ ?_|refine VB ?_ ?_)<;>intro hb<;>(try simp only [J1,J2,J3,J4,J5,J6] at hb)<;>(try (exfalso;first|omega|exact hb trivial))))
  refine Z.eff (Z.ap0m (fc := Wv.cells) (l := W) hS rfl rfl rfl ((WvR.of_at (k := _) (F := _) (by repeat (first | exact At.here | apply At.next))).out [] _ hS) (by (try simp only [maxLen, List.length_take, List.length_drop, List.length_append, List.length_cons, List.length_nil, List.length_map]); omega) (by (try simp only [maxLen, List.length_take, List.length_drop, List.length_append, List.length_cons, List.length_nil, List.length_map]); omega) ?_) rfl
  clear hS; intro B2 C2 w hS
  repeat' (first|refine Kn ?_|(refine Sh.sa hS ?_;clear hS;intro w hS)|(refine K3 ?_;clear hS;intro g w hS hge)|((first|refine GS ?_ ?_|refine VB ?_ ?_)<;>intro hb<;>(try simp only [J1,J2,J3,J4,J5,J6] at hb)<;>(try (exfalso;first|omega|exact hb trivial))))
  refine Z.thN ?_
  refine Z.seq ?_
  replace hS := hS.sub (L' := .sl 22 1 (.slice B2 W.length C2) (W.map Wv.cells) :: WO B C W :: .blk gs 34 (s.cc c b) :: .blk gc 30 (c.cl a) :: CO c a :: SO c s b :: []) (by repeat (first | exact Sub.rest | exact Sub.nil | exact .skip .rest | exact .skip (.skip .rest) | exact .skip (.skip (.skip .rest)) | apply Sub.keep | refine Sub.cons (by repeat (first | exact At.here | apply At.next)) ?_ | apply Sub.skip))
  refine Z.cut [20, 21, 88, 89, 90, 91, 92, 93, 94, 95, 96, 97, 98, 99, 100, 101, 102, 103, 104, 105, 106, 107, 108, 109, 110, 111, 112, 113, 114, 115, 116, 117, 118, 119] (fun w z => ∃ (Wn : List Wv) (Bn : Option Addr) (Cn : Nat) (m : Wv), z = [(20, .slice Bn Wn.length Cn)] ∧ (∀ x, x ∈ Wn → x ∈ W ∨ x = m) ∧ Wn.length ≤ 16 ∧ m.l.length ≤ 100 ∧ Sep r [] (.sl 22 1 (.slice Bn Wn.length Cn) (Wn.map Wv.cells) :: m.res :: WO B C W :: .blk gs 34 (s.cc c b) :: .blk gc 30 (c.cl a) :: CO c a :: SO c s b :: []) w) ?_ ?_
  · by_cases hW1 : 1 < W.length
    · have hmb := modN_bd dz (W.length - 1) (by omega)
      obtain ⟨gB, rfl⟩ := Z.Sep_slform hS (rows := W.map Wv.cells) .here (by simpa using (by omega : 0 < W.length))
      repeat' (first|refine K ?_|(refine Sh.sa hS ?_;clear hS;intro w hS)|(refine K3 ?_;clear hS;intro g w hS hge)|((first|refine GS ?_ ?_|refine VB ?_ ?_)<;>intro hb<;>(try simp only [J1,J2,J3,J4,J5,J6] at hb)<;>(try (exfalso;first|omega|exact hb trivial))))
      refine Z.eff (Z.cl (modS_z dz (W.length - 1) _ _ _ hS (by omega) (by omega)) rfl ?_) rfl
      clear hS
      rintro e w ⟨rfl, hS⟩
      refine ⟨_, rfl, ?_⟩
      obtain ⟨k, hk2⟩ := Int.eq_ofNat_of_zero_le hmb.1
      rw [hk2]
      have hk1 : k + 1 < W.length := by omega
      have hk0 : k < W.length := by omega
      clear hmb hk2
      repeat' (first|refine K ?_|(refine Sh.sa hS ?_;clear hS;intro w hS)|(refine K3 ?_;clear hS;intro g w hS hge)|((first|refine GS ?_ ?_|refine VB ?_ ?_)<;>intro hb<;>(try simp only [J1,J2,J3,J4,J5,J6] at hb)<;>(try (exfalso;first|omega|exact hb trivial))))
      have hrx : ∀ X, Sep r [] (.sl 22 1 (.slice (some ⟨gB, 0, none⟩) W.length C2) (W.map Wv.cells) :: WO B C W :: .blk gs 34 (s.cc c b) :: .blk gc 30 (c.cl a) :: CO c a :: SO c s b :: []) X → X.rangeAt gB (0 + k * 1) (W[k]).cells := fun X h => by
        have h3 := (h.slrows .here).elem (q := k) (by omega) hk0
        simpa using h3
      have hry : ∀ X, Sep r [] (.sl 22 1 (.slice (some ⟨gB, 0, none⟩) W.length C2) (W.map Wv.cells) :: WO B C W :: .blk gs 34 (s.cc c b) :: .blk gc 30 (c.cl a) :: CO c a :: SO c s b :: []) X → X.rangeAt gB (0 + (k + 1) * 1) (W[k + 1]).cells := fun X h => by
        have h3 := (h.slrows .here).elem (q := k + 1) (by omega) hk1
        simpa using h3
      have hinx := (WvR.of_at (r := r) (F := .sl 22 1 (.slice (some ⟨gB, 0, none⟩) W.length C2) (W.map Wv.cells) :: WO B C W :: .blk gs 34 (s.cc c b) :: .blk gc 30 (c.cl a) :: CO c a :: SO c s b :: []) (k := _) (B := B) (C := C) (W := W) (by repeat (first | exact At.here | apply At.next))).inn _ (List.getElem_mem hk0)
      have hiny := (WvR.of_at (r := r) (F := .sl 22 1 (.slice (some ⟨gB, 0, none⟩) W.length C2) (W.map Wv.cells) :: WO B C W :: .blk gs 34 (s.cc c b) :: .blk gc 30 (c.cl a) :: CO c a :: SO c s b :: []) (k := _) (B := B) (C := C) (W := W) (by repeat (first | exact At.here | apply At.next))).inn _ (List.getElem_mem hk1)
      have hlx := hWx2 _ (List.getElem_mem hk0)
      have hly := hWx2 _ (List.getElem_mem hk1)
      obtain ⟨x, hX⟩ : ∃ x, W[k] = x := ⟨_, rfl⟩
      obtain ⟨y, hY⟩ : ∃ y, W[k + 1] = y := ⟨_, rfl⟩
      rw [hX] at hrx hinx hlx
      rw [hY] at hry hiny hly
      obtain ⟨lx, Ax, cx⟩ := x
      obtain ⟨ly, Ay, cy⟩ := y
      simp only at hinx hiny hlx hly
      refine D.startS hS 15 16 (by kernel_rfl) rfl ?_
      replace hS := hS.drew
      refine Sh.dp 0 1 ?_
      refine Sh.dp 1 3 ?_
      refine Sh.dp 3 11 ?_
      refine Sh.dp 4 27 ?_
      first | refine D.ixn 5 59 rfl D.wantedN (by kernel_rfl) rfl rfl rfl (by omega) ?_ | refine D.ix 5 59 rfl D.wantedN (by kernel_rfl) rfl rfl rfl (by omega) ?_ | refine D.ia 5 59 rfl D.wantedN (by kernel_rfl) rfl rfl rfl (by omega) ?_
      refine Sh.dp 8 315 ?_
      refine Sh.dp 9 827 ?_
      first | refine D.sum 10 1851 rfl D.wantedN (by kernel_rfl) rfl (by constructor <;> omega) ?_ | refine D.sumW 10 1851 rfl D.wantedN (by kernel_rfl) rfl ?_
      first | refine D.ixn 11 3899 rfl D.wantedN (by kernel_rfl) rfl rfl rfl (by omega) ?_ | refine D.ix 11 3899 rfl D.wantedN (by kernel_rfl) rfl rfl rfl (by omega) ?_ | refine D.ia 11 3899 rfl D.wantedN (by kernel_rfl) rfl rfl rfl (by omega) ?_
      refine D.ldR 6 3963 rfl D.wantedN (by kernel_rfl) rfl hrx rfl ?_
      refine D.ldR 12 8059 rfl D.wantedN (by kernel_rfl) rfl hry rfl ?_
      refine D.eff 2 8063 rfl D.wantedN (by kernel_rfl) (by kernel_rfl) (fun _ _ h => h) ?_
      refine Z.bs hS rfl rfl rfl ?_
      clear hS; intro g2 w hS hge2
      refine ⟨HM.s (hS.sb), ?_⟩
      refine D.eff 7 8191 rfl D.wantedN (by kernel_rfl) (by kernel_rfl) (fun _ _ h => h) ?_
      refine Z.ap0m (fc := ztC) (l := lx) hS rfl rfl rfl (hinx [_] _ hS) (by (try simp only [maxLen, List.length_take, List.length_drop, List.length_append, List.length_cons, List.length_nil, List.length_map]); omega) (by (try simp only [maxLen, List.length_take, List.length_drop, List.length_append, List.length_cons, List.length_nil, List.length_map]); omega) ?_
      clear hS; intro A5 c5 w hS
      refine ⟨HM.s (hS.sb), ?_⟩
      refine D.eff 13 16383 rfl D.wantedN (by kernel_rfl) (by kernel_rfl) (fun _ _ h => h) ?_
      refine Z.apm (l' := ly) hS rfl rfl rfl (by repeat (first | exact At.here | apply At.next)) (hiny [_, _] _ hS) (by (try simp only [maxLen, List.length_take, List.length_drop, List.length_append, List.length_cons, List.length_nil, List.length_map]); omega) (by (try simp only [maxLen, List.length_take, List.length_drop, List.length_append, List.length_cons, List.length_nil, List.length_map]); omega) ?_
      clear hS; intro A6 c6 w hS
      rw [← List.length_append] at hS ⊢
      refine ⟨HM.s (hS.sb), ?_⟩
      first | refine D.ixn 14 32767 rfl D.wantedN (by kernel_rfl) rfl rfl rfl (by omega) ?_ | refine D.ix 14 32767 rfl D.wantedN (by kernel_rfl) rfl rfl rfl (by omega) ?_ | refine D.ia 14 32767 rfl D.wantedN (by kernel_rfl) rfl rfl rfl (by omega) ?_
      refine D.eff 15 65535 rfl D.wantedN (by kernel_rfl) (by kernel_rfl) (fun _ _ h => h) ?_
      refine Z.stF (j := 0) (fc := Wv.cells) (⟨lx ++ ly, A6, c6⟩ : Wv) hS rfl (by repeat (first | exact At.here | apply At.next)) hk0 rfl rfl rfl (by omega) rfl ?_
      clear hS; intro w hS
      refine ⟨HM.last (by kernel_rfl), ?_⟩
      refine D.done (by kernel_rfl) ?_
      have hVm : ∀ z, z ∈ W.set k ⟨lx ++ ly, A6, c6⟩ → z ∈ W ∨ z = ⟨lx ++ ly, A6, c6⟩ := fun z hz => by
        rcases List.mem_or_eq_of_mem_set hz with h | h
        · exact .inl h
        · exact .inr h
      have hVl : (W.set k ⟨lx ++ ly, A6, c6⟩).length = W.length := List.length_set ..
      generalize W.set k ⟨lx ++ ly, A6, c6⟩ = V at *
      replace hS := hS.sub (L' := .sl 22 1 (.slice (some ⟨gB, 0, none⟩) W.length C2) (V.map Wv.cells) :: .sl 3 1 (.slice A6 (lx ++ ly).length c6) ((lx ++ ly).map ztC) :: WO B C W :: .blk gs 34 (s.cc c b) :: .blk gc 30 (c.cl a) :: CO c a :: SO c s b :: []) (by repeat (first | exact Sub.rest | exact Sub.nil | exact .skip .rest | exact .skip (.skip .rest) | exact .skip (.skip (.skip .rest)) | apply Sub.keep | refine Sub.cons (by repeat (first | exact At.here | apply At.next)) ?_ | apply Sub.skip))
      obtain ⟨gB', cs, hA, _, hnc, hcm, hcl, hct, _, hS⟩ := open_sl hS (by simp; omega)
      injection hA with hA
      injection hA with hA _ _
      subst hA
      rw [← hVl] at hct
      have hsub := fun a m h => sub_rows (c := Wv.cells) (sz := 1) (fun _ => rfl) (l := V) (cs := cs) hct a m h
      have hta : cs.take (k + 1) = ((V.take (k + 1)).map Wv.cells).flatten := by have := hsub 0 (k + 1) (by omega); simpa using this
      have hdj : (cs.drop (k + 2)).take ((W.length - (k + 2)) * 1) = ((V.drop (k + 2)).map Wv.cells).flatten := by
        have := hsub (k + 2) (V.length - (k + 2)) (by omega)
        rw [List.take_of_length_le (l := V.drop (k + 2)) (by simp)] at this
        rw [Nat.mul_one, Nat.mul_one, hVl] at this
        rw [Nat.mul_one]
        exact this
      have hal : ((V.take (k + 1)).map Wv.cells).flatten.length = k + 1 := by rw [wv_flat, List.length_take]; omega
      have hbl : ((V.drop (k + 2)).map Wv.cells).flatten.length = W.length - (k + 2) := by rw [wv_flat, List.length_drop, hVl]
      repeat' (first|refine K ?_|(refine Sh.sa hS ?_;clear hS;intro w hS)|(refine K3 ?_;clear hS;intro g w hS hge)|((first|refine GS ?_ ?_|refine VB ?_ ?_)<;>intro hb<;>(try simp only [J1,J2,J3,J4,J5,J6] at hb)<;>(try (exfalso;first|omega|exact hb trivial))))
      by_cases hic : k + 2 < C2
      · refine D.startS (Lr := ([] : List Res)) (hS.sb) 10 10 (by kernel_rfl) rfl ?_
        replace hS := hS.drew
        refine Sh.dp 0 1 ?_
        refine Sh.dp 1 3 ?_
        first | refine D.sum 2 7 rfl D.wantedN (by kernel_rfl) rfl (by constructor <;> omega) ?_ | refine D.sumW 2 7 rfl D.wantedN (by kernel_rfl) rfl ?_
        refine D.pl 3 15 rfl D.wantedN (by kernel_rfl) (R.upto rfl rfl rfl (by omega)) ?_
        refine Sh.dp 4 31 ?_
        refine Sh.dp 5 63 ?_
        first | refine D.sum 6 127 rfl D.wantedN (by kernel_rfl) rfl (by constructor <;> omega) ?_ | refine D.sumW 6 127 rfl D.wantedN (by kernel_rfl) rfl ?_
        refine D.pl 7 255 rfl D.wantedN (by kernel_rfl) (R.sinceL rfl rfl rfl (by omega) (by omega)) ?_
        refine D.eff 8 511 rfl D.wantedN (by kernel_rfl) (by kernel_rfl) (fun _ _ h => h) ?_
        refine Z.apf (sLen := k + 1) (m := W.length - (k + 2)) (ys := (V.drop (k + 2)).map Wv.cells) hS rfl rfl rfl (by repeat (first | exact At.here | apply At.next)) (by rw [show 0 + ((k : Int) + 2).toNat * 1 = k + 2 by omega]; exact rows_mid (o := k + 2) (hS.bk) (wv_ok _) (by simp [hVl]) (Nat.le_refl _) hdj) (by omega) (by rw [hcl]; omega) ?_
        clear hS; intro w hS
        refine ⟨HM.s (hS.sb), ?_⟩
        refine Sh.dp 9 1023 ?_
        refine D.done (by kernel_rfl) ?_
        skip
        have h3 := close_sl (sz := 1) (rows := (V.take (k + 1) ++ V.drop (k + 2)).map Wv.cells) (c := C2) hS (by omega) hcm (by simp only [List.length_append, List.length_take, List.length_drop, hcl, hbl]; omega) (by simp; omega) (by
          have e1 : ((V.take (k + 1) ++ V.drop (k + 2)).map Wv.cells).length * 1 = k + 1 + (W.length - (k + 2)) := by simp [hVl]; omega
          rw [e1, Nat.mul_one, hta, List.map_append, List.flatten_append]
          exact List.take_left' (by rw [List.length_append, hal, hbl])) (wv_ok _)
        have hVn : (V.take (k + 1) ++ V.drop (k + 2)).length = k + 1 + (W.length - (k + 2)) := by simp [hVl]; omega
        rw [List.length_map] at h3
        rw [← hVn]
        refine Z.cutE [(20, _)] (by repeat (first | with_reducible exact Same.refl | with_reducible exact Same.mix | ((with_reducible refine Same.upd ?_ ?_); · rfl) | ((with_reducible refine Same.cons ?_ ?_); · rfl) | with_reducible refine Same.nil ?_ | ((with_reducible refine Same.mixS ?_ ?_); · rfl))) (by repeat (first | exact trivial | refine ⟨rfl, ?_⟩)) ?_
        refine ⟨V.take (k + 1) ++ V.drop (k + 2), some ⟨gB, 0, none⟩, C2, ⟨lx ++ ly, A6, c6⟩, rfl, fun z hz => ?_, by rw [hVn]; omega, by simp; omega, h3.sub (by repeat (first | exact Sub.rest | exact Sub.nil | exact .skip .rest | exact .skip (.skip .rest) | exact .skip (.skip (.skip .rest)) | apply Sub.keep | refine Sub.cons (by repeat (first | exact At.here | apply At.next)) ?_ | apply Sub.skip))⟩
        rcases List.mem_append.1 hz with h | h
        · exact hVm z (List.mem_of_mem_take h)
        · exact hVm z (List.mem_of_mem_drop h)
      · refine D.startS (Lr := ([] : List Res)) (hS.sb) 10 10 (by kernel_rfl) rfl ?_
        replace hS := hS.drew
        refine Sh.dp 0 1 ?_
        refine Sh.dp 1 3 ?_
        first | refine D.sum 2 7 rfl D.wantedN (by kernel_rfl) rfl (by constructor <;> omega) ?_ | refine D.sumW 2 7 rfl D.wantedN (by kernel_rfl) rfl ?_
        refine D.pl 3 15 rfl D.wantedN (by kernel_rfl) (R.upto rfl rfl rfl (by omega)) ?_
        refine Sh.dp 4 31 ?_
        refine Sh.dp 5 63 ?_
        first | refine D.sum 6 127 rfl D.wantedN (by kernel_rfl) rfl (by constructor <;> omega) ?_ | refine D.sumW 6 127 rfl D.wantedN (by kernel_rfl) rfl ?_
        refine D.pl 7 255 rfl D.wantedN (by kernel_rfl) (R.sinceE rfl rfl rfl (by omega) (by omega)) ?_
        refine D.eff 8 511 rfl D.wantedN (by kernel_rfl) (by kernel_rfl) (fun _ _ h => h) ?_
        refine Z.apf (sLen := k + 1) (m := W.length - (k + 2)) (ys := (V.drop (k + 2)).map Wv.cells) hS rfl rfl rfl (by repeat (first | exact At.here | apply At.next)) (rows_mid (o := 0) (hS.bk) (wv_ok _) (by simp [hVl]) (Nat.le_refl _) (by have h1 : V.drop (k + 2) = [] := List.drop_eq_nil_of_le (by omega); rw [h1, show W.length - (k + 2) = 0 by omega]; simp)) (by omega) (by rw [hcl]; omega) ?_
        clear hS; intro w hS
        refine ⟨HM.s (hS.sb), ?_⟩
        refine Sh.dp 9 1023 ?_
        refine D.done (by kernel_rfl) ?_
        skip
        have h3 := close_sl (sz := 1) (rows := (V.take (k + 1) ++ V.drop (k + 2)).map Wv.cells) (c := C2) hS (by omega) hcm (by simp only [List.length_append, List.length_take, List.length_drop, hcl, hbl]; omega) (by simp; omega) (by
          have e1 : ((V.take (k + 1) ++ V.drop (k + 2)).map Wv.cells).length * 1 = k + 1 + (W.length - (k + 2)) := by simp [hVl]; omega
          rw [e1, Nat.mul_one, hta, List.map_append, List.flatten_append]
          exact List.take_left' (by rw [List.length_append, hal, hbl])) (wv_ok _)
        have hVn : (V.take (k + 1) ++ V.drop (k + 2)).length = k + 1 + (W.length - (k + 2)) := by simp [hVl]; omega
        rw [List.length_map] at h3
        rw [← hVn]
        refine Z.cutE [(20, _)] (by repeat (first | with_reducible exact Same.refl | with_reducible exact Same.mix | ((with_reducible refine Same.upd ?_ ?_); · rfl) | ((with_reducible refine Same.cons ?_ ?_); · rfl) | with_reducible refine Same.nil ?_ | ((with_reducible refine Same.mixS ?_ ?_); · rfl))) (by repeat (first | exact trivial | refine ⟨rfl, ?_⟩)) ?_
        refine ⟨V.take (k + 1) ++ V.drop (k + 2), some ⟨gB, 0, none⟩, C2, ⟨lx ++ ly, A6, c6⟩, rfl, fun z hz => ?_, by rw [hVn]; omega, by simp; omega, h3.sub (by repeat (first | exact Sub.rest | exact Sub.nil | exact .skip .rest | exact .skip (.skip .rest) | exact .skip (.skip (.skip .rest)) | apply Sub.keep | refine Sub.cons (by repeat (first | exact At.here | apply At.next)) ?_ | apply Sub.skip))⟩
        rcases List.mem_append.1 hz with h | h
        · exact hVm z (List.mem_of_mem_take h)
        · exact hVm z (List.mem_of_mem_drop h)
    · repeat' (first|refine K ?_|(refine Sh.sa hS ?_;clear hS;intro w hS)|(refine K3 ?_;clear hS;intro g w hS hge)|((first|refine GS ?_ ?_|refine VB ?_ ?_)<;>intro hb<;>(try simp only [J1,J2,J3,J4,J5,J6] at hb)<;>(try (exfalso;first|omega|exact hb trivial))))
      replace hS := Z.nilsl hS 3 1 none
      refine Z.cutE [(20, _)] (by repeat (first | with_reducible exact Same.refl | with_reducible exact Same.mix | ((with_reducible refine Same.upd ?_ ?_); · rfl) | ((with_reducible refine Same.cons ?_ ?_); · rfl) | with_reducible refine Same.nil ?_ | ((with_reducible refine Same.mixS ?_ ?_); · rfl))) (by repeat (first | exact trivial | refine ⟨rfl, ?_⟩)) ?_
      exact ⟨W, B2, C2, ⟨[], none, 0⟩, rfl, fun x hx => .inl hx, by omega, by simp, hS.sb⟩
  clear hS
  rintro f1 w _ ⟨Wn, Bn, Cn, m, rfl, hWn, hWnl, hml, hS⟩
  repeat' (first|refine K ?_|(refine Sh.sa hS ?_;clear hS;intro w hS)|(refine K3 ?_;clear hS;intro g w hS hge)|((first|refine GS ?_ ?_|refine VB ?_ ?_)<;>intro hb<;>(try simp only [J1,J2,J3,J4,J5,J6] at hb)<;>(try (exfalso;first|omega|exact hb trivial))))
  refine Z.eff (Z.cl (made_z c a A3 l3 cap3 _ _ _ hS ho (Reads.root hr3) (by omega)) rfl ?_) rfl
  clear hS
  rintro e w ⟨Wm, Bm, Cm, rfl, hWml, hWmx, hS⟩
  refine ⟨_, rfl, ?_⟩
  repeat' (first|refine K ?_|(refine Sh.sa hS ?_;clear hS;intro w hS)|(refine K3 ?_;clear hS;intro g w hS hge)|((first|refine GS ?_ ?_|refine VB ?_ ?_)<;>intro hb<;>(try simp only [J1,J2,J3,J4,J5,J6] at hb)<;>(try (exfalso;first|omega|exact hb trivial))))
  rename Nat => gx
  replace hS := hS.fo (R := .blk gx _ _)
  replace hS := mk_sl (sz := 1) (n := 4) (rows := [(⟨Wr, Br, Cr⟩ : Ws), ⟨Wm, Bm, Cm⟩, ⟨W, B, C⟩, ⟨Wn, Bn, Cn⟩].map Ws.cells) hS rfl (by omega) (by decide) (ws_ok _) rfl
  replace hS := hS.sub (L' := .sl 40 1 (.slice (some ⟨gx, 0, none⟩) 4 4) ([(⟨Wr, Br, Cr⟩ : Ws), ⟨Wm, Bm, Cm⟩, ⟨W, B, C⟩, ⟨Wn, Bn, Cn⟩].map Ws.cells) :: WO Bm Cm Wm :: .sl 22 1 (.slice Bn Wn.length Cn) (Wn.map Wv.cells) :: m.res :: WO B C W :: .blk gs 34 (s.cc c b) :: .blk gc 30 (c.cl a) :: CO c a :: SO c s b :: []) (by repeat (first | exact Sub.rest | exact Sub.nil | exact .skip .rest | exact .skip (.skip .rest) | exact .skip (.skip (.skip .rest)) | apply Sub.keep | refine Sub.cons (by repeat (first | exact At.here | apply At.next)) ?_ | apply Sub.skip))
  refine Z.lpS [12, 23, 24, 25, 26, 27, 128, 129, 130, 131, 132, 133, 134, 135, 136, 137, 138, 139, 140, 141, 142, 143, 144, 145, 146, 147, 148, 149, 150, 151, 152, 153, 154] (fun mm w z => ∃ i : Nat, z = [(128, .int .i64 i)] ∧ i ≤ 4 ∧ mm = 4 - i ∧ Sep r [] (.sl 40 1 (.slice (some ⟨gx, 0, none⟩) 4 4) ([(⟨Wr, Br, Cr⟩ : Ws), ⟨Wm, Bm, Cm⟩, ⟨W, B, C⟩, ⟨Wn, Bn, Cn⟩].map Ws.cells) :: WO Bm Cm Wm :: .sl 22 1 (.slice Bn Wn.length Cn) (Wn.map Wv.cells) :: m.res :: WO B C W :: .blk gs 34 (s.cc c b) :: .blk gc 30 (c.cl a) :: CO c a :: SO c s b :: []) w) _ [(128, .int .i64 (0 : Nat))] (by repeat (first | exact trivial | refine ⟨rfl, ?_⟩)) ⟨0, rfl, by omega, rfl, hS⟩ ?_
  clear hS
  rintro _ f2 w _ ⟨i, rfl, hi, rfl, hS⟩
  by_cases hlt : i < 4
  · have hlt2 : i < [(⟨Wr, Br, Cr⟩ : Ws), ⟨Wm, Bm, Cm⟩, ⟨W, B, C⟩, ⟨Wn, Bn, Cn⟩].length := hlt
    have hra : w.rangeAt gx (0 + i * 1) ([(⟨Wr, Br, Cr⟩ : Ws), ⟨Wm, Bm, Cm⟩, ⟨W, B, C⟩, ⟨Wn, Bn, Cn⟩][i]).cells := by
      have h3 := (hS.slrows .here).elem (q := i) (by omega) hlt2
      simpa using h3
    have hin : ∀ x, x ∈ [(⟨Wr, Br, Cr⟩ : Ws), ⟨Wm, Bm, Cm⟩, ⟨W, B, C⟩, ⟨Wn, Bn, Cn⟩] → (x.W.length ≤ 100 ∧ ∀ y, y ∈ x.W → y.l.length ≤ 100) ∧ WvR r (.sl 40 1 (.slice (some ⟨gx, 0, none⟩) 4 4) ([(⟨Wr, Br, Cr⟩ : Ws), ⟨Wm, Bm, Cm⟩, ⟨W, B, C⟩, ⟨Wn, Bn, Cn⟩].map Ws.cells) :: WO Bm Cm Wm :: .sl 22 1 (.slice Bn Wn.length Cn) (Wn.map Wv.cells) :: m.res :: WO B C W :: .blk gs 34 (s.cc c b) :: .blk gc 30 (c.cl a) :: CO c a :: SO c s b :: []) x.B x.C x.W := fun x hx => by
      simp only [List.mem_cons, List.not_mem_nil, or_false] at hx
      rcases hx with rfl | rfl | rfl | rfl
      · exact ⟨⟨by show Wr.length ≤ 100; omega, hWx⟩, WvR.root hr4⟩
      · exact ⟨⟨by show Wm.length ≤ 100; omega, fun y hy => Nat.le_trans (hWmx y hy) (by omega)⟩, WvR.of_at (k := _) (by repeat (first | exact At.here | apply At.next))⟩
      · exact ⟨⟨by show W.length ≤ 100; omega, fun y hy => Nat.le_trans (hWx2 y hy) (by omega)⟩, WvR.of_at (k := _) (by repeat (first | exact At.here | apply At.next))⟩
      · refine ⟨⟨by show Wn.length ≤ 100; omega, fun y hy => ?_⟩, ⟨Reads.of_at (e := 22) (by repeat (first | exact At.here | apply At.next)), fun y hy => ?_⟩⟩
        · rcases hWn y hy with h | rfl
          · exact Nat.le_trans (hWx2 y h) (by omega)
          · exact hml
        · rcases hWn y hy with h | rfl
          · exact (WvR.of_at (k := _) (B := B) (C := C) (W := W) (by repeat (first | exact At.here | apply At.next))).inn y h
          · exact Reads.of_at (e := 3) (.next (.next (.next .here)))
    replace hin := hin _ (List.getElem_mem hlt2)
    generalize [(⟨Wr, Br, Cr⟩ : Ws), ⟨Wm, Bm, Cm⟩, ⟨W, B, C⟩, ⟨Wn, Bn, Cn⟩][i] = x at *
    obtain ⟨Wx, Bx, Cx⟩ := x
    obtain ⟨⟨hx1, hx2⟩, hin⟩ := hin
    simp only at hx1 hx2 hin
    repeat' (first|refine K ?_|(refine Sh.sa hS ?_;clear hS;intro w hS)|(refine K3 ?_;clear hS;intro g w hS hge)|((first|refine GS ?_ ?_|refine VB ?_ ?_)<;>intro hb<;>(try simp only [J1,J2,J3,J4,J5,J6] at hb)<;>(try (exfalso;first|omega|exact hb trivial))))
    clear hra
    refine Z.eff (Z.cl (pcheck_z c a s b Bx Cx Wx _ _ _ hS (CfR.of_co (k := _) (by repeat (first | exact At.here | apply At.next))) ho hs (StC.of_so (k := _) (by repeat (first | exact At.here | apply At.next))) hin hx1 hx2) rfl ?_) rfl
    clear hS
    rintro e w ⟨q1, e1, rfl, hc1, hS⟩
    refine ⟨_, rfl, ?_⟩
    repeat' (first|refine K ?_|(refine Sh.sa hS ?_;clear hS;intro w hS)|(refine K3 ?_;clear hS;intro g w hS hge)|((first|refine GS ?_ ?_|refine VB ?_ ?_)<;>intro hb<;>(try simp only [J1,J2,J3,J4,J5,J6] at hb)<;>(try (exfalso;first|omega|exact hb trivial))))
    refine Z.eff (Z.cl (rcheck_z c a s b Bx Cx Wx _ _ _ hS (CfR.of_co (k := _) (by repeat (first | exact At.here | apply At.next))) ho hs (StC.of_so (k := _) (by repeat (first | exact At.here | apply At.next))) hin hx1 hx2) rfl ?_) rfl
    clear hS
    rintro e w ⟨q2, e2, rfl, hc2, hS⟩
    refine ⟨_, rfl, ?_⟩
    obtain ⟨rfl, rfl⟩ := hc1.one hc2
    repeat' (first|refine K ?_|(refine Sh.sa hS ?_;clear hS;intro w hS)|(refine K3 ?_;clear hS;intro g w hS hge)|((first|refine GS ?_ ?_|refine VB ?_ ?_)<;>intro hb<;>(try simp only [J1,J2,J3,J4,J5,J6] at hb)<;>(try (exfalso;first|omega|exact hb trivial))))
    refine Sh.again (4 - (i + 1)) [(128, .int .i64 (i + 1 : Nat))] ?_
    exact ⟨i + 1, rfl, by omega, rfl, hS⟩
  · repeat' (first|refine K ?_|(refine Sh.sa hS ?_;clear hS;intro w hS)|(refine K3 ?_;clear hS;intro g w hS hge)|((first|refine GS ?_ ?_|refine VB ?_ ?_)<;>intro hb<;>(try simp only [J1,J2,J3,J4,J5,J6] at hb)<;>(try (exfalso;first|omega|exact hb trivial))))
    refine Dnt Tryz.results5 ?_
    exact ⟨rfl, hS.chg⟩
set_option maxRecDepth 100000 in
theorem waveChecks_lifted (os : Os) (started : os.Started) (H : Type) (enc : TypeId × Value → H) :
    ReturnsInHanded {} Tryz.checked os 5 .any (Rows.waveChecksSpec.pre6 enc Tryz.prog Tryz.f5 Rows.waveChecksRow.domain false) (Rows.waveChecksSpec.post enc Tryz.prog Tryz.f5 false Rows.waveChecksRow.fresh Rows.waveChecksRow.handsOn Rows.waveChecksRow.again) := by
  refine returnsInHanded_of_change (C := Tryz.checked) Tryz.own started (by kernel_rfl) Tryz.func5
    (ChangeSpec.witness6 (enc := enc) (C := Tryz.checked) false ⟨#[], #[.slice none 0 0, .slice none 0 0, .bool false, .slice none 0 0, .slice none 0 0, .int .i64 0], []⟩ 8 (by kernel_rfl) (by kernel_rfl) (by kernel_rfl) (by kernel_rfl)) ?_
  intro W base args ds gs before hval0 hW _ _
  have hval : ∀ (j : Nat) t v, Tryz.f5.params[j]? = some t → args[j]? = some v → Value.okWide Tryz.prog W .any base t v := hval0
  have hW0 := hW
  obtain ⟨p, q, hA0, hV, hpq, _, _⟩ := hW
  obtain ⟨la⟩ := args
  have hA : DataW.TrodAll enc Tryz.prog W 0 (fun _ => true) true [22, 22, 4, 22, 40, 3] la ds p := by have := hA0; rw [Tryz.params5] at this; exact this
  rw [Tryz.params5] at hval
  obtain ⟨v0, la0, d0, ds0, p0, q0, rfl, rfl, rfl, h0, hA⟩ := trodAll_cons hA
  obtain ⟨v1, la1, d1, ds1, p1, q1, rfl, rfl, rfl, h1, hA⟩ := trodAll_cons hA
  obtain ⟨v2, la2, d2, ds2, p2, q2, rfl, rfl, rfl, h2, hA⟩ := trodAll_cons hA
  obtain ⟨v3, la3, d3, ds3, p3, q3, rfl, rfl, rfl, h3, hA⟩ := trodAll_cons hA
  obtain ⟨v4, la4, d4, ds4, p4, q4, rfl, rfl, rfl, h4, hA⟩ := trodAll_cons hA
  obtain ⟨v5, la5, d5, ds5, p5, q5, rfl, rfl, rfl, h5, hA⟩ := trodAll_cons hA
  obtain ⟨rfl, rfl, rfl⟩ := trodAll_nil hA
  obtain ⟨l0, A0, cap0, rfl, _, hr0⟩ := arg_intsr (hval 0 _ _ rfl rfl) h0
  obtain ⟨l1, A1, cap1, rfl, _, hr1⟩ := arg_intsr (hval 1 _ _ rfl rfl) h1
  obtain ⟨b2, rfl⟩ := arg_bool (hval 2 _ _ rfl rfl) h2
  obtain ⟨l3, A3, cap3, rfl, _, hr3⟩ := arg_intsr (hval 3 _ _ rfl rfl) h3
  obtain ⟨l4, A4, cap4, rfl, hr4⟩ := arg_intss (hval 4 _ _ rfl rfl) h4
  obtain ⟨z5, rfl, hr5⟩ := arg_int (hval 5 _ _ rfl rfl) h5
  have fin : Calls Tryz.prog 5 _ W fun e W' => e = .returned (.bool true) ∧ Chg [] W W' := checks37_z l0 A0 cap0 l1 A1 cap1 b2 l3 A3 cap3 l4 A4 cap4 z5 W hr0 hr1  hr3 hr4 hr5
  refine fin.mono fun e W' ⟨he, hc⟩ => ⟨_, he, ?_⟩
  exact law_post Tryz.laidOut (by rw [Tryz.params5]; intro t ht; simp only [List.mem_cons, List.not_mem_nil, or_false] at ht; rcases ht with rfl | rfl | rfl | rfl | rfl | rfl <;> exact ⟨by kernel_rfl, of_decide_eq_true (by kernel_rfl)⟩) rfl rfl Tryz.underlying4 rfl hW0 hc.below
theorem waveChecks_holds : Rows.WaveChecksSaid :=
  OpenClaim.holds_of_wide 5 Tryz.f5 rfl rfl rfl rfl rfl rfl rfl ⟨rfl, rfl, rfl, rfl, rfl⟩ rfl rfl rfl rfl rfl (by kernel_rfl) Tryz.func5 (by kernel_rfl)
    (of_decide_eq_true (by kernel_rfl)) (by unfold Func.isWrapper; rw [if_neg (of_decide_eq_false (by kernel_rfl))]; exact ⟨rfl, rfl⟩)
    (fun os started H enc _ => waveChecks_lifted os started H enc)
end Go.Proofs.YtmgpionlfemhdaaGreat
