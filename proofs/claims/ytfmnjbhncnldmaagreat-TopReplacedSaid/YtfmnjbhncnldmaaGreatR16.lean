import Derived.Test.YtfmnjbhncnldmaaGreatR03
import Derived.Test.YtfmnjbhncnldmaaGreatR12
import Derived.Test.YtfmnjbhncnldmaaGreatR15
set_option linter.unusedSimpArgs false
set_option linter.unusedVariables false
namespace Go.Proofs.YtfmnjbhncnldmaaGreat
open Go.RowKit
attribute [local irreducible] Res.blk Res.sl Res.all Res.ex Res.pure Res.star
theorem Sub.pre {F F' : List Res} (hs : Sub F' F) : ∀ L : List Res, Sub (L ++ F') (L ++ F)
  | [] => hs
  | _ :: L => .keep (Sub.pre hs L)
theorem Reads.sub {r : World} {F F' : List Res} {sz : Nat} {v : Value} {rows : List (List Value)} (h : Reads r F sz v rows) (hs : Sub F' F) : Reads r F' sz v rows :=
  fun L w hS => h L w (hS.sub (Sub.pre hs L))
def Shp.val (m : Shp) (v : Value) : Value := .agg #[.int .i64 m.ep, .int .i64 m.seq, .int .i64 m.before, v]
def He.cells (a : He) : List Value := [.int .i64 a.ep, .int .i64 a.applied, .bool a.ok]
def He.val (a : He) : Value := .agg a.cells.toArray
theorem shipB_no {m : Shp} (h : ¬ headOk m) : shipB m = false := by unfold shipB; simp [h]
set_option maxHeartbeats 4000000 in
theorem pships_z (m : Shp) (v : Value) (r : World) (F : List Res) (w : World) (hS : Sep r [] F w) (hrd : Reads r F 8 v (m.ch.map Ch.cells)) :
    Calls Tryz.prog 113 #[m.val v] w fun e w' => e = .returned (.bool (shipB m)) ∧ Sep r [] F w' := by
  obtain ⟨A, c, rfl, hc⟩ := (hrd [] w hS).mform
  refine Z.enter Tryz.func113 Tryz.ntmps113 rfl rfl ?_
  repeat' (first|refine K ?_|(refine Sh.sa hS ?_;clear hS;intro w hS)|(refine K3 ?_;clear hS;intro g w hS hge)|((first|refine GS ?_ ?_|refine VB ?_ ?_)<;>intro hb<;>(try simp only [JJ] at hb)<;>(try exact JX)))
  · refine Dnt Tryz.results113 ?_
    exact ⟨by rw [shipB_no (by unfold headOk; omega)]; rfl, hS.tail⟩
  · refine Dnt Tryz.results113 ?_
    exact ⟨by rw [shipB_no (by unfold headOk; omega)]; rfl, hS.tail⟩
  · refine Dnt Tryz.results113 ?_
    exact ⟨by rw [shipB_no (by unfold headOk; omega)]; rfl, hS.tail⟩
  · refine Dnt Tryz.results113 ?_
    exact ⟨by rw [shipB_no (by unfold headOk; omega)]; rfl, hS.tail⟩
  · refine Dnt Tryz.results113 ?_
    exact ⟨by rw [shipB_no (by unfold headOk; omega)]; rfl, hS.tail⟩
  · refine Dnt Tryz.results113 ?_
    exact ⟨by rw [shipB_no (by unfold headOk; omega)]; rfl, hS.tail⟩
  · refine Dnt Tryz.results113 ?_
    have h7 : ¬ (m.seq = 0 ↔ m.before = 0) := by intro h; simp [h] at hb
    exact ⟨by rw [shipB_no (by unfold headOk; omega)]; rfl, hS.tail⟩
  · refine Dnt Tryz.results113 ?_
    exact ⟨by rw [shipB_no (by unfold headOk; omega)]; rfl, hS.tail⟩
  have h7 : m.seq = 0 ↔ m.before = 0 := by simpa using ‹(decide (m.seq = 0) == decide (m.before = 0)) = true›
  have hh : headOk m := by unfold headOk; omega
  have hR : chsOk m.ch (m.seq + 1) m.before m.ep = shipB m := by unfold shipB; simp [hh]
  have hh1 := hh
  unfold headOk at hh1
  rename Nat => gm
  refine Z.lpS [2, 3, 4, 5, 56, 57, 58, 59, 60, 61, 62, 63, 64, 65, 66, 67, 68, 69, 70, 71, 72, 73, 74, 75, 76, 77, 78, 79, 80, 81, 82, 83, 84, 85, 86, 87, 88, 89] (fun m' w s => ∃ (k : Nat) (b : Int), s = [(3, .int .i64 b), (56, .int .i64 k)] ∧ k ≤ m.ch.length ∧ chsOk (m.ch.drop k) (m.seq + 1 + k) b m.ep = shipB m ∧ m' = m.ch.length - k ∧ Sep r [] (.blk gm 131 [.int .i64 m.ep, .int .i64 m.seq, .int .i64 m.before, .slice A m.ch.length c] :: F) w) _ [(3, .int .i64 m.before), (56, .int .i64 (0 : Nat))] (by repeat (first | exact trivial | refine ⟨rfl, ?_⟩)) ⟨0, m.before, rfl, by omega, by simpa using hR, rfl, hS⟩ ?_
  clear hS
  rintro m' f0 w _ ⟨k, b, rfl, hk, hR, rfl, hS⟩
  by_cases hlt : k < m.ch.length
  · obtain ⟨gb, o, rfl, _, hra⟩ := (hrd [_] w hS).mat (by omega) hlt
    rw [chsOk_drop hlt] at hR
    generalize m.ch[k] = x at *
    repeat' (first|refine K ?_|(refine Sh.sa hS ?_;clear hS;intro w hS)|(refine K3 ?_;clear hS;intro g w hS hge)|((first|refine GS ?_ ?_|refine VB ?_ ?_)<;>intro hb<;>(try simp only [JJ] at hb)<;>(try exact JX)))
    refine Z.eff (Z.cl (svalid_any x _) rfl ?_) rfl
    rintro e w' ⟨rfl, hC⟩
    refine ⟨_, rfl, ?_⟩
    replace hS := hS.ext hC
    clear hC
    repeat' (first|refine K ?_|(refine Sh.sa hS ?_;clear hS;intro w hS)|(refine K3 ?_;clear hS;intro g w hS hge)|((first|refine GS ?_ ?_|refine VB ?_ ?_)<;>intro hb<;>(try simp only [JJ] at hb)<;>(try exact JX)))
    · refine Dnt Tryz.results113 ?_
      rw [if_neg (by rintro ⟨h1, h2, h3, h4⟩; rw [h1] at hb; cases hb)] at hR
      exact ⟨by rw [← hR]; rfl, hS.sb⟩
    · refine Dnt Tryz.results113 ?_
      rw [if_neg (by rintro ⟨h1, h2, h3, h4⟩; omega)] at hR
      exact ⟨by rw [← hR]; rfl, hS.sb⟩
    · refine Dnt Tryz.results113 ?_
      rw [if_neg (by rintro ⟨h1, h2, h3, h4⟩; omega)] at hR
      exact ⟨by rw [← hR]; rfl, hS.sb⟩
    · refine Dnt Tryz.results113 ?_
      rw [if_neg (by rintro ⟨h1, h2, h3, h4⟩; omega)] at hR
      exact ⟨by rw [← hR]; rfl, hS.sb⟩
    · refine Sh.again (m.ch.length - (k + 1)) [(3, .int .i64 x.epoch), (56, .int .i64 (k + 1 : Nat))] ?_
      rw [if_pos ⟨by assumption, by omega, by omega, by omega⟩] at hR
      exact ⟨k + 1, x.epoch, rfl, by omega, by rw [← hR]; congr 1; omega, rfl, hS.sb⟩
  · repeat' (first|refine K ?_|(refine Sh.sa hS ?_;clear hS;intro w hS)|(refine K3 ?_;clear hS;intro g w hS hge)|((first|refine GS ?_ ?_|refine VB ?_ ?_)<;>intro hb<;>(try simp only [JJ] at hb)<;>(try exact JX)))
    refine Dnt Tryz.results113 ?_
    rw [List.drop_eq_nil_of_le (by omega)] at hR
    exact ⟨by rw [← hR]; rfl, hS.tail⟩
instance : HasM Tryz.prog 153 3 151 (.agg #[.bool false, .int .i64 0, .int .i64 0]) := ⟨Tryz.underlying153, Maps.int_keyed Tryz.underlying3, fun w => by kernel_rfl⟩
def I64 (c : Int) : Prop := -9223372036854775808 ≤ c ∧ c ≤ 9223372036854775807
theorem key_int {c : Int} (h : I64 c) : ∃ l, keyOf Tryz.prog 3 (.int .i64 c) = some l :=
  ⟨_, Maps.keyOf_int_mk Tryz.underlying3 (by unfold I64 at h; unfold Lit.wf; rw [Bool.and_eq_true, decide_eq_true_eq, decide_eq_true_eq]; exact ⟨h.1, h.2⟩)⟩
def PL (gl : Nat) (L : Ld) : Res := .ex fun b => .all [.blk gl 155 [.int .i64 L.ep, .int .i64 L.lag, .int .i64 L.acked, .map (some b)], .mp Tryz.prog 3 b (L.l.map Sd.kvV)]
theorem Sep.PL_open {r w : World} {M : List Nat} {F : List Res} {gl : Nat} {L : Ld} : Sep r M (PL gl L :: F) w ↔ ∃ b, Sep r M (.blk gl 155 [.int .i64 L.ep, .int .i64 L.lag, .int .i64 L.acked, .map (some b)] :: .mp Tryz.prog 3 b (L.l.map Sd.kvV) :: F) w := by
  simp only [PL, Sep.ex_open, Sep.all_open, List.cons_append, List.nil_append]
theorem look_none {l : List Sd} {c : Int} (h : sdAt l c = none) : LookM (l.map Sd.kvV) (.int .i64 c) none := by have := look_sd (l := l) c; rw [h] at this; exact this
theorem look_some {l : List Sd} {c : Int} {x : Sd} (h : sdAt l c = some x) : LookM (l.map Sd.kvV) (.int .i64 c) (some x.vV) := by have := look_sd (l := l) c; rw [h] at this; exact this
def newOk (ep lag ak : Int) : Prop := 1 ≤ ep ∧ ep ≤ 1048576 ∧ -1 ≤ lag ∧ lag ≤ 1000 ∧ 0 ≤ ak ∧ ak ≤ 4096
set_option maxHeartbeats 1000000 in
theorem plnew_z (ep lag ak : Int) (r : World) (F : List Res) (w : World) (hS : Sep r [] F w) :
    Calls Tryz.prog 36 #[.int .i64 ep, .int .i64 lag, .int .i64 ak] w fun e w' => (¬ newOk ep lag ak ∧ e = .returned (.tuple #[.pointer none, .int .i64 1]) ∧ Sep r [] F w') ∨
      (newOk ep lag ak ∧ ∃ g, e = .returned (.tuple #[.pointer (some ⟨g, 0, none⟩), .int .i64 0]) ∧ Sep r [] (PL g ⟨ep, lag, ak, []⟩ :: F) w') := by
  refine Z.enter Tryz.func36 Tryz.ntmps36 rfl rfl ?_
  repeat' (first|refine K ?_|(refine Sh.sa hS ?_;clear hS;intro w hS)|(refine K3 ?_;clear hS;intro g w hS hge)|((first|refine GS ?_ ?_|refine VB ?_ ?_)<;>intro hb<;>(try simp only [JJ] at hb)<;>(try exact JX)))
  · refine Dntt Tryz.results36 ?_
    exact .inl ⟨by unfold newOk; omega, rfl, hS⟩
  · refine Dntt Tryz.results36 ?_
    exact .inl ⟨by unfold newOk; omega, rfl, hS⟩
  · refine Dntt Tryz.results36 ?_
    exact .inl ⟨by unfold newOk; omega, rfl, hS⟩
  · refine Dntt Tryz.results36 ?_
    exact .inl ⟨by unfold newOk; omega, rfl, hS⟩
  · refine Dntt Tryz.results36 ?_
    exact .inl ⟨by unfold newOk; omega, rfl, hS⟩
  · refine Dntt Tryz.results36 ?_
    exact .inl ⟨by unfold newOk; omega, rfl, hS⟩
  refine Z.eff (Z.mkm hS ?_) rfl
  clear hS; intro b w hS _
  repeat' (first|refine K ?_|(refine Sh.sa hS ?_;clear hS;intro w hS)|(refine K3 ?_;clear hS;intro g w hS hge)|((first|refine GS ?_ ?_|refine VB ?_ ?_)<;>intro hb<;>(try simp only [JJ] at hb)<;>(try exact JX)))
  refine Dntt Tryz.results36 ?_
  exact .inr ⟨by unfold newOk; omega, _, rfl, Sep.PL_open.2 ⟨b, hS⟩⟩
set_option maxHeartbeats 1000000 in
theorem pladd_z (gl : Nat) (L : Ld) (c : Int) (req : Bool) (n : Int) (r : World) (F : List Res) (w : World) (hS : Sep r [] (PL gl L :: F) w) (hok : L.ok) :
    Calls Tryz.prog 13 #[.pointer (some ⟨gl, 0, none⟩), .int .i64 c, .bool req, .int .i64 n] w fun e w' => e = .returned (.int .i64 (addL L c req n).2) ∧ Sep r [] (PL gl (addL L c req n).1 :: F) w' := by
  obtain ⟨b, hS⟩ := Sep.PL_open.1 hS
  have hlen := hok.len
  refine Z.enter Tryz.func13 Tryz.ntmps13 rfl rfl ?_
  repeat' (first|refine K ?_|(refine Sh.sa hS ?_;clear hS;intro w hS)|(refine K3 ?_;clear hS;intro g w hS hge)|((first|refine GS ?_ ?_|refine VB ?_ ?_)<;>intro hb<;>(try simp only [JJ] at hb)<;>(try exact JX)))
  · refine Dnt Tryz.results13 ?_
    unfold addL
    rw [if_pos (by omega)]
    exact ⟨rfl, Sep.PL_open.2 ⟨b, hS⟩⟩
  · refine Dnt Tryz.results13 ?_
    unfold addL
    rw [if_pos (by omega)]
    exact ⟨rfl, Sep.PL_open.2 ⟨b, hS⟩⟩
  · refine Dnt Tryz.results13 ?_
    unfold addL
    rw [if_pos (by omega)]
    exact ⟨rfl, Sep.PL_open.2 ⟨b, hS⟩⟩
  · refine Dnt Tryz.results13 ?_
    unfold addL
    rw [if_pos (by omega)]
    exact ⟨rfl, Sep.PL_open.2 ⟨b, hS⟩⟩
  have hI : I64 c := by unfold I64; omega
  have hnot : ¬ (c < 0 ∨ 16 ≤ c ∨ n < 0 ∨ 4096 < n) := by omega
  unfold addL
  rw [if_neg hnot]
  cases hx : sdAt L.l c with
  | some x =>
    refine Z.eff (Z.lkO hS (some x.vV) rfl rfl AtF (key_int hI) (look_some hx) ?_) rfl
    repeat' (first|refine K ?_|(refine Sh.sa hS ?_;clear hS;intro w hS)|(refine K3 ?_;clear hS;intro g w hS hge)|((first|refine GS ?_ ?_|refine VB ?_ ?_)<;>intro hb<;>(try simp only [JJ] at hb)<;>(try exact JX)))
    refine Dnt Tryz.results13 ?_
    exact ⟨rfl, (Sep.PL_open.2 ⟨b, hS.sub (L' := .blk gl 155 [.int .i64 L.ep, .int .i64 L.lag, .int .i64 L.acked, .map (some b)] :: .mp Tryz.prog 3 b (L.l.map Sd.kvV) :: F) SuF⟩)⟩
  | none =>
    refine Z.eff (Z.lkO hS none rfl rfl AtF (key_int hI) (look_none hx) ?_) rfl
    repeat' (first|refine K ?_|(refine Sh.sa hS ?_;clear hS;intro w hS)|(refine K3 ?_;clear hS;intro g w hS hge)|((first|refine GS ?_ ?_|refine VB ?_ ?_)<;>intro hb<;>(try simp only [JJ] at hb)<;>(try exact JX)))
    refine Z.eff (Z.upm hS _ rfl rfl rfl AtF (key_int hI) (put_sd_new hx ⟨c, 0, n, req⟩ rfl (spos L.l c)) (by rw [List.length_map]; unfold maxLen; omega) ?_) rfl
    clear hS; intro w hS
    repeat' (first|refine K ?_|(refine Sh.sa hS ?_;clear hS;intro w hS)|(refine K3 ?_;clear hS;intro g w hS hge)|((first|refine GS ?_ ?_|refine VB ?_ ?_)<;>intro hb<;>(try simp only [JJ] at hb)<;>(try exact JX)))
    refine Dnt Tryz.results13 ?_
    exact ⟨rfl, Sep.PL_open.2 ⟨b, hS.sb⟩⟩
set_option maxHeartbeats 1000000 in
theorem plreq_z (gl : Nat) (L : Ld) (c : Int) (hI : I64 c) (r : World) (F : List Res) (w : World) (hS : Sep r [] (PL gl L :: F) w) (hok : L.ok) :
    Calls Tryz.prog 15 #[.pointer (some ⟨gl, 0, none⟩), .int .i64 c] w fun e w' => e = .returned (.int .i64 (requireL L c).2) ∧ Sep r [] (PL gl (requireL L c).1 :: F) w' := by
  obtain ⟨b, hS⟩ := Sep.PL_open.1 hS
  have hlen := hok.len
  unfold requireL
  refine Z.enter Tryz.func15 Tryz.ntmps15 rfl rfl ?_
  repeat' (first|refine K ?_|(refine Sh.sa hS ?_;clear hS;intro w hS)|(refine K3 ?_;clear hS;intro g w hS hge)|((first|refine GS ?_ ?_|refine VB ?_ ?_)<;>intro hb<;>(try simp only [JJ] at hb)<;>(try exact JX)))
  cases hx : sdAt L.l c with
  | none =>
    refine Z.eff (Z.lkO hS none rfl rfl AtF (key_int hI) (look_none hx) ?_) rfl
    repeat' (first|refine K ?_|(refine Sh.sa hS ?_;clear hS;intro w hS)|(refine K3 ?_;clear hS;intro g w hS hge)|((first|refine GS ?_ ?_|refine VB ?_ ?_)<;>intro hb<;>(try simp only [JJ] at hb)<;>(try exact JX)))
    refine Dnt Tryz.results15 ?_
    exact ⟨rfl, (Sep.PL_open.2 ⟨b, hS.sub (L' := .blk gl 155 [.int .i64 L.ep, .int .i64 L.lag, .int .i64 L.acked, .map (some b)] :: .mp Tryz.prog 3 b (L.l.map Sd.kvV) :: F) SuF⟩)⟩
  | some x =>
    obtain ⟨_, _, hc⟩ := sdAt_some hx
    refine Z.eff (Z.lkO hS (some x.vV) rfl rfl AtF (key_int hI) (look_some hx) ?_) rfl
    repeat' (first|refine K ?_|(refine Sh.sa hS ?_;clear hS;intro w hS)|(refine K3 ?_;clear hS;intro g w hS hge)|((first|refine GS ?_ ?_|refine VB ?_ ?_)<;>intro hb<;>(try simp only [JJ] at hb)<;>(try exact JX)))
    refine D.startS hS 6 7 (by kernel_rfl) rfl ?_
    replace hS := hS.drew
    refine Sh.dp 0 1 ?_
    refine Sh.dp 1 3 ?_
    refine Sh.dp 2 7 ?_
    refine Sh.dp 4 23 ?_
    refine Sh.dl 3 31 ?_
    refine Sh.dl 5 63 ?_
    refine D.eff 6 127 rfl D.wantedN (by kernel_rfl) (by kernel_rfl) (fun _ _ h => h) ?_
    refine Z.upm hS _ rfl rfl rfl AtF (key_int hI) (put_sd hx ⟨x.cell, x.applied, x.next, true⟩ hc) (by rw [List.length_map]; unfold maxLen; omega) ?_
    clear hS; intro w hS
    refine ⟨HM.last (by kernel_rfl), ?_⟩
    refine D.done (by kernel_rfl) ?_
    repeat' (first|refine K ?_|(refine Sh.sa hS ?_;clear hS;intro w hS)|(refine K3 ?_;clear hS;intro g w hS hge)|((first|refine GS ?_ ?_|refine VB ?_ ?_)<;>intro hb<;>(try simp only [JJ] at hb)<;>(try exact JX)))
    refine Dnt Tryz.results15 ?_
    exact ⟨rfl, Sep.PL_open.2 ⟨b, hS.sb⟩⟩
set_option maxHeartbeats 1000000 in
theorem plready_z (gl : Nat) (L : Ld) (c : Int) (hI : I64 c) (r : World) (F : List Res) (w : World) (hS : Sep r [] (PL gl L :: F) w) (hok : L.ok) :
    Calls Tryz.prog 16 #[.pointer (some ⟨gl, 0, none⟩), .int .i64 c] w fun e w' => e = .returned (.bool (readyL L c)) ∧ Sep r [] (PL gl L :: F) w' := by
  obtain ⟨b, hS⟩ := Sep.PL_open.1 hS
  have hlag := hok.lag
  have hak := hok.acked
  unfold readyL
  refine Z.enter Tryz.func16 Tryz.ntmps16 rfl rfl ?_
  repeat' (first|refine K ?_|(refine Sh.sa hS ?_;clear hS;intro w hS)|(refine K3 ?_;clear hS;intro g w hS hge)|((first|refine GS ?_ ?_|refine VB ?_ ?_)<;>intro hb<;>(try simp only [JJ] at hb)<;>(try exact JX)))
  cases hx : sdAt L.l c with
  | none =>
    refine Z.eff (Z.lkO hS none rfl rfl AtF (key_int hI) (look_none hx) ?_) rfl
    repeat' (first|refine K ?_|(refine Sh.sa hS ?_;clear hS;intro w hS)|(refine K3 ?_;clear hS;intro g w hS hge)|((first|refine GS ?_ ?_|refine VB ?_ ?_)<;>intro hb<;>(try simp only [JJ] at hb)<;>(try exact JX)))
    refine D.startS hS 27 27 (by kernel_rfl) rfl ?_
    replace hS := hS.drew
    refine Sh.dp 0 1 ?_
    refine Sh.dp 1 3 ?_
    refine D.slot 17 rfl (fun hb => by exfalso; (try simp only [decide_eq_true_eq, decide_eq_false_iff_not, Bool.not_eq_true', Bool.not_eq_false', Int.not_lt, Int.not_le] at hb) <;> first | omega | exact hb trivial | cases hb | simp at hb) (fun hb => ?_)
    (try simp only [decide_eq_true_eq, decide_eq_false_iff_not, Bool.not_eq_true', Bool.not_eq_false', Int.not_lt, Int.not_le] at hb)
    refine D.skF 2 7 rfl (by kernel_rfl) rfl rfl ?_
    refine D.skF 3 15 rfl (by kernel_rfl) rfl rfl ?_
    refine Sh.dp 4 31 ?_
    refine Sh.dp 5 63 ?_
    refine D.skF 6 127 rfl (by kernel_rfl) rfl rfl ?_
    refine D.skF 7 255 rfl (by kernel_rfl) rfl rfl ?_
    refine D.skF 8 511 rfl (by kernel_rfl) rfl rfl ?_
    refine D.skF 9 1023 rfl (by kernel_rfl) rfl rfl ?_
    refine D.skF 10 2047 rfl (by kernel_rfl) rfl rfl ?_
    refine D.skF 11 4095 rfl (by kernel_rfl) rfl rfl ?_
    refine D.skU 12 8191 rfl (by kernel_rfl) rfl rfl ?_
    refine D.skU 13 16383 rfl (by kernel_rfl) rfl rfl ?_
    refine D.skU 14 32767 rfl (by kernel_rfl) rfl rfl ?_
    refine D.skU 15 65535 rfl (by kernel_rfl) rfl rfl ?_
    refine D.skU 16 131071 rfl (by kernel_rfl) rfl rfl ?_
    refine D.skU 17 262143 rfl (by kernel_rfl) rfl rfl ?_
    refine D.skU 18 524287 rfl (by kernel_rfl) rfl rfl ?_
    refine D.skU 19 1048575 rfl (by kernel_rfl) rfl rfl ?_
    refine D.skU 20 2097151 rfl (by kernel_rfl) rfl rfl ?_
    refine D.skU 21 4194303 rfl (by kernel_rfl) rfl rfl ?_
    refine D.skU 22 8388607 rfl (by kernel_rfl) rfl rfl ?_
    refine D.skU 23 16777215 rfl (by kernel_rfl) rfl rfl ?_
    refine D.skF 24 33554431 rfl (by kernel_rfl) rfl rfl ?_
    refine Sh.dp 25 67108863 ?_
    refine Sh.dp 26 134217727 ?_
    refine D.done (by kernel_rfl) ?_
    repeat' (first|refine K ?_|(refine Sh.sa hS ?_;clear hS;intro w hS)|(refine K3 ?_;clear hS;intro g w hS hge)|((first|refine GS ?_ ?_|refine VB ?_ ?_)<;>intro hb<;>(try simp only [JJ] at hb)<;>(try exact JX)))
    refine Dnt Tryz.results16 ?_
    exact ⟨rfl, (Sep.PL_open.2 ⟨b, hS.sub (L' := .blk gl 155 [.int .i64 L.ep, .int .i64 L.lag, .int .i64 L.acked, .map (some b)] :: .mp Tryz.prog 3 b (L.l.map Sd.kvV) :: F) SuF⟩)⟩
  | some x =>
    refine Z.eff (Z.lkO hS (some x.vV) rfl rfl AtF (key_int hI) (look_some hx) ?_) rfl
    repeat' (first|refine K ?_|(refine Sh.sa hS ?_;clear hS;intro w hS)|(refine K3 ?_;clear hS;intro g w hS hge)|((first|refine GS ?_ ?_|refine VB ?_ ?_)<;>intro hb<;>(try simp only [JJ] at hb)<;>(try exact JX)))
    refine D.startS hS 27 27 (by kernel_rfl) rfl ?_
    replace hS := hS.drew
    refine Sh.dp 0 1 ?_
    refine Sh.dp 1 3 ?_
    refine D.slot 17 rfl (fun hb => ?_) (fun hb => by exfalso; (try simp only [decide_eq_true_eq, decide_eq_false_iff_not, Bool.not_eq_true', Bool.not_eq_false', Int.not_lt, Int.not_le] at hb) <;> first | omega | exact hb trivial | cases hb | simp at hb)
    (try simp only [decide_eq_true_eq, decide_eq_false_iff_not, Bool.not_eq_true', Bool.not_eq_false', Int.not_lt, Int.not_le] at hb)
    refine Sh.dp 2 7 ?_
    refine Sh.dl 3 15 ?_
    refine Sh.dp 4 31 ?_
    refine Sh.dp 5 63 ?_
    refine D.slot 21 rfl (fun hb => ?_) (fun hb => ?_)
    · (try simp only [decide_eq_true_eq, decide_eq_false_iff_not, Bool.not_eq_true', Bool.not_eq_false', Int.not_lt, Int.not_le] at hb)
      refine Sh.dp 6 127 ?_
      refine Sh.dp 7 255 ?_
      refine Sh.dp 8 511 ?_
      refine Sh.dl 9 1023 ?_
      first | refine D.pr 10 2047 rfl (D.wantedT rfl rfl) (by kernel_rfl) rfl ?_ | refine D.pl 10 2047 rfl (D.wantedT rfl rfl) (by kernel_rfl) (R.eqa rfl rfl rfl rfl) ?_
      refine Sh.dp 11 4095 ?_
      refine D.slot 27 rfl (fun hb => ?_) (fun hb => ?_)
      · (try simp only [decide_eq_true_eq, decide_eq_false_iff_not, Bool.not_eq_true', Bool.not_eq_false', Int.not_lt, Int.not_le] at hb)
        refine D.skF 12 8191 rfl (by kernel_rfl) rfl rfl ?_
        refine D.skF 13 16383 rfl (by kernel_rfl) rfl rfl ?_
        refine D.skF 14 32767 rfl (by kernel_rfl) rfl rfl ?_
        refine D.skF 15 65535 rfl (by kernel_rfl) rfl rfl ?_
        refine D.skF 16 131071 rfl (by kernel_rfl) rfl rfl ?_
        refine D.skF 17 262143 rfl (by kernel_rfl) rfl rfl ?_
        refine D.skF 18 524287 rfl (by kernel_rfl) rfl rfl ?_
        refine D.skF 19 1048575 rfl (by kernel_rfl) rfl rfl ?_
        refine D.skF 20 2097151 rfl (by kernel_rfl) rfl rfl ?_
        refine D.skF 21 4194303 rfl (by kernel_rfl) rfl rfl ?_
        refine D.skF 22 8388607 rfl (by kernel_rfl) rfl rfl ?_
        refine D.skF 23 16777215 rfl (by kernel_rfl) rfl rfl ?_
        refine Sh.dp 24 33554431 ?_
        refine Sh.dp 25 67108863 ?_
        refine Sh.dp 26 134217727 ?_
        refine D.done (by kernel_rfl) ?_
        repeat' (first|refine K ?_|(refine Sh.sa hS ?_;clear hS;intro w hS)|(refine K3 ?_;clear hS;intro g w hS hge)|((first|refine GS ?_ ?_|refine VB ?_ ?_)<;>intro hb<;>(try simp only [JJ] at hb)<;>(try exact JX)))
        refine Dnt Tryz.results16 ?_
        rename x.req = _ => hr
        refine ⟨?_, Sep.PL_open.2 ⟨b, hS.sb⟩⟩
        first
          | (rename L.lag = -1 => hl1; simp [hr, hl1, Z.packR]; done)
          | (rename ¬ L.lag = -1 => hl1; simp [hr, hl1, Z.packR]; done)
          | (simp [hr, Z.packR]; done)
      · (try simp only [decide_eq_true_eq, decide_eq_false_iff_not, Bool.not_eq_true', Bool.not_eq_false', Int.not_lt, Int.not_le] at hb)
        refine Sh.dp 12 8191 ?_
        refine Sh.dp 14 24575 ?_
        refine Sh.dp 15 57343 ?_
        refine Sh.dp 16 122879 ?_
        refine Sh.dp 18 385023 ?_
        refine Sh.dp 19 909311 ?_
        refine Sh.dp 20 1957887 ?_
        refine Sh.dl 13 1966079 ?_
        refine Sh.dl 17 2097151 ?_
        refine Sh.dl 21 4194303 ?_
        first | refine D.sum 22 8388607 rfl (D.wantedT rfl rfl) (by kernel_rfl) rfl (by constructor <;> omega) ?_ | refine D.sumW 22 8388607 rfl (D.wantedT rfl rfl) (by kernel_rfl) rfl ?_
        refine Sh.dp 23 16777215 ?_
        refine Sh.dp 24 33554431 ?_
        refine Sh.dp 25 67108863 ?_
        refine Sh.dp 26 134217727 ?_
        refine D.done (by kernel_rfl) ?_
        repeat' (first|refine K ?_|(refine Sh.sa hS ?_;clear hS;intro w hS)|(refine K3 ?_;clear hS;intro g w hS hge)|((first|refine GS ?_ ?_|refine VB ?_ ?_)<;>intro hb<;>(try simp only [JJ] at hb)<;>(try exact JX)))
        refine Dnt Tryz.results16 ?_
        rename x.req = _ => hr
        refine ⟨?_, Sep.PL_open.2 ⟨b, hS.sb⟩⟩
        first
          | (rename L.lag = -1 => hl1; simp [hr, hl1, Z.packR]; done)
          | (rename ¬ L.lag = -1 => hl1; simp [hr, hl1, Z.packR]; done)
          | (simp [hr, Z.packR]; done)
    · (try simp only [decide_eq_true_eq, decide_eq_false_iff_not, Bool.not_eq_true', Bool.not_eq_false', Int.not_lt, Int.not_le] at hb)
      refine D.skF 6 127 rfl (by kernel_rfl) rfl rfl ?_
      refine D.skF 7 255 rfl (by kernel_rfl) rfl rfl ?_
      refine D.skF 8 511 rfl (by kernel_rfl) rfl rfl ?_
      refine D.skF 9 1023 rfl (by kernel_rfl) rfl rfl ?_
      refine D.skF 10 2047 rfl (by kernel_rfl) rfl rfl ?_
      refine D.skF 11 4095 rfl (by kernel_rfl) rfl rfl ?_
      refine D.skU 12 8191 rfl (by kernel_rfl) rfl rfl ?_
      refine D.skU 13 16383 rfl (by kernel_rfl) rfl rfl ?_
      refine D.skU 14 32767 rfl (by kernel_rfl) rfl rfl ?_
      refine D.skU 15 65535 rfl (by kernel_rfl) rfl rfl ?_
      refine D.skU 16 131071 rfl (by kernel_rfl) rfl rfl ?_
      refine D.skU 17 262143 rfl (by kernel_rfl) rfl rfl ?_
      refine D.skU 18 524287 rfl (by kernel_rfl) rfl rfl ?_
      refine D.skU 19 1048575 rfl (by kernel_rfl) rfl rfl ?_
      refine D.skU 20 2097151 rfl (by kernel_rfl) rfl rfl ?_
      refine D.skU 21 4194303 rfl (by kernel_rfl) rfl rfl ?_
      refine D.skU 22 8388607 rfl (by kernel_rfl) rfl rfl ?_
      refine D.skU 23 16777215 rfl (by kernel_rfl) rfl rfl ?_
      refine D.skF 24 33554431 rfl (by kernel_rfl) rfl rfl ?_
      refine Sh.dp 25 67108863 ?_
      refine Sh.dp 26 134217727 ?_
      refine D.done (by kernel_rfl) ?_
      repeat' (first|refine K ?_|(refine Sh.sa hS ?_;clear hS;intro w hS)|(refine K3 ?_;clear hS;intro g w hS hge)|((first|refine GS ?_ ?_|refine VB ?_ ?_)<;>intro hb<;>(try simp only [JJ] at hb)<;>(try exact JX)))
      refine Dnt Tryz.results16 ?_
      rename x.req = _ => hr
      refine ⟨?_, Sep.PL_open.2 ⟨b, hS.sb⟩⟩
      first
        | (rename L.lag = -1 => hl1; simp [hr, hl1, Z.packR]; done)
        | (rename ¬ L.lag = -1 => hl1; simp [hr, hl1, Z.packR]; done)
        | (simp [hr, Z.packR]; done)
set_option maxHeartbeats 2000000 in
theorem plhear_z (gl : Nat) (L : Ld) (c : Int) (hI : I64 c) (m : He) (r : World) (F : List Res) (w : World) (hS : Sep r [] (PL gl L :: F) w) (hok : L.ok) :
    Calls Tryz.prog 51 #[.pointer (some ⟨gl, 0, none⟩), .int .i64 c, m.val] w fun e w' => e = .returned (.bool (hearL L c m).2) ∧ Sep r [] (PL gl (hearL L c m).1 :: F) w' := by
  obtain ⟨b, hS⟩ := Sep.PL_open.1 hS
  have hlen := hok.len
  unfold hearL
  refine Z.enter Tryz.func51 Tryz.ntmps51 rfl rfl ?_
  repeat' (first|refine K ?_|(refine Sh.sa hS ?_;clear hS;intro w hS)|(refine K3 ?_;clear hS;intro g w hS hge)|((first|refine GS ?_ ?_|refine VB ?_ ?_)<;>intro hb<;>(try simp only [JJ] at hb)<;>(try exact JX)))
  cases hx : sdAt L.l c with
  | none =>
    refine Z.eff (Z.lkO hS none rfl rfl AtF (key_int hI) (look_none hx) ?_) rfl
    repeat' (first|refine K ?_|(refine Sh.sa hS ?_;clear hS;intro w hS)|(refine K3 ?_;clear hS;intro g w hS hge)|((first|refine GS ?_ ?_|refine VB ?_ ?_)<;>intro hb<;>(try simp only [JJ] at hb)<;>(try exact JX)))
    refine D.startS hS 21 21 (by kernel_rfl) rfl ?_
    replace hS := hS.drew
    refine Sh.dp 0 1 ?_
    refine Sh.dp 1 3 ?_
    refine Sh.dp 2 7 ?_
    refine D.slot 20 rfl (fun hb => ?_) (fun hb => by exfalso; (try simp only [decide_eq_true_eq, decide_eq_false_iff_not, Bool.not_eq_true', Bool.not_eq_false', Int.not_lt, Int.not_le] at hb) <;> first | omega | exact hb trivial | cases hb | simp at hb)
    (try simp only [decide_eq_true_eq, decide_eq_false_iff_not, Bool.not_eq_true', Bool.not_eq_false', Int.not_lt, Int.not_le] at hb)
    refine D.skF 3 15 rfl (by kernel_rfl) rfl rfl ?_
    refine D.skF 4 31 rfl (by kernel_rfl) rfl rfl ?_
    refine D.skF 5 63 rfl (by kernel_rfl) rfl rfl ?_
    refine D.skF 6 127 rfl (by kernel_rfl) rfl rfl ?_
    refine D.skF 7 255 rfl (by kernel_rfl) rfl rfl ?_
    refine D.skF 8 511 rfl (by kernel_rfl) rfl rfl ?_
    refine D.skF 9 1023 rfl (by kernel_rfl) rfl rfl ?_
    refine Sh.dp 10 2047 ?_
    refine Sh.dp 11 4095 ?_
    refine D.skF 12 8191 rfl (by kernel_rfl) rfl rfl ?_
    refine D.skF 13 16383 rfl (by kernel_rfl) rfl rfl ?_
    refine D.skF 14 32767 rfl (by kernel_rfl) rfl rfl ?_
    refine Sh.dp 15 65535 ?_
    refine Sh.dp 16 131071 ?_
    refine D.skF 17 262143 rfl (by kernel_rfl) rfl rfl ?_
    refine D.skF 18 524287 rfl (by kernel_rfl) rfl rfl ?_
    refine D.skF 19 1048575 rfl (by kernel_rfl) rfl rfl ?_
    refine Sh.dp 20 2097151 ?_
    refine D.done (by kernel_rfl) ?_
    repeat' (first|refine K ?_|(refine Sh.sa hS ?_;clear hS;intro w hS)|(refine K3 ?_;clear hS;intro g w hS hge)|((first|refine GS ?_ ?_|refine VB ?_ ?_)<;>intro hb<;>(try simp only [JJ] at hb)<;>(try exact JX)))
    refine Dnt Tryz.results51 ?_
    exact ⟨rfl, (Sep.PL_open.2 ⟨b, hS.sub (L' := .blk gl 155 [.int .i64 L.ep, .int .i64 L.lag, .int .i64 L.acked, .map (some b)] :: .mp Tryz.prog 3 b (L.l.map Sd.kvV) :: F) SuF⟩)⟩
  | some x =>
    obtain ⟨_, _, hc⟩ := sdAt_some hx
    refine Z.eff (Z.lkO hS (some x.vV) rfl rfl AtF (key_int hI) (look_some hx) ?_) rfl
    repeat' (first|refine K ?_|(refine Sh.sa hS ?_;clear hS;intro w hS)|(refine K3 ?_;clear hS;intro g w hS hge)|((first|refine GS ?_ ?_|refine VB ?_ ?_)<;>intro hb<;>(try simp only [JJ] at hb)<;>(try exact JX)))
    rename Nat => gx
    refine Z.cut [18, 19, 20, 21, 22, 23, 24, 25, 26, 27, 28, 29, 30, 31, 32, 33, 34, 35, 36, 37, 38] (fun w s => s = [(38, .bool (decide (m.ep ≠ L.ep ∨ m.applied < 0 ∨ 4096 < m.applied)))] ∧ Sep r [] (.blk gx 151 [.bool x.req, .int .i64 x.applied, .int .i64 x.next] :: .blk gl 155 [.int .i64 L.ep, .int .i64 L.lag, .int .i64 L.acked, .map (some b)] :: .mp Tryz.prog 3 b (L.l.map Sd.kvV) :: .blk g 137 m.cells :: F) w) ?_ ?_
    · refine D.startS hS 21 21 (by kernel_rfl) rfl ?_
      replace hS := hS.drew
      refine Sh.dp 0 1 ?_
      refine Sh.dp 1 3 ?_
      refine Sh.dp 2 7 ?_
      refine D.slot 20 rfl (fun hb => by exfalso; (try simp only [decide_eq_true_eq, decide_eq_false_iff_not, Bool.not_eq_true', Bool.not_eq_false', Int.not_lt, Int.not_le] at hb) <;> first | omega | exact hb trivial | cases hb | simp at hb) (fun hb => ?_)
      (try simp only [decide_eq_true_eq, decide_eq_false_iff_not, Bool.not_eq_true', Bool.not_eq_false', Int.not_lt, Int.not_le] at hb)
      refine Sh.dp 3 15 ?_
      refine Sh.dp 5 47 ?_
      refine Sh.dp 6 111 ?_
      refine Sh.dp 7 239 ?_
      refine Sh.dl 4 255 ?_
      refine Sh.dl 8 511 ?_
      first | refine D.pr 9 1023 rfl (D.wantedT rfl rfl) (by kernel_rfl) rfl ?_ | refine D.pl 9 1023 rfl (D.wantedT rfl rfl) (by kernel_rfl) (R.nea rfl rfl rfl rfl) ?_
      refine Sh.dp 10 2047 ?_
      refine Sh.dp 11 4095 ?_
      refine D.slot 29 rfl (fun hb => ?_) (fun hb => ?_)
      · (try simp only [decide_eq_true_eq, decide_eq_false_iff_not, Bool.not_eq_true', Bool.not_eq_false', Int.not_lt, Int.not_le] at hb)
        refine D.skF 12 8191 rfl (by kernel_rfl) rfl rfl ?_
        refine D.skF 13 16383 rfl (by kernel_rfl) rfl rfl ?_
        refine D.skF 14 32767 rfl (by kernel_rfl) rfl rfl ?_
        refine Sh.dp 15 65535 ?_
        refine Sh.dp 16 131071 ?_
        refine D.skF 17 262143 rfl (by kernel_rfl) rfl rfl ?_
        refine D.skF 18 524287 rfl (by kernel_rfl) rfl rfl ?_
        refine D.skF 19 1048575 rfl (by kernel_rfl) rfl rfl ?_
        refine Sh.dp 20 2097151 ?_
        refine D.done (by kernel_rfl) ?_
        refine Sh.cut [(38, _)] ?_
        refine ⟨?_, hS.sb⟩
        first
          | (simp_all; done)
          | (simp_all; omega)
      · (try simp only [decide_eq_true_eq, decide_eq_false_iff_not, Bool.not_eq_true', Bool.not_eq_false', Int.not_lt, Int.not_le] at hb)
        refine Sh.dp 12 8191 ?_
        refine Sh.dl 13 16383 ?_
        refine Sh.dp 14 32767 ?_
        refine Sh.dp 15 65535 ?_
        refine Sh.dp 16 131071 ?_
        refine D.slot 34 rfl (fun hb => ?_) (fun hb => ?_)
        · (try simp only [decide_eq_true_eq, decide_eq_false_iff_not, Bool.not_eq_true', Bool.not_eq_false', Int.not_lt, Int.not_le] at hb)
          refine D.skF 17 262143 rfl (by kernel_rfl) rfl rfl ?_
          refine D.skF 18 524287 rfl (by kernel_rfl) rfl rfl ?_
          refine D.skF 19 1048575 rfl (by kernel_rfl) rfl rfl ?_
          refine Sh.dp 20 2097151 ?_
          refine D.done (by kernel_rfl) ?_
          refine Sh.cut [(38, _)] ?_
          refine ⟨?_, hS.sb⟩
          first
            | (simp_all; done)
            | (simp_all; omega)
        · (try simp only [decide_eq_true_eq, decide_eq_false_iff_not, Bool.not_eq_true', Bool.not_eq_false', Int.not_lt, Int.not_le] at hb)
          refine Sh.dp 17 262143 ?_
          refine Sh.dl 18 524287 ?_
          refine Sh.dp 19 1048575 ?_
          refine Sh.dp 20 2097151 ?_
          refine D.done (by kernel_rfl) ?_
          refine Sh.cut [(38, _)] ?_
          refine ⟨?_, hS.sb⟩
          first
            | (simp_all; done)
            | (simp_all; omega)
    clear hS
    rintro g0 w _ ⟨rfl, hS⟩
    repeat' (first|refine K ?_|(refine Sh.sa hS ?_;clear hS;intro w hS)|(refine K3 ?_;clear hS;intro g w hS hge)|((first|refine GS ?_ ?_|refine VB ?_ ?_)<;>intro hb<;>(try simp only [JJ] at hb)<;>(try exact JX)))
    · refine Dnt Tryz.results51 ?_
      dsimp only
      rw [if_pos hb]
      exact ⟨rfl, (Sep.PL_open.2 ⟨b, hS.sub (L' := .blk gl 155 [.int .i64 L.ep, .int .i64 L.lag, .int .i64 L.acked, .map (some b)] :: .mp Tryz.prog 3 b (L.l.map Sd.kvV) :: F) SuF⟩)⟩
    · rename ¬ (_ ∨ _) => hno
      refine D.startS hS 6 7 (by kernel_rfl) rfl ?_
      replace hS := hS.drew
      refine Sh.dp 0 1 ?_
      refine Sh.dp 1 3 ?_
      refine Sh.dp 2 7 ?_
      refine Sh.dp 4 23 ?_
      refine Sh.dl 3 31 ?_
      refine Sh.dl 5 63 ?_
      refine D.eff 6 127 rfl D.wantedN (by kernel_rfl) (by kernel_rfl) (fun _ _ h => h) ?_
      refine Z.upm hS _ rfl rfl rfl AtF (key_int hI) (put_sd hx ⟨x.cell, max x.applied m.applied, max x.applied m.applied, x.req⟩ hc) (by rw [List.length_map]; unfold maxLen; omega) ?_
      clear hS; intro w hS
      refine ⟨HM.last (by kernel_rfl), ?_⟩
      refine D.done (by kernel_rfl) ?_
      repeat' (first|refine K ?_|(refine Sh.sa hS ?_;clear hS;intro w hS)|(refine K3 ?_;clear hS;intro g w hS hge)|((first|refine GS ?_ ?_|refine VB ?_ ?_)<;>intro hb<;>(try simp only [JJ] at hb)<;>(try exact JX)))
      refine Dnt Tryz.results51 ?_
      have e : hearS x m = ⟨x.cell, max x.applied m.applied, max x.applied m.applied, x.req⟩ := by unfold hearS; rw [if_pos hb]
      dsimp only
      rw [if_neg hno, e]
      exact ⟨rfl, Sep.PL_open.2 ⟨b, hS.sb⟩⟩
    · rename ¬ (_ ∨ _) => hno
      refine D.startS hS 6 7 (by kernel_rfl) rfl ?_
      replace hS := hS.drew
      refine Sh.dp 0 1 ?_
      refine Sh.dp 1 3 ?_
      refine Sh.dp 2 7 ?_
      refine Sh.dp 4 23 ?_
      refine Sh.dl 3 31 ?_
      refine Sh.dl 5 63 ?_
      refine D.eff 6 127 rfl D.wantedN (by kernel_rfl) (by kernel_rfl) (fun _ _ h => h) ?_
      refine Z.upm hS _ rfl rfl rfl AtF (key_int hI) (put_sd hx ⟨x.cell, x.applied, max (min x.next m.applied) x.applied, x.req⟩ hc) (by rw [List.length_map]; unfold maxLen; omega) ?_
      clear hS; intro w hS
      refine ⟨HM.last (by kernel_rfl), ?_⟩
      refine D.done (by kernel_rfl) ?_
      repeat' (first|refine K ?_|(refine Sh.sa hS ?_;clear hS;intro w hS)|(refine K3 ?_;clear hS;intro g w hS hge)|((first|refine GS ?_ ?_|refine VB ?_ ?_)<;>intro hb<;>(try simp only [JJ] at hb)<;>(try exact JX)))
      refine Dnt Tryz.results51 ?_
      have e : hearS x m = ⟨x.cell, x.applied, max (min x.next m.applied) x.applied, x.req⟩ := by unfold hearS; rw [if_neg (by rw [hb]; simp)]
      dsimp only
      rw [if_neg hno, e]
      exact ⟨rfl, Sep.PL_open.2 ⟨b, hS.sb⟩⟩
end Go.Proofs.YtfmnjbhncnldmaaGreat
