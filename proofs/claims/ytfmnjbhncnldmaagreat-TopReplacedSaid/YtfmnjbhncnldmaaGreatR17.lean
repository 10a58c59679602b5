import Derived.Test.YtfmnjbhncnldmaaGreatR12
import Derived.Test.YtfmnjbhncnldmaaGreatR16
set_option linter.unusedSimpArgs false
set_option linter.unusedVariables false
namespace Go.Proofs.YtfmnjbhncnldmaaGreat
open Go.RowKit
attribute [local irreducible] Res.blk Res.sl Res.all Res.ex Res.pure Res.star
theorem left_cons {left rest : List (Value × Value)} {p : Value × Value} {ls : List Sd} (h1 : left.Perm (p :: rest)) (h2 : left.Perm (ls.map Sd.kvV)) : ∃ x ls', x.kvV = p ∧ ls.Perm (x :: ls') ∧ rest.Perm (ls'.map Sd.kvV) := by
  have h3 : p ∈ ls.map Sd.kvV := h2.mem_iff.1 (h1.mem_iff.2 (by simp))
  obtain ⟨x, hx, rfl⟩ := List.mem_map.1 h3
  obtain ⟨i, hi, rfl⟩ := List.getElem_of_mem hx
  refine ⟨_, _, rfl, perm_at hi, ?_⟩
  have h4 := (h1.symm.trans h2).trans ((perm_at hi).map Sd.kvV)
  rw [List.map_cons] at h4
  exact h4.cons_inv
theorem take_min {α : Type} (l : List α) (n k : Nat) : ((l.take (min (n + k) l.length)).drop n) = (l.drop n).take k := by
  rw [List.drop_take]
  by_cases h : n + k ≤ l.length
  · rw [Nat.min_eq_left h]; congr 1; omega
  · rw [Nat.min_eq_right (by omega), List.take_of_length_le (by rw [List.length_drop]; omega), List.take_of_length_le (by rw [List.length_drop]; omega)]
set_option maxHeartbeats 2000000 in
theorem plack_z (gl : Nat) (L : Ld) (n : Int) (r : World) (F : List Res) (w : World) (hS : Sep r [] (PL gl L :: F) w) (hok : L.ok) :
    Calls Tryz.prog 52 #[.pointer (some ⟨gl, 0, none⟩), .int .i64 n] w fun e w' => e = .returned (.int .i64 (ackL L n).2) ∧ Sep r [] (PL gl (ackL L n).1 :: F) w' := by
  obtain ⟨b, hS⟩ := Sep.PL_open.1 hS
  have hlag := hok.lag
  have hlen := hok.len
  unfold ackL
  refine Z.enter Tryz.func52 Tryz.ntmps52 rfl rfl ?_
  repeat' (first|refine K ?_|(refine Sh.sa hS ?_;clear hS;intro w hS)|(refine K3 ?_;clear hS;intro g w hS hge)|((first|refine GS ?_ ?_|refine VB ?_ ?_)<;>intro hb<;>(try simp only [JJ] at hb)<;>(try exact JX)))
  · refine Dnt Tryz.results52 ?_
    rw [if_pos (by omega)]
    exact ⟨rfl, Sep.PL_open.2 ⟨b, hS⟩⟩
  · refine Dnt Tryz.results52 ?_
    rw [if_pos (by omega)]
    exact ⟨rfl, Sep.PL_open.2 ⟨b, hS⟩⟩
  · rename 0 ≤ L.lag => hl0
    rw [if_neg (by omega), if_neg (by omega)]
    refine Z.eff (Z.rng hS rfl AtF ?_) rfl
    clear hS; intro gi w hS
    repeat' (first|refine K ?_|(refine Sh.sa hS ?_;clear hS;intro w hS)|(refine K3 ?_;clear hS;intro g w hS hge)|((first|refine GS ?_ ?_|refine VB ?_ ?_)<;>intro hb<;>(try simp only [JJ] at hb)<;>(try exact JX)))
    refine Z.lpS [1, 5, 7, 33, 34, 35, 36, 37, 38, 39, 40, 41, 42, 43, 44, 45, 46, 47] (fun m w t => ∃ (left : List (Value × Value)) (cur : Option (Value × Value)) (ls : List Sd) (n' : Int) (kn : Bool), t = [(1, .int .i64 n'), (5, .bool kn)] ∧ m = left.length ∧ left.Perm (ls.map Sd.kvV) ∧ (∀ y, y ∈ ls → y ∈ L.l) ∧ (kn || anyR ls) = anyR L.l ∧ ackN L.lag ls n' = ackN L.lag L.l n ∧
      Sep r [] (.mit Tryz.prog 3 gi b (L.l.map Sd.kvV) left cur :: .blk gl 155 [.int .i64 L.ep, .int .i64 L.lag, .int .i64 L.acked, .map (some b)] :: F) w) _ [(1, .int .i64 n), (5, .bool (decide (L.lag = -1)))] (by repeat (first | exact trivial | refine ⟨rfl, ?_⟩)) ⟨_, none, L.l, n, decide (L.lag = -1), rfl, rfl, List.Perm.refl _, fun _ h => h, by rw [decide_eq_false (by omega : ¬ L.lag = -1), Bool.false_or], rfl, hS.sb⟩ ?_
    clear hS
    rintro m f1 w _ ⟨left, cur, ls, n', kn, rfl, rfl, hpl, hin, hkn, hak, hS⟩
    repeat' (first|refine K ?_|(refine Sh.sa hS ?_;clear hS;intro w hS)|(refine K3 ?_;clear hS;intro g w hS hge)|((first|refine GS ?_ ?_|refine VB ?_ ?_)<;>intro hb<;>(try simp only [JJ] at hb)<;>(try exact JX)))
    refine Z.eff (Z.nxt hS rfl AtF ?_ ?_) rfl
    · intro w h0 hS
      have h1 : ls = [] := by
        have := hpl.length_eq
        rw [h0] at this
        simp only [List.length_nil, List.length_map] at this
        exact List.eq_nil_of_length_eq_zero this.symm
      have h2 : kn = anyR L.l := by rw [← hkn, h1]; simp [anyR]
      have h3 : n' = ackN L.lag L.l n := by rw [← hak, h1]; rfl
      replace hS := Sep.iterEnd hS
      repeat' (first|refine K ?_|(refine Sh.sa hS ?_;clear hS;intro w hS)|(refine K3 ?_;clear hS;intro g w hS hge)|((first|refine GS ?_ ?_|refine VB ?_ ?_)<;>intro hb<;>(try simp only [JJ] at hb)<;>(try exact JX)))
      · refine Dnt Tryz.results52 ?_
        rw [if_pos (by rw [← h2]; exact hb), ← h3]
        exact ⟨rfl, Sep.PL_open.2 ⟨b, hS.sb⟩⟩
      · refine Dnt Tryz.results52 ?_
        rw [if_neg (by rw [← h2, hb]; simp)]
        exact ⟨rfl, Sep.PL_open.2 ⟨b, hS.sb⟩⟩
    · rintro p rest w hperm hpm hS
      obtain ⟨x, ls', rfl, hls, hrest⟩ := left_cons hperm hpl
      have hll := hperm.length_eq
      simp only [List.length_cons] at hll
      have hxL := hin x (hls.mem_iff.2 (by simp))
      have hxo := hok.each x hxL
      unfold Sd.ok at hxo
      have hak1 : ackN L.lag (x :: ls') n' = ackN L.lag L.l n := by rw [← hak]; exact (ackN_perm hls n').symm
      have hkn1 : (kn || anyR (x :: ls')) = anyR L.l := by rw [← hkn, anyR_perm hls]
      have hin1 : ∀ y, y ∈ ls' → y ∈ L.l := fun y hy => hin y (hls.mem_iff.2 (by simp [hy]))
      repeat' (first|refine K ?_|(refine Sh.sa hS ?_;clear hS;intro w hS)|(refine K3 ?_;clear hS;intro g w hS hge)|((first|refine GS ?_ ?_|refine VB ?_ ?_)<;>intro hb<;>(try simp only [JJ] at hb)<;>(try exact JX)))
      refine Z.eff (Z.ent hS rfl AtF ?_) rfl
      repeat' (first|refine K ?_|(refine Sh.sa hS ?_;clear hS;intro w hS)|(refine K3 ?_;clear hS;intro g w hS hge)|((first|refine GS ?_ ?_|refine VB ?_ ?_)<;>intro hb<;>(try simp only [JJ] at hb)<;>(try exact JX)))
      · rename x.req = true => hr
        refine D.startS hS 10 10 (by kernel_rfl) rfl ?_
        replace hS := hS.drew
        refine Sh.dp 0 1 ?_
        refine Sh.dp 1 3 ?_
        refine Sh.dp 3 11 ?_
        refine Sh.dp 4 27 ?_
        refine Sh.dp 5 59 ?_
        refine Sh.dl 2 63 ?_
        refine Sh.dl 6 127 ?_
        first | refine D.sum 7 255 rfl D.wantedN (by kernel_rfl) rfl (by constructor <;> omega) ?_ | refine D.sumW 7 255 rfl D.wantedN (by kernel_rfl) rfl ?_
        refine D.pl 8 511 rfl D.wantedN (by kernel_rfl) (R.min2 rfl rfl) ?_
        refine Sh.dp 9 1023 ?_
        refine D.done (by kernel_rfl) ?_
        repeat' (first|refine K ?_|(refine Sh.sa hS ?_;clear hS;intro w hS)|(refine K3 ?_;clear hS;intro g w hS hge)|((first|refine GS ?_ ?_|refine VB ?_ ?_)<;>intro hb<;>(try simp only [JJ] at hb)<;>(try exact JX)))
        refine Sh.again (rest.length) [(1, .int .i64 (min n' (x.applied + L.lag))), (5, .bool true)] ?_
        refine ⟨rest, _, ls', _, true, rfl, rfl, hrest, hin1, ?_, ?_, hS.sb⟩
        · rw [← hkn1]; simp [anyR, hr]
        · rw [← hak1]; unfold ackN; rw [List.foldl_cons, if_pos hr]
      · rename x.req = false => hr
        refine Sh.again (rest.length) [(1, .int .i64 n'), (5, .bool kn)] ?_
        refine ⟨rest, _, ls', _, kn, rfl, rfl, hrest, hin1, ?_, ?_, hS.sb⟩
        · rw [← hkn1]; simp [anyR, hr]
        · rw [← hak1]; unfold ackN; rw [List.foldl_cons, if_neg (by rw [hr]; simp)]
  · refine Dnt Tryz.results52 ?_
    rw [if_neg (by omega), if_pos (by omega)]
    exact ⟨rfl, Sep.PL_open.2 ⟨b, hS⟩⟩
set_option maxHeartbeats 4000000 in
theorem plship_z (gl : Nat) (L : Ld) (c : Int) (hI : I64 c) (h : List Ch) (v : Value) (r : World) (F : List Res) (w : World) (hS : Sep r [] (PL gl L :: F) w) (hok : L.ok) (hrd : Reads r F 8 v (h.map Ch.cells)) (hl : h.length ≤ 5000) :
    Calls Tryz.prog 48 #[.pointer (some ⟨gl, 0, none⟩), .int .i64 c, v] w fun e w' => ∃ A cap, e = .returned (.tuple #[(shipL L c h).1.val (.slice A (shipL L c h).1.ch.length cap), .bool (shipL L c h).2]) ∧
      Sep r [] (PL gl L :: .sl 149 8 (.slice A (shipL L c h).1.ch.length cap) ((shipL L c h).1.ch.map Ch.cells) :: F) w' := by
  obtain ⟨A, cc, rfl, hcc⟩ := (hrd [_] w hS).mform
  obtain ⟨b, hS⟩ := Sep.PL_open.1 hS
  have hlen := hok.len
  unfold shipL
  refine Z.enter Tryz.func48 Tryz.ntmps48 rfl rfl ?_
  repeat' (first|refine K ?_|(refine Sh.sa hS ?_;clear hS;intro w hS)|(refine K3 ?_;clear hS;intro g w hS hge)|((first|refine GS ?_ ?_|refine VB ?_ ?_)<;>intro hb<;>(try simp only [JJ] at hb)<;>(try exact JX)))
  cases hx : sdAt L.l c with
  | none =>
    refine Z.eff (Z.lkO hS none rfl rfl AtF (key_int hI) (look_none hx) ?_) rfl
    repeat' (first|refine K ?_|(refine Sh.sa hS ?_;clear hS;intro w hS)|(refine K3 ?_;clear hS;intro g w hS hge)|((first|refine GS ?_ ?_|refine VB ?_ ?_)<;>intro hb<;>(try simp only [JJ] at hb)<;>(try exact JX)))
    first | refine Z.done hS Tryz.results48 (Z.RV.cell rfl AtF rfl (Z.RV.tmp rfl Z.RV.nil)) ?_ | refine Z.doneN hS Tryz.results48 (Z.RV.cell rfl AtF rfl (Z.RV.tmp rfl Z.RV.nil)) ?_
    replace hS := Z.nilsl hS 149 8 .none
    refine ⟨.none, 0, rfl, ?_⟩
    exact Sep.PL_open.2 ⟨b, hS.sub (L' := .blk gl 155 [.int .i64 L.ep, .int .i64 L.lag, .int .i64 L.acked, .map (some b)] :: .mp Tryz.prog 3 b (L.l.map Sd.kvV) :: .sl 149 8 (.slice .none 0 0) [] :: F) SuF⟩
  | some x =>
    have hxo := hok.each x (sdAt_mem hx)
    unfold Sd.ok at hxo
    have hcut : (h.take (min (min x.next h.length + 8) h.length).toNat).drop (min x.next h.length).toNat = (h.drop (min x.next h.length).toNat).take 8 := by
      have h1 := take_min h (min x.next h.length).toNat 8
      rw [← h1]
      congr 2
      omega
    refine Z.eff (Z.lkO hS (some x.vV) rfl rfl AtF (key_int hI) (look_some hx) ?_) rfl
    have hS0 := hS
    by_cases h0 : 0 < min x.next h.length
    · have hq : (min x.next h.length - 1).toNat < h.length := by omega
      obtain ⟨gb, o, rfl, _, _⟩ := (hrd [_, _, _] _ hS).mat (by omega) hq
      have eB : (if min x.next (h.length : Int) = 0 then 0 else epAt h (min x.next h.length - 1).toNat) = h[(min x.next h.length - 1).toNat].epoch := by rw [if_neg (by omega), epAt_eq hq]
      clear hS0
      repeat' (first|refine K ?_|(refine Sh.sa hS ?_;clear hS;intro w hS)|(refine K3 ?_;clear hS;intro g w hS hge)|((first|refine GS ?_ ?_|refine VB ?_ ?_)<;>intro hb<;>(try simp only [JJ] at hb)<;>(try exact JX)))
      refine Z.eff (Z.ldE rfl ((hrd.sub SuF [] _ hS).elem (by omega) hq) rfl ?_) rfl
      repeat' (first|refine K ?_|(refine Sh.sa hS ?_;clear hS;intro w hS)|(refine K3 ?_;clear hS;intro g w hS hge)|((first|refine GS ?_ ?_|refine VB ?_ ?_)<;>intro hb<;>(try simp only [JJ] at hb)<;>(try exact JX)))
      refine Z.eff (Z.cl (ch_clone ((h.drop (min x.next h.length).toNat).take 8) _ _ _ _ hS (fun L' w' h' => by have h3 := ((hrd.sub SuF L' w' h').mtake (show (min (min x.next h.length + 8) h.length).toNat ≤ h.length by omega)).mdrop (show (min x.next h.length).toNat ≤ (h.take (min (min x.next h.length + 8) h.length).toNat).length by rw [List.length_take]; omega); rw [hcut] at h3; exact h3) (by rw [List.length_take]; omega)) rfl ?_) rfl
      clear hS
      rintro e w ⟨A1, c1, rfl, hS⟩
      refine ⟨_, rfl, ?_⟩
      repeat' (first|refine K ?_|(refine Sh.sa hS ?_;clear hS;intro w hS)|(refine K3 ?_;clear hS;intro g w hS hge)|((first|refine GS ?_ ?_|refine VB ?_ ?_)<;>intro hb<;>(try simp only [JJ] at hb)<;>(try exact JX)))
      first | refine Z.done hS Tryz.results48 (Z.RV.cell rfl AtF rfl (Z.RV.tmp rfl Z.RV.nil)) ?_ | refine Z.doneN hS Tryz.results48 (Z.RV.cell rfl AtF rfl (Z.RV.tmp rfl Z.RV.nil)) ?_
      dsimp only [shipS]
      rw [eB]
      refine ⟨A1, c1, rfl, ?_⟩
      exact Sep.PL_open.2 ⟨b, hS.sub (L' := .blk gl 155 [.int .i64 L.ep, .int .i64 L.lag, .int .i64 L.acked, .map (some b)] :: .mp Tryz.prog 3 b (L.l.map Sd.kvV) :: .sl 149 8 _ _ :: F) SuF⟩
    · have eB : (if min x.next (h.length : Int) = 0 then 0 else epAt h (min x.next h.length - 1).toNat) = 0 := by rw [if_pos (by omega)]
      clear hS0
      repeat' (first|refine K ?_|(refine Sh.sa hS ?_;clear hS;intro w hS)|(refine K3 ?_;clear hS;intro g w hS hge)|((first|refine GS ?_ ?_|refine VB ?_ ?_)<;>intro hb<;>(try simp only [JJ] at hb)<;>(try exact JX)))
      refine Z.eff (Z.cl (ch_clone ((h.drop (min x.next h.length).toNat).take 8) _ _ _ _ hS (fun L' w' h' => by have h3 := ((hrd.sub SuF L' w' h').mtake (show (min (min x.next h.length + 8) h.length).toNat ≤ h.length by omega)).mdrop (show (min x.next h.length).toNat ≤ (h.take (min (min x.next h.length + 8) h.length).toNat).length by rw [List.length_take]; omega); rw [hcut] at h3; exact h3) (by rw [List.length_take]; omega)) rfl ?_) rfl
      clear hS
      rintro e w ⟨A1, c1, rfl, hS⟩
      refine ⟨_, rfl, ?_⟩
      repeat' (first|refine K ?_|(refine Sh.sa hS ?_;clear hS;intro w hS)|(refine K3 ?_;clear hS;intro g w hS hge)|((first|refine GS ?_ ?_|refine VB ?_ ?_)<;>intro hb<;>(try simp only [JJ] at hb)<;>(try exact JX)))
      first | refine Z.done hS Tryz.results48 (Z.RV.cell rfl AtF rfl (Z.RV.tmp rfl Z.RV.nil)) ?_ | refine Z.doneN hS Tryz.results48 (Z.RV.cell rfl AtF rfl (Z.RV.tmp rfl Z.RV.nil)) ?_
      dsimp only [shipS]
      rw [eB]
      refine ⟨A1, c1, rfl, ?_⟩
      exact Sep.PL_open.2 ⟨b, hS.sub (L' := .blk gl 155 [.int .i64 L.ep, .int .i64 L.lag, .int .i64 L.acked, .map (some b)] :: .mp Tryz.prog 3 b (L.l.map Sd.kvV) :: .sl 149 8 _ _ :: F) SuF⟩
end Go.Proofs.YtfmnjbhncnldmaaGreat
