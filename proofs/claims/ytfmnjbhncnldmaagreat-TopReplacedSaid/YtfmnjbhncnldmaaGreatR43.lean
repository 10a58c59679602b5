import Derived.Test.YtfmnjbhncnldmaaGreatR16
set_option linter.unusedSimpArgs false
set_option linter.unusedVariables false
namespace Go.Proofs.YtfmnjbhncnldmaaGreat
open Go.RowKit
attribute [local irreducible] Res.blk Res.sl Res.all Res.ex Res.pure Res.star
theorem pctrunc_in (g : Nat) (cell ten : Int) (vg : Value) (c : Cp) (n : Int) (r : World) (F : List Res) (w : World) (hS : Sep r [] (PC g cell ten vg c :: F) w) (hg : Good c) (hn : 0 ≤ n ∧ n ≤ c.h.length) :
    Calls Tryz.prog 117 #[.pointer (some ⟨g, 0, .none⟩), .int .i64 n] w fun e w' => e = .returned (.int .i64 0) ∧ Sep r [] (PC g cell ten vg (cutC c n.toNat) :: F) w' :=
  (pctrunc_z g cell ten vg c n r F w hS hg.isH).mono fun _ _ h => by
    rcases h with ⟨h, _⟩ | ⟨_, h⟩
    · exact absurd hn h
    · exact h
theorem phist0_z (g : Nat) (cell ten : Int) (vg : Value) (c : Cp) (r : World) (F : List Res) (w : World) (hS : Sep r [] (PC g cell ten vg c :: F) w) (hl : c.h.length ≤ 5000) :
    Calls Tryz.prog 49 #[.pointer (some ⟨g, 0, .none⟩), .int .i64 0] w fun e w' => ∃ A cap, e = .returned (.slice A c.h.length cap) ∧ Sep r [] (.sl 149 8 (.slice A c.h.length cap) (c.h.map Ch.cells) :: PC g cell ten vg c :: F) w' :=
  phist_z g cell ten vg c 0 r F w hS hl
theorem matchB_zero (h : List Ch) : matchB h 0 0 = true := by simp [matchB]
theorem matchB_in {h : List Ch} {s e : Int} (hm : matchB h s e = true) : 0 ≤ s ∧ s ≤ h.length := by
  unfold matchB at hm
  split at hm
  · omega
  · split at hm
    · omega
    · cases hm
theorem eidx_first : ∀ {l : List Ch} {n : Int} {q : Nat} (hq : q < l.length), l[q].epoch = n → (∀ y, y ∈ l.take q → y.epoch ≠ n) → eidx l n = q
  | x :: l, n, 0, _, h, _ => by simp at h; simp [eidx, h]
  | x :: l, n, q + 1, hq, h, hno => by
    have h0 : x.epoch ≠ n := hno x (by simp)
    simp only [eidx, if_neg h0]
    rw [eidx_first (q := q) (by simpa using hq) (by simpa using h) (fun y hy => hno y (by simp [hy]))]
theorem chsOk_at : ∀ {l : List Ch} {s b e : Int}, chsOk l s b e = true → ∀ k (hk : k < l.length), l[k].seq = s + k ∧ validB l[k] = true
  | x :: l, s, b, e, h, 0, _ => by
    unfold chsOk at h
    split at h
    · rename_i h1; simp only [List.getElem_cons_zero]; exact ⟨by omega, h1.1⟩
    · cases h
  | x :: l, s, b, e, h, k + 1, hk => by
    unfold chsOk at h
    split at h
    · have := chsOk_at h k (by simpa using hk)
      simp only [List.getElem_cons_succ]
      exact ⟨by omega, this.2⟩
    · cases h
theorem takeC_drop {c : Cp} {l : List Ch} {a : Int} {k : Nat} (hk : k < l.length) : takeC c (l.drop k) a =
    if (c.h.length : Int) < l[k].seq ∨ epAt c.h (l[k].seq - 1).toNat ≠ l[k].epoch then
      if (cApp (cutC c (l[k].seq - 1).toNat) l[k]).2 = 0 then takeC (cApp (cutC c (l[k].seq - 1).toNat) l[k]).1 (l.drop (k + 1)) l[k].seq
      else (cutC c (l[k].seq - 1).toNat, a)
    else takeC c (l.drop (k + 1)) l[k].seq := by
  rw [List.drop_eq_getElem_cons hk]
  rfl
theorem ptake1_z (gt : Nat) (t : Ch) (n : Int) (r : World) (F : List Res) (w : World) (hS : Sep r [] F w) {k : List Res} (ha : At F k (.blk gt 3 [.int .i64 n])) :
    Calls Tryz.prog 116 #[t.val, .pointer (some ⟨gt, 0, none⟩)] w fun e w' => e = .returned (.bool (decide (t.epoch = n))) ∧ Sep r [] F w' := by
  refine Z.enter Tryz.func116 Tryz.ntmps116 rfl rfl ?_
  repeat' (first|refine K ?_|(refine Sh.sa hS ?_;clear hS;intro w hS)|(refine K3 ?_;clear hS;intro g w hS hge)|((first|refine GS ?_ ?_|refine VB ?_ ?_)<;>intro hb<;>(try simp only [JJ] at hb)<;>(try exact JX)))
  refine Z.eff (Z.ld hS rfl (At.next ha) rfl ?_) rfl
  repeat' (first|refine K ?_|(refine Sh.sa hS ?_;clear hS;intro w hS)|(refine K3 ?_;clear hS;intro g w hS hge)|((first|refine GS ?_ ?_|refine VB ?_ ?_)<;>intro hb<;>(try simp only [JJ] at hb)<;>(try exact JX)))
  refine Dnt Tryz.results116 ?_
  exact ⟨rfl, hS.sb⟩
set_option maxHeartbeats 4000000 in
theorem ptake_z (gf gc : Nat) (cell ten : Int) (vg : Value) (f : Fo) (m : Shp) (v : Value) (r : World) (F : List Res) (w : World)
    (hS : Sep r [] (.blk gf 222 [.pointer (some ⟨gc, 0, .none⟩), .int .i64 f.seen, .int .i64 f.agreed] :: PC gc cell ten vg f.c :: F) w) (hrd : Reads r F 8 v (m.ch.map Ch.cells)) (hg : Good f.c) :
    Calls Tryz.prog 50 #[.pointer (some ⟨gf, 0, .none⟩), m.val v] w fun e w' => e = .returned (.tuple #[(takeF f m).2.1.val, .int .i64 (takeF f m).2.2]) ∧
      Sep r [] (.blk gf 222 [.pointer (some ⟨gc, 0, .none⟩), .int .i64 (takeF f m).1.seen, .int .i64 (takeF f m).1.agreed] :: PC gc cell ten vg (takeF f m).1.c :: F) w' := by
  obtain ⟨A, cc, rfl, hcc⟩ := (hrd [_, _] w hS).mform
  have hlen := hg.isH.len
  refine Z.enter Tryz.func50 Tryz.ntmps50 rfl rfl ?_
  repeat' (first|refine K ?_|(refine Sh.sa hS ?_;clear hS;intro w hS)|(refine K3 ?_;clear hS;intro g w hS hge)|((first|refine GS ?_ ?_|refine VB ?_ ?_)<;>intro hb<;>(try simp only [JJ] at hb)<;>(try exact JX)))
  rename Nat => gh
  refine Z.eff (Z.cl (pships_z m _ _ _ _ hS (hrd.sub SuF)) rfl ?_) rfl
  clear hS
  rintro e w ⟨rfl, hS⟩
  refine ⟨_, rfl, ?_⟩
  repeat' (first|refine K ?_|(refine Sh.sa hS ?_;clear hS;intro w hS)|(refine K3 ?_;clear hS;intro g w hS hge)|((first|refine GS ?_ ?_|refine VB ?_ ?_)<;>intro hb<;>(try simp only [JJ] at hb)<;>(try exact JX)))
  · first | refine Z.done hS Tryz.results50 (Z.RV.cell rfl AtF rfl (Z.RV.tmp rfl Z.RV.nil)) ?_ | refine Z.doneN hS Tryz.results50 (Z.RV.cell rfl AtF rfl (Z.RV.tmp rfl Z.RV.nil)) ?_
    unfold takeF
    rw [if_neg (by rw [hb]; simp)]
    exact ⟨rfl, hS.sb⟩
  rename shipB m = true => hok
  have hh : headOk m := by have := hok; unfold shipB at this; simp only [Bool.and_eq_true, decide_eq_true_eq] at this; exact this.1
  have hch : chsOk m.ch (m.seq + 1) m.before m.ep = true := by have := hok; unfold shipB at this; simp only [Bool.and_eq_true, decide_eq_true_eq] at this; exact this.2
  have hh1 := hh
  unfold headOk at hh1
  refine D.startS hS 7 7 (by kernel_rfl) rfl ?_
  replace hS := hS.drew
  refine Sh.dp 0 1 ?_
  refine Sh.dp 2 5 ?_
  refine Sh.dp 3 13 ?_
  refine Sh.dp 4 29 ?_
  refine Sh.dl 1 31 ?_
  refine Sh.dl 5 63 ?_
  refine Sh.dp 6 127 ?_
  refine D.done (by kernel_rfl) ?_
  repeat' (first|refine K ?_|(refine Sh.sa hS ?_;clear hS;intro w hS)|(refine K3 ?_;clear hS;intro g w hS hge)|((first|refine GS ?_ ?_|refine VB ?_ ?_)<;>intro hb<;>(try simp only [JJ] at hb)<;>(try exact JX)))
  · first | refine Z.done hS Tryz.results50 (Z.RV.cell rfl AtF rfl (Z.RV.tmp rfl Z.RV.nil)) ?_ | refine Z.doneN hS Tryz.results50 (Z.RV.cell rfl AtF rfl (Z.RV.tmp rfl Z.RV.nil)) ?_
    unfold takeF
    rw [if_pos hok, if_pos hb]
    exact ⟨rfl, hS.sb⟩
  rename f.seen ≤ m.ep => hse
  replace hS := hS.fo (R := PC gc _ _ _ _)
  refine Z.eff (Z.cl (pclen_z gc cell ten vg f.c _ _ _ hS) rfl ?_) rfl
  clear hS
  rintro e w ⟨rfl, hS⟩
  refine ⟨_, rfl, ?_⟩
  repeat' (first|refine K ?_|(refine Sh.sa hS ?_;clear hS;intro w hS)|(refine K3 ?_;clear hS;intro g w hS hge)|((first|refine GS ?_ ?_|refine VB ?_ ?_)<;>intro hb<;>(try simp only [JJ] at hb)<;>(try exact JX)))
  · first | refine Z.done hS Tryz.results50 (Z.RV.cell rfl AtF rfl (Z.RV.tmp rfl Z.RV.nil)) ?_ | refine Z.doneN hS Tryz.results50 (Z.RV.cell rfl AtF rfl (Z.RV.tmp rfl Z.RV.nil)) ?_
    unfold takeF
    rw [if_pos hok, if_neg (by omega), if_pos hb]
    exact ⟨rfl, hS.sb⟩
  rename m.seq ≤ _ => hsq
  refine Z.eff (Z.cl (phist0_z gc cell ten vg f.c _ _ _ hS (by omega)) rfl ?_) rfl
  clear hS
  rintro e w ⟨Ah, ch, rfl, hS⟩
  refine ⟨_, rfl, ?_⟩
  repeat' (first|refine K ?_|(refine Sh.sa hS ?_;clear hS;intro w hS)|(refine K3 ?_;clear hS;intro g w hS hge)|((first|refine GS ?_ ?_|refine VB ?_ ?_)<;>intro hb<;>(try simp only [JJ] at hb)<;>(try exact JX)))
  refine Z.eff (Z.cl (pmatches_z f.c.h _ m.seq m.before _ _ _ hS (Reads.of_at (e := 149) AtF) (by omega)) rfl ?_) rfl
  clear hS
  rintro e w ⟨rfl, hS⟩
  refine ⟨_, rfl, ?_⟩
  repeat' (first|refine K ?_|(refine Sh.sa hS ?_;clear hS;intro w hS)|(refine K3 ?_;clear hS;intro g w hS hge)|((first|refine GS ?_ ?_|refine VB ?_ ?_)<;>intro hb<;>(try simp only [JJ] at hb)<;>(try exact JX)))
  · have hs1 : 1 ≤ m.seq := by
      by_cases h0 : m.seq = 0
      · rw [h0, hh1.2.2.2.2.2.2.1.1 h0, matchB_zero] at hb; cases hb
      · omega
    have hq : (m.seq - 1).toNat < f.c.h.length := by omega
    have eE : epAt f.c.h (m.seq - 1).toNat = f.c.h[(m.seq - 1).toNat].epoch := epAt_eq hq
    obtain ⟨gb, o, rfl, _, hra⟩ := (hS.slrows (e := 149) (v := .slice Ah f.c.h.length ch) AtF).mat (by omega) hq
    have hmem : f.c.h[(m.seq - 1).toNat] ∈ f.c.h := by simp
    generalize f.c.h[(m.seq - 1).toNat] = y at *
    repeat' (first|refine K ?_|(refine Sh.sa hS ?_;clear hS;intro w hS)|(refine K3 ?_;clear hS;intro g w hS hge)|((first|refine GS ?_ ?_|refine VB ?_ ?_)<;>intro hb<;>(try simp only [JJ] at hb)<;>(try exact JX)))
    rename Nat => ge
    refine Z.eff (Z.cl (ch_index (fun t => decide (t.epoch = y.epoch)) 116 [.pointer (some ⟨ge, 0, none⟩)] f.c.h _ _ _ _ hS (Reads.of_at (e := 149) AtF) (by omega) (fun L w t h => ptake1_z ge t y.epoch r _ w h (at_app L AtF))) rfl ?_) rfl
    clear hS
    rintro e w ⟨k, rfl, hS, hk1⟩
    refine ⟨_, rfl, ?_⟩
    rcases hk1 with ⟨rfl, hno⟩ | ⟨i, hi, rfl, hpi, hno⟩
    · exfalso
      have := hno y hmem
      simp at this
    · have he : eidx f.c.h (epAt f.c.h (m.seq - 1).toNat) = i := by
        rw [eE]
        exact eidx_first hi (by simpa using hpi) (fun z hz => by have := hno z hz; simpa using this)
      repeat' (first|refine K ?_|(refine Sh.sa hS ?_;clear hS;intro w hS)|(refine K3 ?_;clear hS;intro g w hS hge)|((first|refine GS ?_ ?_|refine VB ?_ ?_)<;>intro hb<;>(try simp only [JJ] at hb)<;>(try exact JX)))
      first | refine Z.done hS Tryz.results50 (Z.RV.cell rfl AtF rfl (Z.RV.tmp rfl Z.RV.nil)) ?_ | refine Z.doneN hS Tryz.results50 (Z.RV.cell rfl AtF rfl (Z.RV.tmp rfl Z.RV.nil)) ?_
      unfold takeF
      rw [if_pos hok, if_neg (by omega), if_neg (by omega), if_neg (by rw [hb]; simp), he]
      exact ⟨rfl, hS.sb⟩
  rename matchB f.c.h m.seq m.before = true => hm
  have hin := matchB_in hm
  have hga := agreeC_good hg m
  have hal : m.seq ≤ (agreeC f m).h.length := by
    unfold agreeC
    split
    · rw [(cutC_good hg m.seq.toNat).2, List.length_take]; omega
    · omega
  have hpre : ∀ j, j < (agreeC f m).h.length → f.c.h[j]? = (agreeC f m).h[j]? := by
    intro j hj
    unfold agreeC at hj ⊢
    split
    · rename_i h0
      rw [if_pos h0, (cutC_good hg m.seq.toNat).2] at hj
      rw [(cutC_good hg m.seq.toNat).2, List.getElem?_take]
      rw [List.length_take] at hj
      rw [if_pos (by omega)]
    · rfl
  have eT : takeF f m = (⟨(takeC (agreeC f m) m.ch m.seq).1, m.ep, max f.agreed m.ep⟩, ⟨m.ep, (takeC (agreeC f m) m.ch m.seq).2, true⟩, 0) := by
    unfold takeF
    rw [if_pos hok, if_neg (by omega), if_neg (by omega), if_pos hm]
  rw [eT]
  generalize hR : takeC (agreeC f m) m.ch m.seq = R
  refine D.startS hS 7 7 (by kernel_rfl) rfl ?_
  replace hS := hS.drew
  refine Sh.dp 0 1 ?_
  refine Sh.dp 2 5 ?_
  refine Sh.dp 3 13 ?_
  refine Sh.dp 4 29 ?_
  refine Sh.dl 1 31 ?_
  refine Sh.dl 5 63 ?_
  refine Sh.dp 6 127 ?_
  refine D.done (by kernel_rfl) ?_
  refine Z.thN ?_
  refine Z.cut [76, 77, 78, 79, 80, 81, 82, 83, 84, 85, 86, 87] (fun w s => s = [] ∧ Sep r [] (.blk g 131 [.int .i64 m.ep, .int .i64 m.seq, .int .i64 m.before, .slice A m.ch.length cc] :: .blk gh 137 [.int .i64 0, .int .i64 0, .bool false] :: .sl 149 8 (.slice Ah f.c.h.length ch) (f.c.h.map Ch.cells) :: .blk gf 222 [.pointer (some ⟨gc, 0, .none⟩), .int .i64 m.ep, .int .i64 (max f.agreed m.ep)] :: PC gc cell ten vg (agreeC f m) :: F) w) ?_ ?_
  · repeat' (first|refine K ?_|(refine Sh.sa hS ?_;clear hS;intro w hS)|(refine K3 ?_;clear hS;intro g w hS hge)|((first|refine GS ?_ ?_|refine VB ?_ ?_)<;>intro hb<;>(try simp only [JJ] at hb)<;>(try exact JX)))
    · refine D.startS (Lr := [.blk g 131 [.int .i64 m.ep, .int .i64 m.seq, .int .i64 m.before, .slice A m.ch.length cc], .blk gf 222 [.pointer (some ⟨gc, 0, .none⟩), .int .i64 m.ep, .int .i64 f.agreed]]) (hS.sb) 7 7 (by kernel_rfl) rfl ?_
      replace hS := hS.drew
      refine Sh.dp 0 1 ?_
      refine Sh.dp 1 3 ?_
      refine Sh.dp 2 7 ?_
      refine Sh.dp 4 23 ?_
      refine Sh.dl 3 31 ?_
      refine Sh.dl 5 63 ?_
      refine D.eff 6 127 rfl D.wantedN (by kernel_rfl) (by kernel_rfl) (fun _ _ h => h) ?_
      replace hS := hS.fo (R := PC gc _ _ _ _)
      refine Z.cl (pctrunc_in gc cell ten vg f.c m.seq _ _ _ hS hg hin) rfl ?_
      clear hS
      rintro e w ⟨rfl, hS⟩
      refine ⟨_, rfl, ?_⟩
      refine ⟨HM.s (hS.sb), ?_⟩
      refine D.done (by kernel_rfl) ?_
      repeat' (first|refine K ?_|(refine Sh.sa hS ?_;clear hS;intro w hS)|(refine K3 ?_;clear hS;intro g w hS hge)|((first|refine GS ?_ ?_|refine VB ?_ ?_)<;>intro hb<;>(try simp only [JJ] at hb)<;>(try exact JX)))
      refine Sh.cut [] ?_
      have e1 : max f.agreed m.ep = m.ep := by omega
      have e2 : agreeC f m = cutC f.c m.seq.toNat := by unfold agreeC; rw [if_pos hb]
      rw [e1, e2]
      exact ⟨rfl, hS.sb⟩
    · refine Sh.cut [] ?_
      have e1 : max f.agreed m.ep = f.agreed := by omega
      have e2 : agreeC f m = f.c := by unfold agreeC; rw [if_neg (by omega)]
      rw [e1, e2]
      exact ⟨rfl, hS.sb⟩
  clear hS
  rintro g0 w _ ⟨rfl, hS⟩
  repeat' (first|refine K ?_|(refine Sh.sa hS ?_;clear hS;intro w hS)|(refine K3 ?_;clear hS;intro g w hS hge)|((first|refine GS ?_ ?_|refine VB ?_ ?_)<;>intro hb<;>(try simp only [JJ] at hb)<;>(try exact JX)))
  refine Z.lpS [10, 12, 93, 94, 95, 96, 97, 98, 99, 100, 101, 102, 103, 104, 105, 106, 107, 108, 109, 110, 111, 112, 113, 114, 115, 116, 117, 118, 119, 120, 121, 122, 123, 124, 125, 126, 127, 128, 129, 130, 131, 132, 133, 134] (fun m' w s => ∃ (k : Nat) (a : Int) (c : Cp), s = [(10, .int .i64 a), (93, .int .i64 k)] ∧ k ≤ m.ch.length ∧ Good c ∧ takeC c (m.ch.drop k) a = R ∧ m.seq + k ≤ c.h.length ∧ (∀ j, m.seq.toNat + k ≤ j → j < c.h.length → f.c.h[j]? = c.h[j]?) ∧ m' = m.ch.length - k ∧
    Sep r [] (.blk g 131 [.int .i64 m.ep, .int .i64 m.seq, .int .i64 m.before, .slice A m.ch.length cc] :: .blk gh 137 [.int .i64 0, .int .i64 0, .bool false] :: .sl 149 8 (.slice Ah f.c.h.length ch) (f.c.h.map Ch.cells) :: .blk gf 222 [.pointer (some ⟨gc, 0, .none⟩), .int .i64 m.ep, .int .i64 (max f.agreed m.ep)] :: PC gc cell ten vg c :: F) w) _ [(10, .int .i64 m.seq), (93, .int .i64 (0 : Nat))] (by repeat (first | exact trivial | refine ⟨rfl, ?_⟩)) ⟨0, m.seq, agreeC f m, rfl, by omega, hga.1, by simpa using hR, by omega, fun j _ h2 => hpre j h2, rfl, hS⟩ ?_
  clear hS hR
  rintro m' f0 w _ ⟨k, a, c, rfl, hk, hgc, hR, hle, hsm, rfl, hS⟩
  have hclen := hgc.isH.len
  by_cases hlt : k < m.ch.length
  · obtain ⟨gb, o, rfl, _, hra⟩ := (hrd [_, _, _, _, _] w hS).mat (by omega) hlt
    have hxs := (chsOk_at hch k hlt).1
    rw [takeC_drop hlt] at hR
    generalize m.ch[k] = x at *
    have hct := cutC_good hgc (x.seq - 1).toNat
    have hctl : (cutC c (x.seq - 1).toNat).h.length ≤ c.h.length := by rw [hct.2, List.length_take]; omega
    repeat' (first|refine K ?_|(refine Sh.sa hS ?_;clear hS;intro w hS)|(refine K3 ?_;clear hS;intro g w hS hge)|((first|refine GS ?_ ?_|refine VB ?_ ?_)<;>intro hb<;>(try simp only [JJ] at hb)<;>(try exact JX)))
    rename Nat => gx
    refine Z.cut [97, 98, 99, 100, 101, 102, 103, 104, 105, 106, 107, 108, 109, 110, 111, 112, 113, 114, 115, 116] (fun w s => s = [(116, .bool (decide ((c.h.length : Int) < x.seq ∨ epAt c.h (x.seq - 1).toNat ≠ x.epoch)))] ∧ Sep r [] (.blk gx 149 x.cells :: .blk g 131 [.int .i64 m.ep, .int .i64 m.seq, .int .i64 m.before, .slice (some ⟨gb, o, .none⟩) m.ch.length cc] :: .blk gh 137 [.int .i64 0, .int .i64 0, .bool false] :: .sl 149 8 (.slice Ah f.c.h.length ch) (f.c.h.map Ch.cells) :: .blk gf 222 [.pointer (some ⟨gc, 0, .none⟩), .int .i64 m.ep, .int .i64 (max f.agreed m.ep)] :: PC gc cell ten vg c :: F) w) ?_ ?_
    · by_cases hl2 : (c.h.length : Int) < x.seq
      · refine D.startS (Lr := [.blk gx 149 x.cells, .blk gf 222 [.pointer (some ⟨gc, 0, .none⟩), .int .i64 m.ep, .int .i64 (max f.agreed m.ep)]]) (hS.sb) 20 20 (by kernel_rfl) rfl ?_
        replace hS := hS.drew
        refine Sh.dp 0 1 ?_
        refine Sh.dp 2 5 ?_
        refine Sh.dp 3 13 ?_
        refine Sh.dp 4 29 ?_
        refine Sh.dl 1 31 ?_
        refine Sh.dl 5 63 ?_
        refine D.eff 6 127 rfl D.wantedN (by kernel_rfl) (by kernel_rfl) (fun _ _ h => h) ?_
        replace hS := hS.fo (R := PC gc _ _ _ _)
        refine Z.cl (pclen_z gc cell ten vg c _ _ _ hS) rfl ?_
        clear hS
        rintro e w ⟨rfl, hS⟩
        refine ⟨_, rfl, ?_⟩
        refine ⟨HM.s (hS.sb), ?_⟩
        refine Sh.dp 7 255 ?_
        refine Sh.dp 8 511 ?_
        refine D.slot 105 rfl (fun hb => ?_) (fun hb => by exfalso; (try simp only [decide_eq_true_eq, decide_eq_false_iff_not, Bool.not_eq_true', Bool.not_eq_false', Int.not_lt, Int.not_le] at hb) <;> first | omega | exact hb trivial | cases hb | simp at hb)
        (try simp only [decide_eq_true_eq, decide_eq_false_iff_not, Bool.not_eq_true', Bool.not_eq_false', Int.not_lt, Int.not_le] at hb)
        refine D.skF 9 1023 rfl (by kernel_rfl) rfl rfl ?_
        refine D.skF 10 2047 rfl (by kernel_rfl) rfl rfl ?_
        refine D.skF 11 4095 rfl (by kernel_rfl) rfl rfl ?_
        refine D.skF 12 8191 rfl (by kernel_rfl) rfl rfl ?_
        refine D.skF 13 16383 rfl (by kernel_rfl) rfl rfl ?_
        refine D.skF 14 32767 rfl (by kernel_rfl) rfl rfl ?_
        refine D.skF 15 65535 rfl (by kernel_rfl) rfl rfl ?_
        refine D.skF 16 131071 rfl (by kernel_rfl) rfl rfl ?_
        refine D.skF 17 262143 rfl (by kernel_rfl) rfl rfl ?_
        refine D.skF 18 524287 rfl (by kernel_rfl) rfl rfl ?_
        refine Sh.dp 19 1048575 ?_
        refine D.done (by kernel_rfl) ?_
        refine Sh.cut [(116, _)] ?_
        exact ⟨by simp [hl2], hS.sb⟩
      · have hq : (x.seq - 1).toNat < c.h.length := by omega
        have he := hsm (x.seq - 1).toNat (by omega) hq
        rw [List.getElem?_eq_getElem hq] at he
        obtain ⟨hq', he'⟩ := List.getElem?_eq_some_iff.1 he
        obtain ⟨gb2, o2, rfl, _, _⟩ := (hS.slrows (e := 149) (v := .slice Ah f.c.h.length ch) AtF).mat (by omega) hq'
        refine D.startS (Lr := [.blk gx 149 x.cells, .blk gf 222 [.pointer (some ⟨gc, 0, .none⟩), .int .i64 m.ep, .int .i64 (max f.agreed m.ep)], .sl 149 8 (.slice (some ⟨gb2, o2, .none⟩) f.c.h.length ch) (f.c.h.map Ch.cells)]) (hS.sb) 20 20 (by kernel_rfl) rfl ?_
        replace hS := hS.drew
        refine Sh.dp 0 1 ?_
        refine Sh.dp 2 5 ?_
        refine Sh.dp 3 13 ?_
        refine Sh.dp 4 29 ?_
        refine Sh.dl 1 31 ?_
        refine Sh.dl 5 63 ?_
        refine D.eff 6 127 rfl D.wantedN (by kernel_rfl) (by kernel_rfl) (fun _ _ h => h) ?_
        replace hS := hS.fo (R := PC gc _ _ _ _)
        refine Z.cl (pclen_z gc cell ten vg c _ _ _ hS) rfl ?_
        clear hS
        rintro e w ⟨rfl, hS⟩
        refine ⟨_, rfl, ?_⟩
        refine ⟨HM.s (hS.sb), ?_⟩
        refine Sh.dp 7 255 ?_
        refine Sh.dp 8 511 ?_
        refine D.slot 105 rfl (fun hb => by exfalso; (try simp only [decide_eq_true_eq, decide_eq_false_iff_not, Bool.not_eq_true', Bool.not_eq_false', Int.not_lt, Int.not_le] at hb) <;> first | omega | exact hb trivial | cases hb | simp at hb) (fun hb => ?_)
        (try simp only [decide_eq_true_eq, decide_eq_false_iff_not, Bool.not_eq_true', Bool.not_eq_false', Int.not_lt, Int.not_le] at hb)
        refine Sh.dp 9 1023 ?_
        refine Sh.dp 10 2047 ?_
        refine Sh.dp 16 67583 ?_
        refine Sh.dl 11 69631 ?_
        first | refine D.sum 12 73727 rfl (D.wantedT rfl rfl) (by kernel_rfl) rfl (by constructor <;> omega) ?_ | refine D.sumW 12 73727 rfl (D.wantedT rfl rfl) (by kernel_rfl) rfl ?_
        first | refine D.ixn 13 81919 rfl (D.wantedT rfl rfl) (by kernel_rfl) rfl rfl rfl (by omega) ?_ | refine D.ix 13 81919 rfl (D.wantedT rfl rfl) (by kernel_rfl) rfl rfl rfl (by omega) ?_ | refine D.ia 13 81919 rfl (D.wantedT rfl rfl) (by kernel_rfl) rfl rfl rfl (by omega) ?_
        refine Sh.dp 14 98303 ?_
        refine D.ldE 15 131071 rfl (D.wantedT rfl rfl) (by kernel_rfl) rfl (fun W h => (h.slrows (e := 149) (v := .slice _ f.c.h.length ch) AtF).elem (by omega) hq') rfl ?_
        refine Sh.dl 17 262143 ?_
        first | refine D.pr 18 524287 rfl (D.wantedT rfl rfl) (by kernel_rfl) rfl ?_ | refine D.pl 18 524287 rfl (D.wantedT rfl rfl) (by kernel_rfl) (R.nea rfl rfl rfl rfl) ?_
        refine Sh.dp 19 1048575 ?_
        refine D.done (by kernel_rfl) ?_
        refine Sh.cut [(116, _)] ?_
        refine ⟨?_, hS.sb⟩
        have e4 : epAt c.h (x.seq - 1).toNat = f.c.h[(x.seq - 1).toNat].epoch := by rw [epAt_eq hq, he']
        rw [e4]
        simp [hl2]
    clear hS
    rintro g0 w _ ⟨rfl, hS⟩
    repeat' (first|refine K ?_|(refine Sh.sa hS ?_;clear hS;intro w hS)|(refine K3 ?_;clear hS;intro g w hS hge)|((first|refine GS ?_ ?_|refine VB ?_ ?_)<;>intro hb<;>(try simp only [JJ] at hb)<;>(try exact JX)))
    · refine D.startS (Lr := [.blk gx 149 x.cells, .blk gf 222 [.pointer (some ⟨gc, 0, .none⟩), .int .i64 m.ep, .int .i64 (max f.agreed m.ep)]]) (hS.sb) 8 8 (by kernel_rfl) rfl ?_
      replace hS := hS.drew
      refine Sh.dp 0 1 ?_
      refine Sh.dp 1 3 ?_
      refine Sh.dp 2 7 ?_
      refine Sh.dp 4 23 ?_
      refine Sh.dl 3 31 ?_
      refine Sh.dl 5 63 ?_
      first | refine D.sum 6 127 rfl D.wantedN (by kernel_rfl) rfl (by constructor <;> omega) ?_ | refine D.sumW 6 127 rfl D.wantedN (by kernel_rfl) rfl ?_
      refine D.eff 7 255 rfl D.wantedN (by kernel_rfl) (by kernel_rfl) (fun _ _ h => h) ?_
      replace hS := hS.fo (R := PC gc _ _ _ _)
      refine Z.cl (pctrunc_in gc cell ten vg c (x.seq - 1) _ _ _ hS hgc ⟨by omega, by omega⟩) rfl ?_
      clear hS
      rintro e w ⟨rfl, hS⟩
      refine ⟨_, rfl, ?_⟩
      refine ⟨HM.s (hS.sb), ?_⟩
      refine D.done (by kernel_rfl) ?_
      repeat' (first|refine K ?_|(refine Sh.sa hS ?_;clear hS;intro w hS)|(refine K3 ?_;clear hS;intro g w hS hge)|((first|refine GS ?_ ?_|refine VB ?_ ?_)<;>intro hb<;>(try simp only [JJ] at hb)<;>(try exact JX)))
      refine D.startS (Lr := [.blk gx 149 x.cells, .blk gf 222 [.pointer (some ⟨gc, 0, .none⟩), .int .i64 m.ep, .int .i64 (max f.agreed m.ep)]]) (hS.sb) 7 7 (by kernel_rfl) rfl ?_
      replace hS := hS.drew
      refine Sh.dp 0 1 ?_
      refine Sh.dp 1 3 ?_
      refine Sh.dp 2 7 ?_
      refine Sh.dl 3 15 ?_
      refine Sh.dl 4 31 ?_
      refine D.eff 5 63 rfl D.wantedN (by kernel_rfl) (by kernel_rfl) (fun _ _ h => h) ?_
      replace hS := hS.fo (R := PC gc _ _ _ _)
      refine Z.cl (pcapply_z gc cell ten vg (cutC c (x.seq - 1).toNat) x _ _ _ hS hct.1.cok (by omega)) rfl ?_
      clear hS
      rintro e w ⟨rfl, hS⟩
      refine ⟨_, rfl, ?_⟩
      refine ⟨HM.s (hS.sb), ?_⟩
      first | refine D.pr 6 127 rfl D.wantedN (by kernel_rfl) rfl ?_ | refine D.pl 6 127 rfl D.wantedN (by kernel_rfl) (R.nea rfl rfl rfl rfl) ?_
      refine D.done (by kernel_rfl) ?_
      rename _ ∨ _ => hcond
      rw [if_pos hcond] at hR
      repeat' (first|refine K ?_|(refine Sh.sa hS ?_;clear hS;intro w hS)|(refine K3 ?_;clear hS;intro g w hS hge)|((first|refine GS ?_ ?_|refine VB ?_ ?_)<;>intro hb<;>(try simp only [JJ] at hb)<;>(try exact JX)))
      · first | refine Z.done hS Tryz.results50 (Z.RV.cell rfl AtF rfl (Z.RV.tmp rfl Z.RV.nil)) ?_ | refine Z.doneN hS Tryz.results50 (Z.RV.cell rfl AtF rfl (Z.RV.tmp rfl Z.RV.nil)) ?_
        rw [if_neg hb] at hR
        rw [cApp_bad hb] at hS
        rw [← hR]
        exact ⟨rfl, hS.sb⟩
      · refine Sh.again (m.ch.length - (k + 1)) [(10, .int .i64 x.seq), (93, .int .i64 (k + 1 : Nat))] ?_
        rw [if_pos hb] at hR
        have hst := hct.1.step x
        have hlen2 : (cApp (cutC c (x.seq - 1).toNat) x).1.h.length = (x.seq).toNat := by
          rw [(cApp_ok hb).2.2.2.2.2.2]
          simp only [List.length_append, List.length_singleton]
          rw [hct.2, List.length_take]
          omega
        exact ⟨k + 1, x.seq, _, rfl, by omega, hst.1, hR, by rw [hlen2]; omega, fun j h1 h2 => by rw [hlen2] at h2; omega, rfl, hS.sb⟩
    · refine Sh.again (m.ch.length - (k + 1)) [(10, .int .i64 x.seq), (93, .int .i64 (k + 1 : Nat))] ?_
      rw [if_neg hb] at hR
      exact ⟨k + 1, x.seq, c, rfl, by omega, hgc, hR, by omega, fun j h1 h2 => hsm j (by omega) h2, rfl, hS.sb⟩
  · repeat' (first|refine K ?_|(refine Sh.sa hS ?_;clear hS;intro w hS)|(refine K3 ?_;clear hS;intro g w hS hge)|((first|refine GS ?_ ?_|refine VB ?_ ?_)<;>intro hb<;>(try simp only [JJ] at hb)<;>(try exact JX)))
    first | refine Z.done hS Tryz.results50 (Z.RV.cell rfl AtF rfl (Z.RV.tmp rfl Z.RV.nil)) ?_ | refine Z.doneN hS Tryz.results50 (Z.RV.cell rfl AtF rfl (Z.RV.tmp rfl Z.RV.nil)) ?_
    rw [List.drop_eq_nil_of_le (by omega)] at hR
    rw [← hR]
    exact ⟨rfl, hS.sb⟩
end Go.Proofs.YtfmnjbhncnldmaaGreat
