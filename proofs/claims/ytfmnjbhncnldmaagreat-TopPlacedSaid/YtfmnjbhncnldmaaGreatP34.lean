import Derived.Test.YtfmnjbhncnldmaaGreatRows
import Derived.BigGuardPart
import Derived.Deep.QuietTactic
import Derived.BigQuiet
import Derived.Deep.RegionHeld3
import Derived.Handy
import Derived.Deep.DeepCutAuto
import Derived.Test.YtfmnjbhncnldmaaGreatP00
import Derived.Test.YtfmnjbhncnldmaaGreatP02
import Derived.Test.YtfmnjbhncnldmaaGreatP30
import Derived.Test.YtfmnjbhncnldmaaGreatP31
import Derived.Test.YtfmnjbhncnldmaaGreatP33
set_option linter.unusedSimpArgs false
set_option linter.unusedVariables false
namespace Go.Proofs.YtfmnjbhncnldmaaGreat
open Go.RowKit
attribute [local irreducible] Res.blk Res.sl Res.all Res.ex Res.pure Res.star
def bare (c : Cp) : Cp := ⟨c.h, c.s, ⟨c.q.l, [], c.q.most⟩, c.t⟩
structure CG (c : Cp) : Prop where
  good : Good (bare c)
  q : QOk c.q
theorem qApp_bare (q : Qu) (x : Ch) : qApp ⟨q.l, [], q.most⟩ x = (⟨(qApp q x).1.l, [], (qApp q x).1.most⟩, (qApp q x).2) := by
  unfold qApp
  dsimp only
  split
  · split
    · split
      · rfl
      · split <;> rfl
    · split
      · split
        · rfl
        · rfl
      · rfl
  · rfl
theorem cApp_bare (c : Cp) (x : Ch) : cApp (bare c) x = (bare (cApp c x).1, (cApp c x).2) := by
  unfold cApp
  simp only [bare, qApp_bare]
  split
  · split
    · split
      · rfl
      · split
        · rfl
        · split <;> rfl
    · rfl
  · rfl
theorem Good.cg {c : Cp} (h : Good c) (hq : QOk c.q) : CG c := by
  have hr := h.ok.2.2.2
  refine ⟨?_, hq⟩
  have e : bare c = c := by
    obtain ⟨h, s, ⟨l, r, m⟩, t⟩ := c
    simp only at hr
    subst hr
    rfl
  rw [e]
  exact h
theorem CG.app {c : Cp} (h : CG c) (x : Ch) : CG (cApp c x).1 ∧ (cApp c x).1.h.length ≤ c.h.length + 1 := by
  have h1 := h.good.step x
  rw [cApp_bare] at h1
  refine ⟨⟨h1.1, ?_⟩, h1.2⟩
  by_cases h0 : (cApp c x).2 = 0
  · obtain ⟨_, _, _, _, _, _, e⟩ := cApp_ok h0
    rw [e]
    exact h.q.app x
  · rw [cApp_bad h0]
    exact h.q
theorem CG.ok {c : Cp} (h : CG c) : c.t.ok ∧ c.s.length ≤ 32 ∧ c.q.l.length ≤ 16 ∧ c.q.r.length ≤ 16 := by
  have h1 := h.good.ok
  exact ⟨h1.1, h1.2.1, h1.2.2.1, h.q.rlen⟩
theorem Good.qok {c : Cp} (h : Good c) : QOk c.q := by
  have := QOk.fold (h := c.h) (i := 0) QOk.zero
  rw [h.foldQ] at this
  exact this
theorem Good.most {c : Cp} (h : Good c) : c.q.most ≤ c.h.length := by
  induction h with
  | zero => exact Int.le_refl _
  | @app c x hc hx ih =>
    obtain ⟨_, hs, _, _, _, hq0, e⟩ := cApp_ok hx
    rw [e]
    simp only [List.length_append, List.length_singleton]
    push_cast
    unfold qApp
    repeat' split
    all_goals first | omega | (simp only; omega) | (show c.q.most ≤ (c.h.length : Int) + 1; omega)
structure CW (c : Cp) : Prop where
  good : Good (bare c)
  rl : c.q.r.length ≤ 16
theorem CG.cw {c : Cp} (h : CG c) : CW c := ⟨h.good, h.q.rlen⟩
theorem CW.most {c : Cp} (h : CW c) : c.q.most ≤ c.h.length := h.good.most
theorem CW.le {c : Cp} (h : CW c) : ∀ y, y ∈ c.q.l → y.number ≤ c.q.most := h.good.qok.le
structure Rq where
  tenant : Int
  client : Int
  number : Int
  op : Int
  item : Int
  key : ByteArray
  value : ByteArray
def Rq.cells (x : Rq) : List Value := [.int .i64 x.tenant, .int .i64 x.client, .int .i64 x.number, .int .i64 x.op, .int .i64 x.item, .string x.key, .string x.value]
def Rq.val (x : Rq) : Value := .agg x.cells.toArray
def numOk (x : Rq) : Prop := 1 ≤ x.number ∧ x.number ≤ 1048576
def keyOk (k : ByteArray) : Prop := 1 ≤ k.size ∧ k.size ≤ 16
def reqOk (x : Rq) : Prop := 0 ≤ x.tenant ∧ x.tenant < 32 ∧ 1 ≤ x.client ∧ x.client ≤ 8 ∧
  ((x.op = 1 ∧ x.number = 0 ∧ x.item = 0 ∧ keyOk x.key ∧ x.value = ⟨#[]⟩) ∨
   (x.op = 2 ∧ numOk x ∧ x.item = 0 ∧ keyOk x.key ∧ x.value.size ≤ 64) ∨
   (x.op = 3 ∧ numOk x ∧ x.item = 0 ∧ keyOk x.key ∧ x.value = ⟨#[]⟩) ∨
   (x.op = 4 ∧ numOk x ∧ x.item = 0 ∧ x.key = ⟨#[]⟩ ∧ x.value.size ≤ 64) ∨
   (x.op = 5 ∧ x.number = 0 ∧ x.item = 0 ∧ x.key = ⟨#[]⟩ ∧ x.value = ⟨#[]⟩) ∨
   (x.op = 6 ∧ numOk x ∧ (1 ≤ x.item ∧ x.item ≤ 4096) ∧ x.key = ⟨#[]⟩ ∧ x.value = ⟨#[]⟩))
instance (x : Rq) : Decidable (numOk x) := by unfold numOk; infer_instance
instance (k : ByteArray) : Decidable (keyOk k) := by unfold keyOk; infer_instance
instance (x : Rq) : Decidable (reqOk x) := by unfold reqOk; infer_instance
def errR (e : Int) : Rep := ⟨e, 0, 0, ⟨#[]⟩⟩
structure ExR where
  c : Cp
  p : Rep
def kindOp (op : Int) : Int := if op = 2 then 1 else if op = 3 then 2 else if op = 4 then 3 else 4
def chOf (c : Cp) (ep : Int) (x : Rq) : Ch := ⟨ep, (c.h.length : Int) + 1, kindOp x.op, x.client, x.number, x.item, x.key, x.value⟩
def waitsB (l : List It) (n : Int) : Bool := l.any fun x => decide (x.number = n)
def refuse (c : Cp) (x : Rq) (hold : Bool) : Int :=
  if x.op = 2 then (if (atK c.s x.key).isSome = false ∧ 32 ≤ c.s.length then 33 else 0)
  else if x.op = 3 then (if (atK c.s x.key).isSome = false then 34 else 0)
  else if x.op = 4 then (if 16 ≤ c.q.l.length then 33 else 0)
  else if waitsB c.q.l x.item then (if hold then 0 else 35) else 34
def wrQ (c : Cp) (ep : Int) (x : Rq) (hold : Bool) : ExR :=
  if (findB c.t x.client x.number).2 = 0 then ⟨c, (findB c.t x.client x.number).1⟩
  else if (findB c.t x.client x.number).2 = 34 then
    if 4096 ≤ c.h.length then ⟨c, errR 2⟩
    else if refuse c x hold = 0 then ⟨(cApp c (chOf c ep x)).1, repOf (chOf c ep x)⟩
    else ⟨c, errR (refuse c x hold)⟩
  else ⟨c, errR (findB c.t x.client x.number).2⟩
def exQ (tkf : Qu → Int → Int → Int → Int → TkR) (hdf : List Le → Int → Int → Int → Int → Bool) (c : Cp) (ten acc tk : Int) (x : Rq) : ExR :=
  if reqOk x ∧ x.tenant = ten ∧ 0 ≤ tk ∧ tk ≤ 1073741824 then
    if 0 < acc ∧ epochOf c.h ≤ acc then
      if x.op = 1 then (match atK c.s x.key with | some y => ⟨c, ⟨0, y.seq, 0, y.value⟩⟩ | none => ⟨c, errR 34⟩)
      else if x.op = 5 then ⟨⟨c.h, c.s, (tkf c.q x.client acc tk 20).q, c.t⟩, if (tkf c.q x.client acc tk 20).e = 0 then ⟨0, 0, (tkf c.q x.client acc tk 20).x.number, (tkf c.q x.client acc tk 20).x.value⟩ else errR (tkf c.q x.client acc tk 20).e⟩
      else wrQ c acc x (hdf c.q.r x.client acc x.item tk)
    else ⟨c, errR 30⟩
  else ⟨c, errR 1⟩
abbrev exP := exQ takeP holdsP
theorem qat_ge {l : List It} {n : Int} (h : waitsB l n = true) : ¬ qat l n < 0 := by
  unfold waitsB at h
  rw [List.any_eq_true] at h
  obtain ⟨y, hy, hn⟩ := h
  rw [decide_eq_true_eq] at hn
  have key : ∀ {l : List It} {n : Int} {y : It}, y ∈ l → y.number = n → qidx l n < l.length := by
    intro l
    induction l with
    | nil => intro n y hy; simp at hy
    | cons a l ih =>
      intro n y hy hn
      unfold qidx
      split
      · simp
      · rename_i hne
        rcases List.mem_cons.1 hy with rfl | hy
        · exact absurd hn hne
        · have := ih hy hn
          simp only [List.length_cons]
          omega
  have h1 := key hy hn
  unfold qat
  split <;> omega
theorem found_atK {l : List Ce} {k : ByteArray} : foundB l k = (atK l k).isSome := by
  unfold atK
  split
  · rename_i h
    have := found_lt h
    rw [h, List.getElem?_eq_getElem this]
    rfl
  · rename_i h
    simp only [Bool.not_eq_true] at h
    rw [h]
    rfl
theorem write_ok {c : Cp} (h : CW c) {x : Rq} (hx : reqOk x) (h1 : x.op ≠ 1) (h5 : x.op ≠ 5) {ep : Int} (he : 1 ≤ ep) (he2 : ep ≤ 1048576) (hep : epochOf c.h ≤ ep) (hf : (findB c.t x.client x.number).2 = 34) (hl : ¬ 4096 ≤ c.h.length) {hold : Bool} (hr : refuse c x hold = 0) :
    (cApp c (chOf c ep x)).2 = 0 ∧ findB (cApp c (chOf c ep x)).1.t x.client x.number = (repOf (chOf c ep x), 0) := by
  obtain ⟨t0, t1, c0, c1, hop⟩ := hx
  have hmost := h.most
  have hnum : numOk x ∧ (x.op = 2 ∨ x.op = 3 ∨ x.op = 4 ∨ x.op = 6) := by
    rcases hop with ho | ho | ho | ho | ho | ho
    · exact absurd ho.1 h1
    · exact ⟨ho.2.1, by omega⟩
    · exact ⟨ho.2.1, by omega⟩
    · exact ⟨ho.2.1, by omega⟩
    · exact absurd ho.1 h5
    · exact ⟨ho.2.1, by omega⟩
  obtain ⟨⟨n0, n1⟩, hops⟩ := hnum
  have hn : x.number = c.t.n (x.client - 1).toNat + 1 := by
    unfold findB at hf
    rw [if_neg (by omega)] at hf
    split at hf
    · simp at hf
    · split at hf
      · assumption
      · simp at hf
  have hv : validB (chOf c ep x) = true := by
    have hin : ∀ a b c : Int, b ≤ a → a ≤ c → inB a b c = true := fun a b c h1 h2 => by simp [inB, h1, h2]
    unfold validB
    simp only [chOf, Bool.and_eq_true]
    refine ⟨hin _ _ _ he he2, hin _ _ _ (by omega) (by omega), hin _ _ _ c0 c1, hin _ _ _ n0 n1, ?_⟩
    rcases hop with ho | ho | ho | ho | ho | ho
    · exact absurd ho.1 h1
    · obtain ⟨o, _, it, ⟨k1, k2⟩, v⟩ := ho
      simp [restB, kindOp, o, it, keyB, valB, v]
      try exact hin _ _ _ (by omega) (by omega)
    · obtain ⟨o, _, it, ⟨k1, k2⟩, v⟩ := ho
      simp [restB, kindOp, o, it, keyB, v]
      try exact hin _ _ _ (by omega) (by omega)
      try exact ⟨hin _ _ _ (by omega) (by omega), rfl⟩
    · obtain ⟨o, _, it, k, v⟩ := ho
      simp [restB, kindOp, o, it, valB, k, v]
      try rfl
    · exact absurd ho.1 h5
    · obtain ⟨o, _, ⟨i1, i2⟩, k, v⟩ := ho
      have hw : waitsB c.q.l x.item = true := by
        unfold refuse at hr
        rw [if_neg (by omega), if_neg (by omega), if_neg (by omega)] at hr
        split at hr
        · assumption
        · simp at hr
      have hitem : x.item ≤ c.h.length := by
        unfold waitsB at hw
        rw [List.any_eq_true] at hw
        obtain ⟨y, hy, hyn⟩ := hw
        rw [decide_eq_true_eq] at hyn
        have := h.le y hy
        omega
      simp [restB, kindOp, o, inB, k, v]
      first
        | omega
        | (refine ⟨rfl, rfl, ?_⟩; omega)
        | (constructor <;> first | rfl | omega)
  have ht : tApp c.t (chOf c ep x) = (⟨upd c.t.n (x.client - 1).toNat x.number, upd c.t.r (x.client - 1).toNat (repOf (chOf c ep x))⟩, 0) := by
    unfold tApp
    rw [if_pos hv, if_pos (by simp only [chOf]; exact hn)]
    rfl
  have hs : (sApp c.s (chOf c ep x)).2 = 0 := by
    unfold sApp
    rw [if_pos hv]
    unfold refuse at hr
    simp only [chOf, kindOp, found_atK]
    rcases hops with o | o | o | o <;> simp only [o] at hr ⊢ <;> simp at hr ⊢
    · split
      · rfl
      · rename_i hk
        split
        · rename_i h32; simp only [Bool.not_eq_true] at hk; exfalso; have := hr (by simpa using hk); omega
        · rfl
    · split
      · rfl
      · rename_i hk; exfalso; apply hk; cases hz : atK c.s x.key with
        | none => rw [hz] at hr; simp at hr
        | some y => rfl
  have hq : (qApp c.q (chOf c ep x)).2 = 0 := by
    unfold qApp
    rw [if_pos hv]
    rcases hops with o | o | o | o
    · have hk : (chOf c ep x).kind = 1 := by simp [chOf, kindOp, o]
      rw [if_neg (by rw [hk]; omega), if_neg (by rw [hk]; omega)]
    · have hk : (chOf c ep x).kind = 2 := by simp [chOf, kindOp, o]
      rw [if_neg (by rw [hk]; omega), if_neg (by rw [hk]; omega)]
    · have hk : (chOf c ep x).kind = 3 := by simp [chOf, kindOp, o]
      have h16 : ¬ 16 ≤ c.q.l.length := by
        intro h16
        unfold refuse at hr
        rw [if_neg (by omega), if_neg (by omega), if_pos o, if_pos h16] at hr
        cases hr
      rw [if_pos hk, if_neg (show ¬ (chOf c ep x).seq ≤ c.q.most by simp only [chOf]; omega), if_neg h16]
    · have hk : (chOf c ep x).kind = 4 := by simp [chOf, kindOp, o]
      have hw : waitsB c.q.l x.item = true := by
        unfold refuse at hr
        rw [if_neg (by omega), if_neg (by omega), if_neg (by omega)] at hr
        split at hr
        · assumption
        · simp at hr
      rw [if_neg (by rw [hk]; omega), if_pos hk, if_neg (show ¬ qat c.q.l (chOf c ep x).item < 0 from qat_ge hw)]
  have hall : cApp c (chOf c ep x) = (⟨c.h ++ [chOf c ep x], (sApp c.s (chOf c ep x)).1, (qApp c.q (chOf c ep x)).1, (tApp c.t (chOf c ep x)).1⟩, 0) := by
    unfold cApp
    rw [if_pos hv, if_pos ⟨rfl, hep⟩, if_neg (by rw [ht]; simp), if_neg (by rw [hs]; simp), if_neg (by rw [hq]; simp)]
  rw [hall, ht]
  refine ⟨rfl, ?_⟩
  unfold findB
  rw [if_neg (by omega)]
  simp only [upd, if_true]
end Go.Proofs.YtfmnjbhncnldmaaGreat
