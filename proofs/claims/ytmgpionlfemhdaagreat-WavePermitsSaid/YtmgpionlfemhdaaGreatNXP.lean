/-
  Waves of cells, in plain terms: conflicts, how cells are divided into waves, and which waves are permitted.
-/
import Derived.Test.YtmgpionlfemhdaaGreatNCfP
namespace Go.Proofs.YtmgpionlfemhdaaGreat
open Go.RowKit
set_option linter.unusedSimpArgs false
set_option linter.unusedVariables false
attribute [local irreducible] Res.blk Res.sl Res.all Res.ex Res.pure Res.star

def inC (c : Cfg) (k : Int) : Bool := decide (0 ≤ k ∧ k < c.cells.length)
def fst37 (x : TS) (k : Int) : Bool := decide (x.home = k ∨ x.target = k)
def snd37 (x : TS) (k : Int) : Bool := decide (x.standby = k ∨ x.next = k)
def btw37 (x : TS) (a b : Int) : Bool := fst37 x a && snd37 x b
def conf1 (a b : Int) (x : TS) : Bool := x.placed && (btw37 x a b || btw37 x b a)
def conf (c : Cfg) (s : Sta) (a b : Int) : Bool := !decide (a = b) && inC c a && inC c b && s.tenants.any (conf1 a b)
theorem conf1_comm (a b : Int) (x : TS) : conf1 a b x = conf1 b a x := by
  unfold conf1
  rw [Bool.or_comm (btw37 x a b)]
theorem conf_comm (c : Cfg) (s : Sta) (a b : Int) : conf c s a b = conf c s b a := by
  unfold conf
  rw [show (conf1 a b) = conf1 b a from funext fun x => conf1_comm a b x, show decide (a = b) = decide (b = a) from by rw [decide_eq_decide]; exact eq_comm, Bool.and_assoc, Bool.and_assoc, Bool.and_assoc, Bool.and_assoc, ← Bool.and_assoc (inC c a), ← Bool.and_assoc (inC c b), Bool.and_comm (inC c a)]
theorem conf_self (c : Cfg) (s : Sta) (a : Int) : conf c s a a = false := by simp [conf]
/-- Whether a wave takes another cell. -/
def joinB (c : Cfg) (s : Sta) (w : List Int) (k : Int) : Bool := decide ((w.length : Int) < c.blast) && w.all fun x => decide (regOf c x = regOf c k) && !conf c s x k
def insT (c : Cfg) (s : Sta) : List (List Int) → Int → List (List Int)
  | [], k => [[k]]
  | w :: ws, k => if joinB c s w k then (w ++ [k]) :: ws else w :: insT c s ws k
def insW (c : Cfg) (s : Sta) : List (List Int) → Int → List (List Int)
  | [], k => [[k]]
  | w :: ws, k => w :: insT c s ws k
def mkW (c : Cfg) (s : Sta) (l : List Int) : List (List Int) := l.foldl (insW c s) []
theorem insT_found (c : Cfg) (s : Sta) (k : Int) : ∀ {ws : List (List Int)} {i : Nat} (hi : i < ws.length), (∀ j (hj : j < i), joinB c s (ws[j]'(by omega)) k = false) → joinB c s ws[i] k = true → insT c s ws k = ws.set i (ws[i] ++ [k])
  | w :: ws, 0, _, _, h => by
    have h' : joinB c s w k = true := h
    simp [insT, h']
  | w :: ws, i + 1, hi, hall, h => by
    have h0 : joinB c s w k = false := hall 0 (by omega)
    have := insT_found c s k (ws := ws) (i := i) (by simpa using hi) (fun j hj => by have := hall (j + 1) (by omega); simpa using this) (by simpa using h)
    simp [insT, h0, this]
theorem insT_none (c : Cfg) (s : Sta) (k : Int) : ∀ {ws : List (List Int)}, (∀ w, w ∈ ws → joinB c s w k = false) → insT c s ws k = ws ++ [[k]]
  | [], _ => rfl
  | w :: ws, hall => by
    have h0 : joinB c s w k = false := hall w (by simp)
    simp [insT, h0, insT_none c s k (ws := ws) fun x hx => hall x (by simp [hx])]
theorem insW_found (c : Cfg) (s : Sta) (k : Int) {ws : List (List Int)} {i : Nat} (h1 : 1 ≤ i) (hi : i < ws.length) (hall : ∀ j (_ : 1 ≤ j) (hj : j < i), joinB c s (ws[j]'(by omega)) k = false) (h : joinB c s ws[i] k = true) : insW c s ws k = ws.set i (ws[i] ++ [k]) := by
  cases ws with
  | nil => simp at hi
  | cons w ws =>
    obtain ⟨i, rfl⟩ : ∃ q, i = q + 1 := ⟨i - 1, by omega⟩
    have := insT_found c s k (ws := ws) (i := i) (by simpa using hi) (fun j hj => by have := hall (j + 1) (by omega) (by omega); simpa using this) (by simpa using h)
    simp [insW, this]
theorem insW_none (c : Cfg) (s : Sta) (k : Int) {ws : List (List Int)} (hall : ∀ j (_ : 1 ≤ j) (hj : j < ws.length), joinB c s ws[j] k = false) : insW c s ws k = ws ++ [[k]] := by
  cases ws with
  | nil => rfl
  | cons w ws =>
    have := insT_none c s k (ws := ws) fun x hx => by
      obtain ⟨j, hj, rfl⟩ := List.mem_iff_getElem.1 hx
      have := hall (j + 1) (by omega) (by simpa using hj)
      simpa using this
    simp [insW, this]
theorem mkW_snoc (c : Cfg) (s : Sta) (l : List Int) (k : Int) : mkW c s (l ++ [k]) = insW c s (mkW c s l) k := by simp [mkW]
theorem insT_len (c : Cfg) (s : Sta) (k : Int) : ∀ ws, (insT c s ws k).length ≤ ws.length + 1
  | [] => by simp [insT]
  | w :: ws => by
    have := insT_len c s k ws
    unfold insT
    split
    · simp
    · simp; omega
theorem insW_len (c : Cfg) (s : Sta) (k : Int) (ws) : (insW c s ws k).length ≤ ws.length + 1 := by
  cases ws with
  | nil => simp [insW]
  | cons w ws => have := insT_len c s k ws; simp [insW]; omega
/-! Ascending lists. -/
def srt (l : List Int) : List Int := l.mergeSort fun x y => decide (x ≤ y)
theorem srt_perm (l : List Int) : (srt l).Perm l := List.mergeSort_perm _ _
theorem srt_len (l : List Int) : (srt l).length = l.length := (srt_perm l).length_eq
theorem srt_le (l : List Int) : (srt l).Pairwise (· ≤ ·) := by
  have := List.pairwise_mergeSort (le := fun x y : Int => decide (x ≤ y)) (fun a b c => by simp; omega) (fun a b => by simp; omega) l
  exact this.imp fun h => by simpa using h
theorem asc_one : ∀ {l l' : List Int}, l.Pairwise (· < ·) → l'.Pairwise (· < ·) → (∀ x, x ∈ l ↔ x ∈ l') → l = l'
  | [], [], _, _, _ => rfl
  | [], b :: l', _, _, h => by have := (h b).2 (by simp); simp at this
  | a :: l, [], _, _, h => by have := (h a).1 (by simp); simp at this
  | a :: l, b :: l', h1, h2, h => by
    obtain ⟨a1, a2⟩ := List.pairwise_cons.1 h1
    obtain ⟨b1, b2⟩ := List.pairwise_cons.1 h2
    have hab : a = b := by
      have x1 := (h a).1 (by simp)
      have x2 := (h b).2 (by simp)
      rcases List.mem_cons.1 x1 with x1 | x1
      · exact x1
      · rcases List.mem_cons.1 x2 with x2 | x2
        · exact x2.symm
        · have := b1 _ x1; have := a1 _ x2; omega
    subst hab
    rw [asc_one a2 b2 fun x => ⟨fun hx => ?_, fun hx => ?_⟩]
    · rcases List.mem_cons.1 ((h x).1 (by simp [hx])) with rfl | h3
      · exact absurd (a1 _ hx) (by omega)
      · exact h3
    · rcases List.mem_cons.1 ((h x).2 (by simp [hx])) with rfl | h3
      · exact absurd (b1 _ hx) (by omega)
      · exact h3
theorem srt_asc {l : List Int} (h : l.Nodup) : (srt l).Pairwise (· < ·) := by
  have h1 := srt_le l
  have h2 : (srt l).Nodup := (srt_perm l).nodup_iff.2 h
  exact (List.pairwise_and_iff.2 ⟨h1, h2⟩).imp fun ⟨a, b⟩ => by omega
theorem srt_of_asc {l : List Int} (h : l.Pairwise (· < ·)) : srt l = l := by
  refine asc_one (srt_asc (h.imp fun h => by omega)) h fun x => (srt_perm l).mem_iff
theorem srt_of_perm {l l' : List Int} (h : l.Perm l') (hn : l.Nodup) : srt l = srt l' := by
  refine asc_one (srt_asc hn) (srt_asc (h.nodup_iff.1 hn)) fun x => ?_
  rw [(srt_perm l).mem_iff, (srt_perm l').mem_iff, h.mem_iff]
/-- What Make returns. -/
def mkOk (c : Cfg) (l : List Int) : Bool := l.all (inC c) && decide l.Nodup
def mkR (c : Cfg) (s : Sta) (l : List Int) : List (List Int) × Int := if mkOk c l then (mkW c s (srt l), 0) else ([], 1)
theorem mkOk_srt (c : Cfg) (l : List Int) : mkOk c l = true ↔ ∀ i (hi : i < (srt l).length), inC c (srt l)[i] = true ∧ (0 < i → (srt l)[i - 1] ≠ (srt l)[i]) := by
  have hp := srt_perm l
  unfold mkOk
  rw [Bool.and_eq_true, List.all_eq_true, decide_eq_true_eq]
  constructor
  · rintro ⟨h1, h2⟩ i hi
    refine ⟨h1 _ (hp.mem_iff.1 (List.getElem_mem hi)), fun h0 => ?_⟩
    have := List.pairwise_iff_getElem.1 (srt_asc h2) (i - 1) i (by omega) hi (by omega)
    omega
  · intro h
    refine ⟨fun x hx => ?_, hp.nodup_iff.1 ?_⟩
    · obtain ⟨i, hi, rfl⟩ := List.mem_iff_getElem.1 (hp.mem_iff.2 hx)
      exact (h i hi).1
    · have hle := srt_le l
      have hs : ∀ (n i : Nat) (hi : i + n + 1 < (srt l).length), (srt l)[i]'(by omega) < (srt l)[i + n + 1] := fun n i hi => by
        have h1 := List.pairwise_iff_getElem.1 hle
        have h2 : (srt l)[i + n]'(by omega) ≠ (srt l)[i + n + 1] := (h (i + n + 1) hi).2 (by omega)
        have h3 := h1 (i + n) (i + n + 1) (by omega) hi (by omega)
        have h4 : (srt l)[i]'(by omega) ≤ (srt l)[i + n]'(by omega) := by
          rcases Nat.eq_zero_or_pos n with rfl | hn
          · simp
          · exact h1 i (i + n) (by omega) (by omega) (by omega)
        omega
      refine List.pairwise_iff_getElem.2 fun i j hi hj hij => ?_
      have := hs (j - i - 1) i (by omega)
      have e : i + (j - i - 1) + 1 = j := by omega
      simp only [e] at this
      omega
/-- The cells of a configuration that occur in a list, in order. -/
def occ (c : Cfg) (l : List Int) (n : Nat) : List Int := ((List.range n).filter fun k : Nat => decide ((k : Int) ∈ l)).map fun k : Nat => (k : Int)
theorem occ_succ (c : Cfg) (l : List Int) (n : Nat) : occ c l (n + 1) = occ c l n ++ if (n : Int) ∈ l then [(n : Int)] else [] := by
  unfold occ
  rw [List.range_succ, List.filter_append, List.map_append]
  congr 1
  by_cases h : (n : Int) ∈ l <;> simp [h]
theorem occ_srt {c : Cfg} {l : List Int} (h : mkOk c l = true) : occ c l c.cells.length = srt l := by
  unfold mkOk at h
  rw [Bool.and_eq_true, List.all_eq_true, decide_eq_true_eq] at h
  refine asc_one ?_ (srt_asc h.2) fun x => ?_
  · unfold occ
    rw [List.pairwise_map]
    exact (List.pairwise_lt_range.filter _).imp fun h => by omega
  · rw [(srt_perm l).mem_iff]
    unfold occ
    simp only [List.mem_map, List.mem_filter, List.mem_range, decide_eq_true_eq]
    constructor
    · rintro ⟨k, ⟨_, hk⟩, rfl⟩
      exact hk
    · intro hx
      have := h.1 x hx
      unfold inC at this
      rw [decide_eq_true_eq] at this
      exact ⟨x.toNat, ⟨by omega, by rw [Int.toNat_of_nonneg this.1]; exact hx⟩, by omega⟩
/-! Which waves are permitted. -/
def wrongB (c : Cfg) (s : Sta) (w ahead : List Int) (first : Bool) : Int :=
  if w = [] then 1 else if (w.any fun k => !inC c k || decide (k ∈ ahead)) || !decide w.Nodup then 1
  else if decide (c.blast < w.length) || first && decide (1 < w.length) then 14
  else if w.any fun k => !decide (regOf c k = regOf c (w.headD 0)) then 11
  else if w.any fun a => w.any fun b => conf c s a b then 4 else 0
def wrongAt (c : Cfg) (s : Sta) (ws : List (List Int)) (j : Nat) (hj : j < ws.length) : Int := wrongB c s ws[j] (ws.take j).flatten (decide (j = 0))
def ChkR (c : Cfg) (s : Sta) (ws : List (List Int)) (i : Nat) (e : Int) : Prop := (∀ j (hj : j < ws.length), j < i → wrongAt c s ws j hj = 0) ∧ ((∃ hi : i < ws.length, e = wrongAt c s ws i hi ∧ e ≠ 0) ∨ (i = ws.length ∧ e = 0))
theorem ChkR.one {c : Cfg} {s : Sta} {ws : List (List Int)} {i i' : Nat} {e e' : Int} (h : ChkR c s ws i e) (h' : ChkR c s ws i' e') : i = i' ∧ e = e' := by
  obtain ⟨a1, a2⟩ := h
  obtain ⟨b1, b2⟩ := h'
  have hii : i = i' := by
    rcases Nat.lt_trichotomy i i' with h | h | h
    · rcases a2 with ⟨hi, e1, e2⟩ | ⟨hi, _⟩
      · exact absurd (b1 i hi h) (by omega)
      · rcases b2 with ⟨hi', _⟩ | ⟨hi', _⟩ <;> omega
    · exact h
    · rcases b2 with ⟨hi, e1, e2⟩ | ⟨hi, _⟩
      · exact absurd (a1 i' hi h) (by omega)
      · rcases a2 with ⟨hi', _⟩ | ⟨hi', _⟩ <;> omega
  subst hii
  refine ⟨rfl, ?_⟩
  rcases a2 with ⟨hi, e1, e2⟩ | ⟨hi, e1⟩ <;> rcases b2 with ⟨hi', f1, f2⟩ | ⟨hi', f1⟩
  · rw [e1, f1]
  · omega
  · omega
  · rw [e1, f1]
theorem wrongB_zero {c : Cfg} {s : Sta} {w ahead : List Int} {first : Bool} : wrongB c s w ahead first = 0 ↔ w ≠ [] ∧ (∀ k, k ∈ w → inC c k = true ∧ k ∉ ahead) ∧ w.Nodup ∧ ((w.length : Int) ≤ c.blast ∧ (first = true → w.length ≤ 1)) ∧ (∀ k, k ∈ w → regOf c k = regOf c (w.headD 0)) ∧ (∀ a, a ∈ w → ∀ b, b ∈ w → conf c s a b = false) := by
  unfold wrongB
  by_cases h1 : w = []
  · simp [h1]
  rw [if_neg h1]
  by_cases h2 : ((w.any fun k => !inC c k || decide (k ∈ ahead)) || !decide w.Nodup) = true
  · rw [if_pos h2]
    simp only [Bool.or_eq_true, List.any_eq_true, Bool.not_eq_true', decide_eq_true_eq, decide_eq_false_iff_not] at h2
    refine ⟨fun h => absurd h (by decide), fun ⟨_, h3, h4, _⟩ => ?_⟩
    rcases h2 with ⟨k, hk, h5 | h5⟩ | h5
    · exact absurd ((h3 k hk).1) (by simp [h5])
    · exact absurd h5 (h3 k hk).2
    · exact absurd h4 h5
  rw [if_neg h2]
  simp only [Bool.or_eq_true, List.any_eq_true, Bool.not_eq_true', decide_eq_true_eq, decide_eq_false_iff_not, not_or, not_exists, not_and, Decidable.not_not] at h2
  by_cases h3 : (decide (c.blast < w.length) || first && decide (1 < w.length)) = true
  · rw [if_pos h3]
    simp only [Bool.or_eq_true, Bool.and_eq_true, decide_eq_true_eq] at h3
    refine ⟨fun h => absurd h (by decide), fun ⟨_, _, _, ⟨h5, h6⟩, _⟩ => ?_⟩
    rcases h3 with h3 | ⟨h3, h4⟩
    · omega
    · have := h6 h3
      omega
  rw [if_neg h3]
  simp only [Bool.or_eq_true, Bool.and_eq_true, decide_eq_true_eq, not_or, not_and, Int.not_lt, Nat.not_lt] at h3
  by_cases h4 : (w.any fun k => !decide (regOf c k = regOf c (w.headD 0))) = true
  · rw [if_pos h4]
    simp only [List.any_eq_true, Bool.not_eq_true', decide_eq_false_iff_not] at h4
    obtain ⟨k, hk, h4⟩ := h4
    exact ⟨fun h => absurd h (by decide), fun ⟨_, _, _, _, h5, _⟩ => absurd (h5 k hk) h4⟩
  rw [if_neg h4]
  simp only [List.any_eq_true, Bool.not_eq_true', decide_eq_false_iff_not, not_exists, not_and, Decidable.not_not] at h4
  by_cases h5 : (w.any fun a => w.any fun b => conf c s a b) = true
  · rw [if_pos h5]
    simp only [List.any_eq_true] at h5
    obtain ⟨a, ha, b, hb, h5⟩ := h5
    exact ⟨fun h => absurd h (by decide), fun ⟨_, _, _, _, _, h6⟩ => by rw [h6 a ha b hb] at h5; cases h5⟩
  rw [if_neg h5]
  simp only [List.any_eq_true, not_exists, not_and, Bool.not_eq_true] at h5
  exact ⟨fun _ => ⟨h1, fun k hk => by have := h2.1 k hk; simpa using this, h2.2, ⟨h3.1, fun e => by have := h3.2 e; omega⟩, h4, h5⟩, fun _ => rfl⟩
/-! The waves that are made are permitted. -/
structure MadeOk (c : Cfg) (s : Sta) (ws : List (List Int)) (l : List Int) : Prop where
  perm : ws.flatten.Perm l
  ne : ∀ w, w ∈ ws → w ≠ []
  len : ∀ w, w ∈ ws → (w.length : Int) ≤ c.blast
  reg : ∀ w, w ∈ ws → ∀ a, a ∈ w → ∀ b, b ∈ w → regOf c a = regOf c b
  conf : ∀ w, w ∈ ws → ∀ a, a ∈ w → ∀ b, b ∈ w → conf c s a b = false
  first : ∀ w ws', ws = w :: ws' → w.length = 1
theorem joinB_true {c : Cfg} {s : Sta} {w : List Int} {k : Int} (h : joinB c s w k = true) : (w.length : Int) < c.blast ∧ ∀ x, x ∈ w → regOf c x = regOf c k ∧ conf c s x k = false := by
  unfold joinB at h
  simp only [Bool.and_eq_true, decide_eq_true_eq, List.all_eq_true, Bool.not_eq_true'] at h
  exact h
theorem MadeOk.insT {c : Cfg} {s : Sta} {k : Int} (hb : 1 ≤ c.blast) : ∀ {ws : List (List Int)}, (∀ w, w ∈ ws → w ≠ []) → (∀ w, w ∈ ws → (w.length : Int) ≤ c.blast) → (∀ w, w ∈ ws → ∀ a, a ∈ w → ∀ b, b ∈ w → regOf c a = regOf c b) → (∀ w, w ∈ ws → ∀ a, a ∈ w → ∀ b, b ∈ w → Go.Proofs.YtmgpionlfemhdaaGreat.conf c s a b = false) →
    (insT c s ws k).flatten.Perm (ws.flatten ++ [k]) ∧ (∀ w, w ∈ insT c s ws k → w ≠ []) ∧ (∀ w, w ∈ insT c s ws k → (w.length : Int) ≤ c.blast) ∧ (∀ w, w ∈ insT c s ws k → ∀ a, a ∈ w → ∀ b, b ∈ w → regOf c a = regOf c b) ∧ (∀ w, w ∈ insT c s ws k → ∀ a, a ∈ w → ∀ b, b ∈ w → Go.Proofs.YtmgpionlfemhdaaGreat.conf c s a b = false)
  | [], _, _, _, _ => by
    refine ⟨by simp [Go.Proofs.YtmgpionlfemhdaaGreat.insT], ?_, ?_, ?_, ?_⟩ <;> intro w hw <;> simp only [Go.Proofs.YtmgpionlfemhdaaGreat.insT, List.mem_singleton] at hw <;> subst hw
    · simp
    · simpa using hb
    · intro a ha b hb; simp at ha hb; subst ha hb; rfl
    · intro a ha b hb; simp at ha hb; subst ha hb; exact conf_self ..
  | w :: ws, h1, h2, h3, h4 => by
    unfold Go.Proofs.YtmgpionlfemhdaaGreat.insT
    split
    · rename_i hj
      obtain ⟨j1, j2⟩ := joinB_true hj
      refine ⟨?_, ?_, ?_, ?_, ?_⟩
      · simp only [List.flatten_cons, List.append_assoc]
        exact (List.Perm.refl w).append (List.perm_append_comm)
      all_goals intro x hx; rcases List.mem_cons.1 hx with rfl | hx
      · simp
      · exact h1 x (by simp [hx])
      · simp; omega
      · exact h2 x (by simp [hx])
      · intro a ha b hb
        rw [List.mem_append, List.mem_singleton] at ha hb
        rcases ha with ha | rfl <;> rcases hb with hb | rfl
        · exact h3 w (by simp) a ha b hb
        · exact (j2 a ha).1
        · exact (j2 b hb).1.symm
        · rfl
      · exact h3 x (by simp [hx])
      · intro a ha b hb
        rw [List.mem_append, List.mem_singleton] at ha hb
        rcases ha with ha | rfl <;> rcases hb with hb | rfl
        · exact h4 w (by simp) a ha b hb
        · exact (j2 a ha).2
        · rw [conf_comm]; exact (j2 b hb).2
        · exact conf_self ..
      · exact h4 x (by simp [hx])
    · obtain ⟨i1, i2, i3, i4, i5⟩ := MadeOk.insT hb (ws := ws) (k := k) (s := s) (fun x hx => h1 x (by simp [hx])) (fun x hx => h2 x (by simp [hx])) (fun x hx => h3 x (by simp [hx])) (fun x hx => h4 x (by simp [hx]))
      refine ⟨?_, ?_, ?_, ?_, ?_⟩
      · simp only [List.flatten_cons, List.append_assoc]
        exact (List.Perm.refl w).append i1
      all_goals intro x hx; rcases List.mem_cons.1 hx with rfl | hx
      · exact h1 x (by simp)
      · exact i2 x hx
      · exact h2 x (by simp)
      · exact i3 x hx
      · exact h3 x (by simp)
      · exact i4 x hx
      · exact h4 x (by simp)
      · exact i5 x hx
theorem MadeOk.insW {c : Cfg} {s : Sta} {k : Int} {ws : List (List Int)} {l : List Int} (hb : 1 ≤ c.blast) (h : MadeOk c s ws l) : MadeOk c s (insW c s ws k) (l ++ [k]) := by
  cases ws with
  | nil =>
    have hl : l = [] := List.nil_perm.1 (by simpa using h.perm)
    subst hl
    refine ⟨by simp [Go.Proofs.YtmgpionlfemhdaaGreat.insW], ?_, ?_, ?_, ?_, ?_⟩
    · intro w hw; simp [Go.Proofs.YtmgpionlfemhdaaGreat.insW] at hw; subst hw; simp
    · intro w hw; simp [Go.Proofs.YtmgpionlfemhdaaGreat.insW] at hw; subst hw; simpa using hb
    · intro w hw; simp [Go.Proofs.YtmgpionlfemhdaaGreat.insW] at hw; subst hw; intro a ha b hb; simp at ha hb; subst ha hb; rfl
    · intro w hw; simp [Go.Proofs.YtmgpionlfemhdaaGreat.insW] at hw; subst hw; intro a ha b hb; simp at ha hb; subst ha hb; exact conf_self ..
    · intro w ws' he; simp [Go.Proofs.YtmgpionlfemhdaaGreat.insW] at he; rw [← he.1]; rfl
  | cons w ws =>
    obtain ⟨i1, i2, i3, i4, i5⟩ := MadeOk.insT hb (ws := ws) (k := k) (s := s) (fun x hx => h.ne x (by simp [hx])) (fun x hx => h.len x (by simp [hx])) (fun x hx => h.reg x (by simp [hx])) (fun x hx => h.conf x (by simp [hx]))
    refine ⟨?_, ?_, ?_, ?_, ?_, ?_⟩
    · show (w :: Go.Proofs.YtmgpionlfemhdaaGreat.insT c s ws k).flatten.Perm _
      have h1 : (w :: Go.Proofs.YtmgpionlfemhdaaGreat.insT c s ws k).flatten.Perm ((w :: ws).flatten ++ [k]) := by
        simp only [List.flatten_cons, List.append_assoc]
        exact (List.Perm.refl w).append i1
      exact h1.trans (h.perm.append (List.Perm.refl _))
    · intro x hx; rcases List.mem_cons.1 hx with rfl | hx
      · exact h.ne x (by simp)
      · exact i2 x hx
    · intro x hx; rcases List.mem_cons.1 hx with rfl | hx
      · exact h.len x (by simp)
      · exact i3 x hx
    · intro x hx; rcases List.mem_cons.1 hx with rfl | hx
      · exact h.reg x (by simp)
      · exact i4 x hx
    · intro x hx; rcases List.mem_cons.1 hx with rfl | hx
      · exact h.conf x (by simp)
      · exact i5 x hx
    · intro x xs he
      simp only [Go.Proofs.YtmgpionlfemhdaaGreat.insW, List.cons.injEq] at he
      rw [← he.1]
      exact h.first w ws rfl
theorem mkW_made {c : Cfg} {s : Sta} (hb : 1 ≤ c.blast) (l : List Int) : MadeOk c s (mkW c s l) l := by
  suffices h : ∀ (l ws a : _), MadeOk c s ws a → MadeOk c s (l.foldl (Go.Proofs.YtmgpionlfemhdaaGreat.insW c s) ws) (a ++ l) by
    have := h l [] [] ⟨by simp, by simp, by simp, by simp, by simp, by simp⟩
    simpa [mkW] using this
  intro l
  induction l with
  | nil => intro ws a h; simpa using h
  | cons k l ih =>
    intro ws a h
    have := ih _ _ (h.insW (k := k) hb)
    simpa using this
theorem flatten_take_drop {ws : List (List Int)} {j : Nat} (hj : j < ws.length) : ws.flatten = (ws.take j).flatten ++ (ws[j] ++ (ws.drop (j + 1)).flatten) := by
  conv => lhs; rw [← List.take_append_drop j ws, List.drop_eq_getElem_cons hj]
  rw [List.flatten_append, List.flatten_cons]
theorem MadeOk.right {c : Cfg} {s : Sta} {ws : List (List Int)} {l : List Int} (h : MadeOk c s ws l) (hl : ∀ x, x ∈ l → inC c x = true) (hn : l.Nodup) : ∀ j (hj : j < ws.length), wrongAt c s ws j hj = 0 := by
  intro j hj
  have hm : ws[j] ∈ ws := List.getElem_mem hj
  have hf : ws.flatten.Nodup := h.perm.nodup_iff.2 hn
  rw [flatten_take_drop hj] at hf
  obtain ⟨_, hf2, hf3⟩ := List.nodup_append.1 hf
  obtain ⟨hf4, _, _⟩ := List.nodup_append.1 hf2
  have hin : ∀ k, k ∈ ws[j] → k ∈ ws.flatten := fun k hk => List.mem_flatten.2 ⟨_, hm, hk⟩
  have hhd : ws[j].headD 0 ∈ ws[j] := by
    have hne := h.ne _ hm
    generalize ws[j] = w at *
    cases w with
    | nil => exact absurd rfl hne
    | cons a w => simp
  refine wrongB_zero.2 ⟨h.ne _ hm, fun k hk => ⟨hl k (h.perm.mem_iff.1 (hin k hk)), fun hk2 => hf3 k hk2 k (by simp [hk]) rfl⟩, hf4, ⟨h.len _ hm, fun e => ?_⟩, fun k hk => h.reg _ hm k hk _ hhd, h.conf _ hm⟩
  rw [decide_eq_true_eq] at e
  subst e
  cases ws with
  | nil => simp at hj
  | cons w ws => exact Nat.le_of_eq (h.first w ws rfl)
/-- The wave of a cell. -/
theorem wave_one {ws : List (List Int)} (hn : ws.flatten.Nodup) {i j : Nat} (hi : i < ws.length) (hj : j < ws.length) {k : Int} (h1 : k ∈ ws[i]) (h2 : k ∈ ws[j]) : i = j := by
  suffices h : ∀ {i j : Nat} (hi : i < ws.length) (hj : j < ws.length), k ∈ ws[i] → k ∈ ws[j] → ¬ i < j by
    have := h hi hj h1 h2
    have := h hj hi h2 h1
    omega
  intro i j hi hj h1 h2 hij
  rw [flatten_take_drop hj] at hn
  obtain ⟨_, _, h3⟩ := List.nodup_append.1 hn
  refine h3 k (List.mem_flatten.2 ⟨ws[i], ?_, h1⟩) k (by simp [h2]) rfl
  rw [List.mem_take_iff_getElem]
  exact ⟨i, by omega, rfl⟩
/-! Sorted: each number once, in ascending order. -/
def insS (l : List Int) (k : Int) : List Int := l.filter (fun x => decide (x < k)) ++ k :: l.filter (fun x => decide (k < x))
def sortS (l : List Int) : List Int := l.foldl insS []
theorem insS_asc {l : List Int} (h : l.Pairwise (· < ·)) (k : Int) : (insS l k).Pairwise (· < ·) := by
  unfold insS
  rw [List.pairwise_append, List.pairwise_cons]
  refine ⟨h.filter _, ⟨fun x hx => by simpa using (List.mem_filter.1 hx).2, h.filter _⟩, fun a ha b hb => ?_⟩
  have ha := (List.mem_filter.1 ha).2
  rw [decide_eq_true_eq] at ha
  rcases List.mem_cons.1 hb with rfl | hb
  · exact ha
  · have hb := (List.mem_filter.1 hb).2
    rw [decide_eq_true_eq] at hb
    omega
theorem insS_mem {l : List Int} {k x : Int} : x ∈ insS l k ↔ x ∈ l ∨ x = k := by
  unfold insS
  rw [List.mem_append, List.mem_cons, List.mem_filter, List.mem_filter, decide_eq_true_eq, decide_eq_true_eq]
  constructor
  · rintro (⟨h, _⟩ | h | ⟨h, _⟩)
    · exact .inl h
    · exact .inr h
    · exact .inl h
  · rintro (h | h)
    · rcases (by omega : x < k ∨ x = k ∨ k < x) with h2 | h2 | h2
      · exact .inl ⟨h, h2⟩
      · exact .inr (.inl h2)
      · exact .inr (.inr ⟨h, h2⟩)
    · exact .inr (.inl h)
theorem sortS_asc (l : List Int) : (sortS l).Pairwise (· < ·) := by
  suffices h : ∀ (l a : List Int), a.Pairwise (· < ·) → (l.foldl insS a).Pairwise (· < ·) from h l [] (by simp)
  intro l
  induction l with
  | nil => intro a h; exact h
  | cons k l ih => intro a h; exact ih _ (insS_asc h k)
theorem sortS_mem (l : List Int) {x : Int} : x ∈ sortS l ↔ x ∈ l := by
  suffices h : ∀ (l a : List Int), x ∈ l.foldl insS a ↔ x ∈ a ∨ x ∈ l by simpa [sortS] using h l []
  intro l
  induction l with
  | nil => intro a; simp
  | cons k l ih => intro a; rw [List.foldl_cons, ih, insS_mem, List.mem_cons, or_assoc]
theorem sortS_snoc (l : List Int) (k : Int) : sortS (l ++ [k]) = insS (sortS l) k := by simp [sortS]
theorem insS_len (l : List Int) (h : l.Pairwise (· < ·)) (k : Int) : (insS l k).length ≤ l.length + 1 := by
  have h1 : (l.filter fun x => decide (k < x)).length + (l.filter fun x => decide (x < k)).length ≤ l.length := by
    clear h
    induction l with
    | nil => simp
    | cons a l ih =>
      by_cases ha : k < a <;> by_cases hb : a < k <;> simp [List.filter_cons, ha, hb] <;> omega
  unfold insS
  simp
  omega
theorem insS_at {l : List Int} (h : l.Pairwise (· < ·)) {i : Nat} (hi : i ≤ l.length) {k : Int} (h1 : ∀ j (hj : j < l.length), j < i → l[j] < k) (h2 : ∀ hi : i < l.length, k < l[i]) : insS l k = l.take i ++ k :: l.drop i := by
  have hp := List.pairwise_iff_getElem.1 h
  have hlt : ∀ j (hj : j < l.length), i ≤ j → k < l[j] := fun j hj hij => by
    have := h2 (by omega)
    rcases Nat.eq_or_lt_of_le hij with rfl | hij
    · exact this
    · have := hp i j (by omega) hj hij; omega
  have e1 : l.filter (fun x => decide (x < k)) = l.take i := by
    conv => lhs; rw [← List.take_append_drop i l]
    rw [List.filter_append, List.filter_eq_self.2, List.filter_eq_nil_iff.2, List.append_nil]
    · intro x hx
      obtain ⟨j, hj, rfl⟩ := List.mem_iff_getElem.1 hx
      have hj' : i + j < l.length := by simp at hj; omega
      have := hlt (i + j) hj' (by omega)
      simp; omega
    · intro x hx
      obtain ⟨j, hj, rfl⟩ := List.mem_iff_getElem.1 hx
      have hj' : j < l.length ∧ j < i := by simp at hj; omega
      have := h1 j hj'.1 hj'.2
      simpa using this
  have e2 : l.filter (fun x => decide (k < x)) = l.drop i := by
    conv => lhs; rw [← List.take_append_drop i l]
    rw [List.filter_append, List.filter_eq_nil_iff.2, List.filter_eq_self.2, List.nil_append]
    · intro x hx
      obtain ⟨j, hj, rfl⟩ := List.mem_iff_getElem.1 hx
      have hj' : i + j < l.length := by simp at hj; omega
      have := hlt (i + j) hj' (by omega)
      simpa using this
    · intro x hx
      obtain ⟨j, hj, rfl⟩ := List.mem_iff_getElem.1 hx
      have hj' : j < l.length ∧ j < i := by simp at hj; omega
      have := h1 j hj'.1 hj'.2
      simp; omega
  unfold insS
  rw [e1, e2]
theorem insS_has {l : List Int} (h : l.Pairwise (· < ·)) {k : Int} (hk : k ∈ l) : insS l k = l :=
  asc_one (insS_asc h k) h fun x => by rw [insS_mem]; exact ⟨fun h => h.elim id fun e => e ▸ hk, .inl⟩
theorem srt_sortS {l l' : List Int} (h : l.Pairwise (· < ·)) (hp : l'.Perm l) : sortS l' = l :=
  asc_one (sortS_asc l') h fun x => by rw [sortS_mem, hp.mem_iff]
/-- A list that is turned. -/
theorem turn_perm (x : List Int) (d : Nat) (hd : d < x.length) : ((List.range x.length).map fun i => x.getD ((i + d) % x.length) 0).Perm x := by
  have h : ((List.range x.length).map fun i => x.getD ((i + d) % x.length) 0) = x.drop d ++ x.take d := by
    apply List.ext_getElem
    · simp; omega
    · intro i h1 h2
      simp only [List.length_map, List.length_range] at h1
      rw [List.getElem_map, List.getElem_range, List.getElem_append]
      split
      · rename_i h3
        simp only [List.length_drop] at h3
        have e : (i + d) % x.length = d + i := by rw [Nat.mod_eq_of_lt (by omega)]; omega
        rw [e, List.getElem_drop, List.getD_eq_getElem?_getD, List.getElem?_eq_getElem (by omega)]
        rfl
      · rename_i h3
        simp only [List.length_drop] at h3
        have e : (i + d) % x.length = i + d - x.length := by rw [Nat.mod_eq_sub_mod (by omega), Nat.mod_eq_of_lt (by omega)]
        rw [e, List.getElem_take, List.getD_eq_getElem?_getD, List.getElem?_eq_getElem (by omega)]
        simp only [List.length_drop, Option.getD_some]
        congr 1
        omega
  rw [h]
  exact List.perm_append_comm.trans (by rw [List.take_append_drop])
end Go.Proofs.YtmgpionlfemhdaaGreat
