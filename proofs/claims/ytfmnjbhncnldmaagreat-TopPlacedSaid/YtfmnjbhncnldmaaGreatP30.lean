import Derived.Lib.Bytes
import Derived.Test.YtfmnjbhncnldmaaGreatP02
import Derived.Test.YtfmnjbhncnldmaaGreatP28
import Derived.Test.YtfmnjbhncnldmaaGreatP29
set_option linter.unusedSimpArgs false
set_option linter.unusedVariables false
namespace Go.Proofs.YtfmnjbhncnldmaaGreat
open Go.RowKit
attribute [local irreducible] Res.blk Res.sl Res.all Res.ex Res.pure Res.star
open Go.ChangeMaps (set_perm)
theorem bless_l : ∀ (x y : List UInt8), Op.bytesLess x y = decide (x < y)
  | [], [] => by simp [Op.bytesLess]
  | _ :: _, [] => by simp [Op.bytesLess]
  | [], _ :: _ => by simp [Op.bytesLess]
  | a :: x, b :: y => by
    rw [Op.bytesLess, bless_l x y]
    simp only [List.cons_lt_cons_iff]
    by_cases h1 : a < b <;> by_cases h2 : a = b <;> by_cases h3 : x < y <;> simp [h1, h2, h3]
def Ce.kb (c : Ce) : List UInt8 := c.key.data.toList
theorem bless (a b : ByteArray) : Op.bytesLess a.toList b.toList = decide (a.data.toList < b.data.toList) := by rw [bless_l, Lib.toList_data, Lib.toList_data]
theorem bytes_ext {a b : ByteArray} (h : a.data.toList = b.data.toList) : a = b := by
  cases a; cases b; simp at h; rw [h]
theorem lt_irr (a : List UInt8) : ¬ a < a := List.lt_irrefl a
theorem lt_tri {a b : List UInt8} (h1 : ¬ a < b) (h2 : a ≠ b) : b < a := by
  by_cases h : b < a
  · exact h
  · exact absurd (List.le_antisymm (show a ≤ b from h) (show b ≤ a from h1)) h2
def SSort (l : List Ce) : Prop := (l.map Ce.kb).Pairwise (· < ·)
theorem SSort.cons {c : Ce} {l : List Ce} (h : SSort (c :: l)) : (∀ d, d ∈ l → c.kb < d.kb) ∧ SSort l := by
  unfold SSort at h
  rw [List.map_cons, List.pairwise_cons] at h
  exact ⟨fun d hd => h.1 _ (List.mem_map.2 ⟨d, hd, rfl⟩), h.2⟩
theorem fidx_cons (c : Ce) (l : List Ce) (k : ByteArray) : fidx (c :: l) k = if c.kb < k.data.toList then fidx l k + 1 else 0 := by
  rw [show fidx (c :: l) k = if Op.bytesLess c.key.toList k.toList then fidx l k + 1 else 0 from rfl, bless]
  by_cases h : c.kb < k.data.toList
  · have h' : c.key.data.toList < k.data.toList := h
    simp [h, h']
  · have h' : ¬ c.key.data.toList < k.data.toList := h
    simp [h, h']
theorem found_cons (c : Ce) (l : List Ce) (k : ByteArray) : foundB (c :: l) k = if c.kb < k.data.toList then foundB l k else decide (c.key = k) := by
  unfold foundB
  rw [fidx_cons]
  split
  · simp [keyAt]
  · simp [keyAt]
def atK (l : List Ce) (k : ByteArray) : Option Ce := if foundB l k then l[fidx l k]? else none
theorem atK_cons (c : Ce) (l : List Ce) (k : ByteArray) : atK (c :: l) k = if c.kb < k.data.toList then atK l k else if c.key = k then some c else none := by
  unfold atK
  rw [found_cons, fidx_cons]
  by_cases h : c.kb < k.data.toList
  · simp [h]
  · by_cases h2 : c.key = k <;> simp [h, h2]
theorem atK_mem : ∀ {l : List Ce} {k : ByteArray} {c : Ce}, atK l k = some c → c ∈ l ∧ c.key = k
  | [], _, _, h => by simp [atK, foundB, keyAt, fidx] at h
  | d :: l, k, c, h => by
    rw [atK_cons] at h
    split at h
    · have := atK_mem h
      exact ⟨by simp [this.1], this.2⟩
    · split at h
      · simp at h; subst h; exact ⟨by simp, by assumption⟩
      · cases h
theorem atK_none : ∀ {l : List Ce} {k : ByteArray}, SSort l → atK l k = none → ∀ c, c ∈ l → c.key ≠ k
  | [], _, _, _, c, hc => by simp at hc
  | d :: l, k, hs, h, c, hc => by
    rw [atK_cons] at h
    split at h
    · rename_i hlt
      rcases List.mem_cons.1 hc with rfl | hc
      · rintro rfl; exact lt_irr _ hlt
      · exact atK_none hs.cons.2 h c hc
    · rename_i hge
      split at h
      · cases h
      · rename_i hne
        rcases List.mem_cons.1 hc with rfl | hc
        · exact hne
        · rintro rfl
          exact hge (hs.cons.1 c hc)
theorem atK_found (l : List Ce) (k : ByteArray) : foundB l k = (atK l k).isSome := by
  unfold atK
  cases h : foundB l k
  · rfl
  · simp [found_lt h]
def Ce.vV (c : Ce) : Value := .agg #[.string c.value, .int .i64 c.seq]
def Ce.kvV (c : Ce) : Value × Value := (.string c.key, c.vV)
theorem look_ce {l : List Ce} (hs : SSort l) (k : ByteArray) : LookM (l.map Ce.kvV) (.string k) ((atK l k).map Ce.vV) := by
  cases h : atK l k with
  | none =>
    refine .inr ⟨rfl, fun p hp e => ?_⟩
    obtain ⟨c, hc, rfl⟩ := List.mem_map.1 hp
    simp [Ce.kvV] at e
    exact atK_none hs h c hc e
  | some c =>
    obtain ⟨h1, h2⟩ := atK_mem h
    exact .inl ⟨c.vV, rfl, List.mem_map.2 ⟨c, h1, by rw [← h2]; rfl⟩⟩
theorem put_set {l : List Ce} {i : Nat} (hi : i < l.length) {k : ByteArray} (hk : l[i].key = k) (v : ByteArray) (q : Int) : PutM (l.map Ce.kvV) (.string k) (.agg #[.string v, .int .i64 q]) ((l.set i ⟨k, v, q⟩).map Ce.kvV) := by
  subst hk
  refine .inl ⟨l[i].vV, (l.eraseIdx i).map Ce.kvV, ?_, ?_⟩
  · have := (set_perm l i hi l[i]).map Ce.kvV
    rw [List.set_getElem_self] at this
    exact this
  · exact (set_perm l i hi ⟨l[i].key, v, q⟩).map Ce.kvV
theorem put_new {l : List Ce} (hs : SSort l) {k : ByteArray} (h : atK l k = none) (v : ByteArray) (q : Int) (i : Nat) : PutM (l.map Ce.kvV) (.string k) (.agg #[.string v, .int .i64 q]) ((l.take i ++ [(⟨k, v, q⟩ : Ce)] ++ l.drop i).map Ce.kvV) := by
  refine .inr ⟨fun p hp e => ?_, ?_⟩
  · obtain ⟨c, hc, rfl⟩ := List.mem_map.1 hp
    simp [Ce.kvV] at e
    exact atK_none hs h c hc e
  · have h1 : (l.take i ++ [(⟨k, v, q⟩ : Ce)] ++ l.drop i).Perm ((⟨k, v, q⟩ : Ce) :: l) := by
      rw [List.append_assoc, List.singleton_append]
      refine List.perm_middle.trans ?_
      rw [List.take_append_drop]
    exact h1.map Ce.kvV
theorem del_at {l : List Ce} {i : Nat} (hi : i < l.length) {k : ByteArray} (hk : l[i].key = k) : DelM (l.map Ce.kvV) (.string k) ((l.take i ++ l.drop (i + 1)).map Ce.kvV) := by
  subst hk
  refine .inl ⟨l[i].vV, ?_⟩
  have h1 : l.Perm (l[i] :: (l.take i ++ l.drop (i + 1))) := by
    conv => lhs; rw [← List.take_append_drop i l, List.drop_eq_getElem_cons hi]
    exact List.perm_middle
  exact h1.map Ce.kvV
theorem found_at {l : List Ce} {k : ByteArray} (h : foundB l k = true) : ∃ hi : fidx l k < l.length, l[fidx l k].key = k := by
  have hi := found_lt h
  refine ⟨hi, ?_⟩
  unfold foundB keyAt at h
  rw [List.getElem?_eq_getElem hi] at h
  simpa using h
theorem SSort.set {l : List Ce} (hs : SSort l) {i : Nat} (hi : i < l.length) {k : ByteArray} (hk : l[i].key = k) (v : ByteArray) (q : Int) : SSort (l.set i ⟨k, v, q⟩) := by
  unfold SSort
  have : (l.set i ⟨k, v, q⟩).map Ce.kb = l.map Ce.kb := by
    rw [List.map_set]
    have e : Ce.kb ⟨k, v, q⟩ = (l.map Ce.kb)[i]'(by simpa using hi) := by simp [Ce.kb, hk]
    rw [e, List.set_getElem_self]
  rw [this]
  exact hs
theorem SSort.ins : ∀ {l : List Ce}, SSort l → ∀ {k : ByteArray}, foundB l k = false → ∀ (v : ByteArray) (q : Int), SSort (l.take (fidx l k) ++ [⟨k, v, q⟩] ++ l.drop (fidx l k))
  | [], _, k, _, v, q => by simp [fidx, SSort]
  | c :: l, hs, k, h, v, q => by
    rw [found_cons] at h
    rw [fidx_cons]
    split at h
    · rename_i hlt
      rw [if_pos hlt]
      have ih := SSort.ins hs.cons.2 h v q
      unfold SSort at ih ⊢
      simp only [List.take_succ_cons, List.drop_succ_cons, List.cons_append, List.map_cons]
      rw [List.pairwise_cons]
      refine ⟨fun y hy => ?_, ih⟩
      obtain ⟨d, hd, rfl⟩ := List.mem_map.1 hy
      rcases List.mem_append.1 hd with hd | hd
      · rcases List.mem_append.1 hd with hd | hd
        · exact hs.cons.1 d (List.mem_of_mem_take hd)
        · simp at hd; subst hd; exact hlt
      · exact hs.cons.1 d (List.mem_of_mem_drop hd)
    · rename_i hge
      rw [if_neg hge]
      have hne : c.kb ≠ k.data.toList := fun e => by
        have : c.key = k := bytes_ext e
        simp [this] at h
      have hlt := lt_tri hge hne
      simp only [List.take_zero, List.nil_append, List.drop_zero, List.singleton_append]
      unfold SSort
      rw [List.map_cons, List.pairwise_cons]
      refine ⟨fun y hy => ?_, hs⟩
      obtain ⟨d, hd, rfl⟩ := List.mem_map.1 hy
      rcases List.mem_cons.1 hd with rfl | hd
      · exact hlt
      · exact List.lt_trans hlt (hs.cons.1 d hd)
theorem SSort.cut {l : List Ce} (hs : SSort l) (i : Nat) : SSort (l.take i ++ l.drop (i + 1)) := by
  have h1 : (l.drop (i + 1)).Sublist (l.drop i) := by rw [← List.tail_drop]; exact List.tail_sublist _
  have h2 := List.Sublist.append (List.Sublist.refl (l.take i)) h1
  rw [List.take_append_drop] at h2
  exact List.Pairwise.sublist (h2.map Ce.kb) hs
theorem SSort.app {l : List Ce} (hs : SSort l) (x : Ch) : SSort (sApp l x).1 := by
  unfold sApp
  split
  · split
    · split
      · rename_i hf
        obtain ⟨hi, hk⟩ := found_at hf
        exact hs.set hi hk _ _
      · rename_i hf
        split
        · exact hs
        · exact hs.ins (by simpa using hf) _ _
    · split
      · split
        · exact hs.cut _
        · exact hs
      · exact hs
  · exact hs
theorem valid_key {x : Ch} (h : validB x = true) : x.key.size ≤ 16 := by
  have h2 : restB x = true := by
    simp only [validB, Bool.and_eq_true] at h
    exact h.2.2.2.2
  have he : ∀ {s : ByteArray}, s.toList.isEmpty = true → s.size ≤ 16 := by
    intro s hs
    rw [Lib.toList_data] at hs
    have h0 : s.data.toList = [] := List.isEmpty_iff.1 hs
    show s.data.size ≤ 16
    rw [← Array.length_toList, h0]
    simp
  unfold restB at h2
  split at h2
  · simp only [Bool.and_eq_true, keyB, inB, decide_eq_true_eq] at h2; omega
  · split at h2
    · simp only [Bool.and_eq_true, keyB, inB, decide_eq_true_eq] at h2; omega
    · split at h2
      · simp only [Bool.and_eq_true] at h2; exact he h2.1
      · split at h2
        · simp only [Bool.and_eq_true] at h2; exact he h2.1
        · cases h2
end Go.Proofs.YtfmnjbhncnldmaaGreat
namespace Go.Proofs.YtfmnjbhncnldmaaGreat
open Go.RowKit
attribute [local irreducible] Res.blk Res.sl Res.all Res.ex Res.pure Res.star
instance : HasM Tryz.prog 305 9 303 (.agg #[.string ⟨#[]⟩, .int .i64 0]) := ⟨Tryz.underlying305, Maps.string_keyed Tryz.underlying9, fun w => by kernel_rfl⟩
def PS (g : Nat) (l : List Ce) : Res := .ex fun b => .all [.blk g 307 [.map (some b)], .mp Tryz.prog 9 b (l.map Ce.kvV)]
theorem Sep.PS_open {r w : World} {M : List Nat} {F : List Res} {g : Nat} {l : List Ce} : Sep r M (PS g l :: F) w ↔ ∃ b, Sep r M (.blk g 307 [.map (some b)] :: .mp Tryz.prog 9 b (l.map Ce.kvV) :: F) w := by
  simp only [PS, Sep.ex_open, Sep.all_open, List.cons_append, List.nil_append]
theorem key_str (s : ByteArray) (h : s.size ≤ maxLen) : ∃ l, keyOf Tryz.prog 9 (.string s) = some l := ⟨_, Go.WideMaps.keyOf_string_mk Tryz.underlying9 h⟩
theorem psnew_z (r : World) (F : List Res) (w : World) (hS : Sep r [] F w) : Calls Tryz.prog 186 #[] w fun e w' => ∃ g, e = .returned (.pointer (some ⟨g, 0, none⟩)) ∧ Sep r [] (PS g [] :: F) w' := by
  refine Z.enter Tryz.func186 Tryz.ntmps186 rfl rfl ?_
  repeat' (first|refine K ?_|(refine Sh.sa hS ?_;clear hS;intro w hS)|(refine K3 ?_;clear hS;intro g w hS hge)|(refine KB ?_ ?_<;>intro hb<;>(try simp only [JJ] at hb)<;>(try exact JX))|fail)
  refine Z.eff (Z.mkm hS ?_) rfl
  clear hS; intro b w hS hge
  repeat' (first|refine K ?_|(refine Sh.sa hS ?_;clear hS;intro w hS)|(refine K3 ?_;clear hS;intro g w hS hge)|(refine KB ?_ ?_<;>intro hb<;>(try simp only [JJ] at hb)<;>(try exact JX))|fail)
  refine Dnt Tryz.results186 ?_
  exact ⟨_, rfl, Sep.PS_open.2 ⟨b, hS.sb⟩⟩
def getV (o : Option Ce) : Value := match o with | some c => .tuple #[.string c.value, .int .i64 c.seq, .bool true] | none => .tuple #[.string ⟨#[]⟩, .int .i64 0, .bool false]
set_option maxHeartbeats 1000000 in
theorem psget_z (g : Nat) (l : List Ce) (k : ByteArray) (r : World) (F : List Res) (w : World) (hS : Sep r [] (PS g l :: F) w) (hs : SSort l) (hk : k.size ≤ maxLen) :
    Calls Tryz.prog 106 #[.pointer (some ⟨g, 0, none⟩), .string k] w fun e w' => e = .returned (getV (atK l k)) ∧ Sep r [] (PS g l :: F) w' := by
  obtain ⟨b, hS⟩ := Sep.PS_open.1 hS
  have hlk := look_ce hs k
  refine Z.enter Tryz.func106 Tryz.ntmps106 rfl rfl ?_
  repeat' (first|refine K ?_|(refine Sh.sa hS ?_;clear hS;intro w hS)|(refine K3 ?_;clear hS;intro g w hS hge)|(refine KB ?_ ?_<;>intro hb<;>(try simp only [JJ] at hb)<;>(try exact JX))|fail)
  refine Z.eff (Z.lkO hS ((atK l k).map Ce.vV) rfl rfl AtF (key_str k hk) hlk ?_) rfl
  cases hc : atK l k with
  | none =>
    repeat' (first|refine K ?_|(refine Sh.sa hS ?_;clear hS;intro w hS)|(refine K3 ?_;clear hS;intro g w hS hge)|(refine KB ?_ ?_<;>intro hb<;>(try simp only [JJ] at hb)<;>(try exact JX))|fail)
    refine D.startS hS 8 8 (by kernel_rfl) rfl ?_
    replace hS := hS.drew
    refine Sh.dp 0 1 ?_
    refine Sh.dp 2 5 ?_
    refine Sh.dp 4 21 ?_
    refine Sh.dl 1 23 ?_
    refine Sh.dp 5 55 ?_
    refine Sh.dl 3 63 ?_
    refine Sh.dp 6 127 ?_
    refine Sh.dp 7 255 ?_
    refine D.done (by kernel_rfl) ?_
    repeat' (first|refine K ?_|(refine Sh.sa hS ?_;clear hS;intro w hS)|(refine K3 ?_;clear hS;intro g w hS hge)|(refine KB ?_ ?_<;>intro hb<;>(try simp only [JJ] at hb)<;>(try exact JX))|fail)
    refine Dnttt Tryz.results106 ?_
    exact ⟨rfl, Sep.PS_open.2 ⟨b, hS.sb⟩⟩
  | some c =>
    repeat' (first|refine K ?_|(refine Sh.sa hS ?_;clear hS;intro w hS)|(refine K3 ?_;clear hS;intro g w hS hge)|(refine KB ?_ ?_<;>intro hb<;>(try simp only [JJ] at hb)<;>(try exact JX))|fail)
    refine D.startS hS 8 8 (by kernel_rfl) rfl ?_
    replace hS := hS.drew
    refine Sh.dp 0 1 ?_
    refine Sh.dp 2 5 ?_
    refine Sh.dp 4 21 ?_
    refine Sh.dl 1 23 ?_
    refine Sh.dp 5 55 ?_
    refine Sh.dl 3 63 ?_
    refine Sh.dp 6 127 ?_
    refine Sh.dp 7 255 ?_
    refine D.done (by kernel_rfl) ?_
    repeat' (first|refine K ?_|(refine Sh.sa hS ?_;clear hS;intro w hS)|(refine K3 ?_;clear hS;intro g w hS hge)|(refine KB ?_ ?_<;>intro hb<;>(try simp only [JJ] at hb)<;>(try exact JX))|fail)
    refine Dnttt Tryz.results106 ?_
    exact ⟨rfl, Sep.PS_open.2 ⟨b, hS.sb⟩⟩
theorem sorted_keys {l : List Ce} (hs : SSort l) : ((l.map Ce.kvV).map kbytes).mergeSort Go.leB = l.map Ce.kb := by
  have e : (l.map Ce.kvV).map kbytes = l.map Ce.kb := by rw [List.map_map]; rfl
  rw [e]
  refine List.mergeSort_of_pairwise ?_
  refine List.Pairwise.imp ?_ hs
  intro a b h
  simp only [Go.leB, decide_eq_true_eq]
  exact List.le_of_lt h
def Ce.kc (c : Ce) : List Value := [.string c.key]
theorem enc_kb (c : Ce) : Go.Proofs.encStr c.kb = .string c.key := by
  unfold Ce.kb
  cases c.key
  simp [Go.Proofs.encStr]
set_option maxHeartbeats 1000000 in
theorem pskeys_z (g : Nat) (l : List Ce) (r : World) (F : List Res) (w : World) (hS : Sep r [] (PS g l :: F) w) (hs : SSort l) (hl : l.length ≤ 100000) :
    Calls Tryz.prog 270 #[.pointer (some ⟨g, 0, none⟩)] w fun e w' => ∃ A c, e = .returned (.slice A l.length c) ∧ Sep r [] (.sl 9 1 (.slice A l.length c) (l.map Ce.kc) :: PS g l :: F) w' := by
  obtain ⟨b, hS⟩ := Sep.PS_open.1 hS
  refine Z.enter Tryz.func270 Tryz.ntmps270 rfl rfl ?_
  repeat' (first|refine K ?_|(refine Sh.sa hS ?_;clear hS;intro w hS)|(refine K3 ?_;clear hS;intro g w hS hge)|(refine KB ?_ ?_<;>intro hb<;>(try simp only [JJ] at hb)<;>(try exact JX))|fail)
  refine Z.eff (Z.cl (mkeys_z b _ _ _ hS) rfl ?_) rfl
  clear hS
  rintro e w ⟨gk, rfl, hS⟩
  refine ⟨_, rfl, ?_⟩
  repeat' (first|refine K ?_|(refine Sh.sa hS ?_;clear hS;intro w hS)|(refine K3 ?_;clear hS;intro g w hS hge)|(refine KB ?_ ?_<;>intro hb<;>(try simp only [JJ] at hb)<;>(try exact JX))|fail)
  refine Z.eff (Z.cl (msorted_z gk b (l.map Ce.kvV) _ _ _ hS AtF (by simpa using (by omega : l.length ≤ 1000000))) rfl ?_) rfl
  clear hS
  rintro e w ⟨A, c, rfl, hS⟩
  refine ⟨_, rfl, ?_⟩
  rw [sorted_keys hs, List.map_map] at hS
  have e : (l.map ((fun x => [Go.Proofs.encStr x]) ∘ Ce.kb)) = l.map Ce.kc := List.map_congr_left fun c _ => by simp [Function.comp, enc_kb, Ce.kc]
  rw [e, List.length_map] at hS
  rw [List.length_map]
  repeat' (first|refine K ?_|(refine Sh.sa hS ?_;clear hS;intro w hS)|(refine K3 ?_;clear hS;intro g w hS hge)|(refine KB ?_ ?_<;>intro hb<;>(try simp only [JJ] at hb)<;>(try exact JX))|fail)
  refine Dnt Tryz.results270 ?_
  exact ⟨A, c, rfl, (Sep.PS_open.2 ⟨b, hS.sub (L' := .blk g 307 [.map (some b)] :: .mp Tryz.prog 9 b (l.map Ce.kvV) :: .sl _ 1 (.slice A l.length c) (l.map Ce.kc) :: F) SuF⟩).sub SuF⟩
set_option maxHeartbeats 4000000 in
theorem psapply_z (gs : Nat) (l : List Ce) (x : Ch) (r : World) (F : List Res) (w : World) (hS : Sep r [] (PS gs l :: F) w) (hs : SSort l) (hl : l.length ≤ 1000) :
    Calls Tryz.prog 280 #[.pointer (some ⟨gs, 0, none⟩), x.val] w fun e w' => e = .returned (.int .i64 (sApp l x).2) ∧ Sep r [] (PS gs (sApp l x).1 :: F) w' := by
  obtain ⟨b, hS⟩ := Sep.PS_open.1 hS
  refine Z.enter Tryz.func280 Tryz.ntmps280 rfl rfl ?_
  repeat' (first|refine K ?_|(refine Sh.sa hS ?_;clear hS;intro w hS)|(refine K3 ?_;clear hS;intro g w hS hge)|(refine KB ?_ ?_<;>intro hb<;>(try simp only [JJ] at hb)<;>(try exact JX))|fail)
  rename Nat => gx
  refine Z.eff (Z.cl (svalid_any x _) rfl ?_) rfl
  rintro e w' ⟨rfl, hC⟩
  refine ⟨_, rfl, ?_⟩
  replace hS := hS.ext hC
  clear hC
  repeat' (first|refine K ?_|(refine Sh.sa hS ?_;clear hS;intro w hS)|(refine K3 ?_;clear hS;intro g w hS hge)|(refine KB ?_ ?_<;>intro hb<;>(try simp only [JJ] at hb)<;>(try exact JX))|fail)
  · refine Dnt Tryz.results280 ?_
    have e : sApp l x = (l, 1) := by simp [sApp, hb]
    rw [e]
    exact ⟨rfl, Sep.PS_open.2 ⟨b, hS.sb⟩⟩
  rename validB x = true => hv
  have hkz := valid_key hv
  have hky := key_str x.key (by unfold maxLen; omega)
  have hlk := look_ce hs x.key
  have hfa := atK_found l x.key
  cases hc : atK l x.key with
  | none =>
    rw [hc] at hlk hfa
    have hnf : foundB l x.key = false := hfa
    refine D.startS (Lr := [.blk gx 149 x.cells, .blk gs 307 [.map (some b)]]) (hS.sb) 11 13 (by kernel_rfl) rfl ?_
    replace hS := hS.drew
    refine Sh.dp 0 1 ?_
    refine Sh.dp 1 3 ?_
    refine Sh.dp 2 7 ?_
    refine Sh.dp 4 23 ?_
    refine Sh.dl 3 31 ?_
    refine Sh.dl 5 63 ?_
    refine D.each [6, 10] (by kernel_rfl) rfl ?_
    refine D.econs 6 127 rfl D.wantedN (by kernel_rfl) (fun _ _ h => h) ?_ ?_
    · refine Z.lkO hS none rfl rfl AtF hky hlk ?_
      refine HMs ?_
      refine Sh.dp 7 255 ?_
      refine Sh.dp 8 511 ?_
      refine Sh.dp 9 1023 ?_
      refine D.ef 10 2047 ?_
      refine Z.al hS ?_
      clear hS; intro g w hS hge
      refine HMs ?_
      refine D.ef 11 4095 ?_
      refine Z.st hS rfl AtF rfl rfl ?_
      clear hS; intro w hS
      refine ⟨HM.last (by kernel_rfl), ?_⟩
      refine Sh.dp 12 8191 ?_
      refine D.done (by kernel_rfl) ?_
      repeat' (first|refine K ?_|(refine Sh.sa hS ?_;clear hS;intro w hS)|(refine K3 ?_;clear hS;intro g w hS hge)|(refine KB ?_ ?_<;>intro hb<;>(try simp only [JJ] at hb)<;>(try exact JX))|fail)
      · rename x.kind = 1 => hk
        refine Z.eff (Z.lnm hS rfl AtF ?_) rfl
        rw [List.length_map]
        repeat' (first|refine K ?_|(refine Sh.sa hS ?_;clear hS;intro w hS)|(refine K3 ?_;clear hS;intro g w hS hge)|(refine KB ?_ ?_<;>intro hb<;>(try simp only [JJ] at hb)<;>(try exact JX))|fail)
        · refine Dnt Tryz.results280 ?_
          have h2 : 32 ≤ l.length := by omega
          have e : sApp l x = (l, 33) := by simp [sApp, hv, hk, hnf, h2]
          rw [e]
          exact ⟨rfl, Sep.PS_open.2 ⟨b, hS.sb⟩⟩
        · have h2 : ¬ 32 ≤ l.length := by omega
          have e : sApp l x = (l.take (fidx l x.key) ++ [⟨x.key, x.value, x.seq⟩] ++ l.drop (fidx l x.key), 0) := by simp [sApp, hv, hk, hnf, h2]
          rw [e]
          have hpm := put_new hs hc x.value x.seq (fidx l x.key)
          refine D.startS (Lr := [.blk gx 149 x.cells, .blk gs 307 [.map (some b)]]) (hS.sb) 12 12 (by kernel_rfl) rfl ?_
          replace hS := hS.drew
          refine Sh.dp 0 1 ?_
          refine Sh.dp 1 3 ?_
          refine Sh.dp 2 7 ?_
          refine Sh.dp 4 23 ?_
          refine Sh.dp 6 87 ?_
          refine Sh.dp 8 343 ?_
          refine Sh.dl 3 351 ?_
          refine Sh.dl 5 383 ?_
          refine Sh.dl 7 511 ?_
          refine Sh.dl 9 1023 ?_
          first | refine D.bu 10 2047 rfl D.wantedN (by kernel_rfl) rfl rfl ?_ | refine D.buA 10 2047 rfl D.wantedN (by kernel_rfl) rfl rfl ?_
          refine D.ef 11 4095 ?_
          refine Z.upm hS _ rfl rfl rfl AtF hky hpm (by rw [List.length_map]; unfold maxLen; omega) ?_
          clear hS; intro w hS
          refine HMs ?_
          refine D.done (by kernel_rfl) ?_
          repeat' (first|refine K ?_|(refine Sh.sa hS ?_;clear hS;intro w hS)|(refine K3 ?_;clear hS;intro g w hS hge)|(refine KB ?_ ?_<;>intro hb<;>(try simp only [JJ] at hb)<;>(try exact JX))|fail)
          refine Dnt Tryz.results280 ?_
          exact ⟨rfl, Sep.PS_open.2 ⟨b, hS.sb⟩⟩
      · rename x.kind = 2 => hk
        refine Dnt Tryz.results280 ?_
        have e : sApp l x = (l, 34) := by simp [sApp, hv, hk, hnf]
        rw [e]
        exact ⟨rfl, Sep.PS_open.2 ⟨b, hS.sb⟩⟩
      · refine Dnt Tryz.results280 ?_
        have h1 : ¬ x.kind = 1 := by omega
        have h2 : ¬ x.kind = 2 := by omega
        have e : sApp l x = (l, 0) := by simp [sApp, hv, h1, h2]
        rw [e]
        exact ⟨rfl, Sep.PS_open.2 ⟨b, hS.sb⟩⟩
    refine D.econs 10 1087 rfl D.wantedN (by kernel_rfl) (fun _ _ h => h) ?_ ?_
    · refine Z.al hS ?_
      clear hS; intro g w hS hge
      refine HMs ?_
      refine D.ef 6 1151 ?_
      refine Z.lkO hS none rfl rfl AtF hky hlk ?_
      refine HMs ?_
      refine Sh.dp 7 1279 ?_
      refine Sh.dp 8 1535 ?_
      refine Sh.dp 9 2047 ?_
      refine D.ef 11 4095 ?_
      refine Z.st hS rfl AtF rfl rfl ?_
      clear hS; intro w hS
      refine ⟨HM.last (by kernel_rfl), ?_⟩
      refine Sh.dp 12 8191 ?_
      refine D.done (by kernel_rfl) ?_
      repeat' (first|refine K ?_|(refine Sh.sa hS ?_;clear hS;intro w hS)|(refine K3 ?_;clear hS;intro g w hS hge)|(refine KB ?_ ?_<;>intro hb<;>(try simp only [JJ] at hb)<;>(try exact JX))|fail)
      · rename x.kind = 1 => hk
        refine Z.eff (Z.lnm hS rfl AtF ?_) rfl
        rw [List.length_map]
        repeat' (first|refine K ?_|(refine Sh.sa hS ?_;clear hS;intro w hS)|(refine K3 ?_;clear hS;intro g w hS hge)|(refine KB ?_ ?_<;>intro hb<;>(try simp only [JJ] at hb)<;>(try exact JX))|fail)
        · refine Dnt Tryz.results280 ?_
          have h2 : 32 ≤ l.length := by omega
          have e : sApp l x = (l, 33) := by simp [sApp, hv, hk, hnf, h2]
          rw [e]
          exact ⟨rfl, Sep.PS_open.2 ⟨b, hS.sb⟩⟩
        · have h2 : ¬ 32 ≤ l.length := by omega
          have e : sApp l x = (l.take (fidx l x.key) ++ [⟨x.key, x.value, x.seq⟩] ++ l.drop (fidx l x.key), 0) := by simp [sApp, hv, hk, hnf, h2]
          rw [e]
          have hpm := put_new hs hc x.value x.seq (fidx l x.key)
          refine D.startS (Lr := [.blk gx 149 x.cells, .blk gs 307 [.map (some b)]]) (hS.sb) 12 12 (by kernel_rfl) rfl ?_
          replace hS := hS.drew
          refine Sh.dp 0 1 ?_
          refine Sh.dp 1 3 ?_
          refine Sh.dp 2 7 ?_
          refine Sh.dp 4 23 ?_
          refine Sh.dp 6 87 ?_
          refine Sh.dp 8 343 ?_
          refine Sh.dl 3 351 ?_
          refine Sh.dl 5 383 ?_
          refine Sh.dl 7 511 ?_
          refine Sh.dl 9 1023 ?_
          first | refine D.bu 10 2047 rfl D.wantedN (by kernel_rfl) rfl rfl ?_ | refine D.buA 10 2047 rfl D.wantedN (by kernel_rfl) rfl rfl ?_
          refine D.ef 11 4095 ?_
          refine Z.upm hS _ rfl rfl rfl AtF hky hpm (by rw [List.length_map]; unfold maxLen; omega) ?_
          clear hS; intro w hS
          refine HMs ?_
          refine D.done (by kernel_rfl) ?_
          repeat' (first|refine K ?_|(refine Sh.sa hS ?_;clear hS;intro w hS)|(refine K3 ?_;clear hS;intro g w hS hge)|(refine KB ?_ ?_<;>intro hb<;>(try simp only [JJ] at hb)<;>(try exact JX))|fail)
          refine Dnt Tryz.results280 ?_
          exact ⟨rfl, Sep.PS_open.2 ⟨b, hS.sb⟩⟩
      · rename x.kind = 2 => hk
        refine Dnt Tryz.results280 ?_
        have e : sApp l x = (l, 34) := by simp [sApp, hv, hk, hnf]
        rw [e]
        exact ⟨rfl, Sep.PS_open.2 ⟨b, hS.sb⟩⟩
      · refine Dnt Tryz.results280 ?_
        have h1 : ¬ x.kind = 1 := by omega
        have h2 : ¬ x.kind = 2 := by omega
        have e : sApp l x = (l, 0) := by simp [sApp, hv, h1, h2]
        rw [e]
        exact ⟨rfl, Sep.PS_open.2 ⟨b, hS.sb⟩⟩
    exact D.enil
  | some c =>
    rw [hc] at hlk hfa
    have hfd : foundB l x.key = true := hfa
    obtain ⟨hi, hik⟩ := found_at hfd
    refine D.startS (Lr := [.blk gx 149 x.cells, .blk gs 307 [.map (some b)]]) (hS.sb) 11 13 (by kernel_rfl) rfl ?_
    replace hS := hS.drew
    refine Sh.dp 0 1 ?_
    refine Sh.dp 1 3 ?_
    refine Sh.dp 2 7 ?_
    refine Sh.dp 4 23 ?_
    refine Sh.dl 3 31 ?_
    refine Sh.dl 5 63 ?_
    refine D.each [6, 10] (by kernel_rfl) rfl ?_
    refine D.econs 6 127 rfl D.wantedN (by kernel_rfl) (fun _ _ h => h) ?_ ?_
    · refine Z.lkO hS (some c.vV) rfl rfl AtF hky hlk ?_
      refine HMs ?_
      refine Sh.dp 7 255 ?_
      refine Sh.dp 8 511 ?_
      refine Sh.dp 9 1023 ?_
      refine D.ef 10 2047 ?_
      refine Z.al hS ?_
      clear hS; intro g w hS hge
      refine HMs ?_
      refine D.ef 11 4095 ?_
      refine Z.st hS rfl AtF rfl rfl ?_
      clear hS; intro w hS
      refine ⟨HM.last (by kernel_rfl), ?_⟩
      refine Sh.dp 12 8191 ?_
      refine D.done (by kernel_rfl) ?_
      repeat' (first|refine K ?_|(refine Sh.sa hS ?_;clear hS;intro w hS)|(refine K3 ?_;clear hS;intro g w hS hge)|(refine KB ?_ ?_<;>intro hb<;>(try simp only [JJ] at hb)<;>(try exact JX))|fail)
      · rename x.kind = 1 => hk
        have e : sApp l x = (l.set (fidx l x.key) ⟨x.key, x.value, x.seq⟩, 0) := by simp [sApp, hv, hk, hfd]
        rw [e]
        have hpm := put_set hi hik x.value x.seq
        refine D.startS (Lr := [.blk gx 149 x.cells, .blk gs 307 [.map (some b)]]) (hS.sb) 12 12 (by kernel_rfl) rfl ?_
        replace hS := hS.drew
        refine Sh.dp 0 1 ?_
        refine Sh.dp 1 3 ?_
        refine Sh.dp 2 7 ?_
        refine Sh.dp 4 23 ?_
        refine Sh.dp 6 87 ?_
        refine Sh.dp 8 343 ?_
        refine Sh.dl 3 351 ?_
        refine Sh.dl 5 383 ?_
        refine Sh.dl 7 511 ?_
        refine Sh.dl 9 1023 ?_
        first | refine D.bu 10 2047 rfl D.wantedN (by kernel_rfl) rfl rfl ?_ | refine D.buA 10 2047 rfl D.wantedN (by kernel_rfl) rfl rfl ?_
        refine D.ef 11 4095 ?_
        refine Z.upm hS _ rfl rfl rfl AtF hky hpm (by rw [List.length_map]; unfold maxLen; omega) ?_
        clear hS; intro w hS
        refine HMs ?_
        refine D.done (by kernel_rfl) ?_
        repeat' (first|refine K ?_|(refine Sh.sa hS ?_;clear hS;intro w hS)|(refine K3 ?_;clear hS;intro g w hS hge)|(refine KB ?_ ?_<;>intro hb<;>(try simp only [JJ] at hb)<;>(try exact JX))|fail)
        refine Dnt Tryz.results280 ?_
        exact ⟨rfl, Sep.PS_open.2 ⟨b, hS.sb⟩⟩
      · rename x.kind = 2 => hk
        have hk1 : ¬ x.kind = 1 := by omega
        have e : sApp l x = (l.take (fidx l x.key) ++ l.drop (fidx l x.key + 1), 0) := by simp [sApp, hv, hk, hk1, hfd]
        rw [e]
        have hdm := del_at hi hik
        refine D.startS (Lr := [.blk gx 149 x.cells, .blk gs 307 [.map (some b)]]) (hS.sb) 7 7 (by kernel_rfl) rfl ?_
        replace hS := hS.drew
        refine Sh.dp 0 1 ?_
        refine Sh.dp 1 3 ?_
        refine Sh.dp 2 7 ?_
        refine Sh.dp 4 23 ?_
        refine Sh.dl 3 31 ?_
        refine Sh.dl 5 63 ?_
        refine D.ef 6 127 ?_
        refine Z.dlm hS _ rfl rfl AtF hky hdm ?_
        clear hS; intro w hS
        refine HMs ?_
        refine D.done (by kernel_rfl) ?_
        repeat' (first|refine K ?_|(refine Sh.sa hS ?_;clear hS;intro w hS)|(refine K3 ?_;clear hS;intro g w hS hge)|(refine KB ?_ ?_<;>intro hb<;>(try simp only [JJ] at hb)<;>(try exact JX))|fail)
        refine Dnt Tryz.results280 ?_
        exact ⟨rfl, Sep.PS_open.2 ⟨b, hS.sb⟩⟩
      · refine Dnt Tryz.results280 ?_
        have h1 : ¬ x.kind = 1 := by omega
        have h2 : ¬ x.kind = 2 := by omega
        have e : sApp l x = (l, 0) := by simp [sApp, hv, h1, h2]
        rw [e]
        exact ⟨rfl, Sep.PS_open.2 ⟨b, hS.sb⟩⟩
    refine D.econs 10 1087 rfl D.wantedN (by kernel_rfl) (fun _ _ h => h) ?_ ?_
    · refine Z.al hS ?_
      clear hS; intro g w hS hge
      refine HMs ?_
      refine D.ef 6 1151 ?_
      refine Z.lkO hS (some c.vV) rfl rfl AtF hky hlk ?_
      refine HMs ?_
      refine Sh.dp 7 1279 ?_
      refine Sh.dp 8 1535 ?_
      refine Sh.dp 9 2047 ?_
      refine D.ef 11 4095 ?_
      refine Z.st hS rfl AtF rfl rfl ?_
      clear hS; intro w hS
      refine ⟨HM.last (by kernel_rfl), ?_⟩
      refine Sh.dp 12 8191 ?_
      refine D.done (by kernel_rfl) ?_
      repeat' (first|refine K ?_|(refine Sh.sa hS ?_;clear hS;intro w hS)|(refine K3 ?_;clear hS;intro g w hS hge)|(refine KB ?_ ?_<;>intro hb<;>(try simp only [JJ] at hb)<;>(try exact JX))|fail)
      · rename x.kind = 1 => hk
        have e : sApp l x = (l.set (fidx l x.key) ⟨x.key, x.value, x.seq⟩, 0) := by simp [sApp, hv, hk, hfd]
        rw [e]
        have hpm := put_set hi hik x.value x.seq
        refine D.startS (Lr := [.blk gx 149 x.cells, .blk gs 307 [.map (some b)]]) (hS.sb) 12 12 (by kernel_rfl) rfl ?_
        replace hS := hS.drew
        refine Sh.dp 0 1 ?_
        refine Sh.dp 1 3 ?_
        refine Sh.dp 2 7 ?_
        refine Sh.dp 4 23 ?_
        refine Sh.dp 6 87 ?_
        refine Sh.dp 8 343 ?_
        refine Sh.dl 3 351 ?_
        refine Sh.dl 5 383 ?_
        refine Sh.dl 7 511 ?_
        refine Sh.dl 9 1023 ?_
        first | refine D.bu 10 2047 rfl D.wantedN (by kernel_rfl) rfl rfl ?_ | refine D.buA 10 2047 rfl D.wantedN (by kernel_rfl) rfl rfl ?_
        refine D.ef 11 4095 ?_
        refine Z.upm hS _ rfl rfl rfl AtF hky hpm (by rw [List.length_map]; unfold maxLen; omega) ?_
        clear hS; intro w hS
        refine HMs ?_
        refine D.done (by kernel_rfl) ?_
        repeat' (first|refine K ?_|(refine Sh.sa hS ?_;clear hS;intro w hS)|(refine K3 ?_;clear hS;intro g w hS hge)|(refine KB ?_ ?_<;>intro hb<;>(try simp only [JJ] at hb)<;>(try exact JX))|fail)
        refine Dnt Tryz.results280 ?_
        exact ⟨rfl, Sep.PS_open.2 ⟨b, hS.sb⟩⟩
      · rename x.kind = 2 => hk
        have hk1 : ¬ x.kind = 1 := by omega
        have e : sApp l x = (l.take (fidx l x.key) ++ l.drop (fidx l x.key + 1), 0) := by simp [sApp, hv, hk, hk1, hfd]
        rw [e]
        have hdm := del_at hi hik
        refine D.startS (Lr := [.blk gx 149 x.cells, .blk gs 307 [.map (some b)]]) (hS.sb) 7 7 (by kernel_rfl) rfl ?_
        replace hS := hS.drew
        refine Sh.dp 0 1 ?_
        refine Sh.dp 1 3 ?_
        refine Sh.dp 2 7 ?_
        refine Sh.dp 4 23 ?_
        refine Sh.dl 3 31 ?_
        refine Sh.dl 5 63 ?_
        refine D.ef 6 127 ?_
        refine Z.dlm hS _ rfl rfl AtF hky hdm ?_
        clear hS; intro w hS
        refine HMs ?_
        refine D.done (by kernel_rfl) ?_
        repeat' (first|refine K ?_|(refine Sh.sa hS ?_;clear hS;intro w hS)|(refine K3 ?_;clear hS;intro g w hS hge)|(refine KB ?_ ?_<;>intro hb<;>(try simp only [JJ] at hb)<;>(try exact JX))|fail)
        refine Dnt Tryz.results280 ?_
        exact ⟨rfl, Sep.PS_open.2 ⟨b, hS.sb⟩⟩
      · refine Dnt Tryz.results280 ?_
        have h1 : ¬ x.kind = 1 := by omega
        have h2 : ¬ x.kind = 2 := by omega
        have e : sApp l x = (l, 0) := by simp [sApp, hv, h1, h2]
        rw [e]
        exact ⟨rfl, Sep.PS_open.2 ⟨b, hS.sb⟩⟩
    exact D.enil
theorem mclone_z (b : Nat) (m : List (Value × Value)) (r : World) (F : List Res) (w : World) (hS : Sep r [] F w) {k : List Res} (ha : At F k (.mp Tryz.prog 9 b m)) :
    Calls Tryz.prog 354 #[.map (some b)] w fun e w' => ∃ b', e = .returned (.map (some b')) ∧ Sep r [] (.mp Tryz.prog 9 b' m :: F) w' := by
  refine Z.enter Tryz.func354 Tryz.ntmps354 rfl rfl ?_
  repeat' (first|refine K ?_|(refine Sh.sa hS ?_;clear hS;intro w hS)|(refine K3 ?_;clear hS;intro g w hS hge)|(refine KB ?_ ?_<;>intro hb<;>(try simp only [JJ] at hb)<;>(try exact JX))|fail)
  refine Z.pl (R.mnil rfl rfl) ?_
  repeat' (first|refine K ?_|(refine Sh.sa hS ?_;clear hS;intro w hS)|(refine K3 ?_;clear hS;intro g w hS hge)|(refine KB ?_ ?_<;>intro hb<;>(try simp only [JJ] at hb)<;>(try exact JX))|fail)
  refine Z.pl (R.mkI rfl) ?_
  repeat' (first|refine K ?_|(refine Sh.sa hS ?_;clear hS;intro w hS)|(refine K3 ?_;clear hS;intro g w hS hge)|(refine KB ?_ ?_<;>intro hb<;>(try simp only [JJ] at hb)<;>(try exact JX))|fail)
  refine Z.eff (Z.mcl hS rfl ha Tryz.func399 (by kernel_rfl) (by kernel_rfl) (by kernel_rfl) (by kernel_rfl) ?_) rfl
  clear hS
  intro b' w hS
  refine Z.pl (R.tas rfl) ?_
  repeat' (first|refine K ?_|(refine Sh.sa hS ?_;clear hS;intro w hS)|(refine K3 ?_;clear hS;intro g w hS hge)|(refine KB ?_ ?_<;>intro hb<;>(try simp only [JJ] at hb)<;>(try exact JX))|fail)
  refine Dnt Tryz.results354 ?_
  exact ⟨b', rfl, hS⟩
theorem pscopy_z (g : Nat) (l : List Ce) (r : World) (F : List Res) (w : World) (hS : Sep r [] (PS g l :: F) w) :
    Calls Tryz.prog 282 #[.pointer (some ⟨g, 0, none⟩)] w fun e w' => ∃ g', e = .returned (.pointer (some ⟨g', 0, none⟩)) ∧ Sep r [] (PS g' l :: PS g l :: F) w' := by
  obtain ⟨b, hS⟩ := Sep.PS_open.1 hS
  refine Z.enter Tryz.func282 Tryz.ntmps282 rfl rfl ?_
  repeat' (first|refine K ?_|(refine Sh.sa hS ?_;clear hS;intro w hS)|(refine K3 ?_;clear hS;intro g w hS hge)|(refine KB ?_ ?_<;>intro hb<;>(try simp only [JJ] at hb)<;>(try exact JX))|fail)
  refine Z.eff (Z.cl (mclone_z b (l.map Ce.kvV) _ _ _ hS AtF) rfl ?_) rfl
  clear hS
  rintro e w ⟨b', rfl, hS⟩
  refine ⟨_, rfl, ?_⟩
  repeat' (first|refine K ?_|(refine Sh.sa hS ?_;clear hS;intro w hS)|(refine K3 ?_;clear hS;intro g w hS hge)|(refine KB ?_ ?_<;>intro hb<;>(try simp only [JJ] at hb)<;>(try exact JX))|fail)
  rename Nat => g'
  refine Dnt Tryz.results282 ?_
  refine ⟨g', rfl, Sep.PS_open.2 ⟨b', ?_⟩⟩
  exact (Sep.PS_open.2 ⟨b, hS.sub (L' := .blk g 307 [.map (some b)] :: .mp Tryz.prog 9 b (l.map Ce.kvV) :: .blk g' 307 [.map (some b')] :: .mp Tryz.prog 9 b' (l.map Ce.kvV) :: F) SuF⟩).sub SuF
end Go.Proofs.YtfmnjbhncnldmaaGreat
