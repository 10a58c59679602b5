import Derived.LaidEqlPtr
import Derived.Test.YtfmnjbhncnldmaaGreatP00
import Derived.Test.YtfmnjbhncnldmaaGreatP02
set_option linter.unusedSimpArgs false
set_option linter.unusedVariables false
namespace Go.Proofs.YtfmnjbhncnldmaaGreat
open Go.RowKit
section
variable {P : Program} {n : Nat} {f : Nat → Value} {d : Option Tmp} {ty t : TypeId} {pos : String} {aft : Array Edge} {gd : Option (Nat × Bool)} {x y : Operand}
theorem R.min2 {ats : Array TypeId} {a b : Int} (hx : ev n f x = .int .i64 a) (hy : ev n f y = .int .i64 b) : Runs P n f ⟨d, .call ⟨.builtin .min, #[x, y], ats⟩, ty, pos, aft, gd⟩ (.int .i64 (min a b)) := by
  refine ⟨fun W => ?_⟩
  have e : (if b < a then b else a) = min a b := by split <;> omega
  simp [execOp, resolve, invoke, builtin, hx, hy, run_min_int2, e]
end
section
variable {P : Program} {Q : Exit → Act → World → Prop} {K : (Nat → Value) → World → Prop} {n : Nat} {f : Nat → Value} {w r : World} {M : List Nat} {L k : List Res} {d : Tmp} {ty t e sz bytes : TypeId} {pos : String} {aft : Array Edge} {x y : Operand} {zs : List Value}
theorem Z.mks [ht : HasTT P] {l c : Nat} (hS : Sep r M L w) (hx : ev n f x = .int .i64 (l : Int)) (hy : ev n f y = .int .i64 (c : Int)) (hk : kindOf ht.tt t = .sl e sz) [he : HasE P e sz bytes] [hz : HasZ P e zs] (hlc : l ≤ c) (hb : bytes * c ≤ 281474976710656) (hm : c ≤ maxLen)
    (h : ∀ g w', Sep r M (.blk g e (zerosL zs c) :: L) w' → w.heap.size ≤ g → K (upd' f d (.slice (some ⟨g, 0, none⟩) l c)) w') : WE P ⟨some d, .makeSlice t x y, ty, pos, aft, none⟩ K Q n f w := by
  refine ⟨fun K' hK => ?_⟩
  obtain ⟨hu, hs⟩ := kind_sl hk
  obtain ⟨i, z, hi, hz1, hsz, hby, hzs, h0⟩ := he.ok
  have hz' := hz.ok
  simp [hi, hz1] at hz'
  obtain ⟨hz2, hz3⟩ := hz'
  have hb' : (i.bytes : Int) * (c : Int) ≤ 281474976710656 := by
    rw [hby]
    have h1 : ((bytes * c : Nat) : Int) ≤ ((281474976710656 : Nat) : Int) := Int.ofNat_le.2 hb
    rw [Int.natCast_mul] at h1
    exact h1
  have hm' : (c : Int) ≤ 9223372036854775807 := by unfold maxLen at hm; omega
  have hrun := run_make (P := P) w t e i z hu hi hz1 .i64 .i64 (l : Int) (c : Int) (by omega) (by omega) hb' hm'
  simp only [Int.toNat_natCast] at hrun
  have hmc : madeCells z.cells (c * i.size) = (zerosL zs c).toArray := by
    have h1 := zerosL_ok zs c
    rw [hz2, hz3]
    exact h1
  rw [hmc] at hrun
  unfold Oper.wp
  rw [act_eval']
  unfold execOp
  simp only [hx, hy, Sem.run_bind]
  rw [hrun]
  simp only [Result.andThen_ok, Sem.run_pure, Oper.upon_value, act_put]
  exact hK _ _ (h _ _ (hS.box e (zerosL zs c)) (Nat.le_refl _))
end
end Go.Proofs.YtfmnjbhncnldmaaGreat
namespace Go.Proofs.YtfmnjbhncnldmaaGreat
open Go.RowKit
namespace Z
section
variable {P : Program} {ops : Array Oper} {Q : Exit → Act → World → Prop} {n : Nat} {f : Nat → Value} {w : World} {rest : List Oper} {d : Tmp} {t ty : TypeId} {pos : String} {aft : Array Edge} {cs cs' : List Value}
theorem buA_run [ht : HasTT P] {ps : List (Nat × Operand)} {m e sz : Nat} [hz : HasZ P t cs] (hk : kindOf ht.tt t = .ar m e sz) (hf : fillA sz cs (partsV n f ps) = some cs') {dd : Option Tmp} {gd : Option (Nat × Bool)} (W : World) :
    (execOp (ev n f) ⟨dd, .build t ps.toArray, ty, pos, aft, gd⟩).run P W = .ok (.value (.agg cs'.toArray)) W := by
  obtain ⟨hu, hs⟩ := kind_ar hk
  have hz := hz.ok
  cases hi : P.info? t with
  | none => simp [hi] at hz
  | some i =>
    simp [hi] at hz
    obtain ⟨⟨z0, hz1, hz2⟩, hz3⟩ := hz
    have hfill := fillA_ok _ cs cs' hf
    have hp : (ps.toArray.map fun p => (p.1, ev n f p.2)).toList = partsV n f ps := by simp [partsV, hdv_eq]
    simp only [execOp]
    have e : (Instr.build t (ps.toArray.map fun p => (p.1, ev n f p.2))).run P W = .ok (.agg cs'.toArray) W := by
      unfold Instr.build
      simp only [zeroValue, typeInfo, Sem.run_bind, hz1, Result.andThen_ok, Sem.run_pure, run_under hu]
      have hprog : (program).run P W = .ok P W := rfl
      simp only [hprog, Result.andThen_ok, hi, Sem.run_pure, hz1, run_size hs, hp, hz2, hfill]
    simp only [Sem.run_bind]
    rw [e]
    rfl
theorem buA [ht : HasTT P] {ps : List (Nat × Operand)} {m e sz : Nat} [hz : HasZ P t cs] (hk : kindOf ht.tt t = .ar m e sz) (hf : fillA sz cs (partsV n f ps) = some cs')
    (h : WL P ops Q rest n (upd' f d (.agg cs'.toArray)) w) : WL P ops Q (⟨some d, .build t ps.toArray, ty, pos, aft, none⟩ :: rest) n f w :=
  plain rfl (fun W => buA_run hk hf W) h
theorem _root_.Go.Proofs.YtfmnjbhncnldmaaGreat.D.buA [ht : HasTT P] {S : World → Prop} {L k mm : Nat} (i m' : Nat) {ps : List (Nat × Operand)} {m e sz : Nat} {gd : Option (Nat × Bool)} [hz : HasZ P t cs] (hi : ops[i]? = some ⟨some d, .build t ps.toArray, ty, pos, aft, gd⟩) (hw : Region.wanted ⟨some d, .build t ps.toArray, ty, pos, aft, gd⟩ (yielded ops (fr n f)) = true) (hc : okTake ops L mm m' i = true) (hk : kindOf ht.tt t = .ar m e sz) (hf : fillA sz cs (partsV n f ps) = some cs')
    (h : WR P ops Q S L k m' n (upd' f d (.agg cs'.toArray)) w) : WR P ops Q S L (k + 1) mm n f w :=
  D.pl i m' hi hw hc ⟨fun W => buA_run hk hf W⟩ h
end
end Z
end Go.Proofs.YtfmnjbhncnldmaaGreat
namespace Go.Proofs.YtfmnjbhncnldmaaGreat
open Go.RowKit
section
variable {P : Program} {ops : Array Oper} {Q : Exit → Act → World → Prop} {K : (Nat → Value) → World → Prop} {n : Nat} {f : Nat → Value} {w : World} {d : Tmp} {dd : Option Tmp} {ty : TypeId} {pos : String} {aft : Array Edge} {gd : Option (Nat × Bool)}
theorem R.mfb {fn : Fn} {bnd : List Operand} : Runs P n f ⟨dd, .makeFunc fn bnd.toArray #[], ty, pos, aft, gd⟩ (.func fn (bnd.map (ev n f)).toArray #[]) :=
  ⟨fun W => by simp [execOp, Instr.makeFunc]⟩
theorem Z.clb {F : FuncId} [hfn : HasF P F] {c : Operand} {bnd : List Value} {args : List Operand} {ats : Array TypeId} {avs : Array Value} {R : Ending → World → Prop} (hc : ev n f c = .func (.func F) bnd.toArray #[]) (h : Calls P F avs w R) (ha : bnd ++ args.map (ev n f) = avs.toList)
    (hk : ∀ e w', R e w' → ∃ v, e = .returned v ∧ K (upd' f d v) w') : WE P ⟨some d, .call ⟨.value c, args.toArray, ats⟩, ty, pos, aft, none⟩ K Q n f w :=
  .mk fun K' hK => by
    unfold Oper.wp
    rw [act_eval']
    have has : bnd.toArray ++ (List.map (ev n f) args).toArray = avs := by rw [List.append_toArray, ha]
    have : (execOp (ev n f) ⟨some d, .call ⟨.value c, args.toArray, ats⟩, ty, pos, aft, none⟩).run P w = .ok (.enter F avs) w := by
      obtain ⟨fn, hF, hn, hb⟩ := hfn.ok
      have hn' : fn.name ≠ "runtime.NumGoroutine" := by simpa using hn
      obtain ⟨c', hc'⟩ := Option.isSome_iff_exists.1 hb
      simp only [execOp, resolve, hc, Deferred.ofValue, Sem.run_bind, Sem.run_pure, Result.andThen_ok, invoke]
      have e1 : (bnd.toArray ++ Array.map (ev n f) args.toArray) ++ #[] = avs := by rw [← has]; simp
      simp [callFunc, hF, hn', hc', go_sem] at e1 ⊢
      rw [← e1]
    rw [this, Oper.upon_enter]
    refine h.mono ?_
    intro e w' hR
    obtain ⟨v, rfl, hw⟩ := hk e w' hR
    simp only [act_put]
    exact hK _ _ hw
end
end Go.Proofs.YtfmnjbhncnldmaaGreat
namespace Go.Proofs.YtfmnjbhncnldmaaGreat
open Go.RowKit
theorem Same.trans {Ms : List Nat} {f g h : Nat → Value} (h1 : Same Ms f g) (h2 : Same Ms g h) : Same Ms f h := fun i hi => (h1 i hi).trans (h2 i hi)
namespace D
section
variable {P : Program} {ops : Array Oper} {Q : Exit → Act → World → Prop} {S : World → Prop} {L n : Nat}
theorem EWall {k m : Nat} {f : Nat → Value} {w : World} {J : Nat → (Nat → Value) → World → Prop} : ∀ rs : List Nat,
    (∀ i, i ∈ rs → okStep ops m (m ||| 2 ^ i) i = true ∧ (∃ oi, ops[i]? = some oi ∧ oi.guard = none ∧ WE P oi (J i) (NoPanic Q) n f w) ∧ ∀ f' w', J i f' w' → (HM ops S L (m ||| 2 ^ i) w' ∧ WR P ops Q S L k (m ||| 2 ^ i) n f' w')) →
    EW P ops Q S L k m n f w rs
  | [], _ => enil
  | i :: rs, h => by
    obtain ⟨h1, ⟨⟨dd, op, ty, pos, aft, gd⟩, hi, hg, hw⟩, h3⟩ := h i (List.mem_cons_self ..)
    cases hg
    exact econs i _ hi wantedN h1 h3 hw (EWall rs fun j hj => h j (List.mem_cons_of_mem _ hj))
theorem graph {σ : Type} [BEq σ] [LawfulBEq σ] (I : σ → (Nat → Value) → World → Prop) (ok : σ → Nat → Bool) (next : σ → Nat → σ) (fin : σ → Bool) (ms : List (Nat × Nat × σ))
    (hc : ms.all (fun x => match Region.ready .any ops (listedOf ops.size x.2.1) with | [] => fin x.2.2 | i :: rs => Nat.blt 0 x.1 && (i :: rs).all fun i => ok x.2.2 i && (okStep ops x.2.1 (x.2.1 ||| 2 ^ i) i && ms.elem (x.1 - 1, x.2.1 ||| 2 ^ i, next x.2.2 i))) = true)
    (hS : ∀ s f w, I s f w → S w)
    (hst : ∀ s i f w, ok s i = true → I s f w → ∃ oi, ops[i]? = some oi ∧ oi.guard = none ∧ WE P oi (I (next s i)) (NoPanic Q) n f w)
    (hend : ∀ s f w, fin s = true → I s f w → Q .normal (act n f) w) :
    ∀ k m s f w, (k, m, s) ∈ ms → I s f w → WR P ops Q S L k m n f w := by
  intro k
  induction k with
  | zero =>
    intro m s f w hm hI
    have := List.all_eq_true.1 hc _ hm
    dsimp only at this
    split at this
    · rename_i he
      exact done he (hend s f w this hI)
    · simp at this
  | succ k ih =>
    intro m s f w hm hI
    have := List.all_eq_true.1 hc _ hm
    dsimp only at this
    split at this
    · rename_i he
      exact done he (hend s f w this hI)
    · rename_i i rs he
      rw [Bool.and_eq_true] at this
      refine each (i :: rs) he rfl (EWall (J := fun j => I (next s j)) _ fun j hj => ?_)
      have hj := List.all_eq_true.1 this.2 j hj
      rw [Bool.and_eq_true, Bool.and_eq_true] at hj
      refine ⟨hj.2.1, hst s j f w hj.1 hI, fun f' w' hI' => ⟨.s (hS _ _ _ hI'), ih _ _ _ _ ?_ hI'⟩⟩
      have := List.elem_iff.1 hj.2.2
      simpa using this
end
end D
end Go.Proofs.YtfmnjbhncnldmaaGreat
namespace Go.Proofs.YtfmnjbhncnldmaaGreat
open Go.RowKit
end Go.Proofs.YtfmnjbhncnldmaaGreat
namespace Go.Proofs.YtfmnjbhncnldmaaGreat
open Go.RowKit
attribute [local irreducible] Res.blk Res.sl Res.all Res.ex Res.pure Res.star
structure Wj where
  cell : Int
  epoch : Int
  version : Int
  from_ : Int
  until_ : Int
structure Cl where
  zone : Int
  cap : Int
structure Tn where
  load : Int
  shadow : Int
  prio : Int
  lag : Int
  allowed : Int
  group : Int
  noisy : Bool
structure Vs where
  low : Int
  high : Int
structure Cfg where
  regions : Int
  zones : List Int
  cells : List Cl
  tenants : List Tn
  versions : List Vs
  replicas : List Int
  observers : List Int
  blast : Int
  lease : Int
  bake : Int
def Cl.cells (x : Cl) : List Value := [.int .i64 x.zone, .int .i64 x.cap]
def Tn.cells (x : Tn) : List Value := [.int .i64 x.load, .int .i64 x.shadow, .int .i64 x.prio, .int .i64 x.lag, .int .i64 x.allowed, .int .i64 x.group, .bool x.noisy]
def Vs.cells (x : Vs) : List Value := [.int .i64 x.low, .int .i64 x.high]
structure TS where
  placed : Bool
  shed : Bool
  home : Int
  standby : Int
  next : Int
  target : Int
  epoch : Int
  w : Wj
def TS.cells (x : TS) : List Value := [.bool x.placed, .bool x.shed, .int .i64 x.home, .int .i64 x.standby, .int .i64 x.next, .int .i64 x.target, .int .i64 x.epoch, .int .i64 x.w.cell, .int .i64 x.w.epoch, .int .i64 x.w.version, .int .i64 x.w.from_, .int .i64 x.w.until_]
structure CS where
  mode : Int
  running : Int
  wanted : Int
  since : Int
def CS.cells (x : CS) : List Value := [.int .i64 x.mode, .int .i64 x.running, .int .i64 x.wanted, .int .i64 x.since]
structure Sta where
  tick : Int
  count : Int
  tenants : List TS
  cells : List CS
  proven : Int
  evac : Int
  low : Int
  high : Int
structure En where
  kind : Int
  tick : Int
  tenant : Int
  cell : Int
  other : Int
  epoch : Int
  from_ : Int
  until_ : Int
  n : Int
def En.cells (x : En) : List Value := [.int .i64 x.kind, .int .i64 x.tick, .int .i64 x.tenant, .int .i64 x.cell, .int .i64 x.other, .int .i64 x.epoch, .int .i64 x.from_, .int .i64 x.until_, .int .i64 x.n]
def En.val (x : En) : Value := .agg x.cells.toArray
structure CAd where
  zA : Option Addr
  zc : Nat
  kA : Option Addr
  kc : Nat
  tA : Option Addr
  tc : Nat
  vA : Option Addr
  vc : Nat
  rA : Option Addr
  rc : Nat
  oA : Option Addr
  oc : Nat
def Cfg.cl (c : Cfg) (a : CAd) : List Value := [.int .i64 c.regions, .slice a.zA c.zones.length a.zc, .slice a.kA c.cells.length a.kc, .slice a.tA c.tenants.length a.tc, .slice a.vA c.versions.length a.vc, .slice a.rA c.replicas.length a.rc, .slice a.oA c.observers.length a.oc, .int .i64 c.blast, .int .i64 c.lease, .int .i64 c.bake]
def Cfg.val (c : Cfg) (a : CAd) : Value := .agg (c.cl a).toArray
structure SAd where
  tA : Option Addr
  tc : Nat
  kA : Option Addr
  kc : Nat
def Sta.cl (s : Sta) (a : SAd) : List Value := [.int .i64 s.tick, .int .i64 s.count, .slice a.tA s.tenants.length a.tc, .slice a.kA s.cells.length a.kc, .int .i64 s.proven, .int .i64 s.evac, .int .i64 s.low, .int .i64 s.high]
def ztC (z : Int) : List Value := [.int .i64 z]
structure CfR (r : World) (F : List Res) (c : Cfg) (a : CAd) : Prop where
  z : Reads r F 1 (.slice a.zA c.zones.length a.zc) (c.zones.map ztC)
  k : Reads r F 2 (.slice a.kA c.cells.length a.kc) (c.cells.map Cl.cells)
  t : Reads r F 7 (.slice a.tA c.tenants.length a.tc) (c.tenants.map Tn.cells)
  v : Reads r F 2 (.slice a.vA c.versions.length a.vc) (c.versions.map Vs.cells)
theorem CfR.cons {r : World} {F : List Res} {c : Cfg} {a : CAd} (h : CfR r F c a) (R : Res) : CfR r (R :: F) c a := ⟨h.z.cons R, h.k.cons R, h.t.cons R, h.v.cons R⟩
theorem CfR.app {r : World} {F : List Res} {c : Cfg} {a : CAd} (h : CfR r F c a) (L : List Res) : CfR r (L ++ F) c a := ⟨h.z.app L, h.k.app L, h.t.app L, h.v.app L⟩
structure StR (r : World) (F : List Res) (s : Sta) (a : SAd) : Prop where
  t : Reads r F 12 (.slice a.tA s.tenants.length a.tc) (s.tenants.map TS.cells)
  k : Reads r F 4 (.slice a.kA s.cells.length a.kc) (s.cells.map CS.cells)
structure Cfg.ok (c : Cfg) : Prop where
  r : 1 ≤ c.regions ∧ c.regions ≤ 4
  z : 1 ≤ c.zones.length ∧ c.zones.length ≤ 8
  k : 1 ≤ c.cells.length ∧ c.cells.length ≤ 16
  t : c.tenants.length ≤ 32
  v : 1 ≤ c.versions.length ∧ c.versions.length ≤ 30
  b : 1 ≤ c.blast ∧ c.blast ≤ 16
  l : 1 ≤ c.lease ∧ c.lease ≤ 1000
  e : 0 ≤ c.bake ∧ c.bake ≤ 10000
  kz : ∀ x, x ∈ c.cells → 0 ≤ x.zone ∧ x.zone < c.zones.length
structure TOk (n : Nat) (x : TS) : Prop where
  h : -1 ≤ x.home ∧ x.home < n
  s : -1 ≤ x.standby ∧ x.standby < n
  nx : -1 ≤ x.next ∧ x.next < n
  t : -1 ≤ x.target ∧ x.target < n
  ph : x.placed = true → 0 ≤ x.home
  np : x.placed = false → x.next = -1 ∧ x.target = -1
  sh : x.shed = true → x.placed = true
  hs : x.home = x.standby → x.standby = -1
  hn : x.home = x.next → x.next = -1
  ts : x.target = x.standby → x.target = -1
  tn : x.target = x.next → x.target = -1
structure KOj (n : Nat) (x : CS) : Prop where
  r : 0 ≤ x.running ∧ x.running < n
  w : 0 ≤ x.wanted ∧ x.wanted < n
structure Sta.ok (s : Sta) (c : Cfg) : Prop where
  tl : s.tenants.length = c.tenants.length
  kl : s.cells.length = c.cells.length
  t : ∀ x, x ∈ s.tenants → TOk c.cells.length x
  k : ∀ x, x ∈ s.cells → KOj c.versions.length x
theorem mem_set_or {α : Type} {l : List α} {i : Nat} {a x : α} (h : x ∈ l.set i a) : x ∈ l ∨ x = a := by
  rcases List.mem_or_eq_of_mem_set h with h | h
  · exact .inl h
  · exact .inr h
theorem Sta.ok.setT {s : Sta} {c : Cfg} (h : s.ok c) {x : TS} (hx : TOk c.cells.length x) (i : Nat) : ({ s with tenants := s.tenants.set i x } : Sta).ok c := by
  refine ⟨by rw [← h.tl]; exact List.length_set .., h.kl, fun y hy => ?_, h.k⟩
  rcases mem_set_or hy with hy | rfl
  · exact h.t y hy
  · exact hx
section
variable {n : Nat} {x : TS}
theorem TOk.place (h : TOk n x) (hp : x.placed = false) {k o : Int} (hk : 0 ≤ k ∧ k < n) (ho : -1 ≤ o ∧ o < n) (hne : o ≠ k) : TOk n { x with placed := true, home := k, standby := o } := by
  obtain ⟨h1, h2⟩ := h.np hp
  refine ⟨⟨?_, ?_⟩, ho, h.nx, h.t, fun _ => hk.1, fun h => ?_, fun _ => rfl, fun h => ?_, fun h => ?_, fun _ => h2, fun _ => h2⟩
  · show -1 ≤ k; omega
  · exact hk.2
  · cases h
  · replace h : k = o := h
    omega
  · exact h1
theorem TOk.window (h : TOk n x) (w : Wj) (e : Int) : TOk n { x with epoch := e, w := w } := ⟨h.h, h.s, h.nx, h.t, h.ph, h.np, h.sh, h.hs, h.hn, h.ts, h.tn⟩
theorem TOk.abandon (h : TOk n x) : TOk n { x with target := -1 } := by
  have h1 : (-1 : Int) ≤ -1 ∧ (-1 : Int) < n := by omega
  exact ⟨h.h, h.s, h.nx, h1, h.ph, fun e => ⟨(h.np e).1, rfl⟩, h.sh, h.hs, h.hn, fun _ => rfl, fun _ => rfl⟩
end
def TS.fresh : TS := ⟨false, false, -1, -1, -1, -1, 0, ⟨-1, 0, 0, 0, 0⟩⟩
theorem TS.fresh_ok (n : Nat) : TOk n TS.fresh := by
  have h1 : (-1 : Int) ≤ -1 ∧ (-1 : Int) < n := by omega
  exact ⟨h1, h1, h1, h1, fun h => (by cases h), fun _ => ⟨rfl, rfl⟩, fun h => (by cases h), fun _ => rfl, fun _ => rfl, fun _ => rfl, fun _ => rfl⟩
def regOf (c : Cfg) (k : Int) : Int := if 0 ≤ k ∧ k < c.cells.length then c.zones.getD ((c.cells.getD k.toNat ⟨0, 0⟩).zone.toNat) 0 else -1
end Go.Proofs.YtfmnjbhncnldmaaGreat
