/-
  Configurations and states, in plain terms, and where they lie.
-/
import Derived.Test.YtmgpionlfemhdaaGreatE3
namespace Go.Proofs.YtmgpionlfemhdaaGreat
open Go.RowKit
set_option linter.unusedSimpArgs false
set_option linter.unusedVariables false
attribute [local irreducible] Res.blk Res.sl Res.all Res.ex Res.pure Res.star

structure Wi where
  cell : Int
  epoch : Int
  version : Int
  from_ : Int
  until_ : Int
structure Cl where
  zone : Int
  cap : Int
structure Tn where
  load : Int
  shadow : Int
  prio : Int
  lag : Int
  allowed : Int
  group : Int
  noisy : Bool
structure Vs where
  low : Int
  high : Int
structure Cfg where
  regions : Int
  zones : List Int
  cells : List Cl
  tenants : List Tn
  versions : List Vs
  replicas : List Int
  observers : List Int
  blast : Int
  lease : Int
  bake : Int
def Cl.cells (x : Cl) : List Value := [.int .i64 x.zone, .int .i64 x.cap]
def Tn.cells (x : Tn) : List Value := [.int .i64 x.load, .int .i64 x.shadow, .int .i64 x.prio, .int .i64 x.lag, .int .i64 x.allowed, .int .i64 x.group, .bool x.noisy]
def Vs.cells (x : Vs) : List Value := [.int .i64 x.low, .int .i64 x.high]
/-- A tenant, as the log has it. -/
structure TS where
  placed : Bool
  shed : Bool
  home : Int
  standby : Int
  next : Int
  target : Int
  epoch : Int
  w : Wi
def TS.cells (x : TS) : List Value := [.bool x.placed, .bool x.shed, .int .i64 x.home, .int .i64 x.standby, .int .i64 x.next, .int .i64 x.target, .int .i64 x.epoch, .int .i64 x.w.cell, .int .i64 x.w.epoch, .int .i64 x.w.version, .int .i64 x.w.from_, .int .i64 x.w.until_]
structure CS where
  mode : Int
  running : Int
  wanted : Int
  since : Int
def CS.cells (x : CS) : List Value := [.int .i64 x.mode, .int .i64 x.running, .int .i64 x.wanted, .int .i64 x.since]
structure Sta where
  tick : Int
  count : Int
  tenants : List TS
  cells : List CS
  proven : Int
  evac : Int
  low : Int
  high : Int
/-- An entry of the log. -/
structure En where
  kind : Int
  tick : Int
  tenant : Int
  cell : Int
  other : Int
  epoch : Int
  from_ : Int
  until_ : Int
  n : Int
def En.cells (x : En) : List Value := [.int .i64 x.kind, .int .i64 x.tick, .int .i64 x.tenant, .int .i64 x.cell, .int .i64 x.other, .int .i64 x.epoch, .int .i64 x.from_, .int .i64 x.until_, .int .i64 x.n]
def En.val (x : En) : Value := .agg x.cells.toArray
/-- Where the lists of a configuration lie. -/
structure CAd where
  zA : Option Addr
  zc : Nat
  kA : Option Addr
  kc : Nat
  tA : Option Addr
  tc : Nat
  vA : Option Addr
  vc : Nat
  rA : Option Addr
  rc : Nat
  oA : Option Addr
  oc : Nat
def Cfg.cl (c : Cfg) (a : CAd) : List Value := [.int .i64 c.regions, .slice a.zA c.zones.length a.zc, .slice a.kA c.cells.length a.kc, .slice a.tA c.tenants.length a.tc, .slice a.vA c.versions.length a.vc, .slice a.rA c.replicas.length a.rc, .slice a.oA c.observers.length a.oc, .int .i64 c.blast, .int .i64 c.lease, .int .i64 c.bake]
def Cfg.val (c : Cfg) (a : CAd) : Value := .agg (c.cl a).toArray
/-- Where the lists of a state lie. -/
structure SAd where
  tA : Option Addr
  tc : Nat
  kA : Option Addr
  kc : Nat
def Sta.cl (s : Sta) (a : SAd) : List Value := [.int .i64 s.tick, .int .i64 s.count, .slice a.tA s.tenants.length a.tc, .slice a.kA s.cells.length a.kc, .int .i64 s.proven, .int .i64 s.evac, .int .i64 s.low, .int .i64 s.high]
def Sta.val (s : Sta) (a : SAd) : Value := .agg (s.cl a).toArray
def ztC (z : Int) : List Value := [.int .i64 z]
structure CfR (r : World) (F : List Res) (c : Cfg) (a : CAd) : Prop where
  z : Reads r F 1 (.slice a.zA c.zones.length a.zc) (c.zones.map ztC)
  k : Reads r F 2 (.slice a.kA c.cells.length a.kc) (c.cells.map Cl.cells)
  t : Reads r F 7 (.slice a.tA c.tenants.length a.tc) (c.tenants.map Tn.cells)
  v : Reads r F 2 (.slice a.vA c.versions.length a.vc) (c.versions.map Vs.cells)
theorem CfR.cons {r : World} {F : List Res} {c : Cfg} {a : CAd} (h : CfR r F c a) (R : Res) : CfR r (R :: F) c a := ⟨h.z.cons R, h.k.cons R, h.t.cons R, h.v.cons R⟩
theorem CfR.app {r : World} {F : List Res} {c : Cfg} {a : CAd} (h : CfR r F c a) (L : List Res) : CfR r (L ++ F) c a := ⟨h.z.app L, h.k.app L, h.t.app L, h.v.app L⟩
structure StR (r : World) (F : List Res) (s : Sta) (a : SAd) : Prop where
  t : Reads r F 12 (.slice a.tA s.tenants.length a.tc) (s.tenants.map TS.cells)
  k : Reads r F 4 (.slice a.kA s.cells.length a.kc) (s.cells.map CS.cells)
theorem StR.cons {r : World} {F : List Res} {s : Sta} {a : SAd} (h : StR r F s a) (R : Res) : StR r (R :: F) s a := ⟨h.t.cons R, h.k.cons R⟩
theorem StR.app {r : World} {F : List Res} {s : Sta} {a : SAd} (h : StR r F s a) (L : List Res) : StR r (L ++ F) s a := ⟨h.t.app L, h.k.app L⟩
/-- Within what bounds a configuration stands. -/
structure Cfg.ok (c : Cfg) : Prop where
  r : 1 ≤ c.regions ∧ c.regions ≤ 4
  z : 1 ≤ c.zones.length ∧ c.zones.length ≤ 8
  k : 1 ≤ c.cells.length ∧ c.cells.length ≤ 16
  t : c.tenants.length ≤ 32
  v : 1 ≤ c.versions.length ∧ c.versions.length ≤ 30
  b : 1 ≤ c.blast ∧ c.blast ≤ 16
  l : 1 ≤ c.lease ∧ c.lease ≤ 1000
  e : 0 ≤ c.bake ∧ c.bake ≤ 10000
  kz : ∀ x, x ∈ c.cells → 0 ≤ x.zone ∧ x.zone < c.zones.length
/-- What holds of every tenant: its cells are there, and its copies lie apart. -/
structure TOk (n : Nat) (x : TS) : Prop where
  h : -1 ≤ x.home ∧ x.home < n
  s : -1 ≤ x.standby ∧ x.standby < n
  nx : -1 ≤ x.next ∧ x.next < n
  t : -1 ≤ x.target ∧ x.target < n
  ph : x.placed = true → 0 ≤ x.home
  np : x.placed = false → x.next = -1 ∧ x.target = -1
  sh : x.shed = true → x.placed = true
  hs : x.home = x.standby → x.standby = -1
  hn : x.home = x.next → x.next = -1
  ts : x.target = x.standby → x.target = -1
  tn : x.target = x.next → x.target = -1
structure KOk (n : Nat) (x : CS) : Prop where
  r : 0 ≤ x.running ∧ x.running < n
  w : 0 ≤ x.wanted ∧ x.wanted < n
structure Sta.ok (s : Sta) (c : Cfg) : Prop where
  tl : s.tenants.length = c.tenants.length
  kl : s.cells.length = c.cells.length
  t : ∀ x, x ∈ s.tenants → TOk c.cells.length x
  k : ∀ x, x ∈ s.cells → KOk c.versions.length x
theorem mem_set_or {α : Type} {l : List α} {i : Nat} {a x : α} (h : x ∈ l.set i a) : x ∈ l ∨ x = a := by
  rcases List.mem_or_eq_of_mem_set h with h | h
  · exact .inl h
  · exact .inr h
theorem Sta.ok.setT {s : Sta} {c : Cfg} (h : s.ok c) {x : TS} (hx : TOk c.cells.length x) (i : Nat) : ({ s with tenants := s.tenants.set i x } : Sta).ok c := by
  refine ⟨by rw [← h.tl]; exact List.length_set .., h.kl, fun y hy => ?_, h.k⟩
  rcases mem_set_or hy with hy | rfl
  · exact h.t y hy
  · exact hx
theorem Sta.ok.setK {s : Sta} {c : Cfg} (h : s.ok c) {x : CS} (hx : KOk c.versions.length x) (i : Nat) : ({ s with cells := s.cells.set i x } : Sta).ok c := by
  refine ⟨h.tl, by rw [← h.kl]; exact List.length_set .., h.t, fun y hy => ?_⟩
  rcases mem_set_or hy with hy | rfl
  · exact h.k y hy
  · exact hx
/-! What the kinds of entries make of a tenant. -/
section
variable {n : Nat} {x : TS}
theorem TOk.place (h : TOk n x) (hp : x.placed = false) {k o : Int} (hk : 0 ≤ k ∧ k < n) (ho : -1 ≤ o ∧ o < n) (hne : o ≠ k) : TOk n { x with placed := true, home := k, standby := o } := by
  obtain ⟨h1, h2⟩ := h.np hp
  refine ⟨⟨?_, ?_⟩, ho, h.nx, h.t, fun _ => hk.1, fun h => ?_, fun _ => rfl, fun h => ?_, fun h => ?_, fun _ => h2, fun _ => h2⟩
  · show -1 ≤ k; omega
  · exact hk.2
  · cases h
  · replace h : k = o := h
    omega
  · exact h1
theorem TOk.window (h : TOk n x) (w : Wi) (e : Int) : TOk n { x with epoch := e, w := w } := ⟨h.h, h.s, h.nx, h.t, h.ph, h.np, h.sh, h.hs, h.hn, h.ts, h.tn⟩
theorem TOk.over (h : TOk n x) (hp : x.placed = true) {k : Int} (hk : 0 ≤ k ∧ k < n) : TOk n { x with shed := false, home := k, standby := -1, next := -1, target := -1 } := by
  have h1 : (-1 : Int) ≤ -1 ∧ (-1 : Int) < n := by omega
  exact ⟨⟨by show -1 ≤ k; omega, hk.2⟩, h1, h1, h1, fun _ => hk.1, fun _ => ⟨rfl, rfl⟩, fun h => (by cases h), fun _ => rfl, fun _ => rfl, fun _ => rfl, fun _ => rfl⟩
theorem TOk.moved (h : TOk n x) (hp : x.placed = true) (ht : 0 ≤ x.target) : TOk n { x with home := x.target, target := -1 } := by
  have h1 : (-1 : Int) ≤ -1 ∧ (-1 : Int) < n := by omega
  have := h.t
  refine ⟨h.t, h.s, h.nx, h1, fun _ => ht, fun e => ?_, h.sh, fun e => ?_, fun e => ?_, fun _ => rfl, fun _ => rfl⟩
  · exact absurd (hp.symm.trans e) (by decide)
  · have := h.ts e
    omega
  · have := h.tn e
    omega
theorem TOk.standby (h : TOk n x) (hp : x.placed = true) {k : Int} (hk : -1 ≤ k ∧ k < n) (h1 : 0 ≤ k → k ≠ x.home ∧ k ≠ x.target) : TOk n { x with next := k } := by
  refine ⟨h.h, h.s, hk, h.t, h.ph, fun e => ?_, h.sh, h.hs, fun e => ?_, h.ts, fun e => ?_⟩
  · exact absurd (hp.symm.trans e) (by decide)
  · replace e : x.home = k := e
    show k = -1
    by_cases h0 : 0 ≤ k
    · exact absurd e.symm (h1 h0).1
    · omega
  · replace e : x.target = k := e
    show x.target = -1
    by_cases h0 : 0 ≤ k
    · exact absurd e.symm (h1 h0).2
    · omega
theorem TOk.ready (h : TOk n x) (hp : x.placed = true) (hn : 0 ≤ x.next) : TOk n { x with standby := x.next, next := -1 } := by
  have h1 : (-1 : Int) ≤ -1 ∧ (-1 : Int) < n := by omega
  refine ⟨h.h, h.nx, h1, h.t, h.ph, fun e => ?_, h.sh, fun e => ?_, fun _ => rfl, fun e => ?_, fun e => e⟩
  · exact absurd (hp.symm.trans e) (by decide)
  · have := h.hn e
    omega
  · exact h.tn e
theorem TOk.migrate (h : TOk n x) (hp : x.placed = true) {k : Int} (hk : -1 ≤ k ∧ k < n) (h1 : k ≠ x.standby) (h2 : k ≠ x.next) : TOk n { x with target := k } := by
  refine ⟨h.h, h.s, h.nx, hk, h.ph, fun e => ?_, h.sh, h.hs, h.hn, fun e => ?_, fun e => ?_⟩
  · exact absurd (hp.symm.trans e) (by decide)
  · exact absurd e h1
  · exact absurd e h2
theorem TOk.abandon (h : TOk n x) : TOk n { x with target := -1 } := by
  have h1 : (-1 : Int) ≤ -1 ∧ (-1 : Int) < n := by omega
  exact ⟨h.h, h.s, h.nx, h1, h.ph, fun e => ⟨(h.np e).1, rfl⟩, h.sh, h.hs, h.hn, fun _ => rfl, fun _ => rfl⟩
theorem TOk.shed (h : TOk n x) (hp : x.placed = true) : TOk n { x with shed := true, target := -1 } := by
  have h1 : (-1 : Int) ≤ -1 ∧ (-1 : Int) < n := by omega
  exact ⟨h.h, h.s, h.nx, h1, h.ph, fun e => ⟨(h.np e).1, rfl⟩, fun _ => hp, h.hs, h.hn, fun _ => rfl, fun _ => rfl⟩
theorem TOk.unshed (h : TOk n x) : TOk n { x with shed := false } := ⟨h.h, h.s, h.nx, h.t, h.ph, h.np, fun e => (by cases e), h.hs, h.hn, h.ts, h.tn⟩
end
def TS.fresh : TS := ⟨false, false, -1, -1, -1, -1, 0, ⟨-1, 0, 0, 0, 0⟩⟩
theorem TS.fresh_ok (n : Nat) : TOk n TS.fresh := by
  have h1 : (-1 : Int) ≤ -1 ∧ (-1 : Int) < n := by omega
  exact ⟨h1, h1, h1, h1, fun h => (by cases h), fun _ => ⟨rfl, rfl⟩, fun h => (by cases h), fun _ => rfl, fun _ => rfl, fun _ => rfl, fun _ => rfl⟩
/-- The region of a cell, -1 if there is no such cell. -/
def regOf (c : Cfg) (k : Int) : Int := if 0 ≤ k ∧ k < c.cells.length then c.zones.getD ((c.cells.getD k.toNat ⟨0, 0⟩).zone.toNat) 0 else -1
/-! Entries. -/
def useTab : List ByteArray := [⟨#[]⟩, ⟨#[116, 99, 111]⟩, ⟨#[116, 99, 101, 119, 118]⟩, ⟨#[116, 101]⟩, ⟨#[116, 67]⟩, ⟨#[116, 99]⟩, ⟨#[116, 99]⟩, ⟨#[116]⟩, ⟨#[116, 98]⟩, ⟨#[99, 109]⟩, ⟨#[99, 118]⟩, ⟨#[99, 118]⟩, ⟨#[118]⟩, ⟨#[114, 98]⟩, ⟨#[]⟩, ⟨#[]⟩, ⟨#[110]⟩]
def usesS (k : Int) : ByteArray := if k < 1 ∨ 17 ≤ k then ⟨#[63]⟩ else useTab.getD k.toNat ⟨#[]⟩
def hasK (k : Int) (u : Int) : Bool := (usesS k).data.toList.any fun x => decide ((x.toNat : Int) = u)
/-- What is right of an entry that is valid. -/
structure En.right (e : En) (c : Cfg) : Prop where
  kind : 1 ≤ e.kind ∧ e.kind ≤ 16
  t : hasK e.kind 116 = true → 0 ≤ e.tenant ∧ e.tenant < c.tenants.length
  k : hasK e.kind 99 = true → 0 ≤ e.cell ∧ e.cell < c.cells.length
  kk : hasK e.kind 67 = true → -1 ≤ e.cell ∧ e.cell < c.cells.length
  o : hasK e.kind 111 = true → -1 ≤ e.other ∧ e.other < c.cells.length ∧ e.other ≠ e.cell
  r : hasK e.kind 114 = true → 0 ≤ e.other ∧ e.other < c.regions
  v : hasK e.kind 118 = true → 0 ≤ e.n ∧ e.n < c.versions.length
end Go.Proofs.YtmgpionlfemhdaaGreat
