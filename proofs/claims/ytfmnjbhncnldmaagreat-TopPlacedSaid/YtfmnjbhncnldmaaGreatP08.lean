import Derived.Test.YtfmnjbhncnldmaaGreatP03
set_option linter.unusedSimpArgs false
set_option linter.unusedVariables false
namespace Go.Proofs.YtfmnjbhncnldmaaGreat
open Go.RowKit
attribute [local irreducible] Res.blk Res.sl Res.all Res.ex Res.pure Res.star
def bitB (s i : Int) : Bool := decide (s.fdiv (2 ^ i.toNat) % 2 = 1)
def hasB (s i : Int) : Bool := decide (0 ≤ i ∧ i < 64) && bitB s i
def inSp (lo hi n : Int) : Bool := decide (lo ≤ n ∧ n ≤ hi)
structure Fm where
  t : Int × Int
  k : Int × Int
  o : Int × Int
  e : Int × Int
  x : Int × Int
  n : Int × Int
def noSp : Int × Int := (-1, -1)
def zSp : Int × Int := (0, 0)
def formP (kind nt nc nr nv : Int) : Option Fm :=
  if kind = 1 then some ⟨(0, nt - 1), (0, nc - 1), (-1, nc - 1), zSp, zSp, zSp⟩
  else if kind = 2 then some ⟨(0, nt - 1), (0, nc - 1), noSp, (1, 1048576), (0, 1073741824), (0, nv - 1)⟩
  else if kind = 3 then some ⟨(0, nt - 1), noSp, noSp, (1, 1048576), zSp, zSp⟩
  else if kind = 4 then some ⟨(0, nt - 1), (-1, nc - 1), noSp, zSp, zSp, zSp⟩
  else if kind = 5 then some ⟨(0, nt - 1), (0, nc - 1), noSp, zSp, zSp, zSp⟩
  else if kind = 6 then some ⟨(0, nt - 1), (0, nc - 1), noSp, zSp, zSp, zSp⟩
  else if kind = 7 then some ⟨(0, nt - 1), noSp, noSp, zSp, zSp, zSp⟩
  else if kind = 8 then some ⟨(0, nt - 1), noSp, noSp, zSp, zSp, (0, 1)⟩
  else if kind = 9 then some ⟨noSp, (0, nc - 1), noSp, zSp, zSp, (1, 3)⟩
  else if kind = 10 then some ⟨noSp, (0, nc - 1), noSp, zSp, zSp, (0, nv - 1)⟩
  else if kind = 11 then some ⟨noSp, (0, nc - 1), noSp, zSp, zSp, (0, nv - 1)⟩
  else if kind = 12 then some ⟨noSp, noSp, noSp, zSp, zSp, (0, nv - 1)⟩
  else if kind = 13 then some ⟨noSp, noSp, (0, nr - 1), zSp, zSp, (0, 1)⟩
  else if kind = 14 then some ⟨noSp, noSp, noSp, zSp, zSp, zSp⟩
  else if kind = 15 then some ⟨noSp, noSp, noSp, zSp, zSp, zSp⟩
  else if kind = 16 then some ⟨noSp, noSp, noSp, zSp, zSp, (0, 1073741824)⟩
  else none
def fitF (f : Fm) (e : En) : Bool :=
  inSp 0 1073741824 e.tick && inSp f.t.1 f.t.2 e.tenant && inSp f.k.1 f.k.2 e.cell && inSp f.o.1 f.o.2 e.other && inSp f.e.1 f.e.2 e.epoch && inSp f.x.1 f.x.2 e.from_ && inSp f.x.1 f.x.2 e.until_ && inSp f.n.1 f.n.2 e.n
def fitsP (e : En) (nt nc nr nv : Int) : Bool := match formP e.kind nt nc nr nv with
  | none => false
  | some f => !decide (e.kind = 1 ∧ e.other = e.cell) && fitF f e
def shapeP (e : En) : Bool := fitsP e 32 16 4 30
def validP (c : Cfg) (e : En) : Bool := shapeP e && fitsP e c.tenants.length c.cells.length c.regions c.versions.length
def tenP (s : Sta) (t : Int) : TS := s.tenants.getD t.toNat TS.fresh
def celP (s : Sta) (k : Int) : CS := s.cells.getD k.toNat ⟨0, 0, 0, 0⟩
def verP (c : Cfg) (v : Int) : Vs := if 0 ≤ v ∧ v < c.versions.length then c.versions.getD v.toNat ⟨0, 0⟩ else ⟨0, 0⟩
def modeP (s : Sta) (k : Int) : Int := if 0 ≤ k ∧ k < s.cells.length then (celP s k).mode else 0
def frozenP (c : Cfg) (s : Sta) (k : Int) : Bool := hasB s.evac (regOf c k)
def mayP (c : Cfg) (t k : Int) : Bool := decide (0 ≤ t ∧ t < c.tenants.length) && decide (0 ≤ regOf c k) && bitB (c.tenants.getD t.toNat ⟨0, 0, 0, 0, 0, 0, false⟩).allowed (regOf c k)
def apartP (c : Cfg) (a b : Int) : Bool := decide (0 ≤ regOf c a) && decide (0 ≤ regOf c b) && decide (regOf c a ≠ regOf c b)
def nearP (c : Cfg) (k o : Int) : Bool := decide (o ≠ -1) && !apartP c k o
def openK (s : Sta) (x : CS) : Bool := !hasB s.proven x.running || !hasB s.proven x.wanted
def unpP (s : Sta) : List Int := ((List.range s.cells.length).filter fun i : Nat => openK s (celP s i)).map fun i : Nat => (i : Int)
def placeP (c : Cfg) (s : Sta) (e : En) : Bool :=
  !(tenP s e.tenant).placed && decide (modeP s e.cell = 1) && !(decide (e.other ≠ -1) && decide (modeP s e.other ≠ 1)) && !frozenP c s e.cell && !(decide (e.other ≠ -1) && frozenP c s e.other)
    && mayP c e.tenant e.cell && !(decide (e.other ≠ -1) && !mayP c e.tenant e.other) && !nearP c e.cell e.other
def standbyP (c : Cfg) (s : Sta) (e : En) : Bool :=
  (tenP s e.tenant).placed && (decide (e.cell = -1) || (!decide (e.cell = (tenP s e.tenant).home) && !decide (e.cell = (tenP s e.tenant).standby) && !decide (e.cell = (tenP s e.tenant).target)
    && decide (modeP s e.cell = 1) && !frozenP c s e.cell && mayP c e.tenant e.cell && apartP c e.cell (tenP s e.tenant).home && !nearP c e.cell (tenP s e.tenant).target))
def readyP (s : Sta) (e : En) : Bool := (tenP s e.tenant).placed && decide (e.cell = (tenP s e.tenant).next) && !decide (modeP s e.cell = 3)
def migrateP (c : Cfg) (s : Sta) (e : En) : Bool :=
  (tenP s e.tenant).placed && !(tenP s e.tenant).shed && decide ((tenP s e.tenant).target = -1) && !decide (e.cell = (tenP s e.tenant).home) && !decide (e.cell = (tenP s e.tenant).standby) && !decide (e.cell = (tenP s e.tenant).next)
    && decide (modeP s e.cell = 1) && !frozenP c s e.cell && mayP c e.tenant e.cell && !nearP c e.cell (tenP s e.tenant).standby && !nearP c e.cell (tenP s e.tenant).next
def abandonP (s : Sta) (e : En) : Bool := (tenP s e.tenant).placed && !decide ((tenP s e.tenant).target = -1)
def shedP (s : Sta) (e : En) : Bool :=
  if e.n = 0 then (tenP s e.tenant).shed && !decide (modeP s (tenP s e.tenant).home = 3)
  else (tenP s e.tenant).placed && !(tenP s e.tenant).shed && decide ((tenP s e.tenant).w.until_ ≤ e.tick)
def grantP (c : Cfg) (s : Sta) (e : En) : Bool :=
  let t := tenP s e.tenant
  let x := celP s e.cell
  let h := decide (e.cell = t.home)
  t.placed && !(t.shed && !decide (e.cell = t.standby)) && (h || decide (e.cell = t.standby) || decide (e.cell = t.target)) && !decide (x.mode = 3) && !(decide (x.mode = 2) && !h)
    && (decide (e.epoch = t.epoch + 1) || (h && decide (e.epoch = t.epoch))) && decide (e.n = x.running) && decide (x.running = x.wanted)
    && decide (e.tick ≤ e.from_) && decide (e.from_ ≤ e.tick + c.lease) && decide (e.from_ < e.until_) && decide (e.until_ - e.from_ ≤ c.lease) && decide (t.w.until_ ≤ e.from_) && (h || decide (t.w.until_ ≤ e.tick))
def cutP (s : Sta) (e : En) : Bool := (tenP s e.tenant).placed && decide (e.epoch = (tenP s e.tenant).epoch)
def modeE (s : Sta) (e : En) : Bool := !decide ((celP s e.cell).mode = e.n)
def wantP (c : Cfg) (s : Sta) (e : En) : Bool :=
  !decide ((celP s e.cell).wanted = e.n) && decide ((verP c e.n).low ≤ s.low) && decide (s.high ≤ (verP c e.n).high)
    && (decide ((celP s e.cell).running = e.n) || hasB s.proven e.n || (decide (s.evac = 0) && decide ((((unpP s).filter fun i => !decide (i = e.cell)).length : Int) < c.blast)))
def runsP (s : Sta) (e : En) : Bool :=
  decide ((celP s e.cell).wanted = e.n) && !decide ((celP s e.cell).running = (celP s e.cell).wanted) && !(!hasB s.proven e.n && !decide (s.evac = 0))
    && s.tenants.all fun t => !(decide (t.w.cell = e.cell) && decide (e.tick < t.w.until_))
def proveP (c : Cfg) (s : Sta) (e : En) : Bool :=
  !hasB s.proven e.n && s.cells.any fun x => !decide (x.mode = 3) && decide (x.running = e.n) && decide (x.wanted = e.n) && decide (c.bake ≤ e.tick - x.since)
def evacP (s : Sta) (e : En) : Bool := !(hasB s.evac e.other == decide (e.n = 1))
def expandP (c : Cfg) (s : Sta) : Bool := !decide (s.low < s.high) && decide (s.high < 30) && s.cells.all fun x => decide (s.high < (verP c x.running).high) && decide (s.high < (verP c x.wanted).high)
def contractP (s : Sta) : Bool := !decide (s.high = s.low)
def kindP (c : Cfg) (s : Sta) (e : En) : Bool :=
  if e.kind = 1 then placeP c s e else if e.kind = 4 then standbyP c s e else if e.kind = 5 then readyP s e else if e.kind = 6 then migrateP c s e
  else if e.kind = 7 then abandonP s e else if e.kind = 8 then shedP s e else if e.kind = 2 then grantP c s e else if e.kind = 3 then cutP s e
  else if e.kind = 9 then modeE s e else if e.kind = 10 then wantP c s e else if e.kind = 11 then runsP s e else if e.kind = 12 then proveP c s e
  else if e.kind = 13 then evacP s e else if e.kind = 14 then expandP c s else if e.kind = 15 then contractP s else true
def refP (c : Cfg) (s : Sta) (e : En) : Bool := validP c e && decide (s.count < 4096) && decide (s.tick ≤ e.tick) && kindP c s e
def onK (x : CS) (e : En) : CS := if e.kind = 9 then { x with mode := e.n, since := e.tick } else if e.kind = 10 then { x with wanted := e.n } else if e.kind = 11 then { x with running := e.n, since := e.tick } else x
def grantedP (x : TS) (e : En) : TS :=
  let x' : TS := { x with w := ⟨e.cell, e.epoch, e.n, e.from_, e.until_⟩, epoch := e.epoch }
  if e.cell = x.home then x' else if e.cell = x.standby then { x' with home := e.cell, standby := -1, next := -1, target := -1, shed := false }
  else if e.cell = x.target then { x' with home := e.cell, target := -1 } else x'
def onT (x : TS) (e : En) : TS :=
  if e.kind = 1 then { x with placed := true, home := e.cell, standby := e.other }
  else if e.kind = 4 then { x with next := e.cell }
  else if e.kind = 5 then { x with standby := e.cell, next := -1 }
  else if e.kind = 6 then { x with target := e.cell }
  else if e.kind = 7 then { x with target := -1 }
  else if e.kind = 8 then (if e.n = 1 then { x with shed := true, target := -1 } else { x with shed := false })
  else if e.kind = 3 then { x with w := { x.w with until_ := min x.w.until_ (e.tick + 1), from_ := min x.w.from_ (min x.w.until_ (e.tick + 1)) } }
  else if e.kind = 2 then grantedP x e else x
def setP (s i : Int) : Int := if bitB s i then s else s + 2 ^ i.toNat
def clrP (s i : Int) : Int := if bitB s i then s - 2 ^ i.toNat else s
def effP (s : Sta) (e : En) : Sta :=
  let s' : Sta := { s with tick := e.tick, count := s.count + 1 }
  if e.kind = 9 ∨ e.kind = 10 ∨ e.kind = 11 then { s' with cells := s.cells.set e.cell.toNat (onK (celP s e.cell) e) }
  else if e.kind = 12 then { s' with proven := setP s.proven e.n }
  else if e.kind = 13 then { s' with evac := if e.n = 1 then setP s.evac e.other else clrP s.evac e.other }
  else if e.kind = 14 then { s' with high := s.high + 1 }
  else if e.kind = 15 then { s' with low := s.high }
  else if e.kind = 16 then s'
  else { s' with tenants := s.tenants.set e.tenant.toNat (onT (tenP s e.tenant) e) }
def booksP (e : En) : Bool := decide (e.kind = 1 ∨ e.kind = 6 ∨ e.kind = 2) || (decide (e.kind = 4) && !decide (e.cell = -1)) || (decide (e.kind = 8) && decide (e.n = 0))
def addP (l : List Int) (i n : Int) : List Int := if 0 ≤ i ∧ i < l.length then l.set i.toNat (l.getD i.toNat 0 + n) else l
def bookT (l : List Int) (d : Tn) (t : TS) : List Int :=
  if t.placed then (let l1 := if t.shed then l else addP (addP l t.home d.load) t.target d.load
    addP (addP l1 t.standby d.shadow) t.next d.shadow) else l
def bookP (c : Cfg) (s : Sta) : List Int := (List.zip c.tenants s.tenants).foldl (fun l p => bookT l p.1 p.2) (List.replicate c.cells.length 0)
def overP (c : Cfg) (s : Sta) : Bool := (List.zip (bookP c s) c.cells).any fun p => decide (p.2.cap < p.1)
def accP (c : Cfg) (s : Sta) (e : En) : Bool := refP c s e && !(booksP e && overP c (effP s e))
end Go.Proofs.YtfmnjbhncnldmaaGreat
