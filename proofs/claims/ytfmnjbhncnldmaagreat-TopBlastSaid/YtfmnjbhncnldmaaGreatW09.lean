import Derived.Lib.AppendStr
import Derived.Test.YtfmnjbhncnldmaaGreatW02
import Derived.Test.YtfmnjbhncnldmaaGreatW03
set_option maxHeartbeats 16000000
set_option linter.unusedSimpArgs false
set_option linter.unusedVariables false
namespace Go.Proofs.YtfmnjbhncnldmaaGreat
open Go.RowKit
attribute [local irreducible] Res.blk Res.sl Res.all Res.ex Res.pure Res.star
def bitB (s i:Int):Bool:=decide (s.fdiv (2 ^ i.toNat) % 2=1)
def hasB (s i:Int):Bool:=decide (0≤i∧i < 64) && bitB s i
def inSp (lo hi n:Int):Bool:=decide (lo≤n∧n≤hi)
structure Fm where
 t:Int×Int
 k:Int×Int
 o:Int×Int
 e:Int×Int
 x:Int×Int
 n:Int×Int
def noSp:Int×Int:=(-1,-1)
def zSp:Int×Int:=(0,0)
def formP (kind nt nc nr nv:Int):Option Fm:=
 if kind=1 then some ⟨(0,nt - 1),(0,nc - 1),(-1,nc - 1),zSp,zSp,zSp⟩
 else if kind=2 then some ⟨(0,nt - 1),(0,nc - 1),noSp,(1,1048576),(0,1073741824),(0,nv - 1)⟩
 else if kind=3 then some ⟨(0,nt - 1),noSp,noSp,(1,1048576),zSp,zSp⟩
 else if kind=4 then some ⟨(0,nt - 1),(-1,nc - 1),noSp,zSp,zSp,zSp⟩
 else if kind=5 then some ⟨(0,nt - 1),(0,nc - 1),noSp,zSp,zSp,zSp⟩
 else if kind=6 then some ⟨(0,nt - 1),(0,nc - 1),noSp,zSp,zSp,zSp⟩
 else if kind=7 then some ⟨(0,nt - 1),noSp,noSp,zSp,zSp,zSp⟩
 else if kind=8 then some ⟨(0,nt - 1),noSp,noSp,zSp,zSp,(0,1)⟩
 else if kind=9 then some ⟨noSp,(0,nc - 1),noSp,zSp,zSp,(1,3)⟩
 else if kind=10 then some ⟨noSp,(0,nc - 1),noSp,zSp,zSp,(0,nv - 1)⟩
 else if kind=11 then some ⟨noSp,(0,nc - 1),noSp,zSp,zSp,(0,nv - 1)⟩
 else if kind=12 then some ⟨noSp,noSp,noSp,zSp,zSp,(0,nv - 1)⟩
 else if kind=13 then some ⟨noSp,noSp,(0,nr - 1),zSp,zSp,(0,1)⟩
 else if kind=14 then some ⟨noSp,noSp,noSp,zSp,zSp,zSp⟩
 else if kind=15 then some ⟨noSp,noSp,noSp,zSp,zSp,zSp⟩
 else if kind=16 then some ⟨noSp,noSp,noSp,zSp,zSp,(0,1073741824)⟩
 else none
def fitF (f:Fm) (e:En):Bool:=
 inSp 0 1073741824 e.tick && inSp f.t.1 f.t.2 e.tenant && inSp f.k.1 f.k.2 e.cell && inSp f.o.1 f.o.2 e.other && inSp f.e.1 f.e.2 e.epoch && inSp f.x.1 f.x.2 e.from_ && inSp f.x.1 f.x.2 e.until_ && inSp f.n.1 f.n.2 e.n
def fitsP (e:En) (nt nc nr nv:Int):Bool:=match formP e.kind nt nc nr nv with
 | none=>false
 | some f=>!decide (e.kind=1∧e.other=e.cell) && fitF f e
def shapeP (e:En):Bool:=fitsP e 32 16 4 30
def validP (c:Cfg) (e:En):Bool:=shapeP e && fitsP e c.tenants.length c.cells.length c.regions c.versions.length
def tenP (s:Sta) (t:Int):TS:=s.tenants.getD t.toNat TS.fresh
def celP (s:Sta) (k:Int):CS:=s.cells.getD k.toNat ⟨0,0,0,0⟩
def verP (c:Cfg) (v:Int):Vs:=if 0≤v∧v < c.versions.length then c.versions.getD v.toNat ⟨0,0⟩ else ⟨0,0⟩
def modeP (s:Sta) (k:Int):Int:=if 0≤k∧k < s.cells.length then (celP s k).mode else 0
def frozenP (c:Cfg) (s:Sta) (k:Int):Bool:=hasB s.evac (regOf c k)
def mayP (c:Cfg) (t k:Int):Bool:=decide (0≤t∧t < c.tenants.length) && decide (0≤regOf c k) && bitB (c.tenants.getD t.toNat ⟨0,0,0,0,0,0,false⟩).allowed (regOf c k)
def apartP (c:Cfg) (a b:Int):Bool:=decide (0≤regOf c a) && decide (0≤regOf c b) && decide (regOf c a≠regOf c b)
def nearP (c:Cfg) (k o:Int):Bool:=decide (o≠-1) && !apartP c k o
def openK (s:Sta) (x:CS):Bool:=!hasB s.proven x.running || !hasB s.proven x.wanted
def unpP (s:Sta):List Int:=((List.range s.cells.length).filter fun i:Nat=>openK s (celP s i)).map fun i:Nat=>(i:Int)
def placeP (c:Cfg) (s:Sta) (e:En):Bool:=
 !(tenP s e.tenant).placed && decide (modeP s e.cell=1) && !(decide (e.other≠-1) && decide (modeP s e.other≠1)) && !frozenP c s e.cell && !(decide (e.other≠-1) && frozenP c s e.other)
  && mayP c e.tenant e.cell && !(decide (e.other≠-1) && !mayP c e.tenant e.other) && !nearP c e.cell e.other
def standbyP (c:Cfg) (s:Sta) (e:En):Bool:=
 (tenP s e.tenant).placed && (decide (e.cell = -1) || (!decide (e.cell=(tenP s e.tenant).home) && !decide (e.cell=(tenP s e.tenant).standby) && !decide (e.cell=(tenP s e.tenant).target)
  && decide (modeP s e.cell=1) && !frozenP c s e.cell && mayP c e.tenant e.cell && apartP c e.cell (tenP s e.tenant).home && !nearP c e.cell (tenP s e.tenant).target))
def readyP (s:Sta) (e:En):Bool:=(tenP s e.tenant).placed && decide (e.cell=(tenP s e.tenant).next) && !decide (modeP s e.cell=3)
def migrateP (c:Cfg) (s:Sta) (e:En):Bool:=
 (tenP s e.tenant).placed && !(tenP s e.tenant).shed && decide ((tenP s e.tenant).target = -1) && !decide (e.cell=(tenP s e.tenant).home) && !decide (e.cell=(tenP s e.tenant).standby) && !decide (e.cell=(tenP s e.tenant).next)
  && decide (modeP s e.cell=1) && !frozenP c s e.cell && mayP c e.tenant e.cell && !nearP c e.cell (tenP s e.tenant).standby && !nearP c e.cell (tenP s e.tenant).next
def abandonP (s:Sta) (e:En):Bool:=(tenP s e.tenant).placed && !decide ((tenP s e.tenant).target = -1)
def shedP (s:Sta) (e:En):Bool:=
 if e.n=0 then (tenP s e.tenant).shed && !decide (modeP s (tenP s e.tenant).home=3)
 else (tenP s e.tenant).placed && !(tenP s e.tenant).shed && decide ((tenP s e.tenant).w.until_≤e.tick)
def grantP (c:Cfg) (s:Sta) (e:En):Bool:=
 let t:=tenP s e.tenant
 let x:=celP s e.cell
 let h:=decide (e.cell=t.home)
 t.placed && !(t.shed && !decide (e.cell=t.standby)) && (h || decide (e.cell=t.standby) || decide (e.cell=t.target)) && !decide (x.mode=3) && !(decide (x.mode=2) && !h)
  && (decide (e.epoch=t.epoch+1) || (h && decide (e.epoch=t.epoch))) && decide (e.n=x.running) && decide (x.running=x.wanted)
  && decide (e.tick≤e.from_) && decide (e.from_≤e.tick+c.lease) && decide (e.from_ < e.until_) && decide (e.until_ - e.from_≤c.lease) && decide (t.w.until_≤e.from_) && (h || decide (t.w.until_≤e.tick))
def cutP (s:Sta) (e:En):Bool:=(tenP s e.tenant).placed && decide (e.epoch=(tenP s e.tenant).epoch)
def modeE (s:Sta) (e:En):Bool:=!decide ((celP s e.cell).mode=e.n)
def wantP (c:Cfg) (s:Sta) (e:En):Bool:=
 !decide ((celP s e.cell).wanted=e.n) && decide ((verP c e.n).low≤s.low) && decide (s.high≤(verP c e.n).high)
  && (decide ((celP s e.cell).running=e.n) || hasB s.proven e.n || (decide (s.evac=0) && decide ((((unpP s).filter fun i=>!decide (i=e.cell)).length:Int) < c.blast)))
def runsP (s:Sta) (e:En):Bool:=
 decide ((celP s e.cell).wanted=e.n) && !decide ((celP s e.cell).running=(celP s e.cell).wanted) && !(!hasB s.proven e.n && !decide (s.evac=0))
  && s.tenants.all fun t=>!(decide (t.w.cell=e.cell) && decide (e.tick < t.w.until_))
def proveP (c:Cfg) (s:Sta) (e:En):Bool:=
 !hasB s.proven e.n && s.cells.any fun x=>!decide (x.mode=3) && decide (x.running=e.n) && decide (x.wanted=e.n) && decide (c.bake≤e.tick - x.since)
def evacP (s:Sta) (e:En):Bool:=!(hasB s.evac e.other == decide (e.n=1))
def expandP (c:Cfg) (s:Sta):Bool:=!decide (s.low < s.high) && decide (s.high < 30) && s.cells.all fun x=>decide (s.high < (verP c x.running).high) && decide (s.high < (verP c x.wanted).high)
def contractP (s:Sta):Bool:=!decide (s.high=s.low)
def kindP (c:Cfg) (s:Sta) (e:En):Bool:=
 if e.kind=1 then placeP c s e else if e.kind=4 then standbyP c s e else if e.kind=5 then readyP s e else if e.kind=6 then migrateP c s e
 else if e.kind=7 then abandonP s e else if e.kind=8 then shedP s e else if e.kind=2 then grantP c s e else if e.kind=3 then cutP s e
 else if e.kind=9 then modeE s e else if e.kind=10 then wantP c s e else if e.kind=11 then runsP s e else if e.kind=12 then proveP c s e
 else if e.kind=13 then evacP s e else if e.kind=14 then expandP c s else if e.kind=15 then contractP s else true
def refP (c:Cfg) (s:Sta) (e:En):Bool:=validP c e && decide (s.count < 4096) && decide (s.tick≤e.tick) && kindP c s e
def onK (x:CS) (e:En):CS:=if e.kind=9 then { x with mode:=e.n,since:=e.tick } else if e.kind=10 then { x with wanted:=e.n } else if e.kind=11 then { x with running:=e.n,since:=e.tick } else x
def grantedP (x:TS) (e:En):TS:=
 let x':TS:={ x with w:=⟨e.cell,e.epoch,e.n,e.from_,e.until_⟩,epoch:=e.epoch }
 if e.cell=x.home then x' else if e.cell=x.standby then { x' with home:=e.cell,standby:=-1,next:=-1,target:=-1,shed:=false }
 else if e.cell=x.target then { x' with home:=e.cell,target:=-1 } else x'
def onT (x:TS) (e:En):TS:=
 if e.kind=1 then { x with placed:=true,home:=e.cell,standby:=e.other }
 else if e.kind=4 then { x with next:=e.cell }
 else if e.kind=5 then { x with standby:=e.cell,next:=-1 }
 else if e.kind=6 then { x with target:=e.cell }
 else if e.kind=7 then { x with target:=-1 }
 else if e.kind=8 then (if e.n=1 then { x with shed:=true,target:=-1 } else { x with shed:=false })
 else if e.kind=3 then { x with w:={ x.w with until_:=min x.w.until_ (e.tick+1),from_:=min x.w.from_ (min x.w.until_ (e.tick+1)) } }
 else if e.kind=2 then grantedP x e else x
def setP (s i:Int):Int:=if bitB s i then s else s+2 ^ i.toNat
def clrP (s i:Int):Int:=if bitB s i then s - 2 ^ i.toNat else s
def effP (s:Sta) (e:En):Sta:=
 let s':Sta:={ s with tick:=e.tick,count:=s.count+1 }
 if e.kind=9∨e.kind=10∨e.kind=11 then { s' with cells:=s.cells.set e.cell.toNat (onK (celP s e.cell) e) }
 else if e.kind=12 then { s' with proven:=setP s.proven e.n }
 else if e.kind=13 then { s' with evac:=if e.n=1 then setP s.evac e.other else clrP s.evac e.other }
 else if e.kind=14 then { s' with high:=s.high+1 }
 else if e.kind=15 then { s' with low:=s.high }
 else if e.kind=16 then s'
 else { s' with tenants:=s.tenants.set e.tenant.toNat (onT (tenP s e.tenant) e) }
def booksP (e:En):Bool:=decide (e.kind=1∨e.kind=6∨e.kind=2) || (decide (e.kind=4) && !decide (e.cell = -1)) || (decide (e.kind=8) && decide (e.n=0))
def addP (l:List Int) (i n:Int):List Int:=if 0≤i∧i < l.length then l.set i.toNat (l.getD i.toNat 0+n) else l
def bookT (l:List Int) (d:Tn) (t:TS):List Int:=
 if t.placed then (let l1:=if t.shed then l else addP (addP l t.home d.load) t.target d.load
  addP (addP l1 t.standby d.shadow) t.next d.shadow) else l
def bookP (c:Cfg) (s:Sta):List Int:=(List.zip c.tenants s.tenants).foldl (fun l p=>bookT l p.1 p.2) (List.replicate c.cells.length 0)
def overP (c:Cfg) (s:Sta):Bool:=(List.zip (bookP c s) c.cells).any fun p=>decide (p.2.cap < p.1)
def accP (c:Cfg) (s:Sta) (e:En):Bool:=refP c s e && !(booksP e && overP c (effP s e))
end Go.Proofs.YtfmnjbhncnldmaaGreat
namespace Go.Proofs.YtfmnjbhncnldmaaGreat
open Go.RowKit
theorem zerosL_ln (zs:List Value):∀ k,(Z.zerosL zs k).length=k * zs.length
 | 0=>by simp [Z.zerosL]
 | k+1=>by simp [Z.zerosL,zerosL_ln zs k,Nat.add_mul,Nat.add_comm]
theorem ybn {r w:World} {M:List Nat} {F:List Res} {g e sz c:Nat} {cs:List Value} (h:Sep r M (.blk g e cs::F) w) (hm:c≤maxLen) (hc:cs.length=c * sz) :
  Sep r M (.sl e sz (.slice (some ⟨g,0,none⟩) 0 c) []::F) w:=by
 by_cases h0:0 < c
 ·refine h.upd fun f1 hf=>?_
  obtain ⟨rfl,hb⟩:=id hf;exact ⟨Chg.refl _ _,[g],⟨by simp,_,_,rfl,.inr ⟨h0,g,_,rfl,rfl,hb,Nat.zero_le _,hm,by simpa using hc,by simp⟩⟩,by simp,fun b hb'=>by simp at hb';subst hb';exact ⟨hb.lt,.inl (by simp)⟩⟩
 ·have e0:c=0:=by omega
  subst e0;exact Z.nilsl h.tail e sz _
section
variable {P:Program} {n:Nat} {f:Nat→Value} {d:Option Tmp} {ty t t' t'':TypeId} {pos:String} {aft:Array Edge} {gd:Option (Nat×Bool)} {x:Operand} {u z:Value}
theorem R.asF (hu:notIface (P.underlying t')=true) (hx:ev n f x=.iface t'' u) (hne:Nat.beq t'' t'=false) (hz:(P.info? t').bind (·.zero)=some z):Runs P n f ⟨d,.typeAssert x t t' true,ty,pos,aft,gd⟩ (.tuple #[z,.bool false]):=by
 refine ⟨fun W=>?_⟩;unfold execOp;have hn:¬ t''=t':=fun e=>by rw [e,Nat.beq_refl] at hne;cases hne
 cases h:P.underlying t' with
 | none=>rw [h] at hu;cases hu
 | some dd=>
  rw [h] at hu
  cases hi:P.info? t' with
  | none=>rw [hi] at hz;cases hz
  | some i=>
   rw [hi] at hz;have hz1:i.zero=some z:=hz;have hzv:(zeroValue t').run P W=.ok z W:=by simp [zeroValue,typeInfo,hi,hz1]
   simp only [hx,Instr.typeAssert,Sem.run_bind,run_under h,Result.andThen_ok]
   cases dd<;>first|(simp [hn,hzv,Sem.run_bind];done)|cases hu
end
section
variable {P:Program} {ops:Array Oper} {Q:Exit→Act→World→Prop} {n:Nat} {f:Nat→Value} {w:World} {rest:List Oper} {d:Tmp} {ty t t' t'':TypeId} {pos:String} {aft:Array Edge} {u:Value} {x:Operand}
theorem IFi [ht:HasTT P] (h:WL P ops Q rest n (upd' f d (.tuple #[.int .i64 0,.bool false])) w) (hx:ev n f x=.iface t'' u:=by exact rfl) (hne:Nat.beq t'' t'=false:=by exact rfl) (hu:notIface (P.underlying t')=true:=by kernel_rfl) (hk:kindOf ht.tt t'=.int:=by exact rfl) (hz:(P.info? t').bind (·.zero)=some (.int .i64 0):=by kernel_rfl):WL P ops Q (⟨some d,.typeAssert x t t' true,ty,pos,aft,none⟩::rest) n f w:=Z.pl (R.asF hu hx hne hz) h
theorem IFs [ht:HasTT P] {e sz:Nat} (h:WL P ops Q rest n (upd' f d (.tuple #[.slice none 0 0,.bool false])) w) (hx:ev n f x=.iface t'' u:=by exact rfl) (hne:Nat.beq t'' t'=false:=by exact rfl) (hu:notIface (P.underlying t')=true:=by kernel_rfl) (hk:kindOf ht.tt t'=.sl e sz:=by exact rfl) (hz:(P.info? t').bind (·.zero)=some (.slice none 0 0):=by kernel_rfl):WL P ops Q (⟨some d,.typeAssert x t t' true,ty,pos,aft,none⟩::rest) n f w:=Z.pl (R.asF hu hx hne hz) h
end
namespace Z
end Z
attribute [local irreducible] Res.blk Res.sl Res.all Res.ex Res.pure Res.star
def spV (p:Int×Int):List Value:=[.int .i64 p.1,.int .i64 p.2]
def Fm.cells (f:Fm):List Value:=spV f.t++spV f.k++spV f.o++spV f.e++spV f.x++spV f.n
def fm0:Fm:=⟨zSp,zSp,zSp,zSp,zSp,zSp⟩
theorem ybt (n:Int) (r:World) (F:List Res) (w:World) (hS:Sep r [] F w) (hn : -100000≤n∧n≤100000) :
  Calls Tryz.prog 390 #[.int .i64 n] w fun e w'=>e=.returned (.agg (spV (0,n - 1)).toArray)∧Sep r [] F w':=by
 refine Z.enter Tryz.func390 Tryz.ntmps390 rfl rfl ?_;refine aQ1 ?_;intro g w hS;refine Dnc Tryz.results390 ?_;exact ⟨rfl,hS.sb⟩
theorem yaq (p:Int×Int) (n:Int) (r:World) (F:List Res) (w:World) (hS:Sep r [] F w) :
  Calls Tryz.prog 334 #[.agg (spV p).toArray,.int .i64 n] w fun e w'=>e=.returned (.bool (inSp p.1 p.2 n))∧Sep r [] F w':=by
 obtain ⟨lo,hi⟩:=p;refine Z.enter Tryz.func334 Tryz.ntmps334 rfl rfl ?_
 repeat' first|refine K ?_|refine Sa ?_;intro w hS|refine K3 ?_;intro g w hS hge|refine KC ?_ ?_<;>intro hb<;>try exact JX|fail
 ·refine Dnt Tryz.results334 ?_;refine ⟨?_,hS.sb⟩
  simp [Z.packR,inSp,hb]
 ·refine Dnt Tryz.results334 ?_;refine ⟨?_,hS.sb⟩;have:¬ lo≤n:=by omega
  simp [Z.packR,inSp,this]
def blkF (T:Nat):Nat→Nat→List Value→Res
 | 0,_,_=>.pure True
 | _+1,g,cs=>.blk g T cs
def stF (s k:Nat) (cs:List Value):List Value:=match s - k with
 | 0=>spV zSp
 | _+1=>cs
def pF (g:Nat):Value:=.pointer (some ⟨g,0,.none⟩)
abbrev SF2:=Nat×Nat×Nat×Nat×Nat
def IF2 (Ms:List Nat) (f0:Nat→Value) (g3 g4 g6:Nat) (nt nc nr nv:Int) (F:List Res) (r:World):SF2→(Nat→Value)→World→Prop:=fun (a,b7,b8,b9,s) f w=>
 Same Ms f f0∧(f 17=.int .i64 nt∧f 20=.int .i64 nc∧f 25=.agg (spV (-1,nc - 1)).toArray)∧(0 < a→f 18=.agg (spV (0,nt - 1)).toArray)∧(1 < a→f 21=.agg (spV (0,nc - 1)).toArray)∧
  ∃ g7 g8 g9,(b7=1→f 7=pF g7)∧(b8=1→f 8=pF g8)∧(b9=1→f 9=pF g9)∧
   Sep r [] (blkF 416 b7 g7 (stF s 0 (spV (0,nt - 1)))::blkF 416 b8 g8 (stF s 1 (spV (0,nc - 1)))::blkF 416 b9 g9 (stF s 2 (spV (-1,nc - 1)))::.blk g3 367 [.int .i64 nt,.int .i64 nc,.int .i64 nr,.int .i64 nv]::.blk g4 418 fm0.cells::.blk g6 416 (spV noSp)::F) w
def okF2 (x:SF2) (i:Nat):Bool:=
 let (a,b7,b8,b9,s):=x
 (Nat.beq i 2 && (Nat.beq a 0 && Nat.beq s 0)) || ((Nat.beq i 5 && (Nat.beq a 1 && Nat.beq s 0)) ||
 ((Nat.beq i 10 && (Nat.beq b7 0 && Nat.beq s 0)) || ((Nat.beq i 11 && (Nat.beq b8 0 && Nat.beq s 0)) || ((Nat.beq i 12 && (Nat.beq b9 0 && Nat.beq s 0)) ||
 ((Nat.beq i 13 || (Nat.beq i 14 || Nat.beq i 15)) && (Nat.beq a 2 && (Nat.beq b7 1 && (Nat.beq b8 1 && (Nat.beq b9 1 && Nat.beq i (s+13))))))))))
def nextF2 (x:SF2) (i:Nat):SF2:=
 let (a,b7,b8,b9,s):=x
 match i with
 | 2|5=>(a+1,b7,b8,b9,s)
 | 10=>(a,1,b8,b9,s)
 | 11=>(a,b7,1,b9,s)
 | 12=>(a,b7,b8,1,s)
 | _=>(a,b7,b8,b9,s+1)
def finF2 (x:SF2):Bool:=Nat.beq x.2.2.2.2 3 && Nat.beq x.1 2 && (Nat.beq x.2.1 1 && (Nat.beq x.2.2.1 1 && Nat.beq x.2.2.2.1 1))
def msF2 (m0:Nat):List (Nat×Nat×SF2):=
 ([0,1,2].flatMap fun a=>[0,1].flatMap fun b7=>[0,1].flatMap fun b8=>[0,1].map fun b9=>
  (2 - a+(1 - b7)+(1 - b8)+(1 - b9)+3,m0+(match a with|0=>0|1=>4|_=>36)+b7 * 1024+b8 * 2048+b9 * 4096,(a,b7,b8,b9,0)))++
 [(2,m0+36+7168+8192,(2,1,1,1,1)),(1,m0+36+7168+8192 * 3,(2,1,1,1,2)),(0,m0+36+7168+8192 * 7,(2,1,1,1,3))]
theorem yeC {k nt nc nr nv:Int} (h:k < 1∨16 < k):formP k nt nc nr nv=none:=by
 unfold formP
 repeat rw [if_neg oM]
def formV (o:Option Fm):Value:=.tuple #[.agg (o.getD fm0).cells.toArray,.bool o.isSome]
theorem yiy (k nt nc nr nv:Int) (r:World) (F:List Res) (w:World) (hS:Sep r [] F w) (h1:0≤nt∧nt≤1000) (h2:0≤nc∧nc≤1000) (h3:0≤nr∧nr≤1000) (h4:0≤nv∧nv≤1000) :
  Calls Tryz.prog 333 #[.int .i64 k,.agg #[.int .i64 nt,.int .i64 nc,.int .i64 nr,.int .i64 nv]] w fun e w'=>e=.returned (formV (formP k nt nc nr nv))∧Sep r [] F w':=by
 refine Z.enter Tryz.func333 Tryz.ntmps333 rfl rfl ?_
 repeat' first|refine K ?_|refine Sa ?_;clear hS;intro w hS|refine K3 ?_;clear hS;intro g w hS hge|refine KC ?_ ?_<;>intro hb<;>try exact JX|fail
 rename_i g3 _ _ g4 _ _ _;rename Nat=>g6;refine Z.cut [7,8,9,16,17,18,19,20,21,22,23,24,25] (fun w z=>∃ g7 g8 g9:Nat,z=[(7,.pointer (some ⟨g7,0,none⟩)),(8,.pointer (some ⟨g8,0,none⟩)),(9,.pointer (some ⟨g9,0,none⟩))]∧Sep r [] (.blk g7 416 (spV (0,nt - 1))::.blk g8 416 (spV (0,nc - 1))::.blk g9 416 (spV (-1,nc - 1))::.blk g3 367 [.int .i64 nt,.int .i64 nc,.int .i64 nr,.int .i64 nv]::.blk g4 418 fm0.cells::.blk g6 416 (spV noSp)::F) w) ?_ ?_
 ·replace hS:=hS.sub (L':=.blk g3 367 [.int .i64 nt,.int .i64 nc,.int .i64 nr,.int .i64 nv]::.blk g4 418 fm0.cells::.blk g6 416 (spV noSp)::F) SuF;refine D.startS (Lr:=[.blk g3 367 [.int .i64 nt,.int .i64 nc,.int .i64 nr,.int .i64 nv]]) (hS.sb) 15 16 kR rfl ?_;replace hS:=hS.drew;refine Sh.dp 0 1 ?_;refine Sh.dp 3 9 ?_;refine Sh.dp 6 73 ?_;refine Sh.dl 1 75 ?_;refine Sh.dl 4 91 ?_;refine Sh.dl 7 219 ?_
  first|refine D.sum 8 475 rfl D.wantedN kR rfl (by constructor<;>omega) ?_|refine D.sumW 8 475 rfl D.wantedN kR rfl ?_
  first|refine D.bu 9 987 rfl D.wantedN kR rfl rfl ?_|refine D.buA 9 987 rfl D.wantedN kR rfl rfl ?_
  refine D.graph (IF2 [7,8,9,16,17,18,19,20,21,22,23,24,25] ?f0 g3 g4 g6 nt nc nr nv F r) okF2 nextF2 finF2 (msF2 987) kR ?_ ?hst ?hend 8 987 (0,0,0,0,0) _ _ (by simp [msF2]) ?hI
  case hI=>
   exact ⟨by repeat (first|with_reducible exact Same.refl|((with_reducible refine Same.upd ?_ ?_);· rfl)),⟨rfl,rfl,rfl⟩,oM,oM,0,0,0,oM,oM,oM,Sep.pure_open.2 ⟨trivial,Sep.pure_open.2 ⟨trivial,Sep.pure_open.2 ⟨trivial,hS⟩⟩⟩⟩
  case hend=>
   rintro ⟨a,b7,b8,b9,s⟩ f w hf ⟨hsm,⟨h17,h20,h25⟩,k1,k2,g7,g8,g9,e7,e8,e9,hS⟩;simp only [finF2,Bool.and_eq_true,Nat.beq_eq] at hf;obtain ⟨⟨rfl,rfl⟩,rfl,rfl,rfl⟩:=hf;exact Z.cutE [(7,pF g7),(8,pF g8),(9,pF g9)] (Same.trans hsm (by repeat (first|with_reducible exact Same.refl|((with_reducible refine Same.upd ?_ ?_);· rfl)))) ⟨by rw [e7 rfl];rfl,by rw [e8 rfl];rfl,by rw [e9 rfl];rfl,trivial⟩ ⟨g7,g8,g9,rfl,hS.sb⟩
  case hst=>
   rintro ⟨a,b7,b8,b9,s⟩ i f w hok ⟨hsm,⟨h17,h20,h25⟩,k1,k2,g7,g8,g9,e7,e8,e9,hS⟩;simp only [okF2,Bool.or_eq_true,Bool.and_eq_true,Nat.beq_eq] at hok
   rcases hok with ⟨rfl,rfl,rfl⟩|⟨rfl,rfl,rfl⟩|⟨rfl,rfl,rfl⟩|⟨rfl,rfl,rfl⟩|⟨rfl,rfl,rfl⟩|⟨hi,rfl,rfl,rfl,rfl,hs⟩
   ·refine ⟨_,rfl,rfl,Z.cl (ybt nt _ _ _ hS oM) (by show [f 17]=_;rw [h17]) ?_⟩;rintro e w ⟨rfl,hS⟩;exact ⟨_,rfl,.upd rfl hsm,⟨h17,h20,h25⟩,fun _=>rfl,oM,g7,g8,g9,e7,e8,e9,hS.sb⟩
   ·refine ⟨_,rfl,rfl,Z.cl (ybt nc _ _ _ hS oM) (by show [f 20]=_;rw [h20]) ?_⟩;rintro e w ⟨rfl,hS⟩;exact ⟨_,rfl,.upd rfl hsm,⟨h17,h20,h25⟩,fun _=>k1 oM,fun _=>rfl,g7,g8,g9,e7,e8,e9,hS.sb⟩
   ·refine ⟨_,rfl,rfl,Z.al hS fun g w hS _=>?_⟩;exact ⟨.upd rfl hsm,⟨h17,h20,h25⟩,k1,k2,g,g8,g9,fun _=>rfl,e8,e9,hS.sb⟩
   ·refine ⟨_,rfl,rfl,Z.al hS fun g w hS _=>?_⟩;exact ⟨.upd rfl hsm,⟨h17,h20,h25⟩,k1,k2,g7,g,g9,e7,fun _=>rfl,e9,hS.sb⟩
   ·refine ⟨_,rfl,rfl,Z.al hS fun g w hS _=>?_⟩;exact ⟨.upd rfl hsm,⟨h17,h20,h25⟩,k1,k2,g7,g8,g,e7,e8,fun _=>rfl,hS.sb⟩
   ·rcases hi with rfl|rfl|rfl
    ·obtain rfl:s=0:=by omega
     refine ⟨_,rfl,rfl,Z.st (v:=.agg (spV (0,nt - 1)).toArray) (cs':=spV (0,nt - 1)) (hS.focus (R:=.blk g7 416 (spV zSp)) AtF) (e7 rfl) .here (k1 oM) rfl fun w hS=>?_⟩;exact ⟨hsm,⟨h17,h20,h25⟩,k1,k2,g7,g8,g9,e7,e8,e9,hS.sb⟩
    ·obtain rfl:s=1:=by omega
     refine ⟨_,rfl,rfl,Z.st (v:=.agg (spV (0,nc - 1)).toArray) (cs':=spV (0,nc - 1)) (hS.focus (R:=.blk g8 416 (spV zSp)) AtF) (e8 rfl) .here (k2 oM) rfl fun w hS=>?_⟩;exact ⟨hsm,⟨h17,h20,h25⟩,k1,k2,g7,g8,g9,e7,e8,e9,hS.sb⟩
    ·obtain rfl:s=2:=by omega
     refine ⟨_,rfl,rfl,Z.st (v:=.agg (spV (-1,nc - 1)).toArray) (cs':=spV (-1,nc - 1)) (hS.focus (R:=.blk g9 416 (spV zSp)) AtF) (e9 rfl) .here h25 rfl fun w hS=>?_⟩;exact ⟨hsm,⟨h17,h20,h25⟩,k1,k2,g7,g8,g9,e7,e8,e9,hS.sb⟩
  ·rintro ⟨a,b7,b8,b9,s⟩ f w ⟨_,_,_,_,g7,g8,g9,_,_,_,hS⟩;exact hS.sb
 clear hS;rintro f0 w _ ⟨g7,g8,g9,rfl,hS⟩;refine sQ ?_;intro w hS;refine cQ (ybt nv _ _ _ hS oM) rfl ?_;clear hS;rintro e w ⟨rfl,hS⟩;refine ⟨_,rfl,?_⟩
 repeat' (first|refine Kn ?_|(refine Sh.sa hS ?_;clear hS;intro w hS)|(refine K3 ?_;clear hS;intro g w hS hge)|(refine KB ?_ ?_<;>intro hb<;>(try simp only [JJ] at hb)<;>(try exact JX))|fail)
 refine Z.thN ?_;rename_i g10 _ _ _ _;rename Nat=>g11
 repeat' (first|refine Kn ?_|(refine Sh.sa hS ?_;clear hS;intro w hS)|(refine K3 ?_;clear hS;intro g w hS hge)|(refine KB ?_ ?_<;>intro hb<;>(try simp only [JJ] at hb)<;>(try exact JX))|fail)
 refine Z.thN ?_;rename_i g12 _ _ _ _;rename Nat=>g13
 repeat' (first|refine Kn ?_|(refine Sh.sa hS ?_;clear hS;intro w hS)|(refine K3 ?_;clear hS;intro g w hS hge)|(refine KB ?_ ?_<;>intro hb<;>(try simp only [JJ] at hb)<;>(try exact JX))|fail)
 refine Z.thN ?_;rename Nat=>g14;replace hS:=hS.sub (L':=.blk g14 418 (Fm.cells ⟨noSp,noSp,noSp,zSp,zSp,zSp⟩)::.blk g13 416 (spV (0,1073741824))::.blk g12 416 (spV (1,1048576))::.blk g11 416 (spV (0,1))::.blk g10 416 (spV (0,nv - 1))::.blk g7 416 (spV (0,nt - 1))::.blk g8 416 (spV (0,nc - 1))::.blk g9 416 (spV (-1,nc - 1))::.blk g3 367 [.int .i64 nt,.int .i64 nc,.int .i64 nr,.int .i64 nv]::.blk g4 418 fm0.cells::.blk g6 416 (spV noSp)::F) SuF
 by_cases hk1:k=1
 ·subst hk1;refine sQ ?_;intro w hS;refine D.startS (Lr:=[.blk g13 416 (spV (0,1073741824)),.blk g12 416 (spV (1,1048576)),.blk g11 416 (spV (0,1)),.blk g10 416 (spV (0,nv - 1)),.blk g7 416 (spV (0,nt - 1)),.blk g8 416 (spV (0,nc - 1)),.blk g9 416 (spV (-1,nc - 1)),.blk g3 367 [.int .i64 nt,.int .i64 nc,.int .i64 nr,.int .i64 nv]]) (hS.sb) 8 9 kR rfl ?_;replace hS:=hS.drew;refine Sh.dl 0 1 ?_;refine Sh.dp 3 9 ?_;refine Sh.dl 1 11 ?_;refine Sh.dl 2 15 ?_;refine D.ef 4 31 ?_;refine Z.st hS rfl AtF rfl rfl ?_;clear hS;intro w hS;refine HMs ?_;refine Sh.dp 5 63 ?_;refine D.ef 6 127 ?_;refine Z.st hS rfl AtF rfl rfl ?_;clear hS;intro w hS;refine HMs ?_;refine Sh.dp 7 255 ?_;refine D.ef 8 511 ?_;refine Z.st hS rfl AtF rfl rfl ?_;clear hS;intro w hS;refine HMl ?_;refine D.dn ?_;refine sQ ?_;intro w hS;refine Dct Tryz.results333 ?_;exact ⟨rfl,hS.sb⟩
 by_cases hk2:k=2
 ·subst hk2;refine sQ ?_;intro w hS;refine D.startS (Lr:=[.blk g13 416 (spV (0,1073741824)),.blk g12 416 (spV (1,1048576)),.blk g11 416 (spV (0,1)),.blk g10 416 (spV (0,nv - 1)),.blk g7 416 (spV (0,nt - 1)),.blk g8 416 (spV (0,nc - 1)),.blk g9 416 (spV (-1,nc - 1)),.blk g3 367 [.int .i64 nt,.int .i64 nc,.int .i64 nr,.int .i64 nv]]) (hS.sb) 14 15 kR rfl ?_;replace hS:=hS.drew;refine Sh.dl 0 1 ?_;refine Sh.dp 5 33 ?_;refine Sh.dl 1 35 ?_;refine Sh.dl 2 39 ?_;refine Sh.dl 3 47 ?_;refine Sh.dl 4 63 ?_;refine D.ef 6 127 ?_;refine Z.st hS rfl AtF rfl rfl ?_;clear hS;intro w hS;refine HMs ?_;refine Sh.dp 7 255 ?_;refine D.ef 8 511 ?_;refine Z.st hS rfl AtF rfl rfl ?_;clear hS;intro w hS;refine HMs ?_;refine Sh.dp 9 1023 ?_;refine D.ef 10 2047 ?_;refine Z.st hS rfl AtF rfl rfl ?_;clear hS;intro w hS;refine HMs ?_;refine Sh.dp 11 4095 ?_;refine D.ef 12 8191 ?_;refine Z.st hS rfl AtF rfl rfl ?_;clear hS;intro w hS;refine HMs ?_;refine Sh.dp 13 16383 ?_;refine D.ef 14 32767 ?_;refine Z.st hS rfl AtF rfl rfl ?_;clear hS;intro w hS;refine HMl ?_;refine D.dn ?_;refine sQ ?_;intro w hS;refine Dct Tryz.results333 ?_;exact ⟨rfl,hS.sb⟩
 by_cases hk3:k=3
 ·subst hk3;refine sQ ?_;intro w hS;refine D.startS (Lr:=[.blk g13 416 (spV (0,1073741824)),.blk g12 416 (spV (1,1048576)),.blk g11 416 (spV (0,1)),.blk g10 416 (spV (0,nv - 1)),.blk g7 416 (spV (0,nt - 1)),.blk g8 416 (spV (0,nc - 1)),.blk g9 416 (spV (-1,nc - 1)),.blk g3 367 [.int .i64 nt,.int .i64 nc,.int .i64 nr,.int .i64 nv]]) (hS.sb) 5 6 kR rfl ?_;replace hS:=hS.drew;refine Sh.dl 0 1 ?_;refine Sh.dp 2 5 ?_;refine Sh.dl 1 7 ?_;refine D.ef 3 15 ?_;refine Z.st hS rfl AtF rfl rfl ?_;clear hS;intro w hS;refine HMs ?_;refine Sh.dp 4 31 ?_;refine D.ef 5 63 ?_;refine Z.st hS rfl AtF rfl rfl ?_;clear hS;intro w hS;refine HMl ?_;refine D.dn ?_;refine sQ ?_;intro w hS;refine Dct Tryz.results333 ?_;exact ⟨rfl,hS.sb⟩
 by_cases hk4:k=4
 ·subst hk4;refine sQ ?_;intro w hS;refine D.startS (Lr:=[.blk g13 416 (spV (0,1073741824)),.blk g12 416 (spV (1,1048576)),.blk g11 416 (spV (0,1)),.blk g10 416 (spV (0,nv - 1)),.blk g7 416 (spV (0,nt - 1)),.blk g8 416 (spV (0,nc - 1)),.blk g9 416 (spV (-1,nc - 1)),.blk g3 367 [.int .i64 nt,.int .i64 nc,.int .i64 nr,.int .i64 nv]]) (hS.sb) 5 6 kR rfl ?_;replace hS:=hS.drew;refine Sh.dl 0 1 ?_;refine Sh.dp 2 5 ?_;refine Sh.dl 1 7 ?_;refine D.ef 3 15 ?_;refine Z.st hS rfl AtF rfl rfl ?_;clear hS;intro w hS;refine HMs ?_;refine Sh.dp 4 31 ?_;refine D.ef 5 63 ?_;refine Z.st hS rfl AtF rfl rfl ?_;clear hS;intro w hS;refine HMl ?_;refine D.dn ?_;refine sQ ?_;intro w hS;refine Dct Tryz.results333 ?_;exact ⟨rfl,hS.sb⟩
 by_cases hk5:k=5
 ·subst hk5;refine sQ ?_;intro w hS;refine D.startS (Lr:=[.blk g13 416 (spV (0,1073741824)),.blk g12 416 (spV (1,1048576)),.blk g11 416 (spV (0,1)),.blk g10 416 (spV (0,nv - 1)),.blk g7 416 (spV (0,nt - 1)),.blk g8 416 (spV (0,nc - 1)),.blk g9 416 (spV (-1,nc - 1)),.blk g3 367 [.int .i64 nt,.int .i64 nc,.int .i64 nr,.int .i64 nv]]) (hS.sb) 5 6 kR rfl ?_;replace hS:=hS.drew;refine Sh.dl 0 1 ?_;refine Sh.dp 2 5 ?_;refine Sh.dl 1 7 ?_;refine D.ef 3 15 ?_;refine Z.st hS rfl AtF rfl rfl ?_;clear hS;intro w hS;refine HMs ?_;refine Sh.dp 4 31 ?_;refine D.ef 5 63 ?_;refine Z.st hS rfl AtF rfl rfl ?_;clear hS;intro w hS;refine HMl ?_;refine D.dn ?_;refine sQ ?_;intro w hS;refine Dct Tryz.results333 ?_;exact ⟨rfl,hS.sb⟩
 by_cases hk6:k=6
 ·subst hk6;refine sQ ?_;intro w hS;refine D.startS (Lr:=[.blk g13 416 (spV (0,1073741824)),.blk g12 416 (spV (1,1048576)),.blk g11 416 (spV (0,1)),.blk g10 416 (spV (0,nv - 1)),.blk g7 416 (spV (0,nt - 1)),.blk g8 416 (spV (0,nc - 1)),.blk g9 416 (spV (-1,nc - 1)),.blk g3 367 [.int .i64 nt,.int .i64 nc,.int .i64 nr,.int .i64 nv]]) (hS.sb) 5 6 kR rfl ?_;replace hS:=hS.drew;refine Sh.dl 0 1 ?_;refine Sh.dp 2 5 ?_;refine Sh.dl 1 7 ?_;refine D.ef 3 15 ?_;refine Z.st hS rfl AtF rfl rfl ?_;clear hS;intro w hS;refine HMs ?_;refine Sh.dp 4 31 ?_;refine D.ef 5 63 ?_;refine Z.st hS rfl AtF rfl rfl ?_;clear hS;intro w hS;refine HMl ?_;refine D.dn ?_;refine sQ ?_;intro w hS;refine Dct Tryz.results333 ?_;exact ⟨rfl,hS.sb⟩
 by_cases hk7:k=7
 ·subst hk7;refine sQ ?_;intro w hS;refine Dct Tryz.results333 ?_;exact ⟨rfl,hS.sb⟩
 by_cases hk8:k=8
 ·subst hk8;refine sQ ?_;intro w hS;refine D.startS (Lr:=[.blk g13 416 (spV (0,1073741824)),.blk g12 416 (spV (1,1048576)),.blk g11 416 (spV (0,1)),.blk g10 416 (spV (0,nv - 1)),.blk g7 416 (spV (0,nt - 1)),.blk g8 416 (spV (0,nc - 1)),.blk g9 416 (spV (-1,nc - 1)),.blk g3 367 [.int .i64 nt,.int .i64 nc,.int .i64 nr,.int .i64 nv]]) (hS.sb) 5 6 kR rfl ?_;replace hS:=hS.drew;refine Sh.dl 0 1 ?_;refine Sh.dp 2 5 ?_;refine Sh.dl 1 7 ?_;refine D.ef 3 15 ?_;refine Z.st hS rfl AtF rfl rfl ?_;clear hS;intro w hS;refine HMs ?_;refine Sh.dp 4 31 ?_;refine D.ef 5 63 ?_;refine Z.st hS rfl AtF rfl rfl ?_;clear hS;intro w hS;refine HMl ?_;refine D.dn ?_;refine sQ ?_;intro w hS;refine Dct Tryz.results333 ?_;exact ⟨rfl,hS.sb⟩
 by_cases hk9:k=9
 ·subst hk9;refine sQ ?_;intro w hS;refine Dct Tryz.results333 ?_;exact ⟨rfl,hS.sb⟩
 by_cases hk10:k=10
 ·subst hk10;refine sQ ?_;intro w hS;refine D.startS (Lr:=[.blk g13 416 (spV (0,1073741824)),.blk g12 416 (spV (1,1048576)),.blk g11 416 (spV (0,1)),.blk g10 416 (spV (0,nv - 1)),.blk g7 416 (spV (0,nt - 1)),.blk g8 416 (spV (0,nc - 1)),.blk g9 416 (spV (-1,nc - 1)),.blk g3 367 [.int .i64 nt,.int .i64 nc,.int .i64 nr,.int .i64 nv]]) (hS.sb) 5 6 kR rfl ?_;replace hS:=hS.drew;refine Sh.dl 0 1 ?_;refine Sh.dp 2 5 ?_;refine Sh.dl 1 7 ?_;refine D.ef 3 15 ?_;refine Z.st hS rfl AtF rfl rfl ?_;clear hS;intro w hS;refine HMs ?_;refine Sh.dp 4 31 ?_;refine D.ef 5 63 ?_;refine Z.st hS rfl AtF rfl rfl ?_;clear hS;intro w hS;refine HMl ?_;refine D.dn ?_;refine sQ ?_;intro w hS;refine Dct Tryz.results333 ?_;exact ⟨rfl,hS.sb⟩
 by_cases hk11:k=11
 ·subst hk11;refine sQ ?_;intro w hS;refine D.startS (Lr:=[.blk g13 416 (spV (0,1073741824)),.blk g12 416 (spV (1,1048576)),.blk g11 416 (spV (0,1)),.blk g10 416 (spV (0,nv - 1)),.blk g7 416 (spV (0,nt - 1)),.blk g8 416 (spV (0,nc - 1)),.blk g9 416 (spV (-1,nc - 1)),.blk g3 367 [.int .i64 nt,.int .i64 nc,.int .i64 nr,.int .i64 nv]]) (hS.sb) 5 6 kR rfl ?_;replace hS:=hS.drew;refine Sh.dl 0 1 ?_;refine Sh.dp 2 5 ?_;refine Sh.dl 1 7 ?_;refine D.ef 3 15 ?_;refine Z.st hS rfl AtF rfl rfl ?_;clear hS;intro w hS;refine HMs ?_;refine Sh.dp 4 31 ?_;refine D.ef 5 63 ?_;refine Z.st hS rfl AtF rfl rfl ?_;clear hS;intro w hS;refine HMl ?_;refine D.dn ?_;refine sQ ?_;intro w hS;refine Dct Tryz.results333 ?_;exact ⟨rfl,hS.sb⟩
 by_cases hk12:k=12
 ·subst hk12;refine sQ ?_;intro w hS;refine Dct Tryz.results333 ?_;exact ⟨rfl,hS.sb⟩
 by_cases hk13:k=13
 ·subst hk13;refine sQ ?_;intro w hS;refine D.startS (Lr:=[.blk g13 416 (spV (0,1073741824)),.blk g12 416 (spV (1,1048576)),.blk g11 416 (spV (0,1)),.blk g10 416 (spV (0,nv - 1)),.blk g7 416 (spV (0,nt - 1)),.blk g8 416 (spV (0,nc - 1)),.blk g9 416 (spV (-1,nc - 1)),.blk g3 367 [.int .i64 nt,.int .i64 nc,.int .i64 nr,.int .i64 nv]]) (hS.sb) 7 8 kR rfl ?_;replace hS:=hS.drew;refine Sh.dp 0 1 ?_;refine Sh.dl 1 3 ?_;refine Sh.dl 3 11 ?_;refine D.ef 2 15 ?_;refine Z.cl (ybt nr _ _ _ hS oM) rfl ?_;clear hS;rintro e w ⟨rfl,hS⟩;refine ⟨_,rfl,?_⟩;refine HMs ?_;refine Sh.dp 4 31 ?_;refine D.ef 5 63 ?_;refine Z.st hS rfl AtF rfl rfl ?_;clear hS;intro w hS;refine HMs ?_;refine Sh.dp 6 127 ?_;refine D.ef 7 255 ?_;refine Z.st hS rfl AtF rfl rfl ?_;clear hS;intro w hS;refine HMl ?_;refine D.dn ?_;refine sQ ?_;intro w hS;refine Dct Tryz.results333 ?_;exact ⟨rfl,hS.sb⟩
 by_cases hk14:k=14
 ·subst hk14;refine sQ ?_;intro w hS;refine Dct Tryz.results333 ?_;exact ⟨rfl,hS.sb⟩
 by_cases hk15:k=15
 ·subst hk15;refine sQ ?_;intro w hS;refine Dct Tryz.results333 ?_;exact ⟨rfl,hS.sb⟩
 by_cases hk16:k=16
 ·subst hk16;refine sQ ?_;intro w hS;refine Dct Tryz.results333 ?_;exact ⟨rfl,hS.sb⟩
 rw [yeC oM];refine sQ ?_;intro w hS;refine Dct Tryz.results333 ?_;exact ⟨rfl,hS.sb⟩
end Go.Proofs.YtfmnjbhncnldmaaGreat
