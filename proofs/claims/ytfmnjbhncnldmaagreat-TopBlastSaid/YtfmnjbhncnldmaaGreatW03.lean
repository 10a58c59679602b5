import Derived.LaidEqlPtr
import Derived.Test.YtfmnjbhncnldmaaGreatW00
import Derived.Test.YtfmnjbhncnldmaaGreatW02
set_option maxHeartbeats 1000000
set_option linter.unusedSimpArgs false
set_option linter.unusedVariables false
namespace Go.Proofs.YtfmnjbhncnldmaaGreat
open Go.RowKit
section
variable {P:Program} {n:Nat} {f:Nat→Value} {d:Option Tmp} {ty t:TypeId} {pos:String} {aft:Array Edge} {gd:Option (Nat×Bool)} {x y:Operand}
theorem R.min2 {ats:Array TypeId} {a b:Int} (hx:ev n f x=.int .i64 a) (hy:ev n f y=.int .i64 b):Runs P n f ⟨d,.call ⟨.builtin .min,#[x,y],ats⟩,ty,pos,aft,gd⟩ (.int .i64 (min a b)):=by
 refine ⟨fun W=>?_⟩;have e:(if b < a then b else a)=min a b:=by split<;>omega
 simp [execOp,resolve,invoke,builtin,hx,hy,run_min_int2,e]
end
section
variable {P:Program} {Q:Exit→Act→World→Prop} {K:(Nat→Value)→World→Prop} {n:Nat} {f:Nat→Value} {w r:World} {M:List Nat} {L k:List Res} {d:Tmp} {ty t e sz bytes:TypeId} {pos:String} {aft:Array Edge} {x y:Operand} {zs:List Value}
theorem Z.mks [ht:HasTT P] {l c:Nat} (hS:Sep r M L w) (hx:ev n f x=.int .i64 (l:Int)) (hy:ev n f y=.int .i64 (c:Int)) (hk:kindOf ht.tt t=.sl e sz) [he:HasE P e sz bytes] [hz:HasZ P e zs] (hlc:l≤c) (hb:bytes * c≤281474976710656) (hm:c≤maxLen)
  (h:∀ g w',Sep r M (.blk g e (zerosL zs c)::L) w'→w.heap.size≤g→K (upd' f d (.slice (some ⟨g,0,none⟩) l c)) w'):WE P ⟨some d,.makeSlice t x y,ty,pos,aft,none⟩ K Q n f w:=by
 refine ⟨fun K' hK=>?_⟩;obtain ⟨hu,hs⟩:=kind_sl hk;obtain ⟨i,z,hi,hz1,hsz,hby,hzs,h0⟩:=he.ok;have hz':=hz.ok
 simp [hi,hz1] at hz'
 obtain ⟨hz2,hz3⟩:=hz';have hb':(i.bytes:Int) * (c:Int)≤281474976710656:=by
  rw [hby];have h1:((bytes * c:Nat):Int)≤((281474976710656:Nat):Int):=Int.ofNat_le.2 hb;rw [Int.natCast_mul] at h1;exact h1
 have hm':(c:Int)≤9223372036854775807:=by unfold maxLen at hm;omega
 have hrun:=run_make (P:=P) w t e i z hu hi hz1 .i64 .i64 (l:Int) (c:Int) oM oM hb' hm';simp only [Int.toNat_natCast] at hrun;have hmc:madeCells z.cells (c * i.size)=(zerosL zs c).toArray:=by
  have h1:=zerosL_ok zs c;rw [hz2,hz3];exact h1
 rw [hmc] at hrun;unfold Oper.wp;rw [act_eval'];unfold execOp;simp only [hx,hy,Sem.run_bind];rw [hrun];simp only [Result.andThen_ok,Sem.run_pure,Oper.upon_value,yac];exact hK _ _ (h _ _ (hS.box e (zerosL zs c)) (Nat.le_refl _))
end
namespace Z
section
variable {P:Program} {ops:Array Oper} {Q:Exit→Act→World→Prop} {n:Nat} {f:Nat→Value} {w:World} {rest:List Oper} {d:Tmp} {t ty:TypeId} {pos:String} {aft:Array Edge} {cs cs':List Value}
theorem ydV [ht:HasTT P] {ps:List (Nat×Operand)} {m e sz:Nat} [hz:HasZ P t cs] (hk:kindOf ht.tt t=.ar m e sz) (hf:fillA sz cs (partsV n f ps)=some cs') {dd:Option Tmp} {gd:Option (Nat×Bool)} (W:World) :
  (execOp (ev n f) ⟨dd,.build t ps.toArray,ty,pos,aft,gd⟩).run P W=.ok (.value (.agg cs'.toArray)) W:=by
 obtain ⟨hu,hs⟩:=kind_ar hk;have hz:=hz.ok
 cases hi:P.info? t with
 | none=>simp [hi] at hz
 | some i=>
  simp [hi] at hz
  obtain ⟨⟨z0,hz1,hz2⟩,hz3⟩:=hz;have hfill:=ybM _ cs cs' hf;have hp:(ps.toArray.map fun p=>(p.1,ev n f p.2)).toList=partsV n f ps:=by simp [partsV,yc9]
  simp only [execOp];have e:(Instr.build t (ps.toArray.map fun p=>(p.1,ev n f p.2))).run P W=.ok (.agg cs'.toArray) W:=by
   unfold Instr.build;simp only [zeroValue,typeInfo,Sem.run_bind,hz1,Result.andThen_ok,Sem.run_pure,run_under hu];have hprog:(program).run P W=.ok P W:=rfl;simp only [hprog,Result.andThen_ok,hi,Sem.run_pure,hz1,run_size hs,hp,hz2,hfill]
  simp only [Sem.run_bind];rw [e]
  rfl
theorem buA [ht:HasTT P] {ps:List (Nat×Operand)} {m e sz:Nat} [hz:HasZ P t cs] (hk:kindOf ht.tt t=.ar m e sz) (hf:fillA sz cs (partsV n f ps)=some cs')
  (h:WL P ops Q rest n (upd' f d (.agg cs'.toArray)) w):WL P ops Q (⟨some d,.build t ps.toArray,ty,pos,aft,none⟩::rest) n f w:=
 plain rfl (fun W=>ydV hk hf W) h
theorem _root_.Go.Proofs.YtfmnjbhncnldmaaGreat.D.buA [ht:HasTT P] {S:World→Prop} {L k mm:Nat} (i m':Nat) {ps:List (Nat×Operand)} {m e sz:Nat} {gd:Option (Nat×Bool)} [hz:HasZ P t cs] (hi:ops[i]?=some ⟨some d,.build t ps.toArray,ty,pos,aft,gd⟩) (hw:Region.wanted ⟨some d,.build t ps.toArray,ty,pos,aft,gd⟩ (yielded ops (fr n f))=true) (hc:okTake ops L mm m' i=true) (hk:kindOf ht.tt t=.ar m e sz) (hf:fillA sz cs (partsV n f ps)=some cs')
  (h:WR P ops Q S L k m' n (upd' f d (.agg cs'.toArray)) w):WR P ops Q S L (k+1) mm n f w:=
 D.pl i m' hi hw hc ⟨fun W=>ydV hk hf W⟩ h
end
end Z
section
variable {P:Program} {ops:Array Oper} {Q:Exit→Act→World→Prop} {K:(Nat→Value)→World→Prop} {n:Nat} {f:Nat→Value} {w:World} {d:Tmp} {dd:Option Tmp} {ty:TypeId} {pos:String} {aft:Array Edge} {gd:Option (Nat×Bool)}
theorem R.mfb {fn:Fn} {bnd:List Operand}:Runs P n f ⟨dd,.makeFunc fn bnd.toArray #[],ty,pos,aft,gd⟩ (.func fn (bnd.map (ev n f)).toArray #[]):=
 ⟨fun W=>by simp [execOp,Instr.makeFunc]⟩
theorem Z.clb {F:FuncId} [hfn:HasF P F] {c:Operand} {bnd:List Value} {args:List Operand} {ats:Array TypeId} {avs:Array Value} {R:Ending→World→Prop} (hc:ev n f c=.func (.func F) bnd.toArray #[]) (h:Calls P F avs w R) (ha:bnd++args.map (ev n f)=avs.toList)
  (hk:∀ e w',R e w'→∃ v,e=.returned v∧K (upd' f d v) w'):WE P ⟨some d,.call ⟨.value c,args.toArray,ats⟩,ty,pos,aft,none⟩ K Q n f w:=
 .mk fun K' hK=>by
  unfold Oper.wp;rw [act_eval'];have has:bnd.toArray++(List.map (ev n f) args).toArray=avs:=by rw [List.append_toArray,ha]
  have:(execOp (ev n f) ⟨some d,.call ⟨.value c,args.toArray,ats⟩,ty,pos,aft,none⟩).run P w=.ok (.enter F avs) w:=by
   obtain ⟨fn,hF,hn,hb⟩:=hfn.ok
   have hn' : fn.name ≠ "runtime.NumGoroutine" := by simpa using hn
   obtain ⟨c',hc'⟩:=Option.isSome_iff_exists.1 hb;simp only [execOp,resolve,hc,Deferred.ofValue,Sem.run_bind,Sem.run_pure,Result.andThen_ok,invoke];have e1:(bnd.toArray++Array.map (ev n f) args.toArray)++#[]=avs:=by rw [← has];simp
   simp [callFunc,hF,hn',hc',go_sem] at e1 ⊢
   rw [← e1]
  rw [this,Oper.upon_enter];refine h.mono ?_;intro e w' hR;obtain ⟨v,rfl,hw⟩:=hk e w' hR;simp only [yac];exact hK _ _ hw
end
theorem Same.trans {Ms:List Nat} {f g h:Nat→Value} (h1:Same Ms f g) (h2:Same Ms g h):Same Ms f h:=fun i hi=>(h1 i hi).trans (h2 i hi)
namespace D
section
variable {P:Program} {ops:Array Oper} {Q:Exit→Act→World→Prop} {S:World→Prop} {L n:Nat}
theorem EWall {k m:Nat} {f:Nat→Value} {w:World} {J:Nat→(Nat→Value)→World→Prop}:∀ rs:List Nat,
  (∀ i,i∈rs→okStep ops m (m ||| 2 ^ i) i=true∧(∃ oi,ops[i]?=some oi∧oi.guard=none∧WE P oi (J i) (NoPanic Q) n f w)∧∀ f' w',J i f' w'→(HM ops S L (m ||| 2 ^ i) w'∧WR P ops Q S L k (m ||| 2 ^ i) n f' w'))→
  EW P ops Q S L k m n f w rs
 | [],_=>enil
 | i::rs,h=>by
  obtain ⟨h1,⟨⟨dd,op,ty,pos,aft,gd⟩,hi,hg,hw⟩,h3⟩:=h i (List.mem_cons_self ..)
  cases hg
  exact econs i _ hi wantedN h1 h3 hw (EWall rs fun j hj=>h j (List.mem_cons_of_mem _ hj))
theorem graph {σ:Type} [BEq σ] [LawfulBEq σ] (I:σ→(Nat→Value)→World→Prop) (ok:σ→Nat→Bool) (next:σ→Nat→σ) (fin:σ→Bool) (ms:List (Nat×Nat×σ))
  (hc:ms.all (fun x=>match Region.ready .any ops (listedOf ops.size x.2.1) with | []=>fin x.2.2|i::rs=>Nat.blt 0 x.1 && (i::rs).all fun i=>ok x.2.2 i && (okStep ops x.2.1 (x.2.1 ||| 2 ^ i) i && ms.elem (x.1 - 1,x.2.1 ||| 2 ^ i,next x.2.2 i)))=true)
  (hS:∀ s f w,I s f w→S w)
  (hst:∀ s i f w,ok s i=true→I s f w→∃ oi,ops[i]?=some oi∧oi.guard=none∧WE P oi (I (next s i)) (NoPanic Q) n f w)
  (hend:∀ s f w,fin s=true→I s f w→Q .normal (act n f) w) :
  ∀ k m s f w,(k,m,s)∈ms→I s f w→WR P ops Q S L k m n f w:=by
 intro k
 induction k with
 | zero=>
  intro m s f w hm hI;have:=List.all_eq_true.1 hc _ hm
  dsimp only at this
  split at this
  ·rename_i he;exact done he (hend s f w this hI)
  ·simp at this
 | succ k ih=>
  intro m s f w hm hI;have:=List.all_eq_true.1 hc _ hm
  dsimp only at this
  split at this
  ·rename_i he;exact done he (hend s f w this hI)
  ·rename_i i rs he;rw [Bool.and_eq_true] at this;refine each (i::rs) he rfl (EWall (J:=fun j=>I (next s j)) _ fun j hj=>?_);have hj:=List.all_eq_true.1 this.2 j hj;rw [Bool.and_eq_true,Bool.and_eq_true] at hj;refine ⟨hj.2.1,hst s j f w hj.1 hI,fun f' w' hI'=>⟨.s (hS _ _ _ hI'),ih _ _ _ _ ?_ hI'⟩⟩;have:=List.elem_iff.1 hj.2.2
   simpa using this
end
end D
attribute [local irreducible] Res.blk Res.sl Res.all Res.ex Res.pure Res.star
structure Wj where
 cell:Int
 epoch:Int
 version:Int
 from_:Int
 until_:Int
structure Cl where
 zone:Int
 cap:Int
structure Tn where
 load:Int
 shadow:Int
 prio:Int
 lag:Int
 allowed:Int
 group:Int
 noisy:Bool
structure Vs where
 low:Int
 high:Int
structure Cfg where
 regions:Int
 zones:List Int
 cells:List Cl
 tenants:List Tn
 versions:List Vs
 replicas:List Int
 observers:List Int
 blast:Int
 lease:Int
 bake:Int
def Cl.cells (x:Cl):List Value:=[.int .i64 x.zone,.int .i64 x.cap]
def Tn.cells (x:Tn):List Value:=[.int .i64 x.load,.int .i64 x.shadow,.int .i64 x.prio,.int .i64 x.lag,.int .i64 x.allowed,.int .i64 x.group,.bool x.noisy]
def Vs.cells (x:Vs):List Value:=[.int .i64 x.low,.int .i64 x.high]
structure TS where
 placed:Bool
 shed:Bool
 home:Int
 standby:Int
 next:Int
 target:Int
 epoch:Int
 w:Wj
def TS.cells (x:TS):List Value:=[.bool x.placed,.bool x.shed,.int .i64 x.home,.int .i64 x.standby,.int .i64 x.next,.int .i64 x.target,.int .i64 x.epoch,.int .i64 x.w.cell,.int .i64 x.w.epoch,.int .i64 x.w.version,.int .i64 x.w.from_,.int .i64 x.w.until_]
structure CS where
 mode:Int
 running:Int
 wanted:Int
 since:Int
def CS.cells (x:CS):List Value:=[.int .i64 x.mode,.int .i64 x.running,.int .i64 x.wanted,.int .i64 x.since]
structure Sta where
 tick:Int
 count:Int
 tenants:List TS
 cells:List CS
 proven:Int
 evac:Int
 low:Int
 high:Int
structure En where
 kind:Int
 tick:Int
 tenant:Int
 cell:Int
 other:Int
 epoch:Int
 from_:Int
 until_:Int
 n:Int
def En.cells (x:En):List Value:=[.int .i64 x.kind,.int .i64 x.tick,.int .i64 x.tenant,.int .i64 x.cell,.int .i64 x.other,.int .i64 x.epoch,.int .i64 x.from_,.int .i64 x.until_,.int .i64 x.n]
def En.val (x:En):Value:=.agg x.cells.toArray
structure CAd where
 zA:Option Addr
 zc:Nat
 kA:Option Addr
 kc:Nat
 tA:Option Addr
 tc:Nat
 vA:Option Addr
 vc:Nat
 rA:Option Addr
 rc:Nat
 oA:Option Addr
 oc:Nat
def Cfg.cl (c:Cfg) (a:CAd):List Value:=[.int .i64 c.regions,.slice a.zA c.zones.length a.zc,.slice a.kA c.cells.length a.kc,.slice a.tA c.tenants.length a.tc,.slice a.vA c.versions.length a.vc,.slice a.rA c.replicas.length a.rc,.slice a.oA c.observers.length a.oc,.int .i64 c.blast,.int .i64 c.lease,.int .i64 c.bake]
def Cfg.val (c:Cfg) (a:CAd):Value:=.agg (c.cl a).toArray
structure SAd where
 tA:Option Addr
 tc:Nat
 kA:Option Addr
 kc:Nat
def Sta.cl (s:Sta) (a:SAd):List Value:=[.int .i64 s.tick,.int .i64 s.count,.slice a.tA s.tenants.length a.tc,.slice a.kA s.cells.length a.kc,.int .i64 s.proven,.int .i64 s.evac,.int .i64 s.low,.int .i64 s.high]
def Sta.val (s:Sta) (a:SAd):Value:=.agg (s.cl a).toArray
def ztC (z:Int):List Value:=[.int .i64 z]
structure CfR (r:World) (F:List Res) (c:Cfg) (a:CAd):Prop where
 z:Reads r F 1 (.slice a.zA c.zones.length a.zc) (c.zones.map ztC)
 k:Reads r F 2 (.slice a.kA c.cells.length a.kc) (c.cells.map Cl.cells)
 t:Reads r F 7 (.slice a.tA c.tenants.length a.tc) (c.tenants.map Tn.cells)
 v:Reads r F 2 (.slice a.vA c.versions.length a.vc) (c.versions.map Vs.cells)
theorem CfR.cons {r:World} {F:List Res} {c:Cfg} {a:CAd} (h:CfR r F c a) (R:Res):CfR r (R::F) c a:=⟨h.z.cons R,h.k.cons R,h.t.cons R,h.v.cons R⟩
theorem CfR.app {r:World} {F:List Res} {c:Cfg} {a:CAd} (h:CfR r F c a) (L:List Res):CfR r (L++F) c a:=⟨h.z.app L,h.k.app L,h.t.app L,h.v.app L⟩
structure StR (r:World) (F:List Res) (s:Sta) (a:SAd):Prop where
 t:Reads r F 12 (.slice a.tA s.tenants.length a.tc) (s.tenants.map TS.cells)
 k:Reads r F 4 (.slice a.kA s.cells.length a.kc) (s.cells.map CS.cells)
theorem StR.app {r:World} {F:List Res} {s:Sta} {a:SAd} (h:StR r F s a) (L:List Res):StR r (L++F) s a:=⟨h.t.app L,h.k.app L⟩
structure Cfg.ok (c:Cfg):Prop where
 r:1≤c.regions∧c.regions≤4
 z:1≤c.zones.length∧c.zones.length≤8
 k:1≤c.cells.length∧c.cells.length≤16
 t:c.tenants.length≤32
 v:1≤c.versions.length∧c.versions.length≤30
 b:1≤c.blast∧c.blast≤16
 l:1≤c.lease∧c.lease≤1000
 e:0≤c.bake∧c.bake≤10000
 kz:∀ x,x∈c.cells→0≤x.zone∧x.zone < c.zones.length
structure TOk (n:Nat) (x:TS):Prop where
 h : -1≤x.home∧x.home < n
 s : -1≤x.standby∧x.standby < n
 nx : -1≤x.next∧x.next < n
 t : -1≤x.target∧x.target < n
 ph:x.placed=true→0≤x.home
 np:x.placed=false→x.next = -1∧x.target = -1
 sh:x.shed=true→x.placed=true
 hs:x.home=x.standby→x.standby = -1
 hn:x.home=x.next→x.next = -1
 ts:x.target=x.standby→x.target = -1
 tn:x.target=x.next→x.target = -1
structure KOj (n:Nat) (x:CS):Prop where
 r:0≤x.running∧x.running < n
 w:0≤x.wanted∧x.wanted < n
structure Sta.ok (s:Sta) (c:Cfg):Prop where
 tl:s.tenants.length=c.tenants.length
 kl:s.cells.length=c.cells.length
 t:∀ x,x∈s.tenants→TOk c.cells.length x
 k:∀ x,x∈s.cells→KOj c.versions.length x
theorem yb2 {α:Type} {l:List α} {i:Nat} {a x:α} (h:x∈l.set i a):x∈l∨x=a:=by
 rcases List.mem_or_eq_of_mem_set h with h|h
 ·exact .inl h
 ·exact .inr h
theorem Sta.ok.setT {s:Sta} {c:Cfg} (h:s.ok c) {x:TS} (hx:TOk c.cells.length x) (i:Nat):({ s with tenants:=s.tenants.set i x }:Sta).ok c:=by
 refine ⟨by rw [← h.tl];exact List.length_set ..,h.kl,fun y hy=>?_,h.k⟩
 rcases yb2 hy with hy|rfl
 ·exact h.t y hy
 ·exact hx
theorem Sta.ok.setK {s:Sta} {c:Cfg} (h:s.ok c) {x:CS} (hx:KOj c.versions.length x) (i:Nat):({ s with cells:=s.cells.set i x }:Sta).ok c:=by
 refine ⟨h.tl,by rw [← h.kl];exact List.length_set ..,h.t,fun y hy=>?_⟩
 rcases yb2 hy with hy|rfl
 ·exact h.k y hy
 ·exact hx
section
variable {n:Nat} {x:TS}
theorem TOk.place (h:TOk n x) (hp:x.placed=false) {k o:Int} (hk:0≤k∧k < n) (ho : -1≤o∧o < n) (hne:o≠k):TOk n { x with placed:=true,home:=k,standby:=o }:=by
 obtain ⟨h1,h2⟩:=h.np hp;refine ⟨⟨?_,?_⟩,ho,h.nx,h.t,fun _=>hk.1,fun h=>?_,fun _=>rfl,fun h=>?_,fun h=>?_,fun _=>h2,fun _=>h2⟩
 ·show -1≤k;omega
 ·exact hk.2
 ·cases h
 ·replace h:k=o:=h;omega
 ·exact h1
theorem TOk.window (h:TOk n x) (w:Wj) (e:Int):TOk n { x with epoch:=e,w:=w }:=⟨h.h,h.s,h.nx,h.t,h.ph,h.np,h.sh,h.hs,h.hn,h.ts,h.tn⟩
theorem TOk.over (h:TOk n x) (hp:x.placed=true) {k:Int} (hk:0≤k∧k < n):TOk n { x with shed:=false,home:=k,standby:=-1,next:=-1,target:=-1 }:=by
 have h1:(-1:Int)≤-1∧(-1:Int) < n:=by omega
 exact ⟨⟨by show -1≤k;omega,hk.2⟩,h1,h1,h1,fun _=>hk.1,fun _=>⟨rfl,rfl⟩,fun h=>(by cases h),fun _=>rfl,fun _=>rfl,fun _=>rfl,fun _=>rfl⟩
theorem TOk.moved (h:TOk n x) (hp:x.placed=true) (ht:0≤x.target):TOk n { x with home:=x.target,target:=-1 }:=by
 have h1:(-1:Int)≤-1∧(-1:Int) < n:=by omega
 have:=h.t;refine ⟨h.t,h.s,h.nx,h1,fun _=>ht,fun e=>?_,h.sh,fun e=>?_,fun e=>?_,fun _=>rfl,fun _=>rfl⟩
 ·exact absurd (hp.symm.trans e) (by decide)
 ·have:=h.ts e;omega
 ·have:=h.tn e;omega
theorem TOk.standby (h:TOk n x) (hp:x.placed=true) {k:Int} (hk : -1≤k∧k < n) (h1:0≤k→k≠x.home∧k≠x.target):TOk n { x with next:=k }:=by
 refine ⟨h.h,h.s,hk,h.t,h.ph,fun e=>?_,h.sh,h.hs,fun e=>?_,h.ts,fun e=>?_⟩
 ·exact absurd (hp.symm.trans e) (by decide)
 ·replace e:x.home=k:=e
  show k = -1
  by_cases h0:0≤k
  ·exact absurd e.symm (h1 h0).1
  ·omega
 ·replace e:x.target=k:=e
  show x.target = -1
  by_cases h0:0≤k
  ·exact absurd e.symm (h1 h0).2
  ·omega
theorem TOk.ready (h:TOk n x) (hp:x.placed=true) (hn:0≤x.next):TOk n { x with standby:=x.next,next:=-1 }:=by
 have h1:(-1:Int)≤-1∧(-1:Int) < n:=by omega
 refine ⟨h.h,h.nx,h1,h.t,h.ph,fun e=>?_,h.sh,fun e=>?_,fun _=>rfl,fun e=>?_,fun e=>e⟩
 ·exact absurd (hp.symm.trans e) (by decide)
 ·have:=h.hn e;omega
 ·exact h.tn e
theorem TOk.migrate (h:TOk n x) (hp:x.placed=true) {k:Int} (hk : -1≤k∧k < n) (h1:k≠x.standby) (h2:k≠x.next):TOk n { x with target:=k }:=by
 refine ⟨h.h,h.s,h.nx,hk,h.ph,fun e=>?_,h.sh,h.hs,h.hn,fun e=>?_,fun e=>?_⟩
 ·exact absurd (hp.symm.trans e) (by decide)
 ·exact absurd e h1
 ·exact absurd e h2
theorem TOk.abandon (h:TOk n x):TOk n { x with target:=-1 }:=by
 have h1:(-1:Int)≤-1∧(-1:Int) < n:=by omega
 exact ⟨h.h,h.s,h.nx,h1,h.ph,fun e=>⟨(h.np e).1,rfl⟩,h.sh,h.hs,h.hn,fun _=>rfl,fun _=>rfl⟩
theorem TOk.shed (h:TOk n x) (hp:x.placed=true):TOk n { x with shed:=true,target:=-1 }:=by
 have h1:(-1:Int)≤-1∧(-1:Int) < n:=by omega
 exact ⟨h.h,h.s,h.nx,h1,h.ph,fun e=>⟨(h.np e).1,rfl⟩,fun _=>hp,h.hs,h.hn,fun _=>rfl,fun _=>rfl⟩
theorem TOk.unshed (h:TOk n x):TOk n { x with shed:=false }:=⟨h.h,h.s,h.nx,h.t,h.ph,h.np,fun e=>(by cases e),h.hs,h.hn,h.ts,h.tn⟩
end
def TS.fresh:TS:=⟨false,false,-1,-1,-1,-1,0,⟨-1,0,0,0,0⟩⟩
theorem TS.fresh_ok (n:Nat):TOk n TS.fresh:=by
 have h1:(-1:Int)≤-1∧(-1:Int) < n:=by omega
 exact ⟨h1,h1,h1,h1,fun h=>(by cases h),fun _=>⟨rfl,rfl⟩,fun h=>(by cases h),fun _=>rfl,fun _=>rfl,fun _=>rfl,fun _=>rfl⟩
def regOf (c:Cfg) (k:Int):Int:=if 0≤k∧k < c.cells.length then c.zones.getD ((c.cells.getD k.toNat ⟨0,0⟩).zone.toNat) 0 else -1
def useTab:List ByteArray:=[⟨#[]⟩,⟨#[116,99,111]⟩,⟨#[116,99,101,119,118]⟩,⟨#[116,101]⟩,⟨#[116,67]⟩,⟨#[116,99]⟩,⟨#[116,99]⟩,⟨#[116]⟩,⟨#[116,98]⟩,⟨#[99,109]⟩,⟨#[99,118]⟩,⟨#[99,118]⟩,⟨#[118]⟩,⟨#[114,98]⟩,⟨#[]⟩,⟨#[]⟩,⟨#[110]⟩]
def usesS (k:Int):ByteArray:=if k < 1∨17≤k then ⟨#[63]⟩ else useTab.getD k.toNat ⟨#[]⟩
def hasK (k:Int) (u:Int):Bool:=(usesS k).data.toList.any fun x=>decide ((x.toNat:Int)=u)
structure En.right (e:En) (c:Cfg):Prop where
 kind:1≤e.kind∧e.kind≤16
 t:hasK e.kind 116=true→0≤e.tenant∧e.tenant < c.tenants.length
 k:hasK e.kind 99=true→0≤e.cell∧e.cell < c.cells.length
 kk:hasK e.kind 67=true→-1≤e.cell∧e.cell < c.cells.length
 o:hasK e.kind 111=true→-1≤e.other∧e.other < c.cells.length∧e.other≠e.cell
 r:hasK e.kind 114=true→0≤e.other∧e.other < c.regions
 v:hasK e.kind 118=true→0≤e.n∧e.n < c.versions.length
end Go.Proofs.YtfmnjbhncnldmaaGreat
namespace Go.Proofs.YtfmnjbhncnldmaaGreat
open Go.RowKit
def bitZ (k:IntKind) (f:BitVec k.bits→BitVec k.bits→BitVec k.bits) (a b:Int):Int:=k.wrap (f (BitVec.ofInt k.bits a) (BitVec.ofInt k.bits b)).toNat
def isI64:IntKind→Bool
 | .i64=>true
 | _=>false
def ibo (op:BinOp) (k:IntKind) (a b:Int):Option Value:=
 match op with
 | .and=>some (.int k (bitZ k (· &&& ·) a b))
 | .or=>some (.int k (bitZ k (· ||| ·) a b))
 | .xor=>some (.int k (bitZ k (· ^^^ ·) a b))
 | .andNot=>some (.int k (bitZ k (fun x y=>x &&& ~~~y) a b))
 | .add=>cond (isI64 k) none (some (.int k (k.wrap (a+b))))
 | .sub=>cond (isI64 k) none (some (.int k (k.wrap (a - b))))
 | .mul=>cond (isI64 k) none (some (.int k (k.wrap (a * b))))
 | op=>cmpI op a b
def ish (op:BinOp) (k:IntKind) (a b:Int):Option Value:=
 match op with
 | .shl=>some (.int k (k.wrap (a * 2 ^ min b.toNat k.bits)))
 | .shr=>some (.int k (a.fdiv (2 ^ min b.toNat k.bits)))
 | _=>none
def iquo (op:BinOp) (k:IntKind) (a b:Int):Option Value:=
 match op with
 | .quo=>some (.int k (k.wrap (a.tdiv b)))
 | .rem=>some (.int k (a.tmod b))
 | _=>none
theorem ibo_run {P:Program} {op:BinOp} {k:IntKind} {a b:Int} {v:Value} (h:ibo op k a b=some v) (T:TypeId) (w:World):(binOp op T (.int k a) (.int k b)).run P w=.ok v w:=by
 cases op<;>simp only [ibo,cmpI,Option.some.injEq,reduceCtorEq] at h
 all_goals first
  | (subst h;simp [binOp,Op.intBits,Op.intArith,Op.intCmp,bitZ,bne,BEq.beq];done)
  | (revert h;cases k<;>simp [isI64]<;>rintro rfl<;>simp [binOp,Op.intArith])
theorem ish_run {P:Program} {op:BinOp} {k k':IntKind} {a b:Int} {v:Value} (h:ish op k a b=some v) (hb:0≤b) (T:TypeId) (w:World):(binOp op T (.int k a) (.int k' b)).run P w=.ok v w:=by
 have hn:¬ b < 0:=by omega
 cases op<;>simp only [ish,Option.some.injEq,reduceCtorEq] at h<;>subst h<;>simp [binOp,Op.shift,hn]
theorem iquo_run {P:Program} {op:BinOp} {k:IntKind} {a b:Int} {v:Value} (h:iquo op k a b=some v) (hb:b≠0) (T:TypeId) (w:World):(binOp op T (.int k a) (.int k b)).run P w=.ok v w:=by
 cases op<;>simp only [iquo,Option.some.injEq,reduceCtorEq] at h<;>subst h<;>simp [binOp,Op.intDiv,hb]
section
variable {P:Program} {n:Nat} {f:Nat→Value} {d:Option Tmp} {ty t t':TypeId} {pos:String} {aft:Array Edge} {gd:Option (Nat×Bool)} {x y:Operand} {v:Value} {op:BinOp} {k k':IntKind} {a b:Int}
theorem R.ibo (hx:ev n f x=.int k a) (hy:ev n f y=.int k b) (hv:Go.Proofs.YtfmnjbhncnldmaaGreat.ibo op k a b=some v):Runs P n f ⟨d,.binOp op t x y t',ty,pos,aft,gd⟩ v:=by
 refine ⟨fun W=>?_⟩;have hg:=eqGuard_none (P:=P) op t x y (a:=.int k a) (b:=.int k b) (fun c h=>by cases h) (fun h=>by cases h) W;unfold execOp;simp only [hx,hy,Sem.run_bind,hg,Result.andThen_ok,ibo_run hv]
 rfl
theorem R.ish (hx:ev n f x=.int k a) (hy:ev n f y=.int k' b) (hv:Go.Proofs.YtfmnjbhncnldmaaGreat.ish op k a b=some v) (hb:0≤b):Runs P n f ⟨d,.binOp op t x y t',ty,pos,aft,gd⟩ v:=by
 refine ⟨fun W=>?_⟩;have hg:=eqGuard_none (P:=P) op t x y (a:=.int k a) (b:=.int k' b) (fun c h=>by cases h) (fun h=>by cases h) W;unfold execOp;simp only [hx,hy,Sem.run_bind,hg,Result.andThen_ok,ish_run hv hb]
 rfl
theorem R.iquo (hx:ev n f x=.int k a) (hy:ev n f y=.int k b) (hv:Go.Proofs.YtfmnjbhncnldmaaGreat.iquo op k a b=some v) (hb:b≠0):Runs P n f ⟨d,.binOp op t x y t',ty,pos,aft,gd⟩ v:=by
 refine ⟨fun W=>?_⟩;have hg:=eqGuard_none (P:=P) op t x y (a:=.int k a) (b:=.int k b) (fun c h=>by cases h) (fun h=>by cases h) W;unfold execOp;simp only [hx,hy,Sem.run_bind,hg,Result.andThen_ok,iquo_run hv hb]
 rfl
theorem R.icv [hs:HasK P t k] [hd:HasK P t' k'] (hx:ev n f x=.int k a):Runs P n f ⟨d,.convert t t' x,ty,pos,aft,gd⟩ (.int k' (k'.wrap a)):=R.cvt hx hs.ok hd.ok
def iun (op:UnOp) (k:IntKind) (a:Int):Option Value:=
 match op with
 | .neg=>some (.int k (k.wrap (0 - a)))
 | .xor=>some (.int k (bitZ k (· ^^^ ·) (cond k.signed (-1) k.max) a))
 | _=>none
theorem R.iun (hx:ev n f x=.int k a) {op:UnOp} (hv:Go.Proofs.YtfmnjbhncnldmaaGreat.iun op k a=some v):Runs P n f ⟨d,.unOp op t x,ty,pos,aft,gd⟩ v:=by
 refine ⟨fun W=>?_⟩;unfold execOp
 cases op<;>simp only [Go.Proofs.YtfmnjbhncnldmaaGreat.iun,Option.some.injEq,reduceCtorEq] at hv<;>subst hv
 ·simp [hx,Op.unary,Op.intArith]
 ·cases hk:k.signed<;>simp [hx,Op.unary,Op.intBits,bitZ,hk]
def notIface:Option TypeDesc→Bool
 | some (.interface _)=>false
 | some _=>true
 | none=>false
theorem R.mki (hu:notIface (P.underlying t)=true):Runs P n f ⟨d,.makeInterface t x,ty,pos,aft,gd⟩ (.iface t (ev n f x)):=by
 refine ⟨fun W=>?_⟩;unfold execOp
 cases h:P.underlying t with
 | none=>rw [h] at hu;cases hu
 | some dd=>
  rw [h] at hu;simp only [Instr.makeInterface,Sem.run_bind,run_under h,Result.andThen_ok]
  cases dd<;>first|rfl|cases hu
theorem R.asT (hu:notIface (P.underlying t')=true) {u:Value} (hx:ev n f x=.iface t' u):Runs P n f ⟨d,.typeAssert x t t' true,ty,pos,aft,gd⟩ (.tuple #[u,.bool true]):=by
 refine ⟨fun W=>?_⟩;unfold execOp
 cases h:P.underlying t' with
 | none=>rw [h] at hu;cases hu
 | some dd=>
  rw [h] at hu;simp only [hx,Instr.typeAssert,Sem.run_bind,run_under h,Result.andThen_ok]
  cases dd<;>first|(simp;done)|cases hu
end
section
variable {P:Program} {ops:Array Oper} {Q:Exit→Act→World→Prop} {n:Nat} {f:Nat→Value} {w:World} {rest:List Oper} {d:Tmp} {ty t t':TypeId} {pos:String} {aft:Array Edge} {v u:Value} {x y:Operand} {op:BinOp} {k k':IntKind} {a b:Int}
theorem IB (h:WL P ops Q rest n (upd' f d v) w) (hx:ev n f x=.int k a:=by exact rfl) (hy:ev n f y=.int k b:=by exact rfl) (hv:Go.Proofs.YtfmnjbhncnldmaaGreat.ibo op k a b=some v:=by exact rfl):WL P ops Q (⟨some d,.binOp op t x y t',ty,pos,aft,none⟩::rest) n f w:=Z.pl (R.ibo hx hy hv) h
theorem IS (h:WL P ops Q rest n (upd' f d v) w) (hx:ev n f x=.int k a:=by exact rfl) (hy:ev n f y=.int k' b:=by exact rfl) (hv:Go.Proofs.YtfmnjbhncnldmaaGreat.ish op k a b=some v:=by exact rfl) (hb:0≤b:=by omega):WL P ops Q (⟨some d,.binOp op t x y t',ty,pos,aft,none⟩::rest) n f w:=Z.pl (R.ish hx hy hv hb) h
theorem IQ (h:WL P ops Q rest n (upd' f d v) w) (hx:ev n f x=.int k a:=by exact rfl) (hy:ev n f y=.int k b:=by exact rfl) (hv:Go.Proofs.YtfmnjbhncnldmaaGreat.iquo op k a b=some v:=by exact rfl) (hb:b≠0:=by omega):WL P ops Q (⟨some d,.binOp op t x y t',ty,pos,aft,none⟩::rest) n f w:=Z.pl (R.iquo hx hy hv hb) h
theorem IC [hs:HasK P t k] [hd:HasK P t' k'] (h:WL P ops Q rest n (upd' f d (.int k' (k'.wrap a))) w) (hx:ev n f x=.int k a:=by exact rfl):WL P ops Q (⟨some d,.convert t t' x,ty,pos,aft,none⟩::rest) n f w:=Z.pl (R.icv hx) h
theorem IU {op:UnOp} (h:WL P ops Q rest n (upd' f d v) w) (hx:ev n f x=.int k a:=by exact rfl) (hv:Go.Proofs.YtfmnjbhncnldmaaGreat.iun op k a=some v:=by exact rfl):WL P ops Q (⟨some d,.unOp op t x,ty,pos,aft,none⟩::rest) n f w:=Z.pl (R.iun hx hv) h
theorem IM (h:WL P ops Q rest n (upd' f d (.iface t (ev n f x))) w) (hu:notIface (P.underlying t)=true:=by kernel_rfl):WL P ops Q (⟨some d,.makeInterface t x,ty,pos,aft,none⟩::rest) n f w:=Z.pl (R.mki hu) h
theorem IA (h:WL P ops Q rest n (upd' f d (.tuple #[u,.bool true])) w) (hx:ev n f x=.iface t' u:=by exact rfl) (hu:notIface (P.underlying t')=true:=by kernel_rfl):WL P ops Q (⟨some d,.typeAssert x t t' true,ty,pos,aft,none⟩::rest) n f w:=Z.pl (R.asT hu hx) h
end
attribute [local irreducible] Res.blk Res.sl Res.all Res.ex Res.pure Res.star
def TpM (g:Nat) (A:Option Addr) (n c:Nat) (lo B:Int):Res:=.ex fun a:Int=>.all [.pure (0≤a∧lo≤a∧a≤B),.blk g 243 [.slice A n c,.int .i64 a]]
section
variable {r w:World} {M:List Nat} {F:List Res} {g n c:Nat} {A:Option Addr} {lo B:Int}
theorem Sep.TpM_open:Sep r M (TpM g A n c lo B::F) w↔∃ a:Int,(0≤a∧lo≤a∧a≤B)∧Sep r M (.blk g 243 [.slice A n c,.int .i64 a]::F) w:=by
 simp only [TpM,Sep.ex_open,Sep.all_open,Sep.pure_open,List.cons_append,List.nil_append]
theorem Sep.TpM_le {B':Int} (h:Sep r M (TpM g A n c lo B::F) w) (hb:B≤B'):Sep r M (TpM g A n c lo B'::F) w:=by
 obtain ⟨a,ha,hS⟩:=Sep.TpM_open.1 h;exact Sep.TpM_open.2 ⟨a,oM,hS⟩
theorem Sep.TpM_lo {lo':Int} (h:Sep r M (TpM g A n c lo B::F) w) (hb:lo'≤lo):Sep r M (TpM g A n c lo' B::F) w:=by
 obtain ⟨a,ha,hS⟩:=Sep.TpM_open.1 h;exact Sep.TpM_open.2 ⟨a,oM,hS⟩
end
def modM (v n:Int):Int:=(v.tmod n+n).tmod n
theorem modM_bd (v n:Int) (hn:1≤n):0≤modM v n∧modM v n < n:=by
 have h1:=Int.lt_tmod_of_pos v (show 0 < n by omega);have h2:=Int.tmod_lt_of_pos (v.tmod n+n) (show 0 < n by omega);have h3:=Int.tmod_nonneg n (show 0≤v.tmod n+n by omega);exact ⟨h3,h2⟩
theorem yau (v n:Int) (r:World) (F:List Res) (w:World) (hS:Sep r [] F w) (hn:1≤n) (hm:n≤4611686018427387904) :
  Calls Tryz.prog 12 #[.int .i64 v,.int .i64 n] w fun e w'=>e=.returned (.int .i64 (modM v n))∧Sep r [] F w':=by
 have h1:=Int.lt_tmod_of_pos v (show 0 < n by omega);have h2:=Int.tmod_lt_of_pos v (show 0 < n by omega);refine Z.enter Tryz.func12 Tryz.ntmps12 rfl rfl ?_;refine sQ ?_;intro w hS;refine Dnt Tryz.results12 ?_;exact ⟨rfl,hS⟩
theorem yfb (v lo hi:Int) (r:World) (F:List Res) (w:World) (hS:Sep r [] F w) (h0 : -1000000≤lo) (h1:lo≤hi) (h2:hi≤1000000000) :
  Calls Tryz.prog 7 #[.int .i64 v,.int .i64 lo,.int .i64 hi] w fun e w'=>∃ z,e=.returned (.int .i64 z)∧(lo≤z∧z≤hi)∧Sep r [] F w':=by
 have hb:=modM_bd v (hi - lo+1) oM;refine Z.enter Tryz.func7 Tryz.ntmps7 rfl rfl ?_;refine sQ ?_;intro w hS;refine cQ (yau v (hi - lo+1) _ _ _ hS oM oM) rfl ?_;clear hS;rintro e w ⟨rfl,hS⟩;refine ⟨_,rfl,?_⟩;generalize modM v (hi - lo+1)=z at *;refine sQ ?_;intro w hS;refine Dnt Tryz.results7 ?_;exact ⟨_,rfl,oM,hS⟩
theorem yfD (A:Option Addr) (n c:Nat) (r:World) (F:List Res) (w:World) (hS:Sep r [] F w) :
  Calls Tryz.prog 56 #[.slice A n c] w fun e w'=>∃ g,e=.returned (.pointer (some ⟨g,0,.none⟩))∧Sep r [] (TpM g A n c 0 0::F) w':=by
 refine Z.enter Tryz.func56 Tryz.ntmps56 rfl rfl ?_;refine aQ1 ?_;intro g w hS;refine Dnt Tryz.results56 ?_;exact ⟨_,rfl,Sep.TpM_open.2 ⟨0,oM,hS⟩⟩
theorem mnext_up {lo:Int} (g:Nat) (A:Option Addr) (l:List Int) (c:Nat) (B n:Int) (r:World) (F:List Res) (w:World) (hS:Sep r [] (TpM g A l.length c lo B::F) w) (hrd:Reads r F 1 (.slice A l.length c) (l.map ztC)) (hl:l.length≤1000) (hB:B≤1000000) (hn:1≤n) (hm:n≤1099511627776) :
  Calls Tryz.prog 57 #[.pointer (some ⟨g,0,.none⟩),.int .i64 n] w fun e w'=>∃ (z lo':Int),e=.returned (.int .i64 z)∧(0≤z∧z < n)∧(lo≤lo'∧(0 < l.length→lo+1≤lo'))∧Sep r [] (TpM g A l.length c lo' (B+1)::F) w':=by
 obtain ⟨a,ha,hS⟩:=Sep.TpM_open.1 hS;refine Z.enter Tryz.func57 Tryz.ntmps57 rfl rfl ?_
 repeat' first|refine K ?_|refine Sa ?_;intro w hS|refine K3 ?_;intro g w hS hge|refine KC ?_ ?_<;>intro hb<;>try exact JX|fail
 ·refine Dnt Tryz.results57 ?_;exact ⟨0,lo,rfl,oM,oM,Sep.TpM_open.2 ⟨a,oM,hS⟩⟩
 have hl0:0 < l.length:=by omega
 have h1:=Int.tmod_lt_of_pos a (show 0 < (l.length:Int) by omega);have h2:=Int.tmod_nonneg (l.length:Int) ha.1;obtain ⟨gb,o,hAe,_,_⟩:=(hrd [_] w hS).mat oM (q:=(a.tmod l.length).toNat) (by simpa using (by omega:(a.tmod l.length).toNat < l.length));subst hAe;have hra:∀ W,Sep r [] (.blk g 243 [.slice (some ⟨gb,o,.none⟩) l.length c,.int .i64 a]::F) W→W.rangeAt gb (o+(a.tmod l.length).toNat * 1) (ztC (l[(a.tmod l.length).toNat]'oM)):=fun W h=>by
  have h3:=(hrd [_] W h).elem (q:=(a.tmod l.length).toNat) oM (by simpa using (by omega:(a.tmod l.length).toNat < l.length))
  simpa using h3
 generalize l[(a.tmod l.length).toNat]'oM=v at *;refine D.startS hS 17 17 kR rfl ?_;replace hS:=hS.drew;refine Sh.dp 0 1 ?_;refine Sh.dp 1 3 ?_;refine Sh.dp 2 7 ?_;refine Sh.dp 4 23 ?_;refine Sh.dp 5 55 ?_;refine Sh.dp 6 119 ?_;refine Sh.dp 8 375 ?_;refine Sh.dp 9 887 ?_;refine Sh.dp 10 1911 ?_;refine Sh.dl 3 1919 ?_;refine Sh.dl 7 2047 ?_;refine Sh.dl 11 4095 ?_;refine Sh.dp 12 8191 ?_;refine D.pl 13 16383 rfl D.wantedN kR (R.iquo rfl rfl rfl oM) ?_
 first|refine D.ixn 14 32767 rfl D.wantedN kR rfl rfl rfl oM ?_|refine D.ix 14 32767 rfl D.wantedN kR rfl rfl rfl oM ?_|refine D.ia 14 32767 rfl D.wantedN kR rfl rfl rfl oM ?_
 refine D.ldR 15 65535 rfl D.wantedN kR rfl hra rfl ?_;refine Sh.dp 16 131071 ?_;refine D.dn ?_
 repeat' first|refine K ?_|refine Sa ?_;intro w hS|refine K3 ?_;intro g w hS hge|refine KC ?_ ?_<;>intro hb<;>try exact JX|fail
 refine D.startS hS 11 11 kR rfl ?_;replace hS:=hS.drew;refine Sh.dp 0 1 ?_;refine Sh.dp 1 3 ?_;refine Sh.dp 2 7 ?_;refine Sh.dp 4 23 ?_;refine Sh.dp 5 55 ?_;refine Sh.dp 6 119 ?_;refine Sh.dl 3 127 ?_;refine Sh.dl 7 255 ?_;refine Sh.dp 8 511 ?_;refine D.pl 9 1023 rfl D.wantedN kR (R.iquo rfl rfl rfl oM) ?_;refine Sh.dp 10 2047 ?_;refine D.dn ?_;refine sQ ?_;intro w hS;refine cQ (yau v 1073741824 _ _ _ hS oM oM) rfl ?_;clear hS;rintro e w ⟨rfl,hS⟩;refine eQ ?_;intro w hS;refine Z.sumW rfl ?_;refine sQ ?_;intro w hS;refine Z.sumW rfl ?_;refine sQ ?_;intro w hS;refine cQ (yau _ n _ _ _ hS oM oM) rfl ?_;clear hS;rintro e w ⟨rfl,hS⟩;refine eQ ?_;intro w hS;refine Dnt Tryz.results57 ?_;exact ⟨_,lo+1,rfl,modM_bd _ n hn,oM,Sep.TpM_open.2 ⟨a+1,oM,hS⟩⟩
theorem yab {lo:Int} (g:Nat) (A:Option Addr) (l:List Int) (c:Nat) (B n:Int) (r:World) (F:List Res) (w:World) (hS:Sep r [] (TpM g A l.length c lo B::F) w) (hrd:Reads r F 1 (.slice A l.length c) (l.map ztC)) (hl:l.length≤1000) (hB:B≤1000000) (hn:1≤n) (hm:n≤1099511627776) :
  Calls Tryz.prog 57 #[.pointer (some ⟨g,0,.none⟩),.int .i64 n] w fun e w'=>∃ z,e=.returned (.int .i64 z)∧(0≤z∧z < n)∧Sep r [] (TpM g A l.length c lo (B+1)::F) w':=
 (mnext_up g A l c B n r F w hS hrd hl hB hn hm).mono fun e w' ⟨z,lo',h1,h2,h3,h4⟩=>⟨z,h1,h2,h4.TpM_lo h3.1⟩
theorem yak {lw:Int} (g:Nat) (A:Option Addr) (l:List Int) (c:Nat) (B lo hi:Int) (r:World) (F:List Res) (w:World) (hS:Sep r [] (TpM g A l.length c lw B::F) w) (hrd:Reads r F 1 (.slice A l.length c) (l.map ztC)) (hl:l.length≤1000) (hB:B≤1000000) (h0 : -1000000≤lo) (h1:lo≤hi) (h2:hi≤1000000000) :
  Calls Tryz.prog 58 #[.pointer (some ⟨g,0,.none⟩),.int .i64 lo,.int .i64 hi] w fun e w'=>∃ z,e=.returned (.int .i64 z)∧(lo≤z∧z≤hi)∧Sep r [] (TpM g A l.length c lw (B+1)::F) w':=by
 refine Z.enter Tryz.func58 Tryz.ntmps58 rfl rfl ?_;refine sQ ?_;intro w hS;refine cQ (yab g A l c B (hi - lo+1) _ _ _ hS hrd hl hB oM oM) rfl ?_;clear hS;rintro e w ⟨z,rfl,hz,hS⟩;refine eQ ?_;intro w hS;refine Dnt Tryz.results58 ?_;exact ⟨_,rfl,oM,hS⟩
theorem yaj {lo:Int} (g:Nat) (A:Option Addr) (l:List Int) (c:Nat) (B n:Int) (r:World) (F:List Res) (w:World) (hS:Sep r [] (TpM g A l.length c lo B::F) w) (hrd:Reads r F 1 (.slice A l.length c) (l.map ztC)) (hl:l.length≤1000) (hB:B≤1000000) (hn:1≤n) (hm:n≤1099511627776) :
  Calls Tryz.prog 59 #[.pointer (some ⟨g,0,.none⟩),.int .i64 n] w fun e w'=>∃ b,e=.returned (.bool b)∧Sep r [] (TpM g A l.length c lo (B+1)::F) w':=by
 refine Z.enter Tryz.func59 Tryz.ntmps59 rfl rfl ?_;refine sQ ?_;intro w hS;refine cQ (yab g A l c B n _ _ _ hS hrd hl hB oM oM) rfl ?_;clear hS;rintro e w ⟨z,rfl,hz,hS⟩;refine eQ ?_;intro w hS;refine Dnt Tryz.results59 ?_;exact ⟨_,rfl,hS⟩
theorem yhT {lo:Int} (g:Nat) (A:Option Addr) (n c:Nat) (B:Int) (r:World) (F:List Res) (w:World) (hS:Sep r [] (TpM g A n c lo B::F) w) :
  Calls Tryz.prog 64 #[.pointer (some ⟨g,0,.none⟩)] w fun e w'=>∃ b,e=.returned (.bool b)∧((b=true∧lo < n∧Sep r [] (TpM g A n c lo n::F) w')∨(b=false∧Sep r [] (TpM g A n c lo B::F) w')):=by
 obtain ⟨a,ha,hS⟩:=Sep.TpM_open.1 hS;refine Z.enter Tryz.func64 Tryz.ntmps64 rfl rfl ?_;refine sQ ?_;intro w hS;refine D.startS hS 11 11 kR rfl ?_;replace hS:=hS.drew;refine Sh.dp 0 1 ?_;refine Sh.dp 1 3 ?_;refine Sh.dp 2 7 ?_;refine Sh.dp 4 23 ?_;refine Sh.dp 5 55 ?_;refine Sh.dp 6 119 ?_;refine Sh.dl 3 127 ?_;refine Sh.dl 7 255 ?_;refine Sh.dp 8 511 ?_;refine Sh.dp 9 1023 ?_;refine Sh.dp 10 2047 ?_;refine D.dn ?_
 repeat' first|refine K ?_|refine Sa ?_;intro w hS|refine K3 ?_;intro g w hS hge|refine KC ?_ ?_<;>intro hb<;>try exact JX|fail
 refine Dnt Tryz.results64 ?_
 by_cases h:a < n
 ·exact ⟨true,by simp [Z.packR,h],.inl ⟨rfl,oM,Sep.TpM_open.2 ⟨a,oM,hS⟩⟩⟩
 ·exact ⟨false,by simp [Z.packR,h],.inr ⟨rfl,Sep.TpM_open.2 ⟨a,oM,hS⟩⟩⟩
end Go.Proofs.YtfmnjbhncnldmaaGreat
