import Derived.BigGuardPart
import Derived.Deep.QuietTactic
import Derived.BigQuiet
import Derived.Deep.RegionHeld3
import Derived.Deep.DeepCutAuto
import Derived.Deep.Light
import Derived.Handy
import Derived.Deep.DeepFit
import Derived.Test.YtfmnjbhncnldmaaGreatRows
import Derived.Test.YtfmnjbhncnldmaaGreatW00
import Derived.Test.YtfmnjbhncnldmaaGreatW02
import Derived.Test.YtfmnjbhncnldmaaGreatW19
set_option linter.unusedSimpArgs false
set_option linter.unusedVariables false
namespace Go.Proofs.YtfmnjbhncnldmaaGreat
open Go.RowKit
attribute [local irreducible] Res.blk Res.sl Res.all Res.ex Res.pure Res.star
def qidx:List It→Int→Nat
 | [],_=>0
 | x::l,n=>if x.number=n then 0 else qidx l n+1
def qat (l:List It) (n:Int):Int:=if qidx l n < l.length then qidx l n else -1
def without (r:List Le) (n:Int):List Le:=r.filter fun x=>x.item != n
def qApp (q:Qu) (x:Ch):Qu×Int:=
 if validB x then
  if x.kind=3 then if x.seq≤q.most then (q,36) else if 16≤q.l.length then (q,33) else (⟨q.l++[⟨x.seq,x.value⟩],q.r,x.seq⟩,0)
  else if x.kind=4 then if qat q.l x.item < 0 then (q,34) else (⟨q.l.take (qat q.l x.item).toNat++q.l.drop ((qat q.l x.item).toNat+1),without q.r x.item,q.most⟩,0)
  else (q,0)
 else (q,1)
end Go.Proofs.YtfmnjbhncnldmaaGreat
namespace Go.Proofs.YtfmnjbhncnldmaaGreat
open Go.RowKit
structure Tab where
 n:Nat→Int
 r:Nat→Rep
def Rep.zero:Rep:=⟨0,0,0,⟨#[]⟩⟩
def Tab.zero:Tab:=⟨fun _=>0,fun _=>.zero⟩
def Tab.pcells (t:Tab):Array Value:=((List.range 8).flatMap fun i=>Value.int .i64 (t.n i)::(t.r i).cells).toArray
def Tab.ok (t:Tab):Prop:=∀ i,0≤t.n i∧t.n i≤1048576
def findB (t:Tab) (cl nu:Int):Rep×Int:=
 if cl < 1∨8 < cl∨nu < 1∨1048576 < nu then (.zero,1)
 else if nu=t.n (cl - 1).toNat then (t.r (cl - 1).toNat,0)
 else if nu=t.n (cl - 1).toNat+1 then (.zero,34)
 else (.zero,32)
def Rep.val (x:Rep):Value:=.agg x.cells.toArray
def upd {α:Type} (f:Nat→α) (k:Nat) (v:α):Nat→α:=fun i=>if i=k then v else f i
def repOf (x:Ch):Rep:=⟨0,x.seq,if x.kind == 3 then x.seq else x.item,⟨#[]⟩⟩
def tApp (t:Tab) (x:Ch):Tab×Int:=
 if validB x then
  if x.number=t.n (x.client - 1).toNat+1 then (⟨upd t.n (x.client - 1).toNat x.number,upd t.r (x.client - 1).toNat (repOf x)⟩,0) else (t,32)
 else (t,1)
theorem Ch.cells_at {w:World} {b:Nat} {T:TypeId} {ep sq kd cl nu it:Int} {key val:ByteArray} (hb:Blk w b T #[.int .i64 ep,.int .i64 sq,.int .i64 kd,.int .i64 cl,.int .i64 nu,.int .i64 it,.string key,.string val]) :
  w.cell? ⟨b,0,none⟩=some (.int .i64 ep)∧w.cell? ⟨b,1,none⟩=some (.int .i64 sq)∧w.cell? ⟨b,2,none⟩=some (.int .i64 kd)∧w.cell? ⟨b,3,none⟩=some (.int .i64 cl)∧
  w.cell? ⟨b,4,none⟩=some (.int .i64 nu)∧w.cell? ⟨b,5,none⟩=some (.int .i64 it)∧w.cell? ⟨b,6,none⟩=some (.string key)∧w.cell? ⟨b,7,none⟩=some (.string val):=
 ⟨hb.cell 0,hb.cell 1,hb.cell 2,hb.cell 3,hb.cell 4,hb.cell 5,hb.cell 6,hb.cell 7⟩
theorem ybq {x:Ch} (h:validB x=true):1≤x.epoch∧x.epoch≤1048576∧1≤x.seq∧x.seq≤4096∧1≤x.client∧x.client≤8∧1≤x.number∧x.number≤1048576:=by
 simp [validB,inB] at h
 omega
attribute [local irreducible] Res.blk Res.sl Res.all Res.ex Res.pure Res.star
structure Cp where
 h:List Ch
 s:List Ce
 q:Qu
 t:Tab
def Cp.zero:Cp:=⟨[],[],⟨[],[],0⟩,.zero⟩
def epochOf (h:List Ch):Int:=match h.getLast? with|some x=>x.epoch|none=>0
theorem yey {h:List Ch} (h0:0 < h.length):epochOf h=(h[h.length - 1]'oM).epoch:=by
 unfold epochOf;rw [List.getLast?_eq_getElem?,List.getElem?_eq_getElem oM]
theorem Sep.none {r w:World} {F:List Res} (h:Sep r [] F w):Sep r [] (.pure True::F) w:=Sep.pure_open.2 ⟨trivial,h⟩
def cApp (c:Cp) (x:Ch):Cp×Int:=
 if validB x then
  if x.seq=(c.h.length:Int)+1∧epochOf c.h≤x.epoch then
   if (tApp c.t x).2≠0 then (c,(tApp c.t x).2)
   else if (sApp c.s x).2≠0 then (c,(sApp c.s x).2)
   else if (qApp c.q x).2≠0 then (c,(qApp c.q x).2)
   else (⟨c.h++[x],(sApp c.s x).1,(qApp c.q x).1,(tApp c.t x).1⟩,0)
  else (c,36)
 else (c,1)
theorem cApp_ok {c:Cp} {x:Ch} (h:(cApp c x).2=0):validB x=true∧x.seq=(c.h.length:Int)+1∧epochOf c.h≤x.epoch∧(tApp c.t x).2=0∧(sApp c.s x).2=0∧(qApp c.q x).2=0∧
  (cApp c x).1=⟨c.h++[x],(sApp c.s x).1,(qApp c.q x).1,(tApp c.t x).1⟩:=by
 unfold cApp at h ⊢
 split at h
 case isFalse=>simp at h
 case isTrue h1=>
  split at h
  case isFalse=>simp at h
  case isTrue h2=>
   split at h
   case isTrue h3=>exact absurd h h3
   case isFalse h3=>
    split at h
    case isTrue h4=>exact absurd h h4
    case isFalse h4=>
     split at h
     case isTrue h5=>exact absurd h h5
     case isFalse h5=>
      rw [if_pos h1,if_pos h2,if_neg h3,if_neg h4,if_neg h5];exact ⟨h1,h2.1,h2.2,Decidable.not_not.1 h3,Decidable.not_not.1 h4,Decidable.not_not.1 h5,rfl⟩
theorem ycY {c:Cp} {x:Ch} (h:(cApp c x).2≠0):(cApp c x).1=c:=by
 unfold cApp at h ⊢
 split
 case isFalse=>rfl
 case isTrue h1=>
  split
  case isFalse=>rfl
  case isTrue h2=>
   split
   case isTrue h3=>rfl
   case isFalse h3=>
    split
    case isTrue h4=>rfl
    case isFalse h4=>
     split
     case isTrue h5=>rfl
     case isFalse h5=>
      rw [if_pos h1,if_pos h2,if_neg h3,if_neg h4,if_neg h5] at h;exact absurd rfl h
inductive Good:Cp→Prop
 | zero:Good .zero
 | app {c:Cp} {x:Ch}:Good c→(cApp c x).2=0→Good (cApp c x).1
theorem Good.step {c:Cp} (h:Good c) (x:Ch):Good (cApp c x).1∧(cApp c x).1.h.length≤c.h.length+1:=by
 by_cases hx:(cApp c x).2=0
 ·refine ⟨.app h hx,?_⟩;rw [(cApp_ok hx).2.2.2.2.2.2]
  simp
 ·rw [ycY hx];exact ⟨h,oM⟩
theorem Tab.zero_ok:Tab.zero.ok:=fun i=>by simp [Tab.zero]
theorem tApp_ok {t:Tab} {x:Ch} (h:t.ok):(tApp t x).1.ok:=by
 unfold tApp
 split
 case isFalse=>exact h
 case isTrue hv=>
  split
  case isFalse=>exact h
  case isTrue hn=>
   intro i;have hb:=ybq hv;have hi:=h i;simp only [upd]
   split<;>omega
theorem sApp_len {l:List Ce} {x:Ch} (h:l.length≤32):(sApp l x).1.length≤32:=by
 unfold sApp
 split
 case isFalse=>exact h
 case isTrue=>
  split
  case isTrue=>
   split
   case isTrue=>simpa using h
   case isFalse=>
    split
    case isTrue=>exact h
    case isFalse=>simp only [List.length_append,List.length_take,List.length_drop,List.length_cons,List.length_nil];omega
  case isFalse=>
   split
   case isFalse=>exact h
   case isTrue=>
    split
    case isFalse=>exact h
    case isTrue=>simp only [List.length_append,List.length_take,List.length_drop];omega
theorem qApp_len {q:Qu} {x:Ch} (h:q.l.length≤16) (hr:q.r=[]):(qApp q x).1.l.length≤16∧(qApp q x).1.r=[]:=by
 unfold qApp
 split
 case isFalse=>exact ⟨h,hr⟩
 case isTrue=>
  split
  case isTrue=>
   split
   case isTrue=>exact ⟨h,hr⟩
   case isFalse=>
    split
    case isTrue=>exact ⟨h,hr⟩
    case isFalse=>exact ⟨by simp only [List.length_append,List.length_cons,List.length_nil];omega,hr⟩
  case isFalse=>
   split
   case isFalse=>exact ⟨h,hr⟩
   case isTrue=>
    split
    case isTrue=>exact ⟨h,hr⟩
    case isFalse=>exact ⟨by simp only [List.length_append,List.length_take,List.length_drop];omega,by rw [hr];rfl⟩
theorem Good.ok {c:Cp} (h:Good c):c.t.ok∧c.s.length≤32∧c.q.l.length≤16∧c.q.r=[]:=by
 induction h with
 | zero=>exact ⟨Tab.zero_ok,by simp [Cp.zero],by simp [Cp.zero],rfl⟩
 | app hc hx ih=>
  rw [(cApp_ok hx).2.2.2.2.2.2];exact ⟨tApp_ok ih.1,sApp_len ih.2.1,qApp_len ih.2.2.1 ih.2.2.2⟩
end Go.Proofs.YtfmnjbhncnldmaaGreat
