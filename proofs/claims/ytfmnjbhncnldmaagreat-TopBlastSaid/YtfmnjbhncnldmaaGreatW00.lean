import Derived.WalkKit
import Derived.WalkSpells
import Derived.WalkLawsBesides
import Derived.Lib.Hide
import Derived.Deep.RegionHeld3
import Derived.Laws.AppendOwnNone
import Derived.Test.YtfmnjbhncnldmaaGreatRows
import Derived.Orders
import Derived.OrdersHeld
import Derived.RegionTactic
import Derived.Deep.MidRow
import Derived.LoopN
import Derived.Laws.OwnMore
set_option linter.unusedSimpArgs false
set_option linter.unusedVariables false
namespace Go.Proofs.YtfmnjbhncnldmaaGreat
open Go.RowKit
theorem kR {p:Prop} (h:p:=by kernel_rfl):p:=h
theorem oM {p:Prop} (h:p:=by omega):p:=h
def Blk (w:World) (g:Nat) (t:TypeId) (cs:Array Value):Prop:=w.heap[g]?=some (.cells cs t (0,0))
structure Chg (S:List Nat) (w w':World):Prop where
 os:w'.os=w.os
 tape:w'.tape=w.tape
 output:w'.output=w.output
 size:w.heap.size≤w'.heap.size
 block:∀ k,k < w.heap.size→k∉S→w'.heap[k]?=w.heap[k]?
section
variable {S S':List Nat} {a b c w w':World} {g g' h k:Nat} {t t':TypeId} {cs ds:Array Value}
theorem Chg.refl (S:List Nat) (w:World):Chg S w w:=⟨rfl,rfl,rfl,Nat.le_refl _,fun _ _ _=>rfl⟩
theorem Chg.trans (h:Chg S a b) (k:Chg S b c):Chg S a c:=
 ⟨k.os.trans h.os,k.tape.trans h.tape,k.output.trans h.output,Nat.le_trans h.size k.size,
  fun i hi hn=>(k.block i (Nat.lt_of_lt_of_le hi h.size) hn).trans (h.block i hi hn)⟩
theorem Chg.mono (h:Chg S a b) (hs:∀ x,x∈S→x∈S'):Chg S' a b:=
 ⟨h.os,h.tape,h.output,h.size,fun i hi hn=>h.block i hi (fun hx=>hn (hs i hx))⟩
theorem Chg.ext (h:Chg [] a b):Chg S a b:=h.mono (by simp)
theorem Chg.trans_new (h:Chg S a b) (k:Chg S' b c) (hs:∀ x,x∈S'→x∈S∨a.heap.size≤x):Chg S a c:=
 ⟨k.os.trans h.os,k.tape.trans h.tape,k.output.trans h.output,Nat.le_trans h.size k.size,
  fun i hi hn=>(k.block i (Nat.lt_of_lt_of_le hi h.size) (fun hx=>by
   rcases hs i hx with h1|h1
   ·exact hn h1
   ·omega)).trans (h.block i hi hn)⟩
theorem Chg.below (h:Chg [] a b):Below a.heap.size a b:=⟨h.os,h.tape,h.output,h.size,fun i hi=>h.block i hi (by simp)⟩
theorem Chg.of_below (h:Below a.heap.size a b):Chg S a b:=⟨h.os,h.tape,h.output,h.size,fun i hi _=>h.block i hi⟩
theorem Chg.of_grown {row:Option Nat} (h:a.grownBy b row) (hr:∀ x,row=some x→x∈S):Chg S a b:=
 ⟨h.os,h.tape,h.output,h.size,fun i hi hn=>h.block i hi (fun e=>hn (hr i e.symm))⟩
theorem Chg.drew (h:Chg S a w):Chg S a w.drew:=⟨h.os,h.tape,h.output,h.size,h.block⟩
theorem Chg.drewN (h:Chg S a w) (n:Nat):Chg S a (w.drewN n):=⟨h.os,h.tape,h.output,h.size,h.block⟩
theorem Chg.alloc (h:Chg S a w) (o:Obj):Chg S a (w.alloc o):=
 h.trans ⟨rfl,rfl,rfl,by simp,fun i hi _=>Below.heap_alloc w o i hi⟩
theorem Chg.setCell (h:Chg S a w) {p:Addr} (hp:p.block∈S∨a.heap.size≤p.block) (u:Value):Chg S a (w.setCell p u):=
 ⟨h.os,h.tape,h.output,by simpa [World.setCell] using h.size,fun i hi hn=>(Below.heap_setCell w p u i (by
  rintro rfl
  rcases hp with hp|hp
  ·exact hn hp
  ·omega)).trans (h.block i hi hn)⟩
theorem Chg.cell (h:Chg S w w') {p:Addr} (hp:p.block < w.heap.size) (hn:p.block∉S):w'.cell? p=w.cell? p:=
 World.cell?_of_block (h.block p.block hp hn)
theorem Chg.cellv (h:Chg S w w') {p:Addr} {v:Value} (hc:w.cell? p=some v) (hn:p.block∉S):w'.cell? p=some v:=
 (h.cell (World.block_lt_of_cell? w p hc) hn).trans hc
theorem Blk.lt (h:Blk w g t cs):g < w.heap.size:=by
 rcases Nat.lt_or_ge g w.heap.size with hlt|hge
 ·exact hlt
 ·unfold Blk at h;rw [Array.getElem?_eq_none hge] at h;cases h
theorem Blk.cell (h:Blk w g t cs) (i:Nat):w.cell? ⟨g,i,none⟩=cs[i]?:=cell_of_row w g i cs t (0,0) h
theorem Blk.cellv (h:Blk w g t cs) {i:Nat} {v:Value} (hv:cs[i]?=some v):w.cell? ⟨g,i,none⟩=some v:=(h.cell i).trans hv
theorem Blk.frozen (h:Blk w g t cs) (i:Nat):w.frozen? ⟨g,i,none⟩=false:=by
 unfold Blk at h
 simp [World.frozen?,h]
theorem Blk.new (w:World) (t:TypeId) (cs:Array Value):Blk (w.alloc (.cells cs t)) w.heap.size t cs:=heap_alloc_new w _
theorem Blk.new' {g:Nat} (w:World) (t:TypeId) (cs:Array Value) (hg:g=w.heap.size):Blk (w.alloc (.cells cs t)) g t cs:=by subst hg;exact heap_alloc_new w _
theorem Blk.drew (h:Blk w g t cs):Blk w.drew g t cs:=h
theorem Blk.drewN (h:Blk w g t cs) (n:Nat):Blk (w.drewN n) g t cs:=h
theorem Blk.alloc (h:Blk w g t cs) (o:Obj):Blk (w.alloc o) g t cs:=(Below.heap_alloc w o g h.lt).trans h
theorem Blk.set (h:Blk w g t cs) (i:Nat) (u:Value):Blk (w.setCell ⟨g,i,none⟩ u) g t (cs.setIfInBounds i u):=by
 unfold Blk at h ⊢
 simp [World.setCell,Array.getElem?_modify,h]
theorem Blk.chg (h:Blk w g t cs) (hc:Chg S w w') (hg:g∉S):Blk w' g t cs:=(hc.block g h.lt hg).trans h
theorem Blk.ext (h:Blk w g t cs) (hc:Chg [] w w'):Blk w' g t cs:=h.chg hc (by simp)
end
def Rd (w:World) (sz:Nat) (A:Option Addr) (n:Nat) (xs:List Value):Prop:=
 xs.length=n * sz∧(0 < n→∃ ad,A=some ad∧∀ j u,xs[j]?=some u→w.cell? (ad.add j)=some u)
theorem ycy (a:Addr) (n:Nat):(a.add n).block=a.block:=by unfold Addr.add;split<;>rfl
theorem add_add' (a:Addr) (i j:Nat):(a.add i).add j=a.add (i+j):=by
 unfold Addr.add
 by_cases hi:i=0<;>by_cases hj:j=0<;>simp [hi,hj,Nat.add_assoc]
theorem yap (g o i:Nat):(⟨g,o,none⟩:Addr).add i=⟨g,o+i,none⟩:=by
 unfold Addr.add
 by_cases hi:i=0<;>simp [hi]
section
variable {w w':World} {sz n:Nat} {A:Option Addr} {xs:List Value} {S:List Nat}
theorem Rd.zero (w:World) (sz:Nat) (A:Option Addr):Rd w sz A 0 []:=⟨by simp,fun h=>absurd h oM⟩
end
def Own (w:World) (base:Nat) (e:TypeId) (sz:Nat) (A:Option Addr) (n c:Nat) (xs:List Value):Prop:=
 (n=0∧c=0∧xs=[])∨w.ownsRow base e sz (.slice A n c) n xs
section
variable {P:Program} {ops:Array Oper} {o:Oper} {a:Act} {w w0:World} {K:Act→World→Prop} {Q:Exit→Act→World→Prop} {E:Prop} {S:List Nat}
theorem yhb (t ty e:TypeId) (i:TypeInfo) (z:Value) (sz bytes:Nat) (ht:P.underlying t=some (.slice e)) (hi:P.info? e=some i) (hz:i.zero=some z)
  (hsize:i.size=sz) (hby:i.bytes=bytes) (hzs:z.cells.size=sz) (base:Nat) (hbase:base≤w.heap.size)
  (B A:Option Addr) (m c:Nat) (ys:List Value) (hnil:A=none→c=0) (hr:Rd w sz A m ys) (h63:m≤maxLen) (hb:m * bytes≤140737488355328) :
  ∃ A' c' w1,(Builtin.append_ #[t,t] ty #[.slice B 0 0,.slice A m c]).run P w=.ok (.slice A' m c') w1∧Own w1 base e sz A' m c' ys∧(B≠none→A'≠none)∧Chg [] w w1∧(A'=none→c'=0):=by
 by_cases hm:m=0
 ·subst hm;have hy:ys=[]:=List.eq_nil_of_length_eq_zero (by simpa using hr.1);subst hy;refine ⟨B,0,w,?_,.inl ⟨rfl,rfl,rfl⟩,id,Chg.refl _ _,fun _=>rfl⟩
  cases B<;>cases A<;>simp [Builtin.append_,run_underlying ht,sizeOf,typeInfo,hi,Builtin.lenOf,Builtin.firstCells,loadCells,loadCellsFrom,storeCells]
 ·obtain ⟨ad,rfl,hcell⟩:=hr.2 oM;subst hsize;subst hby
  have h63':m≤9223372036854775807:=by simp only [maxLen] at h63;omega
  have hge:=grownCap_ge w m 0 e;have hcm:grownCap w m 0 e≤maxLen:=grownCap_le_maxLen w m 0 e h63;have hfit:Builtin.nextslicecap (0+m) 0 * i.bytes≤281474976710656:=growslice_fits oM (by simpa using hb);have hrun:(Builtin.append_ #[t,t] ty #[.slice B 0 0,.slice (some ad) m c]).run P w=.ok (.slice (some ⟨w.heap.size,0,none⟩) m (grownCap w m 0 e)) (w.drew.alloc (.cells (ys.toArray++Builtin.zeroCells z.cells (grownCap w m 0 e - m)) e)):=by
   cases B with
   | none=>
    have h:=run_append_nil (P:=P) w t ty e i z ht hi hz ad m c ys hr.1 hcell oM oM oM
    simpa using h
   | some b=>
    have h:=run_append_grow (P:=P) w t ty e i z ht hi hz b 0 0 [] (by simp) (by simp) ad m c ys hr.1 hcell oM oM hfit
    simpa using h
  refine ⟨_,_,_,hrun,.inr ⟨hr.1,.inr ⟨w.heap.size,_,_,rfl,hbase,heap_alloc_new w.drew _,hge,hcm,?_,?_⟩⟩,fun _=>by simp,((Chg.refl [] w).drew).alloc _,fun h=>by cases h⟩
  ·simp only [Array.size_append,List.size_toArray,size_zeroCells,hzs,hr.1,← Nat.add_mul]
   congr 1
   omega
  ·simp only [Array.toList_append];rw [← hr.1];exact List.take_left
end
theorem ret_bool {a b:Bool} (h:a=b):Ending.returned (.bool a)=.returned (.bool b):=by rw [h]
structure Ch where
 epoch:Int
 seq:Int
 kind:Int
 client:Int
 number:Int
 item:Int
 key:ByteArray
 value:ByteArray
def Ch.cells (x:Ch):List Value:=[.int .i64 x.epoch,.int .i64 x.seq,.int .i64 x.kind,.int .i64 x.client,.int .i64 x.number,.int .i64 x.item,.string x.key,.string x.value]
def Ch.val (x:Ch):Value:=.agg x.cells.toArray
structure Rep where
 err:Int
 seq:Int
 item:Int
 value:ByteArray
def Rep.cells (x:Rep):List Value:=[.int .i64 x.err,.int .i64 x.seq,.int .i64 x.item,.string x.value]
structure Ce where
 key:ByteArray
 value:ByteArray
 seq:Int
structure It where
 number:Int
 value:ByteArray
def It.cells (x:It):List Value:=[.int .i64 x.number,.string x.value]
structure Le where
 item:Int
 client:Int
 epoch:Int
 until_:Int
def Le.cells (x:Le):List Value:=[.int .i64 x.item,.int .i64 x.client,.int .i64 x.epoch,.int .i64 x.until_]
structure Qu where
 l:List It
 r:List Le
 most:Int
def Held (S:World→Prop) (L:Nat) (listed:Array Bool) (w:World):Prop:=listed.getD L false=true∨S w
def RG (P:Program) (ops:Array Oper) (Q:Exit→Act→World→Prop) (S:World→Prop) (L:Nat):Nat→Array Bool→Act→World→Prop
 | 0,listed,a,w=>Region.ready .any ops listed=[]∧Q .normal a w
 | fuel+1,listed,a,w=>
  (Region.ready .any ops listed=[]→Q .normal a w)∧
  ∀ i∈Region.ready .any ops listed,wpOp P ops Q i (fun a' w'=>Held S L (listed.setIfInBounds i true) w'∧RG P ops Q S L fuel (listed.setIfInBounds i true) a' w') a w
section
variable {P:Program} {ops:Array Oper} {Q:Exit→Act→World→Prop} {S:World→Prop} {L:Nat}
theorem RG.any:∀ (fuel:Nat) (listed:Array Bool) (a:Act) (w:World),RG P ops Q S L fuel listed a w→wpAny P .any ops Q fuel listed a w
 | 0,_,_,_,h=>h
 | fuel+1,_,_,_,h=>⟨h.1,fun i hi=>wpOp_mono (fun a' w' h'=>RG.any fuel _ a' w' h'.2) (h.2 i hi)⟩
def waitsFor (ops:Array Oper) (L i:Nat):Bool:=match ops[L]? with|some o=>o.after.any fun e=>Region.binds .any e && e.on == i|none=>true
theorem Held.set {listed:Array Bool} {w:World} (h:Held S L listed w) (i:Nat):Held S L (listed.setIfInBounds i true) w:=by
 rcases h with h|h
 ·left
  exact getD_set_true h
 ·exact .inr h
theorem Held.unset {listed:Array Bool} {w:World} {i:Nat} (h:Held S L (listed.setIfInBounds i true) w) (hi:i≠L):Held S L listed w:=by
 rcases h with h|h
 ·rw [getD_set_ne false hi] at h;exact .inl h
 ·exact .inr h
theorem RG.first {i:Nat} {oi:Oper} {v:Value} (hi:ops[i]?=some oi) (hsel:∀ (j:Nat) (o:Oper) cs b,ops[j]?=some o→o.op≠.select cs b)
  (hQ:∀ c a w,Q (.panic c) (a.put oi.dst v) w→Q (.panic c) a w) (hLi:i≠L) (T:World→Prop) (hT:(∀ w,T w)∨((∀ w,S w→T w)∧waitsFor ops L i=true)) :
  ∀ (fuel:Nat) (listed:Array Bool) (a:Act) (w:World),
   (∀ j oj,ops[j]?=some oj→j≠i→listed.getD j true=false→(∀ e∈oj.after,Region.binds .any e=true→e.on≠i)→oi.apart ops oj=true)→
   i∈Region.ready .any ops listed→YieldsIf P ops T oi v a→T w→((∀ w,T w)∨listed.getD L false=false)→Held S L listed w→
   RG P ops Q S L fuel (listed.setIfInBounds i true) (a.put oi.dst v) w→RG P ops Q S L (fuel+1) listed a w:=by
 intro fuel
 induction fuel with
 | zero=>
  intro listed a w _ hr hy hTw _ hH H;refine ⟨fun h=>(by rw [h] at hr;cases hr),fun j hj=>?_⟩
  by_cases hji:j=i
  ·subst hji;exact hy.wpOp hi hTw ⟨hH.set j,H⟩
  ·have hm:=ready_mono hj hji;rw [H.1] at hm
   cases hm
 | succ fuel ih=>
  intro listed a w hfree hr hy hTw hLun hH H;refine ⟨fun h=>(by rw [h] at hr;cases hr),fun j hj=>?_⟩
  by_cases hji:j=i
  ·subst hji;exact hy.wpOp hi hTw ⟨hH.set j,H⟩
  ·have h1:=H.2 j (ready_mono hj hji);obtain ⟨hjun,oj,hoj,hall⟩:=mem_ready.1 hj;have hiun:listed.getD i false=true→False:=fun h1=>by
    have h0:=(mem_ready.1 hr).1
    rcases Nat.lt_or_ge i listed.size with h'|h'
    ·simp [h'] at h0 h1
     rw [h0] at h1
     cases h1
    ·simp [Array.getElem?_eq_none h'] at h1
   have hnot:∀ e∈oj.after,Region.binds .any e=true→e.on≠i:=fun e he hb heq=>hiun (heq ▸ hall e he hb)
   have h2:=wpOp_putIf hoj (hfree j oj hoj hji hjun hnot) (fun cs b=>hsel i oi cs b hi) (fun cs b=>hsel j oj cs b hoj) hQ hy h1;have hstill:i∈Region.ready .any ops (listed.setIfInBounds j true):=ready_mono hr (Ne.symm hji);refine wpOp_mono (fun a' w' h3=>?_) h2;obtain ⟨hy',hH',hrest⟩:=h3;have hH2:Held S L (listed.setIfInBounds j true) w':=by
    rw [Array.setIfInBounds_comm _ _ (Ne.symm hji)] at hH';exact hH'.unset hLi
   have hjL:(∀ w,T w)∨j≠L:=by
    rcases hT with hT|⟨_,hw⟩
    ·exact .inl hT
    ·refine .inr fun hjL=>?_
     subst hjL;unfold waitsFor at hw;rw [hoj] at hw;obtain ⟨e,he,hb⟩:=Array.any_eq_true'.1 hw;simp only [Bool.and_eq_true,beq_iff_eq] at hb;exact hnot e he hb.1 hb.2
   have hLun2:(∀ w,T w)∨(listed.setIfInBounds j true).getD L false=false:=by
    rcases hLun with h|h
    ·exact .inl h
    ·rcases hjL with h'|h'
     ·exact .inl h'
     ·exact .inr (by rw [getD_set_ne false h'];exact h)
   have hT2:T w':=by
    rcases hLun2 with h|h
    ·exact h w'
    ·rcases hH2 with h'|h'
     ·rw [h] at h';cases h'
     ·rcases hT with hT|⟨hT,_⟩
      ·exact hT w'
      ·exact hT w' h'
   refine ⟨hH2,ih (listed.setIfInBounds j true) a' w' ?_ hstill hy' hT2 hLun2 hH2 ?_⟩
   ·intro k ok hk hki hun hno;refine hfree k ok hk hki ?_ hno
    by_cases hjk:j=k
    ·subst hjk;exact hjun
    ·rw [getD_set_ne true hjk] at hun;exact hun
   ·rw [Array.setIfInBounds_comm _ _ hji];exact hrest
def canTake (ops:Array Oper) (listed:Array Bool) (L i:Nat):Bool:=Region.noSelect ops && Region.free .any ops listed i && (Region.ready .any ops listed).contains i && (i != L)
def canLoad (ops:Array Oper) (listed:Array Bool) (L i:Nat):Bool:=canTake ops listed L i && waitsFor ops L i && !(listed.getD L false)
variable {fuel:Nat} {listed:Array Bool} {a:Act} {w:World}
theorem RG.take (i:Nat) {oi:Oper} {v:Value} (hi:ops[i]?=some oi) (hc:canTake ops listed L i=true) (hw:Region.wanted oi (yielded ops a.tmps)=true)
  (hH:Held S L listed w) (hy:∀ W,(execOp a.eval oi).run P W=.ok (.value v) W)
  (h:Held S L (listed.setIfInBounds i true) w→RG P ops (NoPanic Q) S L fuel (listed.setIfInBounds i true) (a.put oi.dst v) w):RG P ops (NoPanic Q) S L (fuel+1) listed a w:=by
 simp only [canTake,Bool.and_eq_true,bne_iff_ne] at hc;obtain ⟨⟨⟨hs,hf⟩,hr⟩,hne⟩:=hc;exact RG.first hi (Region.noSelect_spec hs) (fun _ _ _ h=>h) hne (fun _=>True) (.inl fun _=>trivial) fuel listed a w (Region.free_spec hi hf) (by simpa using hr)
  (.inl ⟨hw,fun W _=>hy W⟩) trivial (.inl fun _=>trivial) hH (h (hH.set i))
theorem RG.load (i:Nat) {oi:Oper} {v:Value} (hi:ops[i]?=some oi) (hc:canLoad ops listed L i=true) (hw:Region.wanted oi (yielded ops a.tmps)=true)
  (hH:Held S L listed w) (hy:∀ W,S W→(execOp a.eval oi).run P W=.ok (.value v) W)
  (h:Held S L (listed.setIfInBounds i true) w→RG P ops (NoPanic Q) S L fuel (listed.setIfInBounds i true) (a.put oi.dst v) w):RG P ops (NoPanic Q) S L (fuel+1) listed a w:=by
 simp only [canLoad,canTake,Bool.and_eq_true,bne_iff_ne,Bool.not_eq_true'] at hc;obtain ⟨⟨⟨⟨⟨hs,hf⟩,hr⟩,hne⟩,hwf⟩,hun⟩:=hc;have hS:S w:=by
  rcases hH with h'|h'
  ·rw [hun] at h';cases h'
  ·exact h'
 exact RG.first hi (Region.noSelect_spec hs) (fun _ _ _ h=>h) hne S (.inr ⟨fun _ h=>h,hwf⟩) fuel listed a w (Region.free_spec hi hf) (by simpa using hr)
  (.inl ⟨hw,hy⟩) hS (.inr hun) hH (h (hH.set i))
theorem RG.done (hr:Region.ready .any ops listed=[]) (h:Q .normal a w):∀ fuel,RG P ops (NoPanic Q) S L fuel listed a w
 | 0=>⟨hr,h⟩
 | _+1=>⟨fun _=>h,by rw [hr];simp⟩
def Each (P:Program) (ops:Array Oper) (Q:Exit→Act→World→Prop) (S:World→Prop) (L fuel:Nat) (listed:Array Bool) (a:Act) (w:World) (rs:List Nat):Prop:=
 ∀ i∈rs,wpOp P ops Q i (fun a' w'=>Held S L (listed.setIfInBounds i true) w'∧RG P ops Q S L fuel (listed.setIfInBounds i true) a' w') a w
theorem Each.nil:Each P ops Q S L fuel listed a w []:=fun _ h=>by cases h
theorem Each.consW {i:Nat} {o:Oper} {rs:List Nat} (ho:ops[i]?=some o) (hw:Region.wanted o (yielded ops a.tmps)=true)
  (h:∀ K:Act→World→Prop,Hid (∀ a w,Held S L (listed.setIfInBounds i true) w→(Held S L (listed.setIfInBounds i true) w→RG P ops Q S L fuel (listed.setIfInBounds i true) a w)→K a w)→o.wp P a w K Q)
  (hs:Each P ops Q S L fuel listed a w rs):Each P ops Q S L fuel listed a w (i::rs):=fun j hj=>by
 rcases List.mem_cons.1 hj with rfl|hj
 ·refine wpOp_step ho fun K' hK=>?_
  rw [if_pos hw];exact h K' (fun a w hS hW=>hK a w ⟨hS,hW hS⟩)
 ·exact hs j hj
theorem RG.each (rs:List Nat) (hr:Region.ready .any ops listed=rs) (hne:rs≠[]) (h:Each P ops Q S L fuel listed a w rs):RG P ops Q S L (fuel+1) listed a w:=
 ⟨fun h0=>absurd (hr ▸ h0) hne,hr ▸ h⟩
theorem RG.region (S:World→Prop) (L:Nat) {id:Nat} (hm:P.follows .mixedOrders=true) (hS:S w.drew)
  (h:Held S L (Array.replicate ops.size false) w.drew→RG P ops (NoPanic Q) S L ops.size (Array.replicate ops.size false) a w.drew):(Code.region id ops true).wp P Q a w:=
 wp_region_noPanic (wp_region_any hm (RG.any _ _ _ _ (h (.inr hS))))
def listedOf (n m:Nat):Array Bool:=(Array.range n).map m.testBit
def RM (P:Program) (ops:Array Oper) (Q:Exit→Act→World→Prop) (S:World→Prop) (L k m:Nat) (a:Act) (w:World):Prop:=
 RG P ops (NoPanic Q) S L k (listedOf ops.size m) a w
def HM (ops:Array Oper) (S:World→Prop) (L m:Nat) (w:World):Prop:=Held S L (listedOf ops.size m) w
theorem yaB {n m i:Nat} (hi:i < n):(listedOf n m).setIfInBounds i true=listedOf n (m ||| 2 ^ i):=by
 apply Array.ext
 ·simp [listedOf]
 ·intro j h1 h2;simp only [listedOf,Array.size_map,Array.size_range,Array.size_setIfInBounds] at h1;simp only [listedOf,Array.getElem_setIfInBounds,Array.getElem_map,Array.getElem_range,Nat.testBit_or,Nat.testBit_two_pow]
  by_cases hij:i=j
  ·subst hij
   simp
  ·rw [Array.getElem_setIfInBounds_ne (by simpa using h1) hij]
   simp [hij]
theorem ycS (n:Nat):listedOf n 0=Array.replicate n false:=by
 apply Array.ext
 ·simp [listedOf]
 ·intro j h1 h2
  simp [listedOf]
def okTake (ops:Array Oper) (L m m' i:Nat):Bool:=(i < ops.size) && (m' == (m ||| 2 ^ i)) && canTake ops (listedOf ops.size m) L i
def okLoad (ops:Array Oper) (L m m' i:Nat):Bool:=(i < ops.size) && (m' == (m ||| 2 ^ i)) && canLoad ops (listedOf ops.size m) L i
def okStep (ops:Array Oper) (m m' i:Nat):Bool:=(i < ops.size) && (m' == (m ||| 2 ^ i))
theorem RM.done {k m:Nat} (hr:Region.ready .any ops (listedOf ops.size m)=[]) (h:Q .normal a w):RM P ops Q S L k m a w:=RG.done hr h k
def EM (P:Program) (ops:Array Oper) (Q:Exit→Act→World→Prop) (S:World→Prop) (L k m:Nat) (a:Act) (w:World) (rs:List Nat):Prop:=
 Each P ops (NoPanic Q) S L k (listedOf ops.size m) a w rs
theorem EM.nil {k m:Nat}:EM P ops Q S L k m a w []:=Each.nil
theorem EM.consW (i m':Nat) {k m:Nat} {o:Oper} {rs:List Nat} (ho:ops[i]?=some o) (hc:okStep ops m m' i=true) (hw:Region.wanted o (yielded ops a.tmps)=true)
  (h:∀ K:Act→World→Prop,Hid (∀ a w,HM ops S L m' w→(HM ops S L m' w→RM P ops Q S L k m' a w)→K a w)→o.wp P a w K (NoPanic Q))
  (hs:EM P ops Q S L k m a w rs):EM P ops Q S L k m a w (i::rs):=by
 simp only [okStep,Bool.and_eq_true,decide_eq_true_eq,beq_iff_eq] at hc;obtain ⟨hlt,rfl⟩:=hc;unfold EM RM HM at *;rw [← yaB hlt] at h;exact Each.consW ho hw h hs
theorem RM.each {k m:Nat} (rs:List Nat) (hr:Region.ready .any ops (listedOf ops.size m)=rs) (hne:rs≠[]) (h:EM P ops Q S L k m a w rs):RM P ops Q S L (k+1) m a w:=
 RG.each rs hr hne h
theorem HM.s {m:Nat} (hS:S w):HM ops S L m w:=.inr hS
theorem HM.last {m:Nat} (h:(listedOf ops.size m).getD L false=true):HM ops S L m w:=.inl h
theorem RM.region (S:World→Prop) (L n:Nat) {id:Nat} (hm:P.follows .mixedOrders=true) (hn:ops.size=n) (hS:S w.drew)
  (h:HM ops S L 0 w.drew→RM P ops Q S L n 0 a w.drew):(Code.region id ops true).wp P Q a w:=by
 refine RG.region S L hm hS ?_;unfold RM HM at h;rw [ycS,← hn] at h;exact h
end
theorem chg_setCells (b:Nat):∀ (vs:List Value) (o:Nat) (w:World),Chg [b] w (w.setCells b o vs)
 | [],_,w=>Chg.refl _ _
 | v::r,o,w=>((Chg.refl [b] w).setCell (.inl (by simp)) v).trans (chg_setCells b r (o+1) _)
theorem yaA {b:Nat} {t:TypeId}:∀ (vs:List Value) (o:Nat) (w:World) (cs:Array Value),Blk w b t cs→o+vs.length≤cs.size→
  Blk (w.setCells b o vs) b t (cs.toList.take o++vs++cs.toList.drop (o+vs.length)).toArray
 | [],o,w,cs,h,_=>by simpa [World.setCells] using h
 | v::r,o,w,cs,h,hl=>by
  simp only [List.length_cons] at hl;have ih:=yaA r (o+1) (w.setCell ⟨b,o,none⟩ v) _ (h.set o v) (by simp;omega);have e:((cs.setIfInBounds o v).toList.take (o+1)++r++(cs.setIfInBounds o v).toList.drop (o+1+r.length))=cs.toList.take o++(v::r)++cs.toList.drop (o+(v::r).length):=by
   have ho:o < cs.toList.length:=by simp;omega
   rw [Array.toList_setIfInBounds,List.take_succ_eq_append_getElem (by simpa using ho),List.take_set_of_le (Nat.le_refl _),List.getElem_set_self,List.drop_set_of_lt oM]
   simp [Nat.add_comm,Nat.add_left_comm]
  rw [e] at ih;exact ih
theorem ybG {b:Nat} {t:TypeId} {w:World} {cs:Array Value} (h:Blk w b t cs) {vs:Array Value} (hl:vs.size=cs.size):Blk (w.setCells b 0 vs.toList) b t vs:=by
 have:=yaA vs.toList 0 w cs h (by simp;omega);rw [List.drop_eq_nil_of_le (by simp;omega)] at this
 simpa using this
section
variable {P:Program} {o:Oper} {a:Act} {w:World} {K:Act→World→Prop} {Q:Exit→Act→World→Prop}
theorem yja (ty:TypeId) (x:Operand) (ho:o.op=.load ty x) (g:Nat) (hx:a.eval x=.pointer (some ⟨g,0,none⟩)) (t:TypeId) (cs:Array Value) (d:TypeDesc) (hb:Blk w g t cs)
  (hu:P.underlying ty=some d) (hd:(match d with|.struct _|.array _ _=>true|_=>false)=true) (hi:(P.info? ty).map (·.size)=some cs.size):(execOp a.eval o).run P w=.ok (.value (.agg cs)) w:=by
 unfold execOp;simp only [ho,hx,Instr.loadAt,Instr.sureAddr,Sem.run_bind,Sem.run_pure,Result.andThen_ok,run_loadVar_row w g t ty cs (0,0) d hb hu hd hi]
end
def upd' (f:Nat→Value) (d:Nat) (v:Value):Nat→Value:=fun s=>cond (Nat.beq s d) v (f s)
def putf (f:Nat→Value):Option Tmp→Value→(Nat→Value)
 | some d,v=>upd' f d v
 | none,_=>f
def fr (n:Nat) (f:Nat→Value):Array Value:=(Array.range n).map f
abbrev act (n:Nat) (f:Nat→Value):Act:=⟨fr n f,[]⟩
def ev (n:Nat) (f:Nat→Value):Operand→Value
 | .tmp t=>cond (Nat.blt t n) (f t) undef
 | .const v=>v
 | .global g=>.pointer (some ⟨g,0,none⟩)
 | .func f=>.func (.func f) #[] #[]
theorem yc6 {n t:Nat} {f:Nat→Value} (h:t < n):(fr n f)[t]?=some (f t):=by simp [fr,h]
theorem ycl (n t:Nat) (f:Nat→Value):(fr n f).getD t undef=cond (Nat.blt t n) (f t) undef:=by
 by_cases h:t < n
 ·simp [fr,h,Array.getD,show Nat.blt t n=true by simpa [Nat.blt_eq] using h]
 ·have:Nat.blt t n=false:=by
   cases hb:Nat.blt t n
   ·rfl
   ·exact absurd (by simpa [Nat.blt_eq] using hb) h
  simp [fr,h,Array.getD,this]
theorem act_eval (n:Nat) (f:Nat→Value) (x:Operand):(act n f).eval x=ev n f x:=by
 cases x with
 | tmp t=>exact ycl n t f
 | _=>rfl
theorem act_eval' (n:Nat) (f:Nat→Value):(act n f).eval=ev n f:=funext (act_eval n f)
theorem yac (n:Nat) (f:Nat→Value) (d:Option Tmp) (v:Value):(act n f).put d v=act n (putf f d v):=by
 cases d with
 | none=>rfl
 | some d=>
  simp only [Act.put,act,putf]
  congr 1
  apply Array.ext
  ·simp [fr]
  ·intro i h1 h2;simp only [fr,Array.size_setIfInBounds,Array.size_map,Array.size_range] at h1;simp only [fr,Array.getElem_setIfInBounds,Array.getElem_map,Array.getElem_range,upd']
   by_cases hi:d=i
   ·subst hi
    simp
   ·rw [Array.getElem_setIfInBounds_ne (by simpa using h1) hi];have:Nat.beq i d=false:=by
     cases hb:Nat.beq i d
     ·rfl
     ·exact absurd (Nat.eq_of_beq_eq_true hb).symm hi
    simp [this]
def hdv:Value→Value
 | .bool b=>.bool b
 | .int k n=>.int k n
 | .float k n=>.float k n
 | .complex k n m=>.complex k n m
 | .string s=>.string s
 | .pointer a=>.pointer a
 | .slice a n c=>.slice a n c
 | .map r=>.map r
 | .chan r=>.chan r
 | .func f a b=>.func f a b
 | .nilFunc=>.nilFunc
 | .iface t v=>.iface t v
 | .nilIface=>.nilIface
 | .agg c=>.agg c
 | .tuple c=>.tuple c
theorem yc9 (v:Value):hdv v=v:=by cases v<;>rfl
def someV:Value→Option Value
 | .bool b=>some (.bool b)
 | .int k n=>some (.int k n)
 | .float k n=>some (.float k n)
 | .complex k n m=>some (.complex k n m)
 | .string s=>some (.string s)
 | .pointer a=>some (.pointer a)
 | .slice a n c=>some (.slice a n c)
 | .map r=>some (.map r)
 | .chan r=>some (.chan r)
 | .func f a b=>some (.func f a b)
 | .nilFunc=>some .nilFunc
 | .iface t v=>some (.iface t v)
 | .nilIface=>some .nilIface
 | .agg c=>some (.agg c)
 | .tuple c=>some (.tuple c)
theorem yay (v:Value):someV v=some v:=by cases v<;>rfl
def bindV:Option Value→Option Value
 | some v=>someV v
 | none=>none
theorem bindV_eq (v:Option Value):bindV v=v:=by cases v<;>simp [bindV,yay]
inductive TK where
 | other|bool|int|str|ptr|fn
 | sl (e sz:Nat)
 | ar (n e sz:Nat)
 | st (fs:List (Nat×Nat×Bool))
structure Ty where
 k:TK
 size:Nat
def isAggD:Option TypeDesc→Bool
 | some (.struct _)|some (.array _ _)=>true
 | _=>false
def sizeB (P:Program) (t n:Nat):Bool:=match P.info? t with|some i=>i.size == n|none=>false
def okFields (P:Program):List Field→List (Nat×Nat×Bool)→Bool
 | [],[]=>true
 | f::fs,(o,n,a)::l=>f.offset == o && sizeB P f.type n && n != 0 && (isAggD (P.underlying f.type) == a) && (P.underlying f.type).isSome && okFields P fs l
 | _,_=>false
def okTy (P:Program) (t:Nat) (y:Ty):Bool:=
 match y.k,P.underlying t with
 | .other,_=>true
 | .bool,some .bool=>sizeB P t y.size
 | .int,some (.int _)=>sizeB P t y.size
 | .str,some .string=>sizeB P t y.size
 | .ptr,some (.pointer _)=>sizeB P t y.size
 | .fn,some (.func _ _ _)=>sizeB P t y.size
 | .fn,some (.map _ _)=>sizeB P t y.size
 | .fn,some (.interface _)=>sizeB P t y.size
 | .sl e sz,some (.slice e')=>sizeB P t y.size && e == e' && sizeB P e sz
 | .ar n e sz,some (.array n' e')=>sizeB P t y.size && n == n' && e == e' && sizeB P e sz
 | .st fs,some (.struct l)=>sizeB P t y.size && okFields P l.toList fs
 | _,_=>false
def TabOk (P:Program) (tt:List Ty):Prop:=∀ t y,tt[t]?=some y→okTy P t y=true
def tabOkB (P:Program):List Ty→Nat→Bool
 | [],_=>true
 | y::l,t=>okTy P t y && tabOkB P l (t+1)
theorem ydz {P:Program}:∀ (l:List Ty) (k:Nat),tabOkB P l k=true→∀ t y,l[t]?=some y→okTy P (k+t) y=true
 | [],_,_,_,_,h=>by simp at h
 | y::l,k,h,t,z,hz=>by
  simp only [tabOkB,Bool.and_eq_true] at h
  cases t with
  | zero=>simp at hz;subst hz;exact h.1
  | succ t=>have:=ydz l (k+1) h.2 t z (by simpa using hz);rw [Nat.add_comm t 1,← Nat.add_assoc];exact this
theorem tabOk_of {P:Program} {tt:List Ty} (h:tabOkB P tt 0=true):TabOk P tt:=fun t y hy=>by simpa using ydz tt 0 h t y hy
def kindOf (tt:List Ty) (t:Nat):TK:=match tt[t]? with|some y=>y.k|none=>.other
def cmpI (op:BinOp) (a b:Int):Option Value:=
 match op with
 | .eql=>some (.bool (decide (a=b)))
 | .neq=>some (.bool (!decide (a=b)))
 | .lss=>some (.bool (decide (a < b)))
 | .leq=>some (.bool (decide (a≤b)))
 | .gtr=>some (.bool (decide (b < a)))
 | .geq=>some (.bool (decide (b≤a)))
 | _=>none
def pureOp (tt:List Ty) (n:Nat) (f:Nat→Value) (o:Op):Option Value:=
 match o with
 | .move x=>someV (ev n f x)
 | .assign x=>someV (ev n f x)
 | .pick c a b=>match ev n f c with|.bool true=>someV (ev n f a)|.bool false=>someV (ev n f b)|_=>none
 | .nilCheck x=>match ev n f x with|.pointer (some a)=>some (.pointer (some a))|_=>none
 | .fieldAddr T x i=>
  match ev n f x,kindOf tt T with
  | .pointer (some ⟨g,o,none⟩),.st fs=>match fs[i]? with|some (off,_,_)=>some (.pointer (some ⟨g,o+off,none⟩))|none=>none
  | _,_=>none
 | .field T x i=>
  match ev n f x,kindOf tt T with
  | .agg cs,.st fs=>match fs[i]? with|some (off,sz,ag)=>cond ag (some (.agg (cs.extract off (off+sz)))) (bindV cs.toList[off]?)|none=>none
  | _,_=>none
 | .unOp .not _ x=>match ev n f x with|.bool b=>some (.bool (!b))|_=>none
 | .binOp op T x y _=>
  match ev n f x,ev n f y with
  | .int .i64 a,.int .i64 b=>cmpI op a b
  | .int .u8 a,.int .u8 b=>cmpI op a b
  | .string a,.string b=>match op with|.eql=>some (.bool (decide (a=b)))|.neq=>some (.bool (!decide (a=b)))|.lss=>some (.bool (Op.bytesLess a.toList b.toList))|_=>none
  | .bool a,.bool b=>match op,kindOf tt T with|.eql,.bool=>some (.bool (a == b))|.neq,.bool=>some (.bool (!(a == b)))|_,_=>none
  | .pointer (some _),.pointer none=>match op,kindOf tt T with|.eql,.ptr=>some (.bool false)|.neq,.ptr=>some (.bool true)|_,_=>none
  | .pointer none,.pointer none=>match op,kindOf tt T with|.eql,.ptr=>some (.bool true)|.neq,.ptr=>some (.bool false)|_,_=>none
  | .slice a _ _,.slice none _ _=>match op,kindOf tt T with|.eql,.sl _ _=>some (.bool a.isNone)|.neq,.sl _ _=>some (.bool (!a.isNone))|_,_=>none
  | _,_=>none
 | .extract x i=>match ev n f x with|.tuple vs=>bindV vs.toList[i]?|_=>none
 | .call ⟨.builtin .len,ags,ts⟩=>
  match ags.toList,ts.toList with
  | [x],[t]=>match ev n f x,kindOf tt t with|.slice _ k _,.sl _ _=>some (.int .i64 k)|.string s,.str=>some (.int .i64 s.size)|_,_=>none
  | _,_=>none
 | _=>none
section
variable {P:Program} {tt:List Ty} {n:Nat} {f:Nat→Value} {o:Oper} {v:Value}
theorem yat (ht:TabOk P tt) (t:Nat):∃ z,okTy P t ⟨kindOf tt t,z⟩=true:=by
 unfold kindOf
 cases h:tt[t]? with
 | none=>exact ⟨0,rfl⟩
 | some y=>exact ⟨y.size,ht t y h⟩
theorem yaW {P:Program}:∀ {l:List Field} {fs:List (Nat×Nat×Bool)},okFields P l fs=true→∀ {i:Nat} {q:Nat×Nat×Bool},fs[i]?=some q→
  ∃ x,l[i]?=some x∧x.offset=q.1∧sizeB P x.type q.2.1=true∧q.2.1≠0∧isAggD (P.underlying x.type)=q.2.2∧(P.underlying x.type).isSome=true
 | [],[],_,_,_,hq=>by simp at hq
 | [],_::_,h,_,_,_=>by simp [okFields] at h
 | _::_,[],h,_,_,_=>by simp [okFields] at h
 | x::l,(o,n,a)::fs,h,i,q,hq=>by
  simp only [okFields,Bool.and_eq_true,beq_iff_eq,bne_iff_ne] at h;obtain ⟨⟨⟨⟨⟨h1,h2⟩,h3⟩,h4⟩,h5⟩,h6⟩:=h
  cases i with
  | zero=>simp at hq;subst hq;exact ⟨x,rfl,h1,h2,h3,h4,h5⟩
  | succ i=>exact yaW h6 (i:=i) (by simpa using hq)
theorem run_under {t:Nat} {d:TypeDesc} (h:P.underlying t=some d) (w:World):(underlying t).run P w=.ok d w:=run_underlying h w
theorem run_size {t m:Nat} (h:sizeB P t m=true) (w:World):(sizeOf t).run P w=.ok m w:=by
 unfold sizeB at h
 cases hi:P.info? t with
 | none=>simp [hi] at h
 | some i=>simp [hi] at h;simp [sizeOf,typeInfo,hi,h]
theorem ygp (a b:ByteArray):(a.toList == b.toList)=decide (a=b):=by
 by_cases h:a=b
 ·subst h;simp
 ·have:a.toList≠b.toList:=fun e=>h (by
   rw [ByteArray.toList_eq,ByteArray.toList_eq] at e
   cases a;cases b
   simp only [ByteArray.mk.injEq];exact Array.toList_inj.1 e)
  simp [h,this]
theorem cmpI_ok {op:BinOp} {k:IntKind} {a b:Int} (h:cmpI op a b=some v) (T:TypeId) (w:World):(binOp op T (.int k a) (.int k b)).run P w=.ok v w:=by
 cases op<;>simp only [cmpI,Option.some.injEq,reduceCtorEq] at h<;>subst h<;>simp [binOp,Op.intCmp,bne,BEq.beq]
theorem eqGuard_none (op:BinOp) (T:TypeId) (x y:Operand) {a b:Value} (h:∀ c,a≠.agg c) (h':a≠.nilIface) (w:World):(eqGuard op T x y a b).run P w=.ok () w:=by
 cases op<;>cases a<;>first|rfl|exact absurd rfl (h _)|exact absurd rfl h'
theorem equal_step (T:TypeId) (a b:Value) {d:TypeDesc} (hu:P.underlying T=some d) {c:Bool} (w:World)
  (h:(match d,a,b with
   | .bool,.bool a,.bool b=>some (a == b)
   | .pointer _,.pointer none,.pointer b=>some b.isNone
   | .pointer _,.pointer (some _),.pointer none=>some false
   | .slice _,.slice none _ _,.slice b _ _=>some b.isNone
   | .slice _,.slice (some _) _ _,.slice none _ _=>some false
   | _,_,_=>none)=some c):(Op.equal T a b).run P w=.ok c w:=by
 unfold Op.equal;rw [show Op.maxDepth=9999+1 from rfl];unfold Op.equalIn;simp only [Sem.run_bind,run_under hu,Result.andThen_ok]
 split at h<;>simp only [Option.some.injEq,reduceCtorEq] at h<;>subst h<;>rfl
theorem yhG (T:TypeId) (a b:Value) (c:Bool) (w:World) (hab:∀ k i,a≠.int k i) (hf:∀ k i,a≠.float k i) (hc:∀ k i j,a≠.complex k i j) (hs:∀ s,a≠.string s) (h:(Op.equal T a b).run P w=.ok c w) :
  (binOp .eql T a b).run P w=.ok (.bool c) w∧(binOp .neq T a b).run P w=.ok (.bool (!c)) w:=by
 cases a<;>first|exact absurd rfl (hab _ _)|exact absurd rfl (hf _ _)|exact absurd rfl (hc _ _ _)|exact absurd rfl (hs _)|(constructor<;>simp only [binOp,Sem.run_bind,h,Result.andThen_ok]<;>rfl)
def plainV:Value→Bool
 | .int _ _|.float _ _|.complex _ _ _|.string _|.agg _|.nilIface=>false
 | _=>true
theorem eq_exec {x y:Operand} {a b:Value} {c:Bool} (hx:ev n f x=a) (hy:ev n f y=b) (hp:plainV a=true) (T:TypeId) (w:World) (h:(Op.equal T a b).run P w=.ok c w) (dst:Option Tmp) (yt type:TypeId) (pos:String) (after:Array Edge) (guard:Option (Nat×Bool)) :
  (execOp (ev n f) ⟨dst,.binOp .eql T x y yt,type,pos,after,guard⟩).run P w=.ok (.value (.bool c)) w∧(execOp (ev n f) ⟨dst,.binOp .neq T x y yt,type,pos,after,guard⟩).run P w=.ok (.value (.bool (!c))) w:=by
 have he:=yhG T a b c w (fun _ _ e=>by subst e;cases hp) (fun _ _ e=>by subst e;cases hp) (fun _ _ _ e=>by subst e;cases hp) (fun _ e=>by subst e;cases hp) h;have hg:∀ op w,(eqGuard op T x y a b).run P w=.ok () w:=fun op w=>eqGuard_none op T x y (fun c e=>by subst e;cases hp) (fun e=>by subst e;cases hp) w
 unfold execOp;simp only [hx,hy,Sem.run_bind,hg,Result.andThen_ok,he.1,he.2];exact ⟨rfl,rfl⟩
theorem ycH (ht:TabOk P tt) (h:pureOp tt n f o.op=some v) (w:World):(execOp (ev n f) o).run P w=.ok (.value v) w:=by
 obtain ⟨dst,op,type,pos,after,guard⟩:=o;simp only at h;unfold pureOp at h;unfold execOp
 split at h
 ·rw [yay] at h;simp only [Option.some.injEq] at h;subst h;simp
 ·rw [yay] at h;simp only [Option.some.injEq] at h;subst h;simp
 ·split at h
  ·rename_i hc;rw [yay] at h;simp only [Option.some.injEq] at h;subst h;simp [hc,asBool]
  ·rename_i hc;rw [yay] at h;simp only [Option.some.injEq] at h;subst h;simp [hc,asBool]
  ·cases h
 ·split at h
  ·rename_i hc;simp only [Option.some.injEq] at h;subst h;simp [hc]
  ·cases h
 ·rename_i T x i;obtain ⟨z,hz⟩:=yat ht T
  split at h
  ·rename_i g off fs hx hk;rw [hk] at hz
   cases hf:fs[i]? with
   | none=>simp [hf] at h
   | some q=>
    simp only [hf,Option.some.injEq] at h;subst h;unfold okTy at hz
    cases hu:P.underlying T with
    | none=>simp [hu] at hz
    | some d=>
     cases d<;>simp [hu] at hz
     rename_i l;obtain ⟨y,hy,ho,hs,hn,_,_⟩:=yaW hz.2 hf;simp only [Array.getElem?_toList] at hy
     simp [hx,Instr.fieldAt,Instr.sureAddr,run_under hu,hy,fieldPlace,run_size hs,hn,ho,yap]
  ·cases h
 ·rename_i T x i;obtain ⟨z,hz⟩:=yat ht T
  split at h
  ·rename_i cs fs hx hk;rw [hk] at hz
   cases hf:fs[i]? with
   | none=>simp [hf] at h
   | some q=>
    obtain ⟨q1,q2,q3⟩:=q;simp only [hf] at h;unfold okTy at hz
    cases hu:P.underlying T with
    | none=>simp [hu] at hz
    | some d=>
     cases d<;>simp [hu] at hz
     rename_i l;obtain ⟨y,hy,ho,hs,hn,ha,hsome⟩:=yaW hz.2 hf;simp only [Array.getElem?_toList] at hy;simp only at ho hs hn ha;obtain ⟨d',hd'⟩:=Option.isSome_iff_exists.1 hsome;have hag:(isAgg y.type).run P w=.ok q3 w:=by
      rw [hd'] at ha;subst ha;unfold isAgg;simp only [Sem.run_bind,run_under hd',Result.andThen_ok]
      cases d'<;>rfl
     cases q3 with
     | true=>
      simp at h
      subst h
      simp [hx,Instr.field,asAgg,run_under hu,hy,part,hag,run_size hs,ho]
     | false=>
      simp only [cond_false,bindV_eq,Array.getElem?_toList] at h
      cases hc:cs[q1]? with
      | none=>simp [hc] at h
      | some u=>
       simp [hc] at h
       subst h
       simp [hx,Instr.field,asAgg,run_under hu,hy,part,hag,ho,hc]
  ·cases h
 ·split at h
  ·rename_i hc;simp only [Option.some.injEq] at h;subst h;simp [hc,Op.unary]
  ·cases h
 ·rename_i op T x y yt;obtain ⟨z,hz⟩:=yat ht T
  split at h
  ·rename_i a b hx hy
   simp [hx,hy,eqGuard_none,cmpI_ok h]
  ·rename_i a b hx hy
   simp [hx,hy,eqGuard_none,cmpI_ok h]
  ·rename_i a b hx hy
   split at h<;>simp only [Option.some.injEq,reduceCtorEq] at h<;>subst h<;>simp [hx,hy,eqGuard_none,binOp,Op.stringOp,ygp]
  ·rename_i a b hx hy
   split at h<;>simp only [Option.some.injEq,reduceCtorEq] at h<;>subst h
   all_goals
    rename_i hk;rw [hk] at hz;unfold okTy at hz
    cases hu:P.underlying T with
    | none=>simp [hu] at hz
    | some d=>
     cases d<;>simp [hu] at hz
     have he:=eq_exec hx hy rfl T w (equal_step (P:=P) T _ _ hu w rfl) dst yt type pos after guard
     first|exact he.1|exact he.2
  ·rename_i a b hx hy
   split at h<;>simp only [Option.some.injEq,reduceCtorEq] at h<;>subst h
   all_goals
    rename_i hk;rw [hk] at hz;unfold okTy at hz
    cases hu:P.underlying T with
    | none=>simp [hu] at hz
    | some d=>
     cases d<;>simp [hu] at hz
     have he:=eq_exec hx hy rfl T w (equal_step (P:=P) T _ _ hu w rfl) dst yt type pos after guard
     first|exact he.1|exact he.2
  ·rename_i hx hy
   split at h<;>simp only [Option.some.injEq,reduceCtorEq] at h<;>subst h
   all_goals
    rename_i hk;rw [hk] at hz;unfold okTy at hz
    cases hu:P.underlying T with
    | none=>simp [hu] at hz
    | some d=>
     cases d<;>simp [hu] at hz
     have he:=eq_exec hx hy rfl T w (equal_step (P:=P) T _ _ hu w rfl) dst yt type pos after guard
     first|exact he.1|exact he.2
  ·rename_i a _ _ _ _ hx hy
   split at h<;>simp only [Option.some.injEq,reduceCtorEq] at h<;>subst h
   all_goals
    rename_i hk;rw [hk] at hz;unfold okTy at hz
    cases hu:P.underlying T with
    | none=>simp [hu] at hz
    | some d=>
     cases d<;>simp [hu] at hz
     cases a
     all_goals
      have he:=eq_exec hx hy rfl T w (equal_step (P:=P) T _ _ hu w rfl) dst yt type pos after guard
      first|exact he.1|exact he.2
  ·cases h
 ·rename_i x i
  split at h
  ·rename_i vs hx;simp only [bindV_eq,Array.getElem?_toList] at h
   cases hc:vs[i]? with
   | none=>simp [hc] at h
   | some u=>simp [hc] at h;subst h;simp [hx,Instr.extract,hc]
  ·cases h
 ·rename_i ags ts
  split at h
  ·rename_i x t ha hb;obtain ⟨z,hz⟩:=yat ht t;have ha':ags=#[x]:=by rw [← Array.toList_inj];simpa using ha
   have hb':ts=#[t]:=by rw [← Array.toList_inj];simpa using hb
   subst ha';subst hb'
   split at h<;>simp only [Option.some.injEq,reduceCtorEq] at h<;>subst h
   all_goals
    rename_i hx hk;rw [hk] at hz;unfold okTy at hz
    cases hu:P.underlying t with
    | none=>simp [hu] at hz
    | some d=>
     cases d<;>simp [hu] at hz
     simp [resolve,invoke,builtin,Builtin.len_,hx,run_under hu,goInt]
  ·cases h
 ·cases h
end
structure Res where
 holds:World→List Nat→Prop
 loc:∀ {w w':World} {fp:List Nat},holds w fp→(∀ b,b∈fp→w'.heap[b]?=w.heap[b]?)→holds w' fp
def Res.blk (g:Nat) (T:TypeId) (cs:List Value):Res where
 holds w fp:=fp=[g]∧Blk w g T cs.toArray
 loc:=fun h hb=>⟨h.1,by have:=hb g (by rw [h.1];simp);unfold Blk;rw [this];exact h.2⟩
def Res.star (A B:Res):Res where
 holds w fp:=∃ f1 f2,fp=f1++f2∧A.holds w f1∧B.holds w f2
 loc:=fun ⟨f1,f2,e,h1,h2⟩ hb=>⟨f1,f2,e,A.loc h1 (fun b hx=>hb b (by rw [e];simp [hx])),B.loc h2 (fun b hx=>hb b (by rw [e];simp [hx]))⟩
def Res.ex {α:Type} (R:α→Res):Res where
 holds w fp:=∃ x,(R x).holds w fp
 loc:=fun ⟨x,h⟩ hb=>⟨x,(R x).loc h hb⟩
def Res.pure (p:Prop):Res where
 holds _ fp:=fp=[]∧p
 loc:=fun h _=>h
def holdsL:List Res→World→List Nat→Prop
 | [],_,fp=>fp=[]
 | R::L,w,fp=>∃ f1 f2,fp=f1++f2∧R.holds w f1∧holdsL L w f2
theorem holdsL_loc:∀ {L:List Res} {w w':World} {fp:List Nat},holdsL L w fp→(∀ b,b∈fp→w'.heap[b]?=w.heap[b]?)→holdsL L w' fp
 | [],_,_,_,h,_=>h
 | R::L,_,_,_,⟨f1,f2,e,h1,h2⟩,hb=>⟨f1,f2,e,R.loc h1 (fun b hx=>hb b (by rw [e];simp [hx])),holdsL_loc h2 (fun b hx=>hb b (by rw [e];simp [hx]))⟩
def Res.all (Ls:List Res):Res where
 holds w fp:=holdsL Ls w fp
 loc:=fun h hb=>holdsL_loc h hb
structure Sep (r:World) (M:List Nat) (L:List Res) (w:World):Prop where
 chg:Chg M r w
 ex:∃ fp,holdsL L w fp∧fp.Nodup∧(∀ b,b∈fp→b < w.heap.size)∧∀ b,b∈fp→b∈M∨r.heap.size≤b
inductive At:List Res→List Res→Res→Prop
 | here {R:Res} {L:List Res}:At (R::L) L R
 | next {R R':Res} {L k:List Res}:At L k R→At (R'::L) (R'::k) R
theorem AtF {R:Res} {L k:List Res} (h:At L k R:=by repeat (first|exact At.here|apply At.next)):At L k R:=h
theorem LnF {p:Prop} (h:p:=by (try simp only [maxLen,List.length_take,List.length_drop,List.length_append,List.length_cons,List.length_nil,List.length_map]);omega):p:=h
theorem HRf {p:Prop} (h:p:=by first|exact hrd.app [_,_]|exact hrd.app [_,_,_]|exact hrd.app [_,_,_,_]|exact hrd.app [_,_,_,_,_]|exact hrd.app [_,_,_,_,_,_]|exact hrd.app [_,_,_,_,_,_,_]|exact hrd.app [_,_,_,_,_,_,_,_]|exact hrd.app [_,_,_,_,_,_,_,_,_]|exact hrd.cons _):p:=h
theorem TrF {p:Prop} (h:p:=by repeat (first|exact trivial|refine ⟨rfl,?_⟩)):p:=h
theorem yaM {R:Res}:∀ {L k:List Res},At L k R→∀ {w:World} {fp:List Nat},holdsL L w fp→∃ f1 f2,R.holds w f1∧holdsL k w f2∧fp.Perm (f1++f2)
 | _,_,.here,_,_,⟨f1,f2,e,h1,h2⟩=>⟨f1,f2,h1,h2,e ▸ List.Perm.refl _⟩
 | _,_,.next h,_,_,⟨f1,f2,e,h1,h2⟩=>by
  obtain ⟨g1,g2,k1,k2,hp⟩:=yaM h h2;refine ⟨g1,f1++g2,k1,⟨f1,g2,rfl,h1,k2⟩,?_⟩;rw [e];exact (List.Perm.append_left f1 hp).trans (by rw [← List.append_assoc,← List.append_assoc];exact List.Perm.append_right g2 List.perm_append_comm)
section
variable {r w w':World} {M:List Nat} {L L':List Res} {R R':Res} {k:List Res} {g:Nat} {T:TypeId} {cs:List Value}
theorem Sep.focus (h:Sep r M L w) (ha:At L k R):Sep r M (R::k) w:=by
 obtain ⟨fp,h1,h2,h3,h4⟩:=h.ex;obtain ⟨f1,f2,k1,k2,hp⟩:=yaM ha h1;exact ⟨h.chg,f1++f2,⟨f1,f2,rfl,k1,k2⟩,hp.nodup_iff.1 h2,fun b hb=>h3 b (hp.mem_iff.2 hb),fun b hb=>h4 b (hp.mem_iff.2 hb)⟩
theorem Sep.tail (h:Sep r M (R::L) w):Sep r M L w:=by
 obtain ⟨fp,⟨f1,f2,rfl,_,k2⟩,h2,h3,h4⟩:=h.ex;exact ⟨h.chg,f2,k2,(List.nodup_append.1 h2).2.1,fun b hb=>h3 b (by simp [hb]),fun b hb=>h4 b (by simp [hb])⟩
inductive Sub:List Res→List Res→Prop
 | rest {L:List Res}:Sub L L
 | nil {L:List Res}:Sub L []
 | keep {L L2:List Res} {R:Res}:Sub L L2→Sub (R::L) (R::L2)
 | cons {L L2 k:List Res} {R:Res}:At L k R→Sub k L2→Sub L (R::L2)
 | skip {L L2:List Res} {R:Res}:Sub L L2→Sub (R::L) L2
theorem SuF {L L2:List Res} (h:Sub L L2:=by repeat (first|exact Sub.rest|exact Sub.nil|exact .skip .rest|exact .skip (.skip .rest)|exact .skip (.skip (.skip .rest))|apply Sub.keep|refine Sub.cons (by repeat (first|exact At.here|apply At.next)) ?_|apply Sub.skip)):Sub L L2:=h
theorem Sep.sub_aux:∀ {L L':List Res},Sub L L'→∀ {w:World} {fp:List Nat},holdsL L w fp→∃ fp' rest,holdsL L' w fp'∧fp.Perm (fp'++rest)
 | _,_,.rest,_,fp,h=>⟨fp,[],h,by simp⟩
 | _,_,.nil,_,fp,_=>⟨[],fp,rfl,by simp⟩
 | _,_,.cons ha hs,_,fp,h=>by
  obtain ⟨f1,f2,k1,k2,hp⟩:=yaM ha h;obtain ⟨g1,g2,m1,mp⟩:=Sep.sub_aux hs k2;refine ⟨f1++g1,g2,⟨f1,g1,rfl,k1,m1⟩,hp.trans ?_⟩;rw [List.append_assoc];exact List.Perm.append_left f1 mp
 | _,_,.keep hs,_,fp,⟨f1,f2,e,h1,h2⟩=>by
  obtain ⟨g1,g2,m1,mp⟩:=Sep.sub_aux hs h2;refine ⟨f1++g1,g2,⟨f1,g1,rfl,h1,m1⟩,?_⟩;rw [e,List.append_assoc];exact List.Perm.append_left f1 mp
 | _,_,.skip hs,_,fp,⟨f1,f2,e,_,h2⟩=>by
  obtain ⟨g1,g2,m1,mp⟩:=Sep.sub_aux hs h2;refine ⟨g1,f1++g2,m1,?_⟩;rw [e];exact (List.Perm.append_left f1 mp).trans (by rw [← List.append_assoc,← List.append_assoc];exact List.Perm.append_right g2 List.perm_append_comm)
theorem Sep.sub (h:Sep r M L w) (hs:Sub L L'):Sep r M L' w:=by
 obtain ⟨fp,h1,h2,h3,h4⟩:=h.ex;obtain ⟨f1,f2,k1,hp⟩:=Sep.sub_aux hs h1;exact ⟨h.chg,f1,k1,(List.nodup_append.1 (hp.nodup_iff.1 h2)).1,fun b hb=>h3 b (hp.mem_iff.2 (by simp [hb])),fun b hb=>h4 b (hp.mem_iff.2 (by simp [hb]))⟩
theorem Sep.upd (h:Sep r M (R::L) w) (hu:∀ f1,R.holds w f1→Chg f1 w w'∧∃ f2,R'.holds w' f2∧f2.Nodup∧∀ b,b∈f2→b < w'.heap.size∧(b∈f1∨w.heap.size≤b)):Sep r M (R'::L) w':=by
 obtain ⟨fp,⟨f1,f2,rfl,k1,k2⟩,h2,h3,h4⟩:=h.ex;obtain ⟨hc,f3,k3,n3,s3⟩:=hu f1 k1;obtain ⟨n1,n2,n12⟩:=List.nodup_append.1 h2;have hM:∀ b,b∈f1→b∈M∨r.heap.size≤b:=fun b hb=>h4 b (by simp [hb])
 refine ⟨h.chg.trans_new hc hM,f3++f2,⟨f3,f2,rfl,k3,holdsL_loc k2 fun b hb=>hc.block b (h3 b (by simp [hb])) fun hx=>n12 b hx b hb rfl⟩,?_,?_,?_⟩
 ·refine List.nodup_append.2 ⟨n3,n2,?_⟩;rintro b hb c hc' rfl
  rcases (s3 b hb).2 with h5|h5
  ·exact n12 b h5 b hc' rfl
  ·have:=h3 b (by simp [hc']);omega
 ·intro b hb
  rcases List.mem_append.1 hb with hb|hb
  ·exact (s3 b hb).1
  ·have:=h3 b (by simp [hb]);have:=hc.size;omega
 ·intro b hb
  rcases List.mem_append.1 hb with hb|hb
  ·rcases (s3 b hb).2 with h5|h5
   ·exact hM b h5
   ·right;have:=h.chg.size;omega
  ·exact h4 b (by simp [hb])
theorem Sep.add (h:Sep r M L w) (hc:Chg [] w w') {f2:List Nat} (hR:R'.holds w' f2) (hn:f2.Nodup) (hs:∀ b,b∈f2→b < w'.heap.size∧w.heap.size≤b):Sep r M (R'::L) w':=by
 have h':Sep r M (Res.pure True::L) w:=by
  obtain ⟨fp,k2,h2,h3,h4⟩:=h.ex;exact ⟨h.chg,fp,⟨[],fp,rfl,⟨rfl,trivial⟩,k2⟩,h2,h3,h4⟩
 refine h'.upd (fun f1 hf=>?_);obtain ⟨rfl,_⟩:=hf;exact ⟨hc,f2,hR,hn,fun b hb=>⟨(hs b hb).1,.inr (hs b hb).2⟩⟩
theorem Sep.ext (h:Sep r M L w) (hc:Chg [] w w'):Sep r M L w':=
 (h.add (R':=Res.pure True) (f2:=[]) hc ⟨rfl,trivial⟩ (by simp) (by simp)).tail
theorem Sep.blk (h:Sep r M L w) (ha:At L k (.blk g T cs)):Blk w g T cs.toArray:=by
 obtain ⟨fp,⟨f1,f2,rfl,k1,k2⟩,h2,h3,h4⟩:=(h.focus ha).ex;exact k1.2
theorem Sep.drew (h:Sep r M L w):Sep r M L w.drew:=h.ext (Chg.refl _ _).drew
theorem Sep.drewN (h:Sep r M L w) (n:Nat):Sep r M L (w.drewN n):=h.ext ((Chg.refl _ _).drewN n)
theorem Sep.box (h:Sep r M L w) (T:TypeId) (cs:List Value):Sep r M (.blk w.heap.size T cs::L) (w.alloc (.cells cs.toArray T)):=
 h.add (f2:=[w.heap.size]) ((Chg.refl _ _).alloc _) ⟨rfl,Blk.new _ _ _⟩ (by simp) (by simp)
theorem Sep.put (h:Sep r M L w) (ha:At L k (.blk g T cs)) {cs':List Value} (hc:Chg [g] w w') (hb:Blk w' g T cs'.toArray):Sep r M (.blk g T cs'::k) w':=by
 refine (h.focus ha).upd (fun f1 hf=>?_);obtain ⟨rfl,_⟩:=hf;exact ⟨hc,[g],⟨rfl,hb⟩,by simp,fun b hb'=>by simp at hb';subst hb';exact ⟨hb.lt,.inl (by simp)⟩⟩
theorem Sep.root (w:World):Sep w [] [] w:=⟨Chg.refl _ _,[],rfl,by simp,by simp,by simp⟩
theorem yip:∀ {A B:List Res} {w:World} {fp:List Nat},holdsL (A++B) w fp↔∃ f1 f2,fp=f1++f2∧holdsL A w f1∧holdsL B w f2
 | [],B,w,fp=>⟨fun h=>⟨[],fp,rfl,rfl,h⟩,fun ⟨f1,f2,e,h1,h2⟩=>by simp only [holdsL] at h1;subst h1;simpa [e] using h2⟩
 | R::A,B,w,fp=>by
  constructor
  ·rintro ⟨g1,g2,rfl,h1,h2⟩;obtain ⟨f1,f2,rfl,h3,h4⟩:=yip.1 h2;exact ⟨g1++f1,f2,by simp,⟨g1,f1,rfl,h1,h3⟩,h4⟩
  ·rintro ⟨_,f2,rfl,⟨g1,f1,rfl,h1,h3⟩,h4⟩;exact ⟨g1,f1++f2,by simp,h1,yip.2 ⟨f1,f2,rfl,h3,h4⟩⟩
theorem Sep.all_open {Ls:List Res}:Sep r M (.all Ls::L) w↔Sep r M (Ls++L) w:=by
 constructor
 ·rintro ⟨hc,fp,⟨f1,f2,rfl,h1,h2⟩,hr⟩;exact ⟨hc,_,yip.2 ⟨f1,f2,rfl,h1,h2⟩,hr⟩
 ·rintro ⟨hc,fp,h,hr⟩;obtain ⟨f1,f2,rfl,h1,h2⟩:=yip.1 h;exact ⟨hc,_,⟨f1,f2,rfl,h1,h2⟩,hr⟩
theorem Sep.ex_open {α:Type} {R:α→Res}:Sep r M (.ex R::L) w↔∃ x,Sep r M (R x::L) w:=by
 constructor
 ·rintro ⟨hc,fp,⟨f1,f2,rfl,⟨x,hx⟩,h2⟩,hr⟩;exact ⟨x,hc,_,⟨f1,f2,rfl,hx,h2⟩,hr⟩
 ·rintro ⟨x,hc,fp,⟨f1,f2,rfl,hx,h2⟩,hr⟩;exact ⟨hc,_,⟨f1,f2,rfl,⟨x,hx⟩,h2⟩,hr⟩
theorem Sep.pure_open {p:Prop}:Sep r M (.pure p::L) w↔p∧Sep r M L w:=by
 constructor
 ·rintro ⟨hc,fp,⟨f1,f2,rfl,⟨rfl,hp⟩,h2⟩,hr⟩;exact ⟨hp,hc,_,h2,by simpa using hr⟩
 ·rintro ⟨hp,hc,fp,h2,hr⟩;exact ⟨hc,_,⟨[],fp,rfl,⟨rfl,hp⟩,h2⟩,by simpa using hr⟩
end
class HasTT (P:Program) where
 tt:List Ty
 ok:TabOk P tt
class HasK (P:Program) (t:TypeId) (k:outParam IntKind):Prop where
 ok:P.underlying t=some (.int k)
class HasZ (P:Program) (T:TypeId) (cs:outParam (List Value)):Prop where
 ok:(P.info? T).map (fun i=>(i.zero.map (·.cells),i.size))=some (some cs.toArray,cs.length)
structure WC (P:Program) (c:Code) (Q:Exit→Act→World→Prop) (n:Nat) (f:Nat→Value) (w:World):Prop where
 out:c.wp P Q (act n f) w
structure WL (P:Program) (ops:Array Oper) (Q:Exit→Act→World→Prop) (l:List Oper) (n:Nat) (f:Nat→Value) (w:World):Prop where
 out:wpList P ops Q l (act n f) w
structure WE (P:Program) (o:Oper) (K:(Nat→Value)→World→Prop) (Q:Exit→Act→World→Prop) (n:Nat) (f:Nat→Value) (w:World):Prop where
 out:∀ K':Act→World→Prop,(∀ f' w',K f' w'→K' (act n f') w')→o.wp P (act n f) w K' Q
namespace Z
section
variable {P:Program} {Q:Exit→Act→World→Prop} {K:Act→World→Prop} {n:Nat} {f:Nat→Value} {w:World} {a:Act}
theorem enter {id:FuncId} {fn:Func} {c:Code} {args:Array Value} {R:Ending→World→Prop} (hf:P.funcs[id]?=some fn) (hn:fn.ntmps=n) (hb:fn.body=some c) (hl:Nat.ble args.toList.length n=true)
  (h:WC P c (bodyPost P fn R) n (fun i=>args.toList.getD i undef) w):Calls P id args w R:=by
 refine calls_of_wp hf hb ?_;have hl':args.size≤n:=by simpa using Nat.le_of_ble_eq_true hl
 have:args++Array.replicate (fn.ntmps - args.size) undef=fr n (fun i=>args.toList.getD i undef):=by
  apply Array.ext
  ·simp [fr,hn];omega
  ·intro i h1 h2;simp only [fr,Array.size_map,Array.size_range] at h2;simp only [fr,Array.getElem_map,Array.getElem_range,List.getD_eq_getElem?_getD,Array.getElem?_toList]
   by_cases hi:i < args.size
   ·simp [Array.getElem_append_left hi,hi]
   ·rw [Array.getElem_append_right oM]
    simp [Array.getElem?_eq_none (Nat.le_of_not_lt hi)]
 rw [this];exact h.out
theorem seq {x y:Code} (h:WC P x (Exit.then (y.wp P Q) Q) n f w):WC P (.seq x y) Q n f w:=⟨wp_seq h.out⟩
theorem reg {id:Nat} {l:List Oper} (h:WL P l.toArray Q l n f w):WC P (.region id l.toArray false) Q n f w:=⟨wp_region_lit h.out⟩
theorem nil {ops:Array Oper} (h:Q .normal (act n f) w):WL P ops Q [] n f w:=⟨h⟩
theorem skip (h:Q .normal (act n f) w):WC P .skip Q n f w:=⟨wp_skip h⟩
theorem exit {id:Nat} (h:Q (.exit id) (act n f) w):WC P (.exit id) Q n f w:=⟨wp_exit h⟩
theorem ret (h:Q .ret (act n f) w):WC P .ret Q n f w:=⟨wp_ret h⟩
theorem block {id:Nat} {c:Code} (h:WC P c (Exit.inBlock id Q) n f w):WC P (.block id c) Q n f w:=⟨wp_block h.out⟩
theorem thN {y:Code} (h:WC P y Q n f w):Exit.then (y.wp P Q) Q .normal (act n f) w:=h.out
theorem thE {i:Nat} (h:Q (.exit i) a w):Exit.then K Q (.exit i) a w:=h
theorem thR (h:Q .ret a w):Exit.then K Q .ret a w:=h
theorem blN {i:Nat} (h:Q .normal a w):Exit.inBlock i Q .normal a w:=h
theorem blR {i:Nat} (h:Q .ret a w):Exit.inBlock i Q .ret a w:=h
theorem blE {i:Nat} (h:Q .normal a w):Exit.inBlock i Q (.exit i) a w:=by unfold Exit.inBlock;simpa using h
theorem blX {i j:Nat} (h:Q (.exit j) a w) (hij:Nat.beq j i=false):Exit.inBlock i Q (.exit j) a w:=by
 have:j≠i:=fun e=>by subst e;simp at hij
 unfold Exit.inBlock
 simpa [this] using h
theorem brT {c:Operand} {x y:Code} (hc:ev n f c=.bool true) (h:WC P x Q n f w):WC P (.cond c x y) Q n f w:=⟨wp_cond_true (by rw [act_eval];exact hc) h.out⟩
theorem brF {c:Operand} {x y:Code} (hc:ev n f c=.bool false) (h:WC P y Q n f w):WC P (.cond c x y) Q n f w:=⟨wp_cond_false (by rw [act_eval];exact hc) h.out⟩
theorem br {c:Operand} {x y:Code} {b:Bool} (hc:ev n f c=.bool b) (h1:b=true→WC P x Q n f w) (h2:b=false→WC P y Q n f w):WC P (.cond c x y) Q n f w:=
 ⟨wp_cond_split (by rw [act_eval];exact hc) (fun h=>(h1 h).out) (fun h=>(h2 h).out)⟩
end
section
variable {P:Program} {ops:Array Oper} {Q:Exit→Act→World→Prop} {n:Nat} {f:Nat→Value} {w:World} {rest:List Oper} {d:Tmp} {dd:Option Tmp} {op:Op} {ty:TypeId} {pos:String} {aft:Array Edge} {v:Value}
theorem upd_self (f:Nat→Value) (s:Nat):upd' f s (f s)=f:=by
 funext i
 unfold upd'
 cases h:Nat.beq i s
 ·rfl
 ·rw [Nat.eq_of_beq_eq_true h];rfl
theorem base {o:Oper} (hg:o.guard=none) (h:∀ K:Act→World→Prop,(∀ f' w',WL P ops Q rest n f' w'→K (act n f') w')→o.wp P (act n f) w K Q):WL P ops Q (o::rest) n f w:=
 ⟨wpList_plain hg fun K hK=>h K fun _ _ h=>hK _ _ h.out⟩
theorem eff {o:Oper} (h:WE P o (fun f' w'=>WL P ops Q rest n f' w') Q n f w) (hg:o.guard=none):WL P ops Q (o::rest) n f w:=base hg h.out
theorem _root_.Go.Proofs.YtfmnjbhncnldmaaGreat.WE.guard {K:(Nat→Value)→World→Prop} {gd:Option (Nat×Bool)} (h:WE P ⟨dd,op,ty,pos,aft,none⟩ K Q n f w):WE P ⟨dd,op,ty,pos,aft,gd⟩ K Q n f w:=⟨h.out⟩
theorem plain {o:Oper} (hg:o.guard=none) (hr:∀ W,(execOp (ev n f) o).run P W=.ok (.value v) W) (h:WL P ops Q rest n (putf f o.dst v) w):WL P ops Q (o::rest) n f w:=
 base hg fun K hK=>by
  unfold Oper.wp;rw [act_eval',hr w,Oper.upon_value,yac];exact hK _ _ h
theorem pr [ht:HasTT P] (hp:pureOp ht.tt n f op=some v) (h:WL P ops Q rest n (upd' f d v) w):WL P ops Q (⟨some d,op,ty,pos,aft,none⟩::rest) n f w:=
 plain rfl (fun W=>ycH (o:=⟨some d,op,ty,pos,aft,none⟩) ht.ok hp W) h
theorem yields {j s:Nat} {b:Bool} (hj:(ops[j]?).bind (·.dst)=some s) (hs:ev n f (.tmp s)=.bool b):yielded ops (fr n f) j=some b:=by
 unfold yielded;rw [hj];simp only [Option.bind_some];simp only [ev] at hs
 cases hb:Nat.blt s n
 ·rw [hb] at hs;simp [undef] at hs
 ·rw [hb] at hs;have hlt:s < n:=by simpa [Nat.blt_eq] using hb
  rw [yc6 hlt];simp only [cond_true] at hs;rw [hs]
theorem gT {j s:Nat} {b:Bool} (hj:(ops[j]?).bind (·.dst)=some s) (hs:ev n f (.tmp s)=.bool b) (h:WL P ops Q (⟨dd,op,ty,pos,aft,none⟩::rest) n f w) :
  WL P ops Q (⟨dd,op,ty,pos,aft,some (j,b)⟩::rest) n f w:=by
 refine ⟨?_⟩;have h:=h.out;unfold wpList at h ⊢;have hy:=yields hj hs;rw [if_pos (by simp [Region.wanted])] at h;rw [if_pos (by simp [Region.wanted,hy])];exact h
theorem gF {j s:Nat} {b:Bool} (hj:(ops[j]?).bind (·.dst)=some s) (hs:ev n f (.tmp s)=.bool (!b)) (h:WL P ops Q rest n (upd' f d undef) w) :
  WL P ops Q (⟨some d,op,ty,pos,aft,some (j,b)⟩::rest) n f w:=by
 refine ⟨?_⟩;unfold wpList;have hy:=yields hj hs;rw [if_neg (by cases b<;>simp [Region.wanted,hy])];rw [yac];exact h.out
theorem gF0 {j s:Nat} {b:Bool} (hj:(ops[j]?).bind (·.dst)=some s) (hs:ev n f (.tmp s)=.bool (!b)) (h:WL P ops Q rest n f w) :
  WL P ops Q (⟨none,op,ty,pos,aft,some (j,b)⟩::rest) n f w:=by
 refine ⟨?_⟩;unfold wpList;have hy:=yields hj hs;rw [if_neg (by cases b<;>simp [Region.wanted,hy])];rw [yac];exact h.out
theorem slot {l:List Oper} (s:Nat) {b:Bool} (hs:ev n f (.tmp s)=.bool b) (h1:b=true→WL P ops Q l n (upd' f s (.bool true)) w) (h2:b=false→WL P ops Q l n (upd' f s (.bool false)) w) :
  WL P ops Q l n f w:=by
 have hf:f s=.bool b:=by
  simp only [ev] at hs
  cases hb:Nat.blt s n
  ·rw [hb] at hs;simp [undef] at hs
  ·rw [hb] at hs;exact hs
 have:=upd_self f s;rw [hf] at this
 cases b
 ·rw [← this];exact h2 rfl
 ·rw [← this];exact h1 rfl
theorem gS {j s:Nat} {b c:Bool} (hj:(ops[j]?).bind (·.dst)=some s) (hs:ev n f (.tmp s)=.bool b)
  (h1:b=true→WL P ops Q (⟨dd,op,ty,pos,aft,some (j,c)⟩::rest) n (upd' f s (.bool true)) w) (h2:b=false→WL P ops Q (⟨dd,op,ty,pos,aft,some (j,c)⟩::rest) n (upd' f s (.bool false)) w) :
  WL P ops Q (⟨dd,op,ty,pos,aft,some (j,c)⟩::rest) n f w:=slot s hs h1 h2
def ari (n:Nat) (f:Nat→Value):Op→Option Int
 | .binOp .add _ x y _=>match ev n f x,ev n f y with|.int .i64 a,.int .i64 b=>some (a+b)|_,_=>none
 | .binOp .sub _ x y _=>match ev n f x,ev n f y with|.int .i64 a,.int .i64 b=>some (a - b)|_,_=>none
 | .binOp .mul _ x y _=>match ev n f x,ev n f y with|.int .i64 a,.int .i64 b=>some (a * b)|_,_=>none
 | _=>none
theorem ari_ok {c:Int} {o:Oper} (h:ari n f o.op=some c) (W:World):(execOp (ev n f) o).run P W=.ok (.value (.int .i64 (IntKind.i64.wrap c))) W:=by
 obtain ⟨d,op,ty,pos,aft,g⟩:=o;simp only at h;unfold ari at h
 split at h
 case h_4=>cases h
 all_goals
  split at h
  ·rename_i hx hy;simp only [Option.some.injEq] at h;subst h
   simp [execOp,hx,hy,eqGuard_none,binOp,Op.intArith]
  ·cases h
theorem wrap_in {c:Int} (h1 : -9223372036854775808≤c) (h2:c≤9223372036854775807):IntKind.i64.wrap c=c:=IntWalk.i64_in _ oM
theorem sum {c:Int} (hp:ari n f op=some c) (h1 : -9223372036854775808≤c∧c≤9223372036854775807) (h:WL P ops Q rest n (upd' f d (.int .i64 c)) w):WL P ops Q (⟨some d,op,ty,pos,aft,none⟩::rest) n f w:=
 plain rfl (fun W=>by rw [ari_ok (o:=⟨some d,op,ty,pos,aft,none⟩) hp W,wrap_in h1.1 h1.2]) h
theorem sumW {c:Int} (hp:ari n f op=some c) (h:WL P ops Q rest n (upd' f d (.int .i64 (IntKind.i64.wrap c))) w):WL P ops Q (⟨some d,op,ty,pos,aft,none⟩::rest) n f w:=
 plain rfl (fun W=>ari_ok (o:=⟨some d,op,ty,pos,aft,none⟩) hp W) h
def ldv (tt:List Ty) (ty:Nat) (cs:List Value) (o:Nat):Option Value:=
 match tt[ty]? with
 | none=>none
 | some y=>
  match y.k with
  | .other=>none
  | .st _=>cond (Nat.beq o 0 && Nat.beq y.size cs.length) (some (.agg cs.toArray)) (cond (Nat.ble (o+y.size) cs.length) (some (.agg ((cs.drop o).take y.size).toArray)) none)
  | .ar _ _ _=>cond (Nat.beq o 0 && Nat.beq y.size cs.length) (some (.agg cs.toArray)) (cond (Nat.ble (o+y.size) cs.length) (some (.agg ((cs.drop o).take y.size).toArray)) none)
  | _=>bindV cs[o]?
theorem ybe {P:Program} {t m:Nat} (h:sizeB P t m=true):(P.info? t).map (·.size)=some m:=by
 unfold sizeB at h
 cases hi:P.info? t with
 | none=>simp [hi] at h
 | some i=>simp [hi] at h;simp [h]
theorem ldv_ok [ht:HasTT P] {t T g o:Nat} {cs:List Value} (hb:Blk w g T cs.toArray) (hv:ldv ht.tt t cs o=some v):(loadVar t ⟨g,o,none⟩).run P w=.ok v w:=by
 unfold ldv at hv
 cases hy:ht.tt[t]? with
 | none=>simp [hy] at hv
 | some y=>
  have hok:=ht.ok t y hy;obtain ⟨k,sz⟩:=y;have agg:∀ d,P.underlying t=some d→d.isRow=true→sizeB P t sz=true→(cond (Nat.beq o 0 && Nat.beq sz cs.length) (some (.agg cs.toArray)) (cond (Nat.ble (o+sz) cs.length) (some (.agg ((cs.drop o).take sz).toArray)) none):Option Value)=some v→
    (loadVar t ⟨g,o,none⟩).run P w=.ok v w:=by
   intro d hu hd hs hv;have key:∀ l:List Value,l=(cs.drop o).take sz→l.length=sz→v=.agg l.toArray→(loadVar t ⟨g,o,none⟩).run P w=.ok v w:=by
    rintro l hl hlen rfl;refine run_loadVar_mid w g o t l d ?_ hu hd (by rw [ybe hs,hlen]);intro j u hu';rw [hb.cell];rw [hl,List.getElem?_take] at hu'
    split at hu'
    ·rw [List.getElem?_drop] at hu';simpa using hu'
    ·cases hu'
   cases h1:(Nat.beq o 0 && Nat.beq sz cs.length)
   ·rw [h1] at hv;simp only [cond_false] at hv
    cases h2:Nat.ble (o+sz) cs.length
    ·rw [h2] at hv;cases hv
    ·rw [h2] at hv;simp only [cond_true,Option.some.injEq] at hv;refine key _ rfl ?_ hv.symm;have:=Nat.le_of_ble_eq_true h2
     simp;omega
   ·rw [h1] at hv;simp only [cond_true,Option.some.injEq] at hv;simp only [Bool.and_eq_true] at h1;have e1:=Nat.eq_of_beq_eq_true h1.1;have e2:=Nat.eq_of_beq_eq_true h1.2;refine key cs ?_ e2.symm hv.symm;rw [e1,e2];simp
  have sc:∀ d,P.underlying t=some d→d.isRow=false→bindV cs[o]?=some v→(loadVar t ⟨g,o,none⟩).run P w=.ok v w:=by
   intro d hu hd hv
   cases hc:cs[o]? with
   | none=>simp [hc,bindV] at hv
   | some u=>
    simp [hc,bindV_eq] at hv
    subst hv;have hcell:w.cell? ⟨g,o,none⟩=some u:=by rw [hb.cell];simpa using hc
    have hag:(isAgg t).run P w=.ok false w:=by
     unfold isAgg;simp only [Sem.run_bind,run_under hu,Result.andThen_ok]
     cases d<;>first|rfl|cases hd
    simp [loadVar,hag,go_sem,hcell]
  simp only [hy] at hv;unfold okTy at hok
  cases hu:P.underlying t with
  | none=>cases k<;>simp [hu] at hok<;>simp at hv
  | some d=>
   cases k<;>cases d<;>simp [hu] at hok<;>first|(simp at hv;done)|exact sc _ hu rfl hv|exact agg _ hu rfl (by first|exact hok|exact hok.1|exact hok.1.1|exact hok.1.1.1) hv
end
end Z
class HasF (P:Program) (F:FuncId):Prop where
 ok : ∃ fn : Func, P.funcs[F]? = some fn ∧ (fn.name == "runtime.NumGoroutine") = false ∧ fn.body.isSome = true
theorem fQ {P : Program} {F : FuncId} {fn : Func} (h : P.funcs[F]? = some fn) (h1 : (fn.name == "runtime.NumGoroutine") = false := by kernel_rfl) (h2 : fn.body.isSome = true := by kernel_rfl) : HasF P F := ⟨_, h, h1, h2⟩
namespace Z
def stv1 (sz:Nat) (cs:List Value) (o:Nat) (v:Value):Option (List Value):=
 match v with
 | .agg vs=>cond (Nat.beq sz vs.toList.length && vs.toList.all (·.oneCell'))
   (cond (Nat.beq o 0 && Nat.beq vs.toList.length cs.length) (some vs.toList) (cond (Nat.ble (o+sz) cs.length) (some (cs.take o++vs.toList++cs.drop (o+sz))) none)) none
 | .tuple _=>none
 | v=>match someV v with|none=>none|some v=>cond (Nat.beq sz 1 && Nat.blt o cs.length) (some (cs.set o v)) none
def stv (tt:List Ty) (ty:Nat) (cs:List Value) (o:Nat) (v:Value):Option (List Value):=
 match tt[ty]? with
 | none=>none
 | some y=>
  match y.k with
  | .other=>none
  | _=>stv1 y.size cs o v
section
variable {P:Program} {K:(Nat→Value)→World→Prop} {Q:Exit→Act→World→Prop} {n:Nat} {f:Nat→Value} {w r:World} {M:List Nat} {L:List Res} {d:Tmp} {dd:Option Tmp} {op:Op} {ty t:TypeId} {pos:String} {aft:Array Edge} {v:Value}
 {x y:Operand} {g o T:Nat} {k:List Res} {cs cs':List Value}
theorem yef [ht:HasTT P] {t:Nat} {y:Ty} (hy:ht.tt[t]?=some y) (hk:y.k≠.other):(P.info? t).map (·.size)=some y.size:=by
 have hok:=ht.ok t y hy;obtain ⟨k,sz⟩:=y;unfold okTy at hok
 apply ybe
 cases hu:P.underlying t with
 | none=>cases k<;>simp [hu] at hok<;>exact absurd rfl hk
 | some d=>cases k<;>cases d<;>simp [hu] at hok<;>first|exact absurd rfl hk|exact hok|exact hok.1|exact hok.1.1|exact hok.1.1.1
theorem ld [ht:HasTT P] (hS:Sep r M L w) (hx:ev n f x=.pointer (some ⟨g,o,none⟩)) (ha:At L k (.blk g T cs)) (hv:ldv ht.tt t cs o=some v)
  (h:K (upd' f d v) w):WE P ⟨some d,.load t x,ty,pos,aft,none⟩ K Q n f w:=
 .mk fun K' hK=>by
  unfold Oper.wp;rw [act_eval'];unfold execOp;simp only [hx,Instr.loadAt,Instr.sureAddr,Sem.run_bind,Sem.run_pure,Result.andThen_ok,ldv_ok (hS.blk ha) hv,Oper.upon_value,yac];exact hK _ _ h
theorem ldvR [ht:HasTT P] (hc:w.rangeAt g o cs) (hl:ldv ht.tt t cs 0=some v):(loadVar t ⟨g,o,none⟩).run P w=.ok v w:=by
 unfold ldv at hl
 cases hy:ht.tt[t]? with
 | none=>simp [hy] at hl
 | some y=>
  have hok:=ht.ok t y hy;obtain ⟨k,sz⟩:=y;simp only [hy] at hl;have agg:∀ dd,P.underlying t=some dd→dd.isRow=true→sizeB P t sz=true→(cond (Nat.beq 0 0 && Nat.beq sz cs.length) (some (.agg cs.toArray)) (cond (Nat.ble (0+sz) cs.length) (some (.agg ((cs.drop 0).take sz).toArray)) none):Option Value)=some v→
    (loadVar t ⟨g,o,none⟩).run P w=.ok v w:=by
   intro dd hu hd hs hv;have key:∀ l:List Value,l=cs.take sz→l.length=sz→v=.agg l.toArray→(loadVar t ⟨g,o,none⟩).run P w=.ok v w:=by
    rintro l hl0 hlen hv0;rw [hv0];refine run_loadVar_mid w g o t l dd ?_ hu hd (by rw [ybe hs,hlen]);intro j u hu';rw [hl0,List.getElem?_take] at hu'
    split at hu'
    ·exact hc j u hu'
    ·cases hu'
   cases h1:(Nat.beq 0 0 && Nat.beq sz cs.length)
   ·rw [h1] at hv;simp only [cond_false] at hv
    cases h2:Nat.ble (0+sz) cs.length
    ·rw [h2] at hv;cases hv
    ·rw [h2] at hv;simp only [cond_true,Option.some.injEq,List.drop_zero] at hv;refine key _ rfl ?_ hv.symm;have:=Nat.le_of_ble_eq_true h2
     simp;omega
   ·rw [h1] at hv;simp only [cond_true,Option.some.injEq] at hv;simp only [Bool.and_eq_true] at h1;have e2:=Nat.eq_of_beq_eq_true h1.2;refine key cs ?_ e2.symm hv.symm;rw [e2];simp
  have sc:∀ dd,P.underlying t=some dd→dd.isRow=false→bindV cs[0]?=some v→(loadVar t ⟨g,o,none⟩).run P w=.ok v w:=by
   intro dd hu hd hv
   cases hc0:cs[0]? with
   | none=>simp [hc0,bindV] at hv
   | some u=>
    simp [hc0,bindV_eq] at hv
    subst hv;have hcell:w.cell? ⟨g,o,none⟩=some u:=by have:=hc 0 u hc0;simpa using this
    have hag:(isAgg t).run P w=.ok false w:=by
     unfold isAgg;simp only [Sem.run_bind,run_under hu,Result.andThen_ok]
     cases dd<;>first|rfl|cases hd
    simp [loadVar,hag,go_sem,hcell]
  unfold okTy at hok
  cases hu:P.underlying t with
  | none=>cases k<;>simp [hu] at hok<;>simp at hl
  | some dd=>
   cases k<;>cases dd<;>simp [hu] at hok<;>first|(simp at hl;done)|exact sc _ hu rfl hl|exact agg _ hu rfl (by first|exact hok|exact hok.1|exact hok.1.1|exact hok.1.1.1) hl
theorem ldR [ht:HasTT P] (hx:ev n f x=.pointer (some ⟨g,o,none⟩)) (hc:w.rangeAt g o cs) (hl:ldv ht.tt t cs 0=some v)
  (h:K (upd' f d v) w):WE P ⟨some d,.load t x,ty,pos,aft,none⟩ K Q n f w:=
 .mk fun K' hK=>by
  unfold Oper.wp;rw [act_eval'];unfold execOp;simp only [hx,Instr.loadAt,Instr.sureAddr,Sem.run_bind,Sem.run_pure,Result.andThen_ok,ldvR hc hl,Oper.upon_value,yac];exact hK _ _ h
theorem range_drop (hc:w.rangeAt g o cs) (q:Nat):w.rangeAt g (o+q) (cs.drop q):=fun j u hu=>by
 rw [List.getElem?_drop] at hu;have:=hc _ u hu;rw [Nat.add_assoc];exact this
theorem ldE [ht:HasTT P] {q:Nat} (hx:ev n f x=.pointer (some ⟨g,o+q,none⟩)) (hc:w.rangeAt g o cs) (hl:ldv ht.tt t (cs.drop q) 0=some v)
  (h:K (upd' f d v) w):WE P ⟨some d,.load t x,ty,pos,aft,none⟩ K Q n f w:=ldR hx (range_drop hc q) hl h
theorem yi2 [ht:HasTT P] (hb:Blk w g T cs.toArray) (hv:stv ht.tt t cs o v=some cs'):∃ w',(storeVar t ⟨g,o,none⟩ v).run P w=.ok () w'∧Blk w' g T cs'.toArray∧Chg [g] w w':=by
 unfold stv at hv
 cases hy:ht.tt[t]? with
 | none=>simp [hy] at hv
 | some y=>
  simp only [hy] at hv;have hk:y.k≠.other:=by intro e;simp [e] at hv
  have hsz:=yef hy hk;have there:∀ m,o+m≤cs.length→w.there g o m:=fun m hm j hj=>by
   rw [hb.cell,hb.frozen];exact ⟨by rw [Array.getElem?_eq_getElem (by simp;omega)];rfl,rfl⟩
  have hv':stv1 y.size cs o v=some cs':=by
   cases hk':y.k<;>simp only [hk'] at hv<;>first|exact hv|exact absurd hk' hk
  clear hv;have one:v.oneCell'=true→(cond (Nat.beq y.size 1 && Nat.blt o cs.length) (some (cs.set o v)) none:Option (List Value))=some cs'→∃ w',(storeVar t ⟨g,o,none⟩ v).run P w=.ok () w'∧Blk w' g T cs'.toArray∧Chg [g] w w':=by
   intro h1 h2
   cases h3:(Nat.beq y.size 1 && Nat.blt o cs.length)
   ·rw [h3] at h2;cases h2
   ·rw [h3] at h2;simp only [cond_true,Option.some.injEq] at h2;simp only [Bool.and_eq_true] at h3;have e1:=Nat.eq_of_beq_eq_true h3.1;have hlt:o < cs.length:=by simpa [Nat.blt_eq] using h3.2
    refine ⟨w.setCell ⟨g,o,none⟩ v,?_,?_,(Chg.refl _ _).setCell (.inl (by simp)) _⟩
    ·have hcells:v.cells=#[v]:=by cases v<;>first|rfl|cases h1
     have hc:w.cell? ⟨g,o,none⟩=some cs[o]:=by rw [hb.cell];simp [hlt]
     cases hi:P.info? t with
     | none=>simp [hi] at hsz
     | some i=>
      simp [hi,e1] at hsz
      have:=run_store P w ⟨g,o,none⟩ v .plain h1;rw [hc,hb.frozen] at this;simp only [Bool.false_eq_true,if_false] at this
      simp [storeVar,sizeOf,typeInfo,hi,hcells,hsz,storeCells,Addr.add,this]
    ·have:=hb.set o v;rw [← h2]
     simpa using this
  unfold stv1 at hv'
  cases v with
  | agg vs=>
   simp only at hv'
   cases h1:(Nat.beq y.size vs.toList.length && vs.toList.all (·.oneCell'))
   ·rw [h1] at hv';cases hv'
   ·rw [h1] at hv';simp only [Bool.and_eq_true] at h1;have e1:=Nat.eq_of_beq_eq_true h1.1;have hall:vs.all (·.oneCell')=true:=by rw [← Array.all_toList];exact h1.2
    have hlen:vs.toList.length=vs.size:=by simp
    simp only [cond_true] at hv'
    cases h2:(Nat.beq o 0 && Nat.beq vs.toList.length cs.length)
    ·rw [h2] at hv';simp only [cond_false] at hv'
     cases h3:Nat.ble (o+y.size) cs.length
     ·rw [h3] at hv';cases hv'
     ·rw [h3] at hv';simp only [cond_true,Option.some.injEq] at hv';have h4:=Nat.le_of_ble_eq_true h3;refine ⟨_,run_storeVar_mid w g o t vs (there _ oM) (by rw [hsz];simp;omega) hall,?_,chg_setCells g _ o w⟩;have:=yaA vs.toList o w cs.toArray hb (by simp;omega);rw [← hv',e1]
      simpa using this
    ·rw [h2] at hv';simp only [cond_true,Option.some.injEq] at hv';simp only [Bool.and_eq_true] at h2;have e2:=Nat.eq_of_beq_eq_true h2.1;have e3:=Nat.eq_of_beq_eq_true h2.2;subst e2;refine ⟨_,run_storeVar_mid w g 0 t vs (there _ oM) (by rw [hsz];simp;omega) hall,?_,chg_setCells g _ 0 w⟩;rw [← hv'];exact ybG hb (by simp;omega)
  | tuple _=>cases hv'
  | _=>exact one rfl hv'
theorem st [ht:HasTT P] (hS:Sep r M L w) (hx:ev n f x=.pointer (some ⟨g,o,none⟩)) (ha:At L k (.blk g T cs)) (hy:ev n f y=v) (hv:stv ht.tt t cs o v=some cs')
  (h:∀ w',Sep r M (.blk g T cs'::k) w'→K f w'):WE P ⟨none,.store t x y,ty,pos,aft,none⟩ K Q n f w:=
 .mk fun K' hK=>by
  obtain ⟨w',hrun,hb,hc⟩:=yi2 (P:=P) (hS.blk ha) hv;unfold Oper.wp;rw [act_eval'];unfold execOp;simp only [hx,hy,Instr.storeAt,Instr.sureAddr,Sem.run_bind,Sem.run_pure,Result.andThen_ok,hrun,Oper.upon_skip,yac];exact hK _ _ (h w' (hS.put ha hc hb))
theorem al [hz:HasZ P t cs] (hS:Sep r M L w) (h:∀ g w',Sep r M (.blk g t cs::L) w'→w.heap.size≤g→K (upd' f d (.pointer (some ⟨g,0,none⟩))) w') :
  WE P ⟨some d,.alloc t,ty,pos,aft,none⟩ K Q n f w:=
 .mk fun K' hK=>by
  have hz:=hz.ok
  cases hi:P.info? t with
  | none=>simp [hi] at hz
  | some i=>
   simp [hi] at hz
   obtain ⟨⟨z,hz1,hz2⟩,hz3⟩:=hz;unfold Oper.wp;unfold execOp;have:(Instr.alloc t true (.tuple #[])).run P w=.ok (.pointer (some ⟨w.heap.size,0,none⟩)) (w.alloc (.cells cs.toArray t)):=by
    have e:(Instr.alloc t true (.tuple #[])).run P w=.ok (.pointer (some ⟨w.heap.size,0,none⟩)) (w.alloc (.cells z.cells t)):=by
     simp [Instr.alloc,zeroValue,typeInfo,hi,hz1,newVar,newRow,go_sem]
    rw [e,hz2]
   simp only [Sem.run_bind,this,Result.andThen_ok,Sem.run_pure,Oper.upon_value,yac];exact hK _ _ (h _ _ (hS.box t cs) (Nat.le_refl _))
def vcells:Value→Option (List Value)
 | .agg cs=>some cs.toList
 | .tuple _=>none
 | v=>match someV v with|some u=>some [u]|none=>none
theorem ygi {v:Value} (h:vcells v=some cs):v.cells.toList=cs:=by
 cases v<;>simp [vcells,someV] at h<;>first|(subst h;rfl)
theorem bx (hS:Sep r M L w) (hx:vcells (ev n f x)=some cs) (h:∀ g w',Sep r M (.blk g t cs::L) w'→w.heap.size≤g→K (upd' f d (.pointer (some ⟨g,0,none⟩))) w') :
  WE P ⟨some d,.box t x,ty,pos,aft,none⟩ K Q n f w:=
 .mk fun K' hK=>by
  unfold Oper.wp;rw [act_eval'];unfold execOp;have hc:=ygi hx;have:(Instr.box t (ev n f x)).run P w=.ok (.pointer (some ⟨w.heap.size,0,none⟩)) (w.alloc (.cells cs.toArray t)):=by
   simp [Instr.box,newVar,newRow,go_sem,← hc]
  simp only [Sem.run_bind,this,Result.andThen_ok,Sem.run_pure,Oper.upon_value,yac];exact hK _ _ (h _ _ (hS.box t cs) (Nat.le_refl _))
theorem cl {F:FuncId} [hfn:HasF P F] {args:List Operand} {ats:Array TypeId} {ags:Array Value} {R:Ending→World→Prop} (h:Calls P F ags w R) (ha:args.map (ev n f)=ags.toList)
  (hk:∀ e w',R e w'→∃ v,e=.returned v∧K (upd' f d v) w'):WE P ⟨some d,.call ⟨.value (.func F),args.toArray,ats⟩,ty,pos,aft,none⟩ K Q n f w:=
 .mk fun K' hK=>by
  unfold Oper.wp;rw [act_eval'];have has:(List.map (ev n f) args).toArray=ags:=by rw [ha]
  have:(execOp (ev n f) ⟨some d,.call ⟨.value (.func F),args.toArray,ats⟩,ty,pos,aft,none⟩).run P w=.ok (.enter F ags) w:=by
   obtain ⟨fn,hF,hn,hb⟩:=hfn.ok
   have hn' : fn.name ≠ "runtime.NumGoroutine" := by simpa using hn
   obtain ⟨c,hc⟩:=Option.isSome_iff_exists.1 hb
   simp [execOp,resolve,ev,Deferred.ofValue,invoke,callFunc,hF,hn',hc,has,go_sem]
  rw [this,Oper.upon_enter];refine h.mono ?_;intro e w' hR;obtain ⟨v,rfl,hw⟩:=hk e w' hR;simp only [yac];exact hK _ _ hw
end
inductive RV (P:Program) [ht:HasTT P] (n:Nat) (f:Nat→Value) (r:World) (M:List Nat) (L:List Res) (w:World):List ResultVar→List Value→Prop
 | nil:RV P n f r M L w [] []
 | tmp {t:Tmp} {v:Value} {rs:List ResultVar} {vs:List Value}:someV (ev n f (.tmp t))=some v→RV P n f r M L w rs vs→RV P n f r M L w (.tmp t::rs) (v::vs)
 | cell {a:Tmp} {t g o T:Nat} {k:List Res} {cs:List Value} {v:Value} {rs:List ResultVar} {vs:List Value}:ev n f (.tmp a)=.pointer (some ⟨g,o,none⟩)→At L k (.blk g T cs)→ldv ht.tt t cs o=some v→RV P n f r M L w rs vs→RV P n f r M L w (.cell a t::rs) (v::vs)
section
variable {P:Program} {n:Nat} {f:Nat→Value} {w r:World} {M:List Nat} {L:List Res} {fn:Func} {R:Ending→World→Prop} {vs:List Value} {rs:List ResultVar}
theorem RV.run [ht:HasTT P] (hS:Sep r M L w) (φ:ResultVar→Sem Value) (h1:∀ t,φ (.tmp t)=Pure.pure ((fr n f).getD t undef)) (h2:∀ a t,φ (.cell a t)=do loadVar t (← asAddr ((fr n f).getD a undef)))
  (h:RV P n f r M L w rs vs):(rs.mapM φ).run P w=.ok vs w:=by
 induction h with
 | nil=>rfl
 | tmp hv _ ih=>
  simp only [List.mapM_cons,h1,Sem.run_bind,Sem.run_pure,Result.andThen_ok,ih,ycl];rw [yay] at hv
  injection hv with hv
  rw [← hv]
  rfl
 | cell ha hat hl _ ih=>
  simp only [List.mapM_cons,h2,Sem.run_bind,ih,ycl];have:∀ x,ev n f (.tmp x)=(bif Nat.blt x n then f x else undef):=fun _=>rfl
  rw [← this,ha];simp only [asAddr,Sem.run_pure,Result.andThen_ok,ldv_ok (hS.blk hat) hl,ih]
def packR:List Value→Value
 | [v]=>v
 | vs=>.tuple vs.toArray
theorem results_ok [ht:HasTT P] (hS:Sep r M L w) (hr:fn.results=rs.toArray) (h:RV P n f r M L w rs vs):(results fn (fr n f)).run P w=.ok (packR vs) w:=by
 unfold results;rw [hr,List.mapM_toArray];simp only [Sem.run_bind,Sem.run_map];rw [RV.run hS _ (fun t=>?_) (fun a t=>?_) h]
 ·simp only [Result.andThen_ok,Sem.run_pure]
  congr 1
  match vs with
  | []=>rfl
  | [v]=>rfl
  | _::_::_=>simp [packR]
 ·rfl
 ·rfl
theorem done [ht:HasTT P] (hS:Sep r M L w) (hr:fn.results=rs.toArray) (h:RV P n f r M L w rs vs) (hR:R (.returned (packR vs)) w):bodyPost P fn R .ret (act n f) w:=
 ⟨rfl,_,results_ok hS hr h,hR⟩
theorem doneN [ht:HasTT P] (hS:Sep r M L w) (hr:fn.results=rs.toArray) (h:RV P n f r M L w rs vs) (hR:R (.returned (packR vs)) w):bodyPost P fn R .normal (act n f) w:=
 ⟨rfl,_,results_ok hS hr h,hR⟩
end
end Z
def memb:List Nat→Nat→Bool
 | [],_=>false
 | a::l,i=>cond (Nat.beq i a) true (memb l i)
def mix (Ms:List Nat) (g f0:Nat→Value):Nat→Value:=fun i=>cond (memb Ms i) (g i) (f0 i)
def setL (f:Nat→Value):List (Nat×Value)→(Nat→Value)
 | []=>f
 | (s,v)::l=>upd' (setL f l) s v
def Same (Ms:List Nat) (f f0:Nat→Value):Prop:=∀ i,memb Ms i=false→f i=f0 i
def slotsL (f:Nat→Value):List (Nat×Value)→Prop
 | []=>True
 | (s,v)::l=>someV (f s)=some v∧slotsL f l
def Slots (Ms:List Nat) (f0 f:Nat→Value) (l:List (Nat×Value)):Prop:=Same Ms f f0∧slotsL f l
theorem yi4 {f:Nat→Value} {s:Nat} {v:Value} (h:f s=v):upd' f s v=f:=by rw [← h];exact Z.upd_self f s
theorem setL_eq {f:Nat→Value}:∀ {l:List (Nat×Value)},slotsL f l→setL f l=f
 | [],_=>rfl
 | (s,v)::l,h=>by simp only [setL,setL_eq h.2];have h1:=h.1;rw [yay] at h1;injection h1 with h1;exact yi4 h1
theorem Slots.eq {Ms:List Nat} {f0 f:Nat→Value} {l:List (Nat×Value)} (h:Slots Ms f0 f l):∃ g,f=setL (mix Ms g f0) l:=by
 refine ⟨f,?_⟩;have:mix Ms f f0=f:=by
  funext i
  unfold mix
  cases hm:memb Ms i
  ·exact (h.1 i hm).symm
  ·rfl
 rw [this,setL_eq h.2]
theorem Same.mix {Ms:List Nat} {g f0:Nat→Value}:Same Ms (mix Ms g f0) f0:=fun i hi=>by unfold Go.Proofs.YtfmnjbhncnldmaaGreat.mix;rw [hi];rfl
theorem Same.refl {Ms:List Nat} {f0:Nat→Value}:Same Ms f0 f0:=fun _ _=>rfl
theorem Same.upd {Ms:List Nat} {f f0:Nat→Value} {s:Nat} {v:Value} (hs:memb Ms s=true) (h:Same Ms f f0):Same Ms (upd' f s v) f0:=fun i hi=>by
 unfold upd'
 cases hb:Nat.beq i s
 ·exact h i hi
 ·rw [Nat.eq_of_beq_eq_true hb] at hi;rw [hi] at hs;cases hs
theorem Same.nil {Ms:List Nat} {f f0:Nat→Value} (h:Same Ms f f0):Same Ms (setL f []) f0:=h
theorem Same.cons {Ms:List Nat} {f f0:Nat→Value} {s:Nat} {v:Value} {l:List (Nat×Value)} (hs:memb Ms s=true) (h:Same Ms (setL f l) f0):Same Ms (setL f ((s,v)::l)) f0:=Same.upd hs h
namespace Z
section
variable {P:Program} {ops:Array Oper} {Q:Exit→Act→World→Prop} {n:Nat} {f:Nat→Value} {w r:World} {M:List Nat} {L:List Res} {rest:List Oper} {d:Tmp} {op:Op} {ty t:TypeId} {pos:String} {aft:Array Edge} {v:Value}
 {x y:Operand} {g o T k:Nat} {cs cs':List Value}
structure Again (n m:Nat) (I:Nat→(Nat→Value)→World→Prop) (a:Act) (w:World):Prop where
 out:∃ f' m',a=act n f'∧m' < m∧I m' f' w
theorem lp {c:Code} (I:Nat→(Nat→Value)→World→Prop) (m:Nat) (h0:I m f w)
  (hr:∀ m f w,I m f w→WC P c (Exit.then (Again n m I) Q) n f w):WC P (.loop c) Q n f w:=by
 refine ⟨?_⟩;intro b k cs;have key:∀ m f w,I m f w→∃ e a' w',Q e a' w'∧Arrives P (lone (b.at (act n f) (.code c::.inLoop c::k)) cs w) b k cs e a' w':=by
  intro m
  induction m using Nat.strongRecOn with
  | _ m ih=>
   intro f w hI;obtain ⟨e,a₁,w₁,hq,harr⟩:=(hr m f w hI).out b (.inLoop c::k) cs
   cases e with
   | normal=>
    obtain ⟨f',m',rfl,hlt,hI'⟩:=hq.out;obtain ⟨e₂,a₂,w₂,hq₂,harr₂⟩:=ih m' hlt f' w₁ hI';exact ⟨e₂,a₂,w₂,hq₂,.of_steps (Steps.trans harr (.one step_inLoop)) harr₂⟩
   | exit id=>exact ⟨_,a₁,w₁,hq,.pass (x:=.inLoop c) rfl (fun _ _=>.inl (by simp)) harr⟩
   | goto l=>exact ⟨_,a₁,w₁,hq,.pass (x:=.inLoop c) rfl (fun _ _=>.inl (by simp)) harr⟩
   | ret=>exact ⟨_,a₁,w₁,hq,.pass (x:=.inLoop c) rfl (fun _ _=>.inl (by simp)) harr⟩
   | panic ch=>exact ⟨_,a₁,w₁,hq,.pass (x:=.inLoop c) rfl (fun _ _=>.inl (by simp)) harr⟩
   | outgrown=>exact ⟨_,a₁,w₁,hq,.pass (x:=.inLoop c) rfl (fun _ _=>.inl (by simp)) harr⟩
 obtain ⟨e,a',w',hq,harr⟩:=key m f w h0;exact ⟨e,a',w',hq,.of_steps (.one step_loop) harr⟩
structure AgainS (n m:Nat) (Ms:List Nat) (f0:Nat→Value) (I:Nat→World→List (Nat×Value)→Prop) (a:Act) (w:World):Prop where
 out:∃ f' m' l',a=act n f'∧m' < m∧Slots Ms f0 f' l'∧I m' w l'
theorem againS {Ms:List Nat} {f0:Nat→Value} {I:Nat→World→List (Nat×Value)→Prop} {m:Nat} (m':Nat) (l':List (Nat×Value)) (hm:m' < m) (h1:Same Ms f f0) (h2:slotsL f l') (h:I m' w l'):Exit.then (AgainS n m Ms f0 I) Q .normal (act n f) w:=
 ⟨f,m',l',rfl,hm,⟨h1,h2⟩,h⟩
theorem lpS {c:Code} (Ms:List Nat) (I:Nat→World→List (Nat×Value)→Prop) (m:Nat) (l0:List (Nat×Value)) (hs:slotsL f l0) (h0:I m w l0)
  (hr:∀ m g w l,I m w l→WC P c (Exit.then (AgainS n m Ms f I) Q) n (setL (mix Ms g f) l) w):WC P (.loop c) Q n f w:=by
 refine lp (fun m f' w=>∃ l,Slots Ms f f' l∧I m w l) m ⟨l0,⟨Same.refl,hs⟩,h0⟩ ?_;rintro m f' w ⟨l,hsl,hI⟩;obtain ⟨g,rfl⟩:=hsl.eq;refine ⟨wp_mono (hr m g w l hI).out ?_⟩;intro e a w' hq
 cases e with
 | normal=>
  obtain ⟨f'',m',l',rfl,hm,hsl',hI'⟩:=hq.out;exact ⟨f'',m',rfl,hm,l',hsl',hI'⟩
 | _=>exact hq
theorem unr {c:Code} (N:Nat) (h:WC P c (Exit.then (Code.rounds P c Q N) Q) n f w):WC P (.loop c) Q n f w:=⟨wp_loop_rounds (N+1) h.out⟩
theorem thU {c:Code} {N:Nat} (h:WC P c (Exit.then (Code.rounds P c Q N) Q) n f w):Exit.then (Code.rounds P c Q (N+1)) Q .normal (act n f) w:=h.out
structure CutS (n:Nat) (Ms:List Nat) (f0:Nat→Value) (I:World→List (Nat×Value)→Prop) (a:Act) (w:World):Prop where
 out:∃ f' l',a=act n f'∧Slots Ms f0 f' l'∧I w l'
theorem cutE {Ms:List Nat} {f0:Nat→Value} {I:World→List (Nat×Value)→Prop} (l':List (Nat×Value)) (h1:Same Ms f f0) (h2:slotsL f l') (h:I w l'):Exit.then (CutS n Ms f0 I) Q .normal (act n f) w:=
 ⟨f,l',rfl,⟨h1,h2⟩,h⟩
theorem cut {c y:Code} (Ms:List Nat) (I:World→List (Nat×Value)→Prop) (hx:WC P c (Exit.then (CutS n Ms f I) Q) n f w)
  (hy:∀ g w l,I w l→WC P y Q n (setL (mix Ms g f) l) w):WC P c (Exit.then (y.wp P Q) Q) n f w:=by
 refine ⟨wp_mono hx.out ?_⟩;intro e a w' hq
 cases e with
 | normal=>
  obtain ⟨f',l',rfl,hsl,hI⟩:=hq.out;obtain ⟨g,rfl⟩:=hsl.eq;exact (hy g w' l' hI).out
 | _=>exact hq
theorem kind_sl [ht:HasTT P] {e sz:Nat} (h:kindOf ht.tt t=.sl e sz):P.underlying t=some (.slice e)∧sizeB P e sz=true:=by
 obtain ⟨z,hz⟩:=yat ht.ok t;rw [h] at hz;unfold okTy at hz
 cases hu:P.underlying t with
 | none=>simp [hu] at hz
 | some d=>cases d<;>simp [hu] at hz;obtain ⟨⟨_,rfl⟩,h2⟩:=hz;exact ⟨rfl,h2⟩
theorem kind_ar [ht:HasTT P] {m e sz:Nat} (h:kindOf ht.tt t=.ar m e sz):P.underlying t=some (.array m e)∧sizeB P e sz=true:=by
 obtain ⟨z,hz⟩:=yat ht.ok t;rw [h] at hz;unfold okTy at hz
 cases hu:P.underlying t with
 | none=>simp [hu] at hz
 | some d=>cases d<;>simp [hu] at hz;obtain ⟨⟨⟨_,rfl⟩,rfl⟩,h2⟩:=hz;exact ⟨rfl,h2⟩
theorem ix [ht:HasTT P] {e sz len cap:Nat} {j:Int} (hx:ev n f x=.slice (some ⟨g,o,none⟩) len cap) (hy:ev n f y=.int .i64 j) (hk:kindOf ht.tt t=.sl e sz) (hj:0≤j∧j < len)
  (h:WL P ops Q rest n (upd' f d (.pointer (some ⟨g,o+j.toNat * sz,none⟩))) w):WL P ops Q (⟨some d,.indexAddr t x y,ty,pos,aft,none⟩::rest) n f w:=by
 obtain ⟨hu,hs⟩:=kind_sl hk;refine plain rfl (fun W=>?_) h;simp only [execOp,hx,hy,Instr.indexAt,asIntOf,Sem.run_bind,Sem.run_pure,Result.andThen_ok,run_under hu]
 simp [hj.1,hj.2,run_size hs,yap]
theorem ixn [ht:HasTT P] {e sz len cap j:Nat} (hx:ev n f x=.slice (some ⟨g,o,none⟩) len cap) (hy:ev n f y=.int .i64 (j:Int)) (hk:kindOf ht.tt t=.sl e sz) (hj:j < len)
  (h:WL P ops Q rest n (upd' f d (.pointer (some ⟨g,o+j * sz,none⟩))) w):WL P ops Q (⟨some d,.indexAddr t x y,ty,pos,aft,none⟩::rest) n f w:=
 ix hx hy hk ⟨oM,oM⟩ (by simpa using h)
theorem ia [ht:HasTT P] {e sz len:Nat} {j:Int} (hx:ev n f x=.pointer (some ⟨g,o,none⟩)) (hy:ev n f y=.int .i64 j) (hk:kindOf ht.tt t=.ar len e sz) (hj:0≤j∧j < len)
  (h:WL P ops Q rest n (upd' f d (.pointer (some ⟨g,o+j.toNat * sz,none⟩))) w):WL P ops Q (⟨some d,.indexAddr t x y,ty,pos,aft,none⟩::rest) n f w:=by
 obtain ⟨hu,hs⟩:=kind_ar hk;refine plain rfl (fun W=>?_) h;simp only [execOp,hx,hy,Instr.indexAt,asIntOf,Sem.run_bind,Sem.run_pure,Result.andThen_ok,run_under hu,Instr.sureAddr]
 simp [hj.1,hj.2,run_size hs,yap]
def fillS (fs:List (Nat×Nat×Bool)) (cs:List Value):List (Nat×Value)→Option (List Value)
 | []=>some cs
 | (i,v)::r=>
  match fs[i]? with
  | none=>none
  | some (o,sz,_)=>match stv1 sz cs o v with|none=>none|some cs'=>fillS fs cs' r
theorem ybN:∀ (vs:List Value) (cs:Array Value) (o k:Nat),o+k+vs.length≤cs.size→
  (vs.zipIdx k).foldl (fun (cs:Array Value) (p:Value×Nat)=>cs.setIfInBounds (o+p.2) p.1) cs=(cs.toList.take (o+k)++vs++cs.toList.drop (o+k+vs.length)).toArray
 | [],cs,o,k,_=>by simp
 | v::vs,cs,o,k,h=>by
  simp only [List.length_cons] at h;simp only [List.zipIdx_cons,List.foldl_cons];rw [ybN vs _ o (k+1) (by simp;omega)];have ho:o+k < cs.toList.length:=by simp;omega
  rw [Array.toList_setIfInBounds,← Nat.add_assoc,List.take_succ_eq_append_getElem (by simpa using ho),List.take_set_of_le (Nat.le_refl _),List.getElem_set_self,List.drop_set_of_lt oM]
  simp [Nat.add_comm,Nat.add_left_comm]
theorem ycM {sz:Nat} {cs cs':List Value} {v:Value} (h:stv1 sz cs o v=some cs'):v.cells.size=sz∧o+v.cells.size≤cs.length∧cs'=cs.take o++v.cells.toList++cs.drop (o+v.cells.size):=by
 have one:v.cells=#[v]→(cond (Nat.beq sz 1 && Nat.blt o cs.length) (some (cs.set o v)) none:Option (List Value))=some cs'→v.cells.size=sz∧o+v.cells.size≤cs.length∧cs'=cs.take o++v.cells.toList++cs.drop (o+v.cells.size):=by
  intro hc h2
  cases h3:(Nat.beq sz 1 && Nat.blt o cs.length)
  ·rw [h3] at h2;cases h2
  ·rw [h3] at h2;simp only [cond_true,Option.some.injEq] at h2;simp only [Bool.and_eq_true] at h3;have e1:=Nat.eq_of_beq_eq_true h3.1;have hlt:o < cs.length:=by simpa [Nat.blt_eq] using h3.2
   rw [hc];refine ⟨by simp [e1],by simp;omega,?_⟩;rw [← h2,List.set_eq_take_append_cons_drop,if_pos hlt]
   simp
 unfold stv1 at h
 cases v with
 | agg vs=>
  simp only at h
  cases h1:(Nat.beq sz vs.toList.length && vs.toList.all (·.oneCell'))
  ·rw [h1] at h;cases h
  ·rw [h1] at h;simp only [Bool.and_eq_true] at h1;have e1:=Nat.eq_of_beq_eq_true h1.1;simp only [cond_true] at h
   cases h2:(Nat.beq o 0 && Nat.beq vs.toList.length cs.length)
   ·rw [h2] at h;simp only [cond_false] at h
    cases h3:Nat.ble (o+sz) cs.length
    ·rw [h3] at h;cases h
    ·rw [h3] at h;simp only [cond_true,Option.some.injEq] at h;have h4:=Nat.le_of_ble_eq_true h3;simp only [Value.cells];exact ⟨by simpa using e1.symm,by simp at e1;omega,by rw [← h,e1];simp⟩
   ·rw [h2] at h;simp only [cond_true,Option.some.injEq] at h;simp only [Bool.and_eq_true] at h2;have e2:=Nat.eq_of_beq_eq_true h2.1;have e3:=Nat.eq_of_beq_eq_true h2.2;subst e2;simp only [Value.cells];refine ⟨by simpa using e1.symm,by simp at e3;omega,?_⟩;rw [← h,Nat.zero_add,List.drop_eq_nil_of_le (by simp at e3;omega)]
    simp
 | tuple _=>cases h
 | _=>exact one rfl h
theorem yc2 {pl:Nat→Option (Nat×Nat)} {fs:List (Nat×Nat×Bool)} (hpl:∀ i q,fs[i]?=some q→pl i=some (q.1,q.2.1)):∀ (ps:List (Nat×Value)) (cs cs':List Value),fillS fs cs ps=some cs'→Instr.fill pl cs.toArray ps=some cs'.toArray
 | [],cs,cs',h=>by simp only [fillS,Option.some.injEq] at h;subst h;rfl
 | (i,v)::ps,cs,cs',h=>by
  simp only [fillS] at h
  cases hf:fs[i]? with
  | none=>simp [hf] at h
  | some q=>
   obtain ⟨qo,qs,qb⟩:=q;simp only [hf] at h
   cases hs:stv1 qs cs qo v with
   | none=>simp [hs] at h
   | some c1=>
    simp only [hs] at h;obtain ⟨h1,h2,h3⟩:=ycM hs;have:=yc2 hpl ps c1 cs' h;simp only [Instr.fill,hpl i _ hf];rw [if_neg (by simp [h1];omega)];have hfold:=ybN v.cells.toList cs.toArray qo 0 (by simpa using h2);simp only [Nat.add_zero] at hfold;have e:(v.cells.zipIdx.foldl (fun cs (c,j)=>cs.setIfInBounds (qo+j) c) cs.toArray)=c1.toArray:=by
     rw [← Array.foldl_toList,Array.toList_zipIdx,h3]
     simpa using hfold
    rw [e];exact this
def partsV (n:Nat) (f:Nat→Value) (ps:List (Nat×Operand)):List (Nat×Value):=ps.map fun p=>(p.1,hdv (ev n f p.2))
theorem bu_run [ht:HasTT P] {ps:List (Nat×Operand)} {fs:List (Nat×Nat×Bool)} [hz:HasZ P t cs] (hk:kindOf ht.tt t=.st fs) (hf:fillS fs cs (partsV n f ps)=some cs') {dd:Option Tmp} {gd:Option (Nat×Bool)} (W:World) :
  (execOp (ev n f) ⟨dd,.build t ps.toArray,ty,pos,aft,gd⟩).run P W=.ok (.value (.agg cs'.toArray)) W:=by
 obtain ⟨z,hok⟩:=yat ht.ok t;rw [hk] at hok;unfold okTy at hok;have hz:=hz.ok
 cases hi:P.info? t with
 | none=>simp [hi] at hz
 | some i=>
  simp [hi] at hz
  obtain ⟨⟨z0,hz1,hz2⟩,hz3⟩:=hz
  cases hu:P.underlying t with
  | none=>simp [hu] at hok
  | some dd=>
   cases dd<;>simp [hu] at hok
   rename_i fields;obtain ⟨fl,rfl⟩:∃ fl:List Field,fields=fl.toArray:=⟨fields.toList,by simp⟩;have hplaces:∀ (l:List Field) (fs:List (Nat×Nat×Bool)),okFields P l fs=true→(l.mapM fun f=>do Pure.pure (f.offset,← sizeOf f.type):Sem (List (Nat×Nat))).run P W=.ok (fs.map fun q=>(q.1,q.2.1)) W:=by
    intro l
    induction l with
    | nil=>intro fs h;cases fs<;>simp [okFields] at h;rfl
    | cons a l ih=>
     intro fs h
     match fs,h with
     | [],h=>simp [okFields] at h
     | (q1,q2,q3)::fs,h=>
      simp only [okFields,Bool.and_eq_true,beq_iff_eq,bne_iff_ne] at h;obtain ⟨⟨⟨⟨⟨h1,h2⟩,h3⟩,h4⟩,h5⟩,h6⟩:=h;simp only [List.mapM_cons,Sem.run_bind,run_size h2,Result.andThen_ok,Sem.run_pure,ih fs h6,h1,List.map_cons]
   have hfill:=yc2 (pl:=fun i=>((fs.map fun q=>(q.1,q.2.1)).toArray)[i]?) (fs:=fs) (fun i q hq=>by simp [hq]) _ cs cs' hf;have hp:(ps.toArray.map fun p=>(p.1,ev n f p.2)).toList=partsV n f ps:=by simp [partsV,yc9]
   simp only [execOp];have e:(Instr.build t (ps.toArray.map fun p=>(p.1,ev n f p.2))).run P W=.ok (.agg cs'.toArray) W:=by
    unfold Instr.build;simp only [zeroValue,typeInfo,Sem.run_bind,hz1,Result.andThen_ok,Sem.run_pure,run_under hu];have hprog:(program).run P W=.ok P W:=rfl;simp only [hprog,Result.andThen_ok,hi,Sem.run_pure,hz1,List.mapM_toArray,Sem.run_map];rw [hplaces fl fs (by simpa using hok.2)];simp only [Result.andThen_ok,hp,hz2,hfill,Sem.run_pure]
   simp only [Sem.run_bind];rw [e]
   rfl
theorem bu [ht:HasTT P] {ps:List (Nat×Operand)} {fs:List (Nat×Nat×Bool)} [hz:HasZ P t cs] (hk:kindOf ht.tt t=.st fs) (hf:fillS fs cs (partsV n f ps)=some cs')
  (h:WL P ops Q rest n (upd' f d (.agg cs'.toArray)) w):WL P ops Q (⟨some d,.build t ps.toArray,ty,pos,aft,none⟩::rest) n f w:=
 plain rfl (fun W=>bu_run hk hf W) h
end
end Z
structure WR (P:Program) (ops:Array Oper) (Q:Exit→Act→World→Prop) (S:World→Prop) (L k m n:Nat) (f:Nat→Value) (w:World):Prop where
 out:HM ops S L m w→RM P ops Q S L k m (act n f) w
structure EW (P:Program) (ops:Array Oper) (Q:Exit→Act→World→Prop) (S:World→Prop) (L k m n:Nat) (f:Nat→Value) (w:World) (rs:List Nat):Prop where
 out:EM P ops Q S L k m (act n f) w rs
namespace D
section
variable {P:Program} {ops:Array Oper} {Q:Exit→Act→World→Prop} {S:World→Prop} {L k m n:Nat} {f:Nat→Value} {w:World} {d:Tmp} {dd:Option Tmp} {op:Op} {ty t:TypeId} {pos:String} {aft:Array Edge} {gd:Option (Nat×Bool)} {v:Value}
 {x y:Operand} {g o T:Nat} {cs cs':List Value}
theorem start (S:World→Prop) (L N:Nat) {id:Nat} (hm:P.follows .mixedOrders=true) (hn:Nat.beq ops.toList.length N=true) (hS:S w.drew) (h:WR P ops Q S L N 0 n f w.drew):WC P (.region id ops true) Q n f w:=
 ⟨RM.region S L N hm (by have:=Nat.eq_of_beq_eq_true hn;simpa using this) hS h.out⟩
theorem startS {r:World} {M:List Nat} {Lr:List Res} (hS:Sep r M Lr w) (L N:Nat) {id:Nat} (hm:P.follows .mixedOrders=true) (hn:Nat.beq ops.toList.length N=true) (h:WR P ops Q (Sep r M Lr) L N 0 n f w.drew):WC P (.region id ops true) Q n f w:=
 start (Sep r M Lr) L N hm hn hS.drew h
theorem first (i m':Nat) {oi:Oper} (hi:ops[i]?=some oi) (hc:okTake ops L m m' i=true) (hw:Region.wanted oi (yielded ops (fr n f))=true) (hr:∀ W,(execOp (ev n f) oi).run P W=.ok (.value v) W)
  (h:WR P ops Q S L k m' n (putf f oi.dst v) w):WR P ops Q S L (k+1) m n f w:=by
 refine ⟨fun hH=>?_⟩;simp only [okTake,Bool.and_eq_true,decide_eq_true_eq,beq_iff_eq] at hc;obtain ⟨⟨hlt,rfl⟩,hc⟩:=hc;have h:=h.out;unfold RM HM at *;rw [← yaB hlt] at h;refine RG.take (v:=v) i hi hc hw hH (fun W=>?_) ?_
 ·rw [act_eval'];exact hr W
 ·rw [yac];exact h
theorem yes (i m':Nat) {oi:Oper} (hi:ops[i]?=some oi) (hc:okTake ops L m m' i=true) (hw:Region.wanted oi (yielded ops (fr n f))=false)
  (h:WR P ops Q S L k m' n (putf f oi.dst undef) w):WR P ops Q S L (k+1) m n f w:=by
 refine ⟨fun hH=>?_⟩;simp only [okTake,Bool.and_eq_true,decide_eq_true_eq,beq_iff_eq] at hc;obtain ⟨⟨hlt,rfl⟩,hc⟩:=hc;have h:=h.out;unfold RM HM at *;rw [← yaB hlt] at h;simp only [canTake,Bool.and_eq_true,bne_iff_ne] at hc;obtain ⟨⟨⟨hs,hf⟩,hr⟩,hne⟩:=hc;refine RG.first (v:=undef) hi (Region.noSelect_spec hs) (fun _ _ _ h=>h) hne (fun _=>True) (.inl fun _=>trivial) _ _ _ w (Region.free_spec hi hf) (by simpa using hr)
  (.inr ⟨hw,rfl⟩) trivial (.inl fun _=>trivial) hH ?_
 rw [yac];exact h (hH.set i)
theorem yc3 (i m':Nat) {oi:Oper} (hi:ops[i]?=some oi) (hc:okLoad ops L m m' i=true) (hw:Region.wanted oi (yielded ops (fr n f))=true) (hr:∀ W,S W→(execOp (ev n f) oi).run P W=.ok (.value v) W)
  (h:WR P ops Q S L k m' n (putf f oi.dst v) w):WR P ops Q S L (k+1) m n f w:=by
 refine ⟨fun hH=>?_⟩;simp only [okLoad,Bool.and_eq_true,decide_eq_true_eq,beq_iff_eq] at hc;obtain ⟨⟨hlt,rfl⟩,hc⟩:=hc;have h:=h.out;unfold RM HM at *;rw [← yaB hlt] at h;refine RG.load (v:=v) i hi hc hw hH (fun W hS=>?_) ?_
 ·rw [act_eval'];exact hr W hS
 ·rw [yac];exact h
theorem wantedN {dd:Option Tmp} {tm:Array Value}:Region.wanted ⟨dd,op,ty,pos,aft,none⟩ (yielded ops tm)=true:=by simp [Region.wanted]
theorem wantedT {j s:Nat} {b:Bool} (hj:(ops[j]?).bind (·.dst)=some s) (hs:ev n f (.tmp s)=.bool b):Region.wanted ⟨dd,op,ty,pos,aft,some (j,b)⟩ (yielded ops (fr n f))=true:=by
 simp [Region.wanted,Z.yields hj hs]
theorem wantedF {j s:Nat} {b:Bool} (hj:(ops[j]?).bind (·.dst)=some s) (hs:ev n f (.tmp s)=.bool (!b)):Region.wanted ⟨dd,op,ty,pos,aft,some (j,b)⟩ (yielded ops (fr n f))=false:=by
 cases b<;>simp [Region.wanted,Z.yields hj hs]
theorem pr [ht:HasTT P] (i m':Nat) (hi:ops[i]?=some ⟨some d,op,ty,pos,aft,gd⟩) (hw:Region.wanted ⟨some d,op,ty,pos,aft,gd⟩ (yielded ops (fr n f))=true) (hc:okTake ops L m m' i=true) (hp:pureOp ht.tt n f op=some v) (h:WR P ops Q S L k m' n (upd' f d v) w):WR P ops Q S L (k+1) m n f w:=
 first i m' hi hc hw (fun W=>ycH (o:=⟨some d,op,ty,pos,aft,gd⟩) ht.ok hp W) h
theorem skF (i m':Nat) {j s:Nat} {b:Bool} (hi:ops[i]?=some ⟨some d,op,ty,pos,aft,some (j,b)⟩) (hc:okTake ops L m m' i=true) (hj:(ops[j]?).bind (·.dst)=some s) (hs:ev n f (.tmp s)=.bool (!b)) (h:WR P ops Q S L k m' n (upd' f d undef) w):WR P ops Q S L (k+1) m n f w:=
 yes i m' hi hc (wantedF hj hs) h
theorem sk (i m':Nat) {j s:Nat} {b:Bool} (h:WR P ops Q S L k m' n (upd' f d undef) w) (hi:ops[i]?=some ⟨some d,op,ty,pos,aft,some (j,b)⟩:=by exact rfl) (hc:okTake ops L m m' i=true:=by kernel_rfl) (hj:(ops[j]?).bind (·.dst)=some s:=by exact rfl) (hs:ev n f (.tmp s)=.bool (!b):=by exact rfl):WR P ops Q S L (k+1) m n f w:=skF i m' hi hc hj hs h
theorem sum (i m':Nat) {c:Int} (hi:ops[i]?=some ⟨some d,op,ty,pos,aft,gd⟩) (hw:Region.wanted ⟨some d,op,ty,pos,aft,gd⟩ (yielded ops (fr n f))=true) (hc:okTake ops L m m' i=true) (hp:Z.ari n f op=some c) (h1 : -9223372036854775808≤c∧c≤9223372036854775807) (h:WR P ops Q S L k m' n (upd' f d (.int .i64 c)) w):WR P ops Q S L (k+1) m n f w:=
 first i m' hi hc hw (fun W=>by rw [Z.ari_ok (o:=⟨some d,op,ty,pos,aft,gd⟩) hp W,Z.wrap_in h1.1 h1.2]) h
theorem sumW (i m':Nat) {c:Int} (hi:ops[i]?=some ⟨some d,op,ty,pos,aft,gd⟩) (hw:Region.wanted ⟨some d,op,ty,pos,aft,gd⟩ (yielded ops (fr n f))=true) (hc:okTake ops L m m' i=true) (hp:Z.ari n f op=some c) (h:WR P ops Q S L k m' n (upd' f d (.int .i64 (IntKind.i64.wrap c))) w):WR P ops Q S L (k+1) m n f w:=
 first i m' hi hc hw (fun W=>Z.ari_ok (o:=⟨some d,op,ty,pos,aft,gd⟩) hp W) h
theorem ix [ht:HasTT P] (i m':Nat) {e sz len cap:Nat} {j:Int} (hi:ops[i]?=some ⟨some d,.indexAddr t x y,ty,pos,aft,gd⟩) (hw:Region.wanted ⟨some d,.indexAddr t x y,ty,pos,aft,gd⟩ (yielded ops (fr n f))=true) (hc:okTake ops L m m' i=true) (hx:ev n f x=.slice (some ⟨g,o,none⟩) len cap) (hy:ev n f y=.int .i64 j) (hk:kindOf ht.tt t=.sl e sz) (hj:0≤j∧j < len)
  (h:WR P ops Q S L k m' n (upd' f d (.pointer (some ⟨g,o+j.toNat * sz,none⟩))) w):WR P ops Q S L (k+1) m n f w:=by
 obtain ⟨hu,hs⟩:=Z.kind_sl hk;refine first i m' hi hc hw (fun W=>?_) h
 simp only [execOp,hx,hy,Instr.indexAt,asIntOf,Sem.run_bind,Sem.run_pure,Result.andThen_ok,run_under hu]
 simp [hj.1,hj.2,run_size hs,yap]
theorem ixn [ht:HasTT P] (i m':Nat) {e sz len cap:Nat} {j:Nat} (hi:ops[i]?=some ⟨some d,.indexAddr t x y,ty,pos,aft,gd⟩) (hw:Region.wanted ⟨some d,.indexAddr t x y,ty,pos,aft,gd⟩ (yielded ops (fr n f))=true) (hc:okTake ops L m m' i=true) (hx:ev n f x=.slice (some ⟨g,o,none⟩) len cap) (hy:ev n f y=.int .i64 (j:Int)) (hk:kindOf ht.tt t=.sl e sz) (hj:j < len)
  (h:WR P ops Q S L k m' n (upd' f d (.pointer (some ⟨g,o+j * sz,none⟩))) w):WR P ops Q S L (k+1) m n f w:=
 ix i m' hi hw hc hx hy hk ⟨oM,oM⟩ (by simpa using h)
theorem ia [ht:HasTT P] (i m':Nat) {e sz len:Nat} {j:Int} (hi:ops[i]?=some ⟨some d,.indexAddr t x y,ty,pos,aft,gd⟩) (hw:Region.wanted ⟨some d,.indexAddr t x y,ty,pos,aft,gd⟩ (yielded ops (fr n f))=true) (hc:okTake ops L m m' i=true) (hx:ev n f x=.pointer (some ⟨g,o,none⟩)) (hy:ev n f y=.int .i64 j) (hk:kindOf ht.tt t=.ar len e sz) (hj:0≤j∧j < len)
  (h:WR P ops Q S L k m' n (upd' f d (.pointer (some ⟨g,o+j.toNat * sz,none⟩))) w):WR P ops Q S L (k+1) m n f w:=by
 obtain ⟨hu,hs⟩:=Z.kind_ar hk;refine first i m' hi hc hw (fun W=>?_) h
 simp only [execOp,hx,hy,Instr.indexAt,asIntOf,Sem.run_bind,Sem.run_pure,Result.andThen_ok,run_under hu,Instr.sureAddr]
 simp [hj.1,hj.2,run_size hs,yap]
theorem ld [ht:HasTT P] (i m':Nat) (hi:ops[i]?=some ⟨some d,.load t x,ty,pos,aft,gd⟩) (hw:Region.wanted ⟨some d,.load t x,ty,pos,aft,gd⟩ (yielded ops (fr n f))=true) (hc:okLoad ops L m m' i=true) (hx:ev n f x=.pointer (some ⟨g,o,none⟩)) (hb:∀ W,S W→Blk W g T cs.toArray) (hv:Z.ldv ht.tt t cs o=some v)
  (h:WR P ops Q S L k m' n (upd' f d v) w):WR P ops Q S L (k+1) m n f w:=by
 refine yc3 i m' hi hc hw (fun W hS=>?_) h;unfold execOp;simp only [hx,Instr.loadAt,Instr.sureAddr,Sem.run_bind,Sem.run_pure,Result.andThen_ok,Z.ldv_ok (hb W hS) hv]
theorem ldE [ht:HasTT P] (i m':Nat) {q:Nat} (hi:ops[i]?=some ⟨some d,.load t x,ty,pos,aft,gd⟩) (hw:Region.wanted ⟨some d,.load t x,ty,pos,aft,gd⟩ (yielded ops (fr n f))=true) (hc:okLoad ops L m m' i=true) (hx:ev n f x=.pointer (some ⟨g,o+q,none⟩)) (hb:∀ W,S W→W.rangeAt g o cs) (hv:Z.ldv ht.tt t (cs.drop q) 0=some v)
  (h:WR P ops Q S L k m' n (upd' f d v) w):WR P ops Q S L (k+1) m n f w:=by
 refine yc3 i m' hi hc hw (fun W hS=>?_) h;unfold execOp;simp only [hx,Instr.loadAt,Instr.sureAddr,Sem.run_bind,Sem.run_pure,Result.andThen_ok,Z.ldvR (Z.range_drop (hb W hS) q) hv]
theorem ldR [ht:HasTT P] (i m':Nat) (hi:ops[i]?=some ⟨some d,.load t x,ty,pos,aft,gd⟩) (hw:Region.wanted ⟨some d,.load t x,ty,pos,aft,gd⟩ (yielded ops (fr n f))=true) (hc:okLoad ops L m m' i=true) (hx:ev n f x=.pointer (some ⟨g,o,none⟩)) (hb:∀ W,S W→W.rangeAt g o cs) (hv:Z.ldv ht.tt t cs 0=some v)
  (h:WR P ops Q S L k m' n (upd' f d v) w):WR P ops Q S L (k+1) m n f w:=by
 refine yc3 i m' hi hc hw (fun W hS=>?_) h;unfold execOp;simp only [hx,Instr.loadAt,Instr.sureAddr,Sem.run_bind,Sem.run_pure,Result.andThen_ok,Z.ldvR (hb W hS) hv]
theorem bu [ht:HasTT P] (i m':Nat) {ps:List (Nat×Operand)} {fs:List (Nat×Nat×Bool)} [hz:HasZ P t cs] (hi:ops[i]?=some ⟨some d,.build t ps.toArray,ty,pos,aft,gd⟩) (hw:Region.wanted ⟨some d,.build t ps.toArray,ty,pos,aft,gd⟩ (yielded ops (fr n f))=true) (hc:okTake ops L m m' i=true) (hk:kindOf ht.tt t=.st fs) (hf:Z.fillS fs cs (Z.partsV n f ps)=some cs')
  (h:WR P ops Q S L k m' n (upd' f d (.agg cs'.toArray)) w):WR P ops Q S L (k+1) m n f w:=
 first i m' hi hc hw (fun W=>Z.bu_run hk hf W) h
theorem eff (i m':Nat) {oi:Oper} {K:(Nat→Value)→World→Prop} (hi:ops[i]?=some oi) (hw:Region.wanted oi (yielded ops (fr n f))=true) (hr:Region.ready .any ops (listedOf ops.size m)=[i]) (hc:okStep ops m m' i=true) (hK:∀ f' w',K f' w'→(HM ops S L m' w'∧WR P ops Q S L k m' n f' w'))
  (h:WE P oi K (NoPanic Q) n f w):WR P ops Q S L (k+1) m n f w:=by
 refine ⟨fun _=>RM.each [i] hr (by simp) (EM.consW i m' hi hc hw (fun K' hK'=>?_) EM.nil)⟩;exact h.out K' fun f' w' hk=>hK'.out _ _ (hK f' w' hk).1 (hK f' w' hk).2.out
theorem ef (i m':Nat) {oi:Oper} (h:WE P oi (fun f' w'=>HM ops S L m' w'∧WR P ops Q S L k m' n f' w') (NoPanic Q) n f w) (hi:ops[i]?=some oi:=by exact rfl) (hw:Region.wanted oi (yielded ops (fr n f))=true:=by exact D.wantedN) (hr:Region.ready .any ops (listedOf ops.size m)=[i]:=by kernel_rfl) (hc:okStep ops m m' i=true:=by kernel_rfl):WR P ops Q S L (k+1) m n f w:=D.eff i m' hi hw hr hc (fun _ _ h=>h) h
theorem each (rs:List Nat) (hr:Region.ready .any ops (listedOf ops.size m)=rs) (hne:rs.isEmpty=false) (h:EW P ops Q S L k m n f w rs):WR P ops Q S L (k+1) m n f w:=
 ⟨fun _=>RM.each rs hr (fun e=>by rw [e] at hne;cases hne) h.out⟩
theorem enil:EW P ops Q S L k m n f w []:=⟨EM.nil⟩
theorem econs (i m':Nat) {oi:Oper} {rs:List Nat} {K:(Nat→Value)→World→Prop} (hi:ops[i]?=some oi) (hw:Region.wanted oi (yielded ops (fr n f))=true) (hc:okStep ops m m' i=true) (hK:∀ f' w',K f' w'→(HM ops S L m' w'∧WR P ops Q S L k m' n f' w'))
  (h:WE P oi K (NoPanic Q) n f w) (hs:EW P ops Q S L k m n f w rs):EW P ops Q S L k m n f w (i::rs):=
 ⟨EM.consW i m' hi hc hw (fun K' hK'=>h.out K' fun f' w' hk=>hK'.out _ _ (hK f' w' hk).1 (hK f' w' hk).2.out) hs.out⟩
theorem done (hr:Region.ready .any ops (listedOf ops.size m)=[]) (h:Q .normal (act n f) w):WR P ops Q S L k m n f w:=⟨fun _=>RM.done hr h⟩
theorem dn (h:Q .normal (act n f) w) (hr:Region.ready .any ops (listedOf ops.size m)=[]:=by kernel_rfl):WR P ops Q S L k m n f w:=done hr h
theorem slot (s:Nat) {b:Bool} (hs:ev n f (.tmp s)=.bool b) (h1:b=true→WR P ops Q S L k m n (upd' f s (.bool true)) w) (h2:b=false→WR P ops Q S L k m n (upd' f s (.bool false)) w):WR P ops Q S L k m n f w:=by
 have hf:f s=.bool b:=by
  simp only [ev] at hs
  cases hb:Nat.blt s n
  ·rw [hb] at hs;simp [undef] at hs
  ·rw [hb] at hs;exact hs
 have:=Z.upd_self f s;rw [hf] at this
 cases b
 ·rw [← this];exact h2 rfl
 ·rw [← this];exact h1 rfl
end
end D
def Res.sl (e sz:Nat) (v:Value) (rows:List (List Value)):Res where
 holds w fp:=(∀ row,row∈rows→row.length=sz∧∀ u,u∈row→u.oneCell'=true)∧∃ A c,v=.slice A rows.length c∧
  ((c=0∧rows=[]∧fp=[])∨(0 < c∧∃ g cur,A=some ⟨g,0,none⟩∧fp=[g]∧Blk w g e cur∧rows.length≤c∧c≤maxLen∧cur.size=c * sz∧cur.toList.take (rows.length * sz)=rows.flatten))
 loc:=fun ⟨h1,A,c,hv,h⟩ hb=>⟨h1,A,c,hv,h.imp id fun ⟨h0,g,cur,hA,hf,hg,rest⟩=>⟨h0,g,cur,hA,hf,by have:=hb g (by rw [hf];simp);unfold Blk;rw [this];exact hg,rest⟩⟩
theorem flatten_length {sz:Nat}:∀ {rows:List (List Value)},(∀ row,row∈rows→row.length=sz)→rows.flatten.length=rows.length * sz
 | [],_=>by simp
 | row::rows,h=>by
  rw [List.flatten_cons,List.length_append,h row (by simp),flatten_length (fun r hr=>h r (by simp [hr])),List.length_cons,Nat.add_mul];omega
theorem flatten_at {sz:Nat}:∀ {rows:List (List Value)},(∀ row,row∈rows→row.length=sz)→∀ {q:Nat} (hq:q < rows.length) {i:Nat},i < sz→rows.flatten[q * sz+i]?=rows[q][i]?
 | [],_,q,hq,_,_=>by simp at hq
 | row::rows,h,q,hq,i,hi=>by
  have hr:=h row (by simp)
  cases q with
  | zero=>rw [List.flatten_cons,List.getElem?_append_left (by rw [hr];omega)];simp
  | succ q=>
   rw [List.flatten_cons,List.getElem?_append_right (by rw [hr,Nat.add_mul];omega)];have:(q+1) * sz+i - row.length=q * sz+i:=by rw [hr,Nat.add_mul];omega
   rw [this,flatten_at (fun r hr=>h r (by simp [hr])) (by simpa using hq) hi]
   simp
structure Rows' (w:World) (sz:Nat) (v:Value) (rows:List (List Value)):Prop where
 ok:∀ row,row∈rows→row.length=sz∧∀ u,u∈row→u.oneCell'=true
 rd:∃ A c,v=.slice A rows.length c∧(A=none→c=0)∧rows.length≤c∧Rd w sz A rows.length rows.flatten
def Reads (r:World) (F:List Res) (sz:Nat) (v:Value) (rows:List (List Value)):Prop:=∀ (L:List Res) (w:World),Sep r [] (L++F) w→Rows' w sz v rows
section
variable {r w w':World} {M:List Nat} {L F:List Res} {e sz:Nat} {k:List Res} {v:Value} {rows:List (List Value)} {S:List Nat}
theorem Rows'.chg (h:Rows' w sz v rows) (hc:Chg S w w') (hs:∀ A n c,v=.slice (some A) n c→0 < n→A.block∉S):Rows' w' sz v rows:=by
 obtain ⟨h1,A,c,hv,hn,hle,hr⟩:=h;refine ⟨h1,A,c,hv,hn,hle,hr.1,fun h0=>?_⟩;obtain ⟨ad,rfl,hcell⟩:=hr.2 h0;exact ⟨ad,rfl,fun j u hu=>hc.cellv (hcell j u hu) (by rw [ycy];exact hs ad _ _ hv h0)⟩
theorem Rows'.ext (h:Rows' w sz v rows) (hc:Chg [] w w'):Rows' w' sz v rows:=h.chg hc (by simp)
theorem Sep.slrows (h:Sep r M L w) (ha:At L k (.sl e sz v rows)):Rows' w sz v rows:=by
 obtain ⟨fp,⟨f1,f2,rfl,⟨h1,A,c,hv,hx⟩,_⟩,_⟩:=(h.focus ha).ex;have hl:=flatten_length fun row hr=>(h1 row hr).1
 rcases hx with ⟨rfl,rfl,_⟩|⟨h0,g,cur,rfl,_,hb,hle,hm,hs,ht⟩
 ·exact ⟨h1,A,0,hv,fun _=>rfl,Nat.le_refl _,by simp,fun h=>absurd h (by simp)⟩
 ·refine ⟨h1,_,c,hv,by simp,hle,hl,fun _=>⟨_,rfl,fun j u hu=>?_⟩⟩;rw [yap,hb.cell,Nat.zero_add,← Array.getElem?_toList];rw [← ht,List.getElem?_take] at hu
  split at hu
  ·exact hu
  ·cases hu
theorem at_app (L:List Res) {k:List Res} {R:Res} (h:At F k R):At (L++F) (L++k) R:=by
 induction L with
 | nil=>simpa using h
 | cons a L ih=>simp only [List.cons_append];exact .next ih
theorem Reads.of_at (ha:At F k (.sl e sz v rows)):Reads r F sz v rows:=fun L _ h=>h.slrows (at_app L ha)
theorem Reads.root (h:Rows' r sz v rows):Reads r F sz v rows:=fun _ _ hS=>h.ext hS.chg
theorem Reads.cons (h:Reads r F sz v rows) (R:Res):Reads r (R::F) sz v rows:=fun L w hS=>h (L++[R]) w (by simpa using hS)
theorem Reads.app (h:Reads r F sz v rows) (L':List Res):Reads r (L'++F) sz v rows:=fun L w hS=>h (L++L') w (by simpa using hS)
theorem Rows'.at (h:Rows' w sz v rows) (hsz:0 < sz) {q:Nat} (hq:q < rows.length):∃ g o c,v=.slice (some ⟨g,o,none⟩) rows.length c∧g < w.heap.size∧w.rangeAt g (o+q * sz) rows[q]:=by
 obtain ⟨h1,A,c,hv,hn,hle,hr⟩:=h;obtain ⟨ad,rfl,hcell⟩:=hr.2 oM;have hl:=flatten_length fun row hr=>(h1 row hr).1
 have hlen:=(h1 rows[q] (by simp)).1;have h0:=flatten_at (fun row hr=>(h1 row hr).1) hq hsz;rw [Nat.add_zero] at h0;have hu0:=hcell (q * sz) _ (h0.trans (List.getElem?_eq_getElem oM));have hspot:ad.spot=none∧ad.block < w.heap.size:=by
  have hb:=World.block_lt_of_cell? w _ hu0;rw [ycy] at hb;refine ⟨?_,hb⟩;have h00:∃ u,w.cell? (ad.add 0)=some u:=by
   have:0 < rows.flatten.length:=by rw [hl];exact Nat.mul_pos oM hsz
   exact ⟨_,hcell 0 _ (List.getElem?_eq_getElem this)⟩
  obtain ⟨u,hu⟩:=h00;obtain ⟨b,off,sp⟩:=ad
  cases sp with
  | none=>rfl
  | some s=>
   unfold World.cell? at hu;unfold Addr.add at hu
   simp at hu
   split at hu<;>simp_all
 obtain ⟨b,off,sp⟩:=ad;obtain ⟨hsp,hb⟩:=hspot;simp only at hsp;subst hsp;refine ⟨b,off,c,hv,hb,fun j u hu=>?_⟩;have hj:j < sz:=by have:=(List.getElem?_eq_some_iff.1 hu).1;omega
 have:=hcell (q * sz+j) u ((flatten_at (fun row hr=>(h1 row hr).1) hq hj).trans hu);rw [yap] at this;rw [Nat.add_assoc];exact this
theorem Rows'.form (h:Rows' w sz v rows):∃ A c,v=.slice A rows.length c∧rows.length≤c:=by
 obtain ⟨_,A,c,hv,_,hle,_⟩:=h;exact ⟨A,c,hv,hle⟩
theorem Rows'.mform {α:Type} {l:List α} {f:α→List Value} (h:Rows' w sz v (l.map f)):∃ A c,v=.slice A l.length c∧l.length≤c:=by
 obtain ⟨A,c,hv,hle⟩:=h.form;exact ⟨A,c,by simpa using hv,by simpa using hle⟩
theorem Rows'.mat {α:Type} {l:List α} {f:α→List Value} {A:Option Addr} {n c:Nat} (h:Rows' w sz (.slice A n c) (l.map f)) (hsz:0 < sz) {q:Nat} (hq:q < l.length):∃ g o,A=some ⟨g,o,none⟩∧g < w.heap.size∧w.rangeAt g (o+q * sz) (f l[q]):=by
 obtain ⟨g,o,c',hv,hg,hr⟩:=h.at hsz (q:=q) (by simpa using hq)
 injection hv with hA
 exact ⟨g,o,hA,hg,by simpa using hr⟩
theorem Rows'.elem {α:Type} {l:List α} {f:α→List Value} {g o n c:Nat} (h:Rows' w sz (.slice (some ⟨g,o,none⟩) n c) (l.map f)) (hsz:0 < sz) {q:Nat} (hq:q < l.length):w.rangeAt g (o+q * sz) (f l[q]):=by
 obtain ⟨g',o',hA,_,hr⟩:=h.mat hsz hq
 injection hA with hA
 injection hA with e1 e2
 subst e1;subst e2;exact hr
theorem Sep.lit1 (h:Sep r M L w) {g:Nat} {row:List Value} (ha:At L k (.blk g e row)) (hl:Nat.beq row.length sz=true) (h1:row.all (·.oneCell')=true):Rows' w sz (.slice (some ⟨g,0,none⟩) 1 1) [row]:=by
 have hb:=h.blk ha;replace hl:=Nat.eq_of_beq_eq_true hl;replace h1:∀ u,u∈row→u.oneCell'=true:=by simpa using h1
 refine ⟨fun row' hr=>by simp at hr;subst hr;exact ⟨hl,h1⟩,_,1,rfl,by simp,by simp,by simpa using hl,fun _=>⟨_,rfl,fun j u hu=>?_⟩⟩;rw [yap,hb.cell]
 simpa using hu
end
class HasE (P:Program) (e:TypeId) (sz bytes:outParam Nat):Prop where
 ok:∃ i z,P.info? e=some i∧i.zero=some z∧i.size=sz∧i.bytes=bytes∧z.cells.size=sz∧0 < sz
theorem HasE.of {P:Program} {e sz bytes:Nat} (h:(P.info? e).map (fun i=>(i.zero.map (·.cells.size),i.size,i.bytes))=some (some sz,sz,bytes)) (h0:0 < sz):HasE P e sz bytes:=by
 cases hi:P.info? e with
 | none=>simp [hi] at h
 | some i=>
  simp [hi] at h
  obtain ⟨⟨z,h1,h2⟩,h3,h4⟩:=h;exact ⟨i,z,hi,h1,h3,h4,h2,h0⟩
namespace Z
section
variable {P:Program} {K:(Nat→Value)→World→Prop} {Q:Exit→Act→World→Prop} {n:Nat} {f:Nat→Value} {w r:World} {M:List Nat} {L:List Res} {d:Tmp} {ty t:TypeId} {pos:String} {aft:Array Edge} {v:Value}
 {x y:Operand} {e sz bytes:Nat} {k:List Res} {rows ys:List (List Value)}
theorem yiY {B:Option Addr} {n0 c0:Nat} (t:TypeId) (htt:P.underlying t=some (.slice e)) [he:HasE P e sz bytes] (hS:Sep r M (.sl e sz (.slice B n0 c0) rows::L) w) (u:Value) (hu:Rows' w sz u ys) (h63:(rows.length+ys.length) * bytes≤140737488355328) (hm:rows.length+ys.length≤maxLen) (ty:TypeId) :
  ∃ A' c' w',(Builtin.append_ #[t,t] ty #[.slice B n0 c0,u]).run P w=.ok (.slice A' (rows.length+ys.length) c') w'∧Sep r M (.sl e sz (.slice A' (rows.length+ys.length) c') (rows++ys)::L) w':=by
 obtain ⟨i,z,hi,hz,hsz,hby,hzs,hpos⟩:=he.ok;obtain ⟨hy1,A,c,rfl,hnil,hle,hr⟩:=hu;obtain ⟨fp,⟨f1,f2,rfl,hsl,hL⟩,_⟩:=id hS.ex;obtain ⟨h1,B',c0',hv,hx⟩:=hsl
 injection hv with e1 e2 e3
 subst e1;subst e3;have hall:∀ row,row∈rows++ys→row.length=sz∧∀ u,u∈row→u.oneCell'=true:=by
  intro row hrow
  rcases List.mem_append.1 hrow with h|h
  ·exact h1 row h
  ·exact hy1 row h
 have hyl:ys.flatten.length=ys.length * sz:=flatten_length fun row hr=>(hy1 row hr).1
 have hy1':∀ u∈ys.flatten,u.oneCell'=true:=fun u hu=>by
  obtain ⟨row,hrow,hu⟩:=List.mem_flatten.1 hu;exact (hy1 row hrow).2 u hu
 have fin:∀ (S:List Nat) (A':Option Addr) (c':Nat) (w':World),(∀ f1,(Res.sl e sz (.slice B n0 c0) rows).holds w f1→∀ b,b∈S→b∈f1)→Chg S w w'→
   (∀ f1,(Res.sl e sz (.slice B n0 c0) rows).holds w f1→(c'=0∧rows++ys=[])∨(0 < c'∧∃ g cur,A'=some ⟨g,0,none⟩∧(g∈f1∨w.heap.size≤g)∧Blk w' g e cur∧rows.length+ys.length≤c'∧c'≤maxLen∧cur.size=c' * sz∧cur.toList.take ((rows.length+ys.length) * sz)=(rows++ys).flatten))→
   Sep r M (.sl e sz (.slice A' (rows.length+ys.length) c') (rows++ys)::L) w':=by
  intro S A' c' w' hin hc hnew;refine hS.upd fun f1 hf1=>⟨hc.mono (hin f1 hf1),?_⟩
  rcases hnew f1 hf1 with ⟨rfl,hnil'⟩|⟨h0,g,cur,rfl,hg,hb,hle',hm',hs',ht'⟩
  ·refine ⟨[],⟨hall,A',0,?_,.inl ⟨rfl,hnil',rfl⟩⟩,by simp,by simp⟩;have:=congrArg List.length hnil'
   simp at this
   simp [this.1,this.2]
  ·refine ⟨[g],⟨hall,_,c',by simp,.inr ⟨h0,g,cur,rfl,rfl,hb,by simpa using hle',hm',hs',by simpa using ht'⟩⟩,by simp,?_⟩;intro b hb'
   simp at hb'
   subst hb';exact ⟨hb.lt,hg⟩
 rcases hx with ⟨rfl,hrows,_⟩|⟨h0,g,cur,rfl,hf1,hb,hle0,hm0,hs0,ht0⟩
 ·
  subst hrows;simp only [List.length_nil,Nat.zero_add,List.nil_append] at *;subst e2;obtain ⟨A',c',w',hrun,ho,hBn,hc,hn'⟩:=yhb (P:=P) (w:=w) t ty e i z sz bytes htt hi hz hsz hby hzs w.heap.size (Nat.le_refl _) B A ys.length c ys.flatten hnil hr oM h63;refine ⟨A',c',w',by simpa using hrun,fin [] A' c' w' (by simp) hc fun f1 _=>?_⟩
  rcases ho with ⟨h2,h3,h4⟩|ho
  ·left
   exact ⟨h3,List.eq_nil_of_length_eq_zero h2⟩
  ·rcases ho.2 with ⟨hv2,hn2⟩|⟨g,cap,cur,hv2,hbg,hg2,h5,h6,h7,h8⟩
   ·injection hv2 with _ _ e3
    left
    exact ⟨e3,List.eq_nil_of_length_eq_zero hn2⟩
   ·injection hv2 with e1 _ e3
    subst e1;subst e3
    by_cases hc0:c'=0
    ·left
     exact ⟨hc0,List.eq_nil_of_length_eq_zero oM⟩
    ·right
     exact ⟨oM,g,cur,rfl,.inr hbg,hg2,h5,h6,h7,by rw [h8]⟩
 ·have hown:w.ownsRow 0 e sz (.slice (some ⟨g,0,none⟩) rows.length c0) rows.length rows.flatten:=
   ⟨flatten_length fun row hr=>(h1 row hr).1,.inr ⟨g,c0,cur,rfl,Nat.zero_le _,hb,hle0,hm0,hs0,ht0⟩⟩
  have hn0:n0=rows.length:=e2;subst hn0
  cases A with
  | none=>
   have hm:ys.length=0:=by
    rcases Nat.eq_zero_or_pos ys.length with h|h
    ·exact h
    ·obtain ⟨ad,he',_⟩:=hr.2 h
     cases he'
   have hys:ys=[]:=List.eq_nil_of_length_eq_zero hm;subst hys;have hc0:=hnil rfl;subst hc0;have hrun:=run_append_owned_none (P:=P) (w:=w) 0 t ty e i sz htt hi _ rows.length rows.flatten hown;exact ⟨_,c0,w,by simpa using hrun,by simpa using hS⟩
  | some ad=>
   have hnews:∀ j u,ys.flatten[j]?=some u→w.cell? (ad.add j)=some u:=by
    intro j u hu
    rcases Nat.eq_zero_or_pos ys.length with h|h
    ·have hy:ys=[]:=List.eq_nil_of_length_eq_zero h;rw [hy] at hu
     simp at hu
    ·obtain ⟨ad',he',hcell⟩:=hr.2 h
     injection he' with he'
     subst he';exact hcell j u hu
   by_cases hroom:rows.length+ys.length≤c0
   ·obtain ⟨w',hrun,ho,hg'⟩:=run_append_fits (P:=P) (w:=w) 0 t ty e i sz htt hi hsz g rows.length c0 rows.flatten hown ad ys.length c ys.flatten hyl hnews hy1' hroom;refine ⟨_,c0,w',hrun,fin [g] _ c0 w' ?_ (Chg.of_grown hg' (fun x hx=>by simp at hx;simp [hx])) fun f1 hf=>?_⟩
    ·rintro f1 ⟨_,A2,c2,hv2,hx2⟩ b hb2
     injection hv2 with e1 _ e3
     subst e3
     rcases hx2 with ⟨h3,_⟩|⟨_,g2,_,hA2,hf2,_⟩
     ·omega
     ·rw [← e1] at hA2
      injection hA2 with hA2
      injection hA2 with hg2
      rw [hf2,← hg2];exact hb2
    ·right
     rcases ho.2 with ⟨hv2,_⟩|⟨g2,cap2,cur2,hv2,_,hg2,h5,h6,h7,h8⟩
     ·injection hv2 with h9;cases h9
     ·injection hv2 with e1 _ e3
      injection e1 with e1
      injection e1 with e1
      subst e1;subst e3;obtain ⟨_,A2,c2,hv3,hx2⟩:=hf
      injection hv3 with e4 _ e5
      subst e5;refine ⟨h0,g,cur2,rfl,?_,hg2,h5,h6,h7,by rw [h8,List.flatten_append]⟩
      rcases hx2 with ⟨h3,_⟩|⟨_,g3,_,hA3,hf3,_⟩
      ·omega
      ·rw [← e4] at hA3
       injection hA3 with hA3
       injection hA3 with hg3
       rw [hf3,← hg3]
       simp
   ·subst hsz;subst hby
    have holds:∀ j u,rows.flatten[j]?=some u→w.cell? ((⟨g,0,none⟩:Addr).add j)=some u:=by
     intro j u hu;rw [yap,hb.cell,Nat.zero_add,← Array.getElem?_toList];rw [← ht0,List.getElem?_take] at hu
     split at hu
     ·exact hu
     ·cases hu
    have h63':rows.length+ys.length≤9223372036854775807:=by simp only [maxLen] at hm;omega
    have hge:=grownCap_ge w (rows.length+ys.length) c0 e;have hcm:grownCap w (rows.length+ys.length) c0 e≤maxLen:=grownCap_le_maxLen w (rows.length+ys.length) c0 e hm;have hfit:Builtin.nextslicecap (rows.length+ys.length) c0 * i.bytes≤281474976710656:=growslice_fits oM h63;have hrun:=run_append_grow (P:=P) w t ty e i z htt hi hz ⟨g,0,none⟩ rows.length c0 rows.flatten hown.1 holds ad ys.length c ys.flatten hyl hnews oM oM hfit;refine ⟨_,_,_,hrun,fin [] _ _ _ (by simp) (((Chg.refl [] w).drew).alloc _) fun f1 hf=>.inr ⟨oM,w.heap.size,_,rfl,.inr (Nat.le_refl _),heap_alloc_new w.drew _,oM,hcm,?_,?_⟩⟩
    ·simp only [Array.size_append,List.size_toArray,size_zeroCells,hzs,hown.1,hyl,← Nat.add_mul]
     congr 1
     omega
    ·simp only [Array.toList_append];rw [List.flatten_append,Nat.add_mul,← hown.1,← hyl,← List.length_append];exact List.take_left
end
end Z
structure Runs (P:Program) (n:Nat) (f:Nat→Value) (o:Oper) (v:Value):Prop where
 out:∀ W,(execOp (ev n f) o).run P W=.ok (.value v) W
namespace R
section
variable {P:Program} {n:Nat} {f:Nat→Value} {d:Option Tmp} {ty t:TypeId} {pos:String} {aft:Array Edge} {gd:Option (Nat×Bool)} {v:Value} {x y lo hi:Operand} {e sz:Nat} {A:Option Addr} {m c:Nat}
theorem bound {P:Program} {W:World} {i:Int} {q:Nat} (cd:BoundsCode) (h:0≤i∧i≤q):(Instr.sliceBound (.int .i64 i) q cd).run P W=.ok i.toNat W:=by
 simp [Instr.sliceBound,asIntOf,h.1,h.2]
theorem upto [ht:HasTT P] {h:Int} (hx:ev n f x=.slice A m c) (hh:ev n f hi=.int .i64 h) (hk:kindOf ht.tt t=.sl e sz) (hb:0≤h∧h≤c) :
  Runs P n f ⟨d,.slice t x none (some hi) none,ty,pos,aft,gd⟩ (.slice A h.toNat c):=by
 obtain ⟨hu,hs⟩:=Z.kind_sl hk;refine ⟨fun W=>?_⟩;have e0:∀ k,(Option.map (fun a:Addr=>a.add (0 * k)) A)=A:=fun k=>by cases A<;>simp [Addr.add]
 simp only [execOp,hx,Instr.sliceAt,Option.map_none,Option.map_some,hh,Sem.run_bind,run_under hu,Result.andThen_ok,Instr.slice,Instr.sliceBounds,Sem.run_pure,if_true,bound _ hb,run_size hs,e0]
 simp
theorem since [ht:HasTT P] {l:Int} (hx:ev n f x=.slice A m c) (hl:ev n f lo=.int .i64 l) (hk:kindOf ht.tt t=.sl e sz) (hb:0≤l∧l≤m) :
  Runs P n f ⟨d,.slice t x (some lo) none none,ty,pos,aft,gd⟩ (.slice (if c=l.toNat then A else A.map fun x=>x.add (l.toNat * sz)) (m - l.toNat) (c - l.toNat)):=by
 obtain ⟨hu,hs⟩:=Z.kind_sl hk;refine ⟨fun W=>?_⟩;simp only [execOp,hx,Instr.sliceAt,Option.map_none,Option.map_some,hl,Sem.run_bind,run_under hu,Result.andThen_ok,Instr.slice,Instr.sliceBounds,Sem.run_pure,bound _ hb,run_size hs]
theorem span [ht:HasTT P] {l h:Int} (hx:ev n f x=.slice A m c) (hl:ev n f lo=.int .i64 l) (hh:ev n f hi=.int .i64 h) (hk:kindOf ht.tt t=.sl e sz) (hb:0≤h∧h≤c) (hb':0≤l∧l≤h.toNat) :
  Runs P n f ⟨d,.slice t x (some lo) (some hi) none,ty,pos,aft,gd⟩ (.slice (if c=l.toNat then A else A.map fun x=>x.add (l.toNat * sz)) (h.toNat - l.toNat) (c - l.toNat)):=by
 obtain ⟨hu,hs⟩:=Z.kind_sl hk;refine ⟨fun W=>?_⟩;simp only [execOp,hx,Instr.sliceAt,Option.map_none,Option.map_some,hl,hh,Sem.run_bind,run_under hu,Result.andThen_ok,Instr.slice,Instr.sliceBounds,Sem.run_pure,if_true,bound _ hb,bound _ hb',run_size hs]
theorem whole [ht:HasTT P] {g o len:Nat} (hx:ev n f x=.pointer (some ⟨g,o,none⟩)) (hk:kindOf ht.tt t=.ar len e sz) :
  Runs P n f ⟨d,.slice t x none none none,ty,pos,aft,gd⟩ (.slice (some ⟨g,o,none⟩) len len):=by
 obtain ⟨hu,hs⟩:=Z.kind_ar hk;refine ⟨fun W=>?_⟩;simp only [execOp,hx,Instr.sliceAt,Option.map_none,Sem.run_bind,run_under hu,Result.andThen_ok,Instr.sureAddr,Instr.sliceBounds,Sem.run_pure,run_size hs]
 simp [Addr.add]
end
end R
namespace Z
section
variable {P:Program} {ops:Array Oper} {Q:Exit→Act→World→Prop} {n:Nat} {f:Nat→Value} {w:World} {rest:List Oper} {d:Tmp} {op:Op} {ty:TypeId} {pos:String} {aft:Array Edge} {v:Value}
theorem pl (hr:Runs P n f ⟨some d,op,ty,pos,aft,none⟩ v) (h:WL P ops Q rest n (upd' f d v) w):WL P ops Q (⟨some d,op,ty,pos,aft,none⟩::rest) n f w:=plain rfl hr.out h
end
section
variable {P:Program} {K:(Nat→Value)→World→Prop} {Q:Exit→Act→World→Prop} {n:Nat} {f:Nat→Value} {w r:World} {M:List Nat} {L:List Res} {d:Tmp} {ty t:TypeId} {pos:String} {aft:Array Edge} {v:Value}
 {x y:Operand} {e sz bytes:Nat} {k:List Res} {rows ys:List (List Value)}
theorem nilsl (hS:Sep r M L w) (e sz:Nat) (A:Option Addr):Sep r M (.sl e sz (.slice A 0 0) []::L) w:=
 hS.add (f2:=[]) (Chg.refl _ _) ⟨by simp,A,0,rfl,.inl ⟨rfl,rfl,rfl⟩⟩ (by simp) (by simp)
theorem ap_run (x y:Operand) {ty:TypeId} {pos:String} {aft:Array Edge} {dd:Option Tmp} {gd:Option (Nat×Bool)} {u:Value} {res:Result Value} (hx:ev n f x=v) (hy:ev n f y=u) (h:(Builtin.append_ #[t,t] ty #[v,u]).run P w=res) :
  (execOp (ev n f) ⟨dd,.call ⟨.builtin .append,#[x,y],#[t,t]⟩,ty,pos,aft,gd⟩).run P w=res.andThen fun a w'=>.ok (.value a) w':=by
 simp [execOp,resolve,invoke,builtin,hx,hy,h]
theorem ap [ht:HasTT P] {B:Option Addr} {n0 c0:Nat} {u:Value} (hS:Sep r M L w) (hx:ev n f x=.slice B n0 c0) (hy:ev n f y=u) (hk:kindOf ht.tt t=.sl e sz) [he:HasE P e sz bytes] (ha:At L k (.sl e sz (.slice B n0 c0) rows)) (hu:Rows' w sz u ys)
  (h63:(rows.length+ys.length) * bytes≤140737488355328) (hm:rows.length+ys.length≤maxLen)
  (h:∀ A' c' w',Sep r M (.sl e sz (.slice A' (rows.length+ys.length) c') (rows++ys)::k) w'→K (upd' f d (.slice A' (rows.length+ys.length) c')) w') :
  WE P ⟨some d,.call ⟨.builtin .append,#[x,y],#[t,t]⟩,ty,pos,aft,none⟩ K Q n f w:=by
 refine ⟨fun K' hK=>?_⟩;obtain ⟨A',c',w',hrun,hS'⟩:=yiY (P:=P) t (kind_sl hk).1 (hS.focus ha) u hu h63 hm ty;unfold Oper.wp;rw [act_eval',ap_run x y hx hy hrun];simp only [Result.andThen_ok,Oper.upon_value,yac];exact hK _ _ (h A' c' w' hS')
theorem ap0 [ht:HasTT P] {B:Option Addr} {u:Value} (hS:Sep r M L w) (hx:ev n f x=.slice B 0 0) (hy:ev n f y=u) (hk:kindOf ht.tt t=.sl e sz) [he:HasE P e sz bytes] (hu:Rows' w sz u ys)
  (h63:ys.length * bytes≤140737488355328) (hm:ys.length≤maxLen)
  (h:∀ A' c' w',Sep r M (.sl e sz (.slice A' ys.length c') ys::L) w'→K (upd' f d (.slice A' ys.length c')) w') :
  WE P ⟨some d,.call ⟨.builtin .append,#[x,y],#[t,t]⟩,ty,pos,aft,none⟩ K Q n f w:=by
 refine ap (nilsl hS e sz B) hx hy hk .here hu (by simpa using h63) (by simpa using hm) ?_;intro A' c' w' hS';simp only [List.length_nil,Nat.zero_add,List.nil_append] at hS' ⊢;exact h A' c' w' hS'
theorem apm [ht:HasTT P] {α:Type} {fc:α→List Value} {l l':List α} {B:Option Addr} {n0 c0:Nat} {u:Value} (hS:Sep r M L w) (hx:ev n f x=.slice B n0 c0) (hy:ev n f y=u) (hk:kindOf ht.tt t=.sl e sz) [he:HasE P e sz bytes] (ha:At L k (.sl e sz (.slice B n0 c0) (l.map fc))) (hu:Rows' w sz u (l'.map fc))
  (h63:(l.length+l'.length) * bytes≤140737488355328) (hm:l.length+l'.length≤maxLen)
  (h:∀ A' c' w',Sep r M (.sl e sz (.slice A' (l.length+l'.length) c') ((l++l').map fc)::k) w'→K (upd' f d (.slice A' (l.length+l'.length) c')) w') :
  WE P ⟨some d,.call ⟨.builtin .append,#[x,y],#[t,t]⟩,ty,pos,aft,none⟩ K Q n f w:=by
 refine ap hS hx hy hk ha hu (by simpa using h63) (by simpa using hm) ?_;intro A' c' w' hS';simp only [List.length_map,← List.map_append] at hS' ⊢;exact h A' c' w' hS'
theorem ap0m [ht:HasTT P] {α:Type} {fc:α→List Value} {l:List α} {B:Option Addr} {u:Value} (hS:Sep r M L w) (hx:ev n f x=.slice B 0 0) (hy:ev n f y=u) (hk:kindOf ht.tt t=.sl e sz) [he:HasE P e sz bytes] (hu:Rows' w sz u (l.map fc))
  (h63:l.length * bytes≤140737488355328) (hm:l.length≤maxLen)
  (h:∀ A' c' w',Sep r M (.sl e sz (.slice A' l.length c') (l.map fc)::L) w'→K (upd' f d (.slice A' l.length c')) w') :
  WE P ⟨some d,.call ⟨.builtin .append,#[x,y],#[t,t]⟩,ty,pos,aft,none⟩ K Q n f w:=by
 refine ap0 hS hx hy hk hu (by simpa using h63) (by simpa using hm) ?_;intro A' c' w' hS';simp only [List.length_map] at hS' ⊢;exact h A' c' w' hS'
def sizeT (tt:List Ty) (t:Nat):Option Nat:=match tt[t]? with|some y=>(match y.k with|.other=>none|_=>some y.size)|none=>none
theorem yhe [ht:HasTT P] {t m:Nat} (h:sizeT ht.tt t=some m):(P.info? t).map (·.size)=some m:=by
 unfold sizeT at h
 cases hy:ht.tt[t]? with
 | none=>simp [hy] at h
 | some y=>
  simp only [hy] at h;have hk:y.k≠.other:=by intro e;simp [e] at h
  have:=yef hy hk
  cases hk':y.k<;>simp only [hk'] at h<;>first|exact absurd hk' hk|(injection h with h;rw [this,h])
theorem yav {sz:Nat} {rows:List (List Value)} (h:∀ row,row∈rows→row.length=sz) {q:Nat} (hq:q < rows.length) {row':List Value} (hl:row'.length=sz) :
  (rows.set q row').flatten=rows.flatten.take (q * sz)++row'++rows.flatten.drop (q * sz+sz):=by
 have hfl:(rows.take q).flatten.length=q * sz:=by rw [flatten_length fun row hr=>h row (List.mem_of_mem_take hr),List.length_take,Nat.min_eq_left oM]
 have hr:rows=rows.take q++rows[q]::rows.drop (q+1):=by rw [← List.drop_eq_getElem_cons hq,List.take_append_drop]
 have hq':=h rows[q] (by simp);rw [List.set_eq_take_append_cons_drop,if_pos hq]
 conv=>rhs;rw [hr]
 simp only [List.flatten_append,List.flatten_cons];rw [← hfl,List.take_left,← List.append_assoc]
 congr 1
 have e1:List.drop ((List.take q rows).flatten.length+sz) (List.take q rows).flatten=[]:=List.drop_eq_nil_of_le oM;have e2:List.drop sz rows[q]=[]:=List.drop_eq_nil_of_le oM;rw [List.drop_append,e1,List.nil_append,Nat.add_sub_cancel_left,List.drop_append,e2,hq',Nat.sub_self]
 simp
theorem stE [ht:HasTT P] {q n0 c g:Nat} {row':List Value} (hS:Sep r M L w) (hx:ev n f x=.pointer (some ⟨g,0+q * sz,none⟩)) (ha:At L k (.sl e sz (.slice (some ⟨g,0,none⟩) n0 c) rows)) (hq:q < rows.length) (hy:ev n f y=.agg row'.toArray)
  (hz:sizeT ht.tt t=some sz) (hl:Nat.beq row'.length sz=true) (h1:row'.all (·.oneCell')=true)
  (h:∀ w',Sep r M (.sl e sz (.slice (some ⟨g,0,none⟩) n0 c) (rows.set q row')::k) w'→K f w'):WE P ⟨none,.store t x y,ty,pos,aft,none⟩ K Q n f w:=by
 refine ⟨fun K' hK=>?_⟩;have hlen:=Nat.eq_of_beq_eq_true hl;obtain ⟨fp,⟨f1,f2,rfl,⟨hok,A,c1,hv,hx1⟩,_⟩,_⟩:=id (hS.focus ha).ex
 injection hv with e1 e2 e3
 subst e1;subst e3
 rcases hx1 with ⟨_,hnil,_⟩|⟨h0,g',cur,hA,hf1,hb,hle,hm,hs,ht'⟩
 ·subst hnil;simp at hq
 injection hA with hA
 injection hA with hA _
 subst hA;rw [Nat.zero_add] at hx;have hbound:q * sz+sz≤cur.size:=by
  rw [hs];have:(q+1) * sz≤c * sz:=Nat.mul_le_mul_right _ oM;rw [Nat.add_mul] at this;omega
 have hthere:w.there g (q * sz) row'.toArray.size:=fun j hj=>by
  simp at hj
  rw [hb.cell,hb.frozen];exact ⟨by rw [Array.getElem?_eq_getElem oM];rfl,rfl⟩
 have hrun:=run_storeVar_mid (P:=P) w g (q * sz) t row'.toArray hthere (by rw [yhe hz];simp [hlen]) (by simpa using h1);unfold Oper.wp;rw [act_eval'];unfold execOp;simp only [hx,hy,Instr.storeAt,Instr.sureAddr,Sem.run_bind,Sem.run_pure,Result.andThen_ok,hrun,Oper.upon_skip,yac];refine hK _ _ (h _ ((hS.focus ha).upd fun f3 hf3=>?_));have hf3':f3=[g]:=by
  obtain ⟨_,A,c1,hv,hx1⟩:=hf3
  injection hv with e1 e2 e3
  subst e1;subst e3
  rcases hx1 with ⟨hc0,_⟩|⟨_,g',cur',hA,hf1',_⟩
  ·omega
  ·injection hA with hA
   injection hA with hA _
   subst hA;exact hf1'
 subst hf3';refine ⟨chg_setCells g _ _ w,[g],⟨?_,some ⟨g,0,none⟩,c,by simp [e2],.inr ⟨h0,g,(cur.toList.take (q * sz)++row'++cur.toList.drop (q * sz+row'.length)).toArray,rfl,rfl,?_,by simpa using hle,hm,?_,?_⟩⟩,by simp,?_⟩
 ·intro row hrow
  rcases List.mem_or_eq_of_mem_set hrow with h2|h2
  ·exact hok row h2
  ·subst h2;exact ⟨hlen,by simpa using h1⟩
 ·have:=yaA row' (q * sz) w cur hb oM
  simpa using this
 ·simp only [List.size_toArray,List.length_append,List.length_take,List.length_drop,Array.length_toList];omega
 ·have hfl:=yav (fun row hr=>(hok row hr).1) hq hlen;rw [hfl,List.length_set];have hq2:(q+1) * sz≤rows.length * sz:=Nat.mul_le_mul_right _ oM;rw [Nat.add_mul,Nat.one_mul] at hq2;have hrs:rows.length * sz≤cur.toList.length:=by
   have:=Nat.mul_le_mul_right sz hle;simp only [Array.length_toList];omega
  rw [← ht'];simp only [List.append_assoc];rw [List.take_append,List.take_append,List.take_take,List.take_of_length_le (l:=row') (by simp;omega),List.drop_take];simp only [List.length_take,Array.length_toList];rw [List.take_take,Nat.min_comm (q * sz) (rows.length * sz),Nat.min_eq_left (by omega:q * sz≤cur.size),hlen,Nat.sub_sub]
 ·intro b hb'
  simp at hb'
  subst hb';exact ⟨by have:=(chg_setCells b row' (q * sz) w).size;have:=hb.lt;omega,.inl (by simp)⟩
theorem stEm [ht:HasTT P] {α:Type} {fc:α→List Value} {l:List α} {q n0 c g:Nat} (z:α) (hS:Sep r M L w) (hx:ev n f x=.pointer (some ⟨g,0+q * sz,none⟩)) (ha:At L k (.sl e sz (.slice (some ⟨g,0,none⟩) n0 c) (l.map fc))) (hq:q < l.length) (hy:ev n f y=.agg (fc z).toArray)
  (hz:sizeT ht.tt t=some sz) (hl:Nat.beq (fc z).length sz=true) (h1:(fc z).all (·.oneCell')=true)
  (h:∀ w',Sep r M (.sl e sz (.slice (some ⟨g,0,none⟩) n0 c) ((l.set q z).map fc)::k) w'→K f w'):WE P ⟨none,.store t x y,ty,pos,aft,none⟩ K Q n f w:=by
 refine stE hS hx ha (by simpa using hq) hy hz hl h1 ?_;intro w' hS';rw [← List.map_set] at hS';exact h w' hS'
theorem Sep_slform (hS:Sep r M L w) {A:Option Addr} {n0 c:Nat} (ha:At L k (.sl e sz (.slice A n0 c) rows)) (h0:0 < rows.length):∃ g,A=some ⟨g,0,none⟩:=by
 obtain ⟨fp,⟨f1,f2,rfl,⟨hok,A',c1,hv,hx1⟩,_⟩,_⟩:=(hS.focus ha).ex
 injection hv with e1 e2 e3
 subst e1
 rcases hx1 with ⟨_,hnil,_⟩|⟨_,g',cur,hA,_⟩
 ·subst hnil;simp at h0
 ·exact ⟨g',hA⟩
def fillA (sz:Nat) (cs:List Value):List (Nat×Value)→Option (List Value)
 | []=>some cs
 | (i,v)::r=>match stv1 sz cs (i * sz) v with|none=>none|some cs'=>fillA sz cs' r
theorem ybM {sz:Nat}:∀ (ps:List (Nat×Value)) (cs cs':List Value),fillA sz cs ps=some cs'→Instr.fill (fun i=>some (i * sz,sz)) cs.toArray ps=some cs'.toArray
 | [],cs,cs',h=>by simp only [fillA,Option.some.injEq] at h;subst h;rfl
 | (i,v)::ps,cs,cs',h=>by
  simp only [fillA] at h
  cases hs:stv1 sz cs (i * sz) v with
  | none=>simp [hs] at h
  | some c1=>
   simp only [hs] at h;obtain ⟨h1,h2,h3⟩:=ycM hs;have:=ybM ps c1 cs' h;simp only [Instr.fill];rw [if_neg (by simp [h1];omega)];have hfold:=ybN v.cells.toList cs.toArray (i * sz) 0 (by simpa using h2);simp only [Nat.add_zero] at hfold;have e:(v.cells.zipIdx.foldl (fun cs (c,j)=>cs.setIfInBounds (i * sz+j) c) cs.toArray)=c1.toArray:=by
    rw [← Array.foldl_toList,Array.toList_zipIdx,h3]
    simpa using hfold
   rw [e];exact this
def zerosL (zs:List Value):Nat→List Value
 | 0=>[]
 | k+1=>zs++zerosL zs k
theorem zerosL_ok (zs:List Value) (len:Nat):(Array.range (len * zs.length)).map (fun i=>zs.toArray[i % zs.toArray.size]!)=(zerosL zs len).toArray:=by
 have hl:∀ k,(zerosL zs k).length=k * zs.length:=by
  intro k
  induction k with
  | zero=>simp [zerosL]
  | succ k ih=>simp [zerosL,ih,Nat.add_mul,Nat.add_comm]
 have hat:∀ k i,i < k * zs.length→(zerosL zs k)[i]?=zs[i % zs.length]?:=by
  intro k
  induction k with
  | zero=>intro i hi;simp at hi
  | succ k ih=>
   intro i hi;simp only [zerosL]
   by_cases h:i < zs.length
   ·rw [List.getElem?_append_left h,Nat.mod_eq_of_lt h]
   ·rw [List.getElem?_append_right oM,ih _ (by rw [Nat.add_mul] at hi;omega),← Nat.mod_eq_sub_mod oM]
 apply Array.ext
 ·simp [hl]
 ·intro i h1 h2;simp only [Array.size_map,Array.size_range] at h1;have hz:0 < zs.length:=by
   rcases Nat.eq_zero_or_pos zs.length with h|h
   ·rw [h] at h1;omega
   ·exact h
  have h3:=hat len i h1;have hlt:i % zs.length < zs.length:=Nat.mod_lt _ hz;rw [List.getElem?_eq_getElem (by rw [hl];exact h1),List.getElem?_eq_getElem hlt] at h3
  injection h3 with h3
  simp only [Array.getElem_map,Array.getElem_range,List.getElem_toArray];rw [h3]
  simp [hlt]
theorem bs [ht:HasTT P] {ps:List (Nat×Operand)} {len:Nat} {zs cs:List Value} (hS:Sep r M L w) (hk:kindOf ht.tt t=.sl e sz) [hz:HasZ P e zs] (hf:fillA sz (zerosL zs len) (partsV n f ps)=some cs) (hn:Nat.ble (len * sz) 16777216=true)
  (h:∀ g w',Sep r M (.blk g e cs::L) w'→w.heap.size≤g→K (upd' f d (.slice (some ⟨g,0,none⟩) len len)) w'):WE P ⟨some d,.buildSlice t len ps.toArray,ty,pos,aft,none⟩ K Q n f w:=by
 refine ⟨fun K' hK=>?_⟩;obtain ⟨hu,hs⟩:=kind_sl hk;have hz:=hz.ok
 cases hi:P.info? e with
 | none=>simp [hi] at hz
 | some i=>
  simp [hi] at hz
  obtain ⟨⟨z,hz1,hz2⟩,hz3⟩:=hz;have hsz:i.size=sz:=by unfold sizeB at hs;simp [hi] at hs;exact hs
  have hzl:zs.length=sz:=by omega
  have hn':=Nat.le_of_ble_eq_true hn;have hp:(ps.toArray.map fun p=>(p.1,ev n f p.2)).toList=partsV n f ps:=by simp [partsV,yc9]
  have hfill:=ybM _ _ _ hf;have hrun:(Instr.buildSlice t len (ps.toArray.map fun p=>(p.1,ev n f p.2))).run P w=.ok (.slice (some ⟨w.heap.size,0,none⟩) len len) (w.alloc (.cells cs.toArray e)):=by
   unfold Instr.buildSlice;have hzl':∀ k,(zerosL zs k).length=k * zs.length:=by
    intro k
    induction k with
    | zero=>simp [zerosL]
    | succ k ih=>simp [zerosL,ih,Nat.add_mul,Nat.add_comm]
   simp only [Sem.run_bind,run_under hu,Result.andThen_ok,run_size hs];rw [if_neg oM]
   by_cases h0:len * sz=0
   ·have:zerosL zs len=[]:=by
     apply List.eq_nil_of_length_eq_zero
     rw [hzl',hzl,h0]
    rw [this] at hfill;simp only [h0,if_true,Sem.run_pure,Sem.run_bind,Result.andThen_ok,hp];have hr0:(Array.range 0).map (fun x=>(#[]:Array Value)[x % (#[]:Array Value).size]!)=#[]:=by simp [Array.range]
    simp only [hr0,hfill]
    simp [newRow,go_sem]
   ·have hc:=zerosL_ok zs len;rw [hzl] at hc;simp only [h0,if_false,Sem.run_pure,Sem.run_bind,Result.andThen_ok,hp,zeroValue,typeInfo];have hprog:(program).run P w=.ok P w:=rfl;simp only [hprog,Result.andThen_ok,hi,Sem.run_pure,hz1,hz2,hc,hfill]
    simp [newRow,go_sem]
  unfold Oper.wp;rw [act_eval'];unfold execOp;simp only [Sem.run_bind];rw [hrun];simp only [Result.andThen_ok,Sem.run_pure,Oper.upon_value,yac];exact hK _ _ (h _ _ (hS.box e cs) (Nat.le_refl _))
end
end Z
namespace D
section
variable {P:Program} {ops:Array Oper} {Q:Exit→Act→World→Prop} {S:World→Prop} {L k m n:Nat} {f:Nat→Value} {w:World} {d:Tmp} {op:Op} {ty t:TypeId} {pos:String} {aft:Array Edge} {v:Value}
theorem pl (i m':Nat) {gd:Option (Nat×Bool)} (hi:ops[i]?=some ⟨some d,op,ty,pos,aft,gd⟩) (hw:Region.wanted ⟨some d,op,ty,pos,aft,gd⟩ (yielded ops (fr n f))=true) (hc:okTake ops L m m' i=true) (hr:Runs P n f ⟨some d,op,ty,pos,aft,gd⟩ v) (h:WR P ops Q S L k m' n (upd' f d v) w):WR P ops Q S L (k+1) m n f w:=
 first i m' hi hc hw hr.out h
end
end D
inductive QT where
 | no|int|str|bool
 | st (fs:List (Nat×Nat×Nat×Bool))
 | ar (n e sz:Nat) (ag:Bool)
def okQF (P:Program):List Field→List (Nat×Nat×Nat×Bool)→Bool
 | [],[]=>true
 | f :: fs, (o, s, t, a) :: l => f.offset == o && sizeB P f.type s && f.type == t && f.name != "_" && (isAggD (P.underlying f.type) == a) && (P.underlying f.type).isSome && okQF P fs l
 | _,_=>false
def okQ (P:Program) (t:Nat):QT→Bool
 | .no=>true
 | .int=>match P.underlying t with|some (.int _)=>true|_=>false
 | .str=>match P.underlying t with|some .string=>true|_=>false
 | .bool=>match P.underlying t with|some .bool=>true|_=>false
 | .st fs=>match P.underlying t with|some (.struct l)=>!P.stoodInHeld t && okQF P l.toList fs && !P.eqGuardType P.depth t|_=>false
 | .ar n e sz a=>match P.underlying t with|some (.array n' e')=>n == n' && e == e' && sizeB P e sz && (isAggD (P.underlying e) == a) && (P.underlying e).isSome && !P.eqGuardType P.depth t|_=>false
def okQs (P:Program):List QT→Nat→Bool
 | [],_=>true
 | q::l,t=>okQ P t q && okQs P l (t+1)
class HasQ (P:Program) where
 qt:List QT
 ok:okQs P qt 0=true
theorem yee {P:Program}:∀ (l:List QT) (k:Nat),okQs P l k=true→∀ t q,l[t]?=some q→okQ P (k+t) q=true
 | [],_,_,_,_,h=>by simp at h
 | y::l,k,h,t,z,hz=>by
  simp only [okQs,Bool.and_eq_true] at h
  cases t with
  | zero=>simp at hz;subst hz;exact h.1
  | succ t=>have:=yee l (k+1) h.2 t z (by simpa using hz);rw [Nat.add_comm t 1,← Nat.add_assoc];exact this
def kq (qt:List QT) (t:Nat):QT:=match qt[t]? with|some q=>q|none=>.no
theorem kq_ok {P:Program} [h:HasQ P] (t:Nat):okQ P t (kq h.qt t)=true:=by
 unfold kq
 cases hq:h.qt[t]? with
 | none=>rfl
 | some q=>simpa using yee h.qt 0 h.ok t q hq
def partL (ag:Bool) (o s:Nat) (xs:List Value):Option Value:=cond ag (some (.agg ((xs.drop o).take s).toArray)) (bindV xs[o]?)
def andO:Option Bool→Option Bool→Option Bool
 | some a,some b=>some (a && b)
 | _,_=>none
def eqP (f:Nat→Value→Value→Option Bool) (t:Nat):Option Value→Option Value→Option Bool
 | some u,some v=>f t u v
 | _,_=>none
def eqFs (f:Nat→Value→Value→Option Bool) (xs ys:List Value):List (Nat×Nat×Nat×Bool)→Option Bool
 | []=>some true
 | (o,s,t,a)::r=>andO (eqP f t (partL a o s xs) (partL a o s ys)) (eqFs f xs ys r)
def eqAr (f:Nat→Value→Value→Option Bool) (xs ys:List Value) (e sz:Nat) (ag:Bool) (i:Nat):Nat→Option Bool
 | 0=>some true
 | n+1=>andO (eqP f e (partL ag (i * sz) sz xs) (partL ag (i * sz) sz ys)) (eqAr f xs ys e sz ag (i+1) n)
def eqV (qt:List QT):Nat→Nat→Value→Value→Option Bool
 | 0,_,_,_=>none
 | d+1,t,x,y=>
  match kq qt t with
  | .no=>none
  | .int=>match x,y with|.int .i64 a,.int .i64 b=>some (decide (a=b))|.int .u8 a,.int .u8 b=>some (decide (a=b))|_,_=>none
  | .str=>match x,y with|.string a,.string b=>some (decide (a=b))|_,_=>none
  | .bool=>match x,y with|.bool a,.bool b=>some (a == b)|_,_=>none
  | .st fs=>match x,y with|.agg xs,.agg ys=>eqFs (eqV qt d) xs.toList ys.toList fs|_,_=>none
  | .ar n e sz ag=>match x,y with|.agg xs,.agg ys=>eqAr (eqV qt d) xs.toList ys.toList e sz ag 0 n|_,_=>none
section
variable {P:Program} {w:World}
theorem ycx {a b:Option Bool} {c:Bool} (h:andO a b=some c):∃ x y,a=some x∧b=some y∧c=(x && y):=by
 cases a<;>cases b<;>simp [andO] at h
 exact ⟨_,_,rfl,rfl,h.symm⟩
theorem yaO {t o s:Nat} {ag:Bool} {xs:Array Value} {u:Value} (hs:sizeB P t s=true) (ha:isAggD (P.underlying t)=ag) (hsome:(P.underlying t).isSome=true) (h:partL ag o s xs.toList=some u):(part t xs o).run P w=.ok u w:=by
 obtain ⟨d',hd'⟩:=Option.isSome_iff_exists.1 hsome;have hag:(isAgg t).run P w=.ok ag w:=by
  rw [hd'] at ha;subst ha;unfold isAgg;simp only [Sem.run_bind,run_under hd',Result.andThen_ok]
  cases d'<;>rfl
 unfold partL at h
 cases ag with
 | true=>
  simp only [cond_true,Option.some.injEq] at h;subst h;simp only [part,Sem.run_bind,hag,Result.andThen_ok,if_true,run_size hs,Sem.run_pure]
  congr 2
  apply Array.ext'
  simp [Array.toList_extract,List.extract_eq_take_drop]
 | false=>
  simp only [cond_false,bindV_eq,Array.getElem?_toList] at h
  simp [part,hag,h]
theorem forF {g:Nat→Value→Value→Option Bool} (w:World) (e:Nat) (xs ys:Array Value) (ih:∀ t x y b,g t x y=some b→(Op.equalIn e t x y).run P w=.ok b w):∀ (fl:List Field) (fs:List (Nat×Nat×Nat×Bool)) (b:Bool),okQF P fl fs=true→eqFs g xs.toList ys.toList fs=some b→
  (forIn fl ((none, ()) : Option Bool × Unit) fun f _ => if f.name ≠ "_" then do
   let u ← part f.type xs f.offset
   let v ← part f.type ys f.offset
   let c ← Op.equalIn e f.type u v
   if (!c)=true then Pure.pure (ForInStep.done (some false,())) else Pure.pure (ForInStep.yield (none,()))
   else Pure.pure (ForInStep.yield (none,())):Sem (Option Bool×Unit)).run P w=.ok (cond b none (some false),()) w
 | [],[],b,_,h=>by simp only [eqFs,Option.some.injEq] at h;subst h;rfl
 | [],_::_,_,h,_=>by simp [okQF] at h
 | _::_,[],_,h,_=>by simp [okQF] at h
 | f::fl,(o,s,t,a)::fs,b,h,hb=>by
  simp only [okQF,Bool.and_eq_true,beq_iff_eq,bne_iff_ne] at h;obtain ⟨⟨⟨⟨⟨⟨rfl,h2⟩,rfl⟩,h4⟩,h5⟩,h6⟩,h7⟩:=h;simp only [eqFs] at hb;obtain ⟨b1,b2,hb1,hb2,rfl⟩:=ycx hb;have hrest:=forF w e xs ys ih fl fs b2 h7 hb2;unfold eqP at hb1
  split at hb1
  ·rename_i u v hu hv;have p1:=yaO (w:=w) h2 h5 h6 hu;have p2:=yaO (w:=w) h2 h5 h6 hv;have p3:=ih _ _ _ _ hb1;simp only [List.forIn_cons,h4,ne_eq,not_false_eq_true,if_true,Sem.run_bind,p1,p2,p3,Result.andThen_ok]
   cases b1 with
   | false=>rfl
   | true=>
    simp only [Bool.not_true,Bool.false_eq_true,if_false,Sem.run_pure,Result.andThen_ok,Bool.true_and];exact hrest
  ·cases hb1
theorem forA {g:Nat→Value→Value→Option Bool} (w:World) (e:Nat) (xs ys:Array Value) (ih:∀ t x y b,g t x y=some b→(Op.equalIn e t x y).run P w=.ok b w) (t sz:Nat) (ag:Bool) (hs:sizeB P t sz=true) (ha:isAggD (P.underlying t)=ag) (hsome:(P.underlying t).isSome=true) :
  ∀ (n i:Nat) (b:Bool),eqAr g xs.toList ys.toList t sz ag i n=some b→
  (forIn (List.range' i n 1) ((none,()):Option Bool×Unit) fun i _=>do
   let u ← part t xs (i * sz)
   let v ← part t ys (i * sz)
   let c ← Op.equalIn e t u v
   if (!c)=true then Pure.pure (ForInStep.done (some false,())) else Pure.pure (ForInStep.yield (none,())):Sem (Option Bool×Unit)).run P w=.ok (cond b none (some false),()) w
 | 0,_,b,h=>by simp only [eqAr,Option.some.injEq] at h;subst h;rfl
 | n+1,i,b,hb=>by
  simp only [eqAr] at hb;obtain ⟨b1,b2,hb1,hb2,rfl⟩:=ycx hb;have hrest:=forA w e xs ys ih t sz ag hs ha hsome n (i+1) b2 hb2;unfold eqP at hb1
  split at hb1
  ·rename_i u v hu hv;have p1:=yaO (w:=w) hs ha hsome hu;have p2:=yaO (w:=w) hs ha hsome hv;have p3:=ih _ _ _ _ hb1;simp only [List.range'_succ,List.forIn_cons,Sem.run_bind,p1,p2,p3,Result.andThen_ok]
   cases b1 with
   | false=>rfl
   | true=>
    simp only [Bool.not_true,Bool.false_eq_true,if_false,Sem.run_pure,Result.andThen_ok,Bool.true_and];exact hrest
  ·cases hb1
theorem yfd (a b:ByteArray):(a == b)=true↔a=b:=by
 cases a with|mk a=>cases b with|mk b=>
  show (ByteArray.beq ⟨a⟩ ⟨b⟩=true)↔_
  simp [ByteArray.beq]
theorem ya3 [hq:HasQ P] (w:World):∀ (d e t:Nat) (x y:Value) (b:Bool),d≤e→eqV hq.qt d t x y=some b→(Op.equalIn e t x y).run P w=.ok b w
 | 0,_,_,_,_,_,_,h=>by simp [eqV] at h
 | d+1,0,_,_,_,_,hle,_=>by omega
 | d+1,e+1,t,x,y,b,hle,h=>by
  have ih:=ya3 w d e;have hk:=kq_ok (P:=P) t;simp only [eqV] at h
  cases hkk:kq hq.qt t with
  | no=>simp [hkk] at h
  | int=>
   simp only [hkk,okQ] at h hk
   cases hu:P.underlying t with
   | none=>simp [hu] at hk
   | some dd=>
    cases dd<;>simp [hu] at hk
    unfold Op.equalIn;simp only [Sem.run_bind,run_under hu,Result.andThen_ok]
    split at h<;>simp only [Option.some.injEq,reduceCtorEq] at h<;>subst h<;>simp [BEq.beq]
  | str=>
   simp only [hkk,okQ] at h hk
   cases hu:P.underlying t with
   | none=>simp [hu] at hk
   | some dd=>
    cases dd<;>simp [hu] at hk
    unfold Op.equalIn;simp only [Sem.run_bind,run_under hu,Result.andThen_ok]
    split at h<;>simp only [Option.some.injEq,reduceCtorEq] at h<;>subst h
    simp only [Sem.run_pure,Result.ok.injEq,and_true];rw [Bool.eq_iff_iff,yfd]
    simp
  | bool=>
   simp only [hkk,okQ] at h hk
   cases hu:P.underlying t with
   | none=>simp [hu] at hk
   | some dd=>
    cases dd<;>simp [hu] at hk
    unfold Op.equalIn;simp only [Sem.run_bind,run_under hu,Result.andThen_ok]
    split at h<;>simp only [Option.some.injEq,reduceCtorEq] at h<;>subst h<;>simp
  | st fs=>
   simp only [hkk,okQ] at h hk
   cases hu:P.underlying t with
   | none=>simp [hu] at hk
   | some dd=>
    cases dd<;>simp [hu] at hk
    rename_i fields;obtain ⟨⟨hsi,hf⟩,_⟩:=hk
    split at h
    ·rename_i xs ys;unfold Op.equalIn;have hprog:(program).run P w=.ok P w:=rfl;simp only [Sem.run_bind,run_under hu,Result.andThen_ok,hprog,hsi,Bool.false_eq_true,if_false];rw [← Array.forIn_toList,forF w e xs ys (fun t x y b hb=>ih t x y b oM hb) fields.toList fs b hf h]
     cases b<;>rfl
    ·cases h
  | ar n e' sz ag=>
   simp only [hkk,okQ] at h hk
   cases hu:P.underlying t with
   | none=>simp [hu] at hk
   | some dd=>
    cases dd<;>simp [hu] at hk
    obtain ⟨⟨⟨⟨⟨rfl,rfl⟩,hs⟩,ha⟩,hsome⟩,_⟩:=hk
    split at h
    ·rename_i xs ys;unfold Op.equalIn;simp only [Sem.run_bind,run_under hu,Result.andThen_ok,run_size hs];rw [Std.Legacy.Range.forIn_eq_forIn_range'];have hr:=forA w e xs ys (fun t x y b hb=>ih t x y b oM hb) e' sz ag hs ha hsome n 0 b h;simp only [Std.Legacy.Range.size];simp only [Nat.sub_zero,Nat.add_sub_cancel,Nat.div_one];rw [hr]
     cases b<;>rfl
    ·cases h
theorem yc7 [hq:HasQ P] {t:Nat} {xs ys:Array Value} (op:BinOp) (x y:Operand) (hk:(match kq hq.qt t with|.st _=>true|.ar _ _ _ _=>true|_=>false)=true) (W:World):(eqGuard op t x y (.agg xs) (.agg ys)).run P W=.ok () W:=by
 have hok:=kq_ok (P:=P) t;have hg:P.eqGuardType P.depth t=false:=by
  cases hkk:kq hq.qt t with
  | st fs=>
   rw [hkk] at hok;simp only [okQ] at hok
   cases hu:P.underlying t with
   | none=>simp [hu] at hok
   | some dd=>cases dd<;>simp [hu] at hok;exact hok.2
  | ar n e sz ag=>
   rw [hkk] at hok;simp only [okQ] at hok
   cases hu:P.underlying t with
   | none=>simp [hu] at hok
   | some dd=>cases dd<;>simp [hu] at hok;exact hok.2
  | _=>simp [hkk] at hk
 have hprog:∀ W,(program).run P W=.ok P W:=fun _=>rfl
 cases op<;>first|rfl|simp [eqGuard,hg,hprog]
end
namespace R
section
variable {P:Program} {n:Nat} {f:Nat→Value} {d:Option Tmp} {ty t t':TypeId} {pos:String} {aft:Array Edge} {gd:Option (Nat×Bool)} {x y:Operand} {xs ys:Array Value} {b:Bool}
theorem eqa [hq:HasQ P] (hx:ev n f x=.agg xs) (hy:ev n f y=.agg ys) (hk:(match kq hq.qt t with|.st _=>true|.ar _ _ _ _=>true|_=>false)=true) (hb:eqV hq.qt 20 t (.agg xs) (.agg ys)=some b) :
  Runs P n f ⟨d,.binOp .eql t x y t',ty,pos,aft,gd⟩ (.bool b):=by
 refine ⟨fun W=>?_⟩;have h1:=yc7 (xs:=xs) (ys:=ys) .eql x y hk W;have h2:(Op.equal t (.agg xs) (.agg ys)).run P W=.ok b W:=ya3 W 20 Op.maxDepth t _ _ b (by decide) hb;simp only [execOp,hx,hy,Sem.run_bind,h1,Result.andThen_ok,binOp,h2,Sem.run_pure]
theorem nea [hq:HasQ P] (hx:ev n f x=.agg xs) (hy:ev n f y=.agg ys) (hk:(match kq hq.qt t with|.st _=>true|.ar _ _ _ _=>true|_=>false)=true) (hb:eqV hq.qt 20 t (.agg xs) (.agg ys)=some b) :
  Runs P n f ⟨d,.binOp .neq t x y t',ty,pos,aft,gd⟩ (.bool (!b)):=by
 refine ⟨fun W=>?_⟩;have h1:=yc7 (xs:=xs) (ys:=ys) .neq x y hk W;have h2:(Op.equal t (.agg xs) (.agg ys)).run P W=.ok b W:=ya3 W 20 Op.maxDepth t _ _ b (by decide) hb;simp only [execOp,hx,hy,Sem.run_bind,h1,Result.andThen_ok,binOp,h2,Sem.run_pure]
end
end R
end Go.Proofs.YtfmnjbhncnldmaaGreat
