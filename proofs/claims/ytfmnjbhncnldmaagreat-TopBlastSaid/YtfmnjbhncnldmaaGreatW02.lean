import Derived.Laws.CopyRow
import Derived.Lib.Overlaps
import Derived.Lib.AppendZerosOnto
import Derived.Laws.AppendOwn
import Derived.Scope
import Derived.Maps.Keyed
import Derived.Carry
import Derived.Laws.Externs
import Derived.Maps.RangeRun
import Derived.Test.YtfmnjbhncnldmaaGreatW00
import Derived.Test.YtfmnjbhncnldmaaGreatW01
set_option linter.unusedSimpArgs false
set_option linter.unusedVariables false
namespace Go.Proofs.YtfmnjbhncnldmaaGreat
open Go.RowKit
namespace R
section
variable {P:Program} {n:Nat} {f:Nat→Value} {d:Option Tmp} {ty t:TypeId} {pos:String} {aft:Array Edge} {gd:Option (Nat×Bool)} {x y:Operand} {xs:Array Value} {v:Value}
theorem ixv [hq:HasQ P] {len e sz:Nat} {ag:Bool} {j:Int} (hx:ev n f x=.agg xs) (hy:ev n f y=.int .i64 j) (hk:kq hq.qt t=.ar len e sz ag) (hj:0≤j∧j < len) (hp:partL ag (j.toNat * sz) sz xs.toList=some v) :
  Runs P n f ⟨d,.index t x y,ty,pos,aft,gd⟩ v:=by
 refine ⟨fun W=>?_⟩;have hok:=kq_ok (P:=P) t;rw [hk] at hok;simp only [okQ] at hok
 cases hu:P.underlying t with
 | none=>simp [hu] at hok
 | some dd=>
  cases dd<;>simp [hu] at hok
  obtain ⟨⟨⟨⟨⟨rfl,rfl⟩,hs⟩,ha⟩,hsome⟩,_⟩:=hok;have:=yaO (P:=P) (w:=W) hs ha (by simpa using hsome) hp;simp only [execOp,hx,hy,Instr.index,asIntOf,Sem.run_bind,Sem.run_pure,Result.andThen_ok,run_under hu]
  simp [hj.1,hj.2,run_size hs,this]
end
end R
theorem ydi {P:Nat→Bool}:∀ {l:List Nat} {i:Nat},l.all P=true→memb l i=true→P i=true
 | [],_,_,h=>by cases h
 | a::l,i,hl,h=>by
  simp only [List.all_cons,Bool.and_eq_true] at hl;unfold memb at h
  cases hb:Nat.beq i a
  ·rw [hb] at h;exact ydi hl.2 h
  ·rw [Nat.eq_of_beq_eq_true hb];exact hl.1
theorem Same.mixS {Ms Ms':List Nat} {g f f0:Nat→Value} (hs:Ms'.all (memb Ms)=true) (h:Same Ms f f0):Same Ms (Go.Proofs.YtfmnjbhncnldmaaGreat.mix Ms' g f) f0:=fun i hi=>by
 unfold Go.Proofs.YtfmnjbhncnldmaaGreat.mix
 cases hb:memb Ms' i
 ·exact h i hi
 ·have:=ydi hs hb;rw [hi] at this
  cases this
def intC (z:Int):List Value:=[.int .i64 z]
theorem yfq (l:List Int):(l.map intC).flatten=l.map (Value.int .i64):=by induction l with|nil=>rfl|cons a l ih=>simp [intC,ih]
theorem rows_ints {w:World} {A:Option Addr} {l:List Int} {c:Nat} (hA:A=none→c=0) (hc:l.length≤c) (h:Rd w 1 A l.length (l.map (Value.int .i64))):Rows' w 1 (.slice A l.length c) (l.map intC):=by
 refine ⟨fun row hr=>?_,A,c,by simp,hA,by simpa using hc,by rw [yfq,List.length_map];exact h⟩;obtain ⟨z,_,rfl⟩:=List.mem_map.1 hr;exact ⟨rfl,by simp [intC,Value.oneCell']⟩
theorem mk_sl {r w:World} {M:List Nat} {F:List Res} {g e sz n:Nat} {cs:List Value} {rows:List (List Value)} (h:Sep r M (.blk g e cs::F) w) (hn:n=rows.length) (h0:0 < n) (hm:n≤maxLen) (hok:∀ row,row∈rows→row.length=sz∧∀ u,u∈row→u.oneCell'=true) (hc:cs=rows.flatten) :
  Sep r M (.sl e sz (.slice (some ⟨g,0,none⟩) n n) rows::F) w:=by
 subst hn;subst hc;refine h.upd fun f1 hf=>?_
 obtain ⟨rfl,hb⟩:=id hf;have hl:=flatten_length fun row hr=>(hok row hr).1
 exact ⟨Chg.refl _ _,[g],⟨hok,_,_,rfl,.inr ⟨h0,g,_,rfl,rfl,hb,Nat.le_refl _,hm,by simpa using hl,by rw [← hl];exact List.take_length⟩⟩,by simp,fun b hb'=>by simp at hb';subst hb';exact ⟨hb.lt,.inl (by simp)⟩⟩
namespace R
section
variable {P:Program} {n:Nat} {f:Nat→Value} {d:Option Tmp} {ty t t':TypeId} {pos:String} {aft:Array Edge} {gd:Option (Nat×Bool)} {x y:Operand} {v:Value}
theorem mf {fn:Fn} {caps:List Operand}:Runs P n f ⟨d,.makeFunc fn #[] caps.toArray,ty,pos,aft,gd⟩ (.func fn #[] (caps.map (ev n f)).toArray):=
 ⟨fun W=>by simp [execOp,Instr.makeFunc]⟩
theorem max2 {ats:Array TypeId} {a b:Int} (hx:ev n f x=.int .i64 a) (hy:ev n f y=.int .i64 b):Runs P n f ⟨d,.call ⟨.builtin .max,#[x,y],ats⟩,ty,pos,aft,gd⟩ (.int .i64 (max a b)):=by
 refine ⟨fun W=>?_⟩;have e:(if b > a then b else a)=max a b:=by split<;>omega
 simp [execOp,resolve,invoke,builtin,hx,hy,run_max_int2,e]
theorem cap [ht:HasTT P] {A:Option Addr} {m c e sz:Nat} (hx:ev n f x=.slice A m c) (hk:kindOf ht.tt t=.sl e sz):Runs P n f ⟨d,.call ⟨.builtin .cap,#[x],#[t]⟩,ty,pos,aft,gd⟩ (.int .i64 c):=by
 obtain ⟨hu,_⟩:=Z.kind_sl hk;refine ⟨fun W=>?_⟩
 simp [execOp,resolve,invoke,builtin,hx,Builtin.cap_,run_under hu,goInt]
theorem sinceL [ht:HasTT P] {lo:Operand} {l:Int} {g o m c e sz:Nat} (hx:ev n f x=.slice (some ⟨g,o,none⟩) m c) (hl:ev n f lo=.int .i64 l) (hk:kindOf ht.tt t=.sl e sz) (hb:0≤l∧l≤m) (hc:l.toNat < c) :
  Runs P n f ⟨d,.slice t x (some lo) none none,ty,pos,aft,gd⟩ (.slice (some ⟨g,o+l.toNat * sz,none⟩) (m - l.toNat) (c - l.toNat)):=by
 have h:=since (P:=P) (d:=d) (ty:=ty) (pos:=pos) (aft:=aft) (gd:=gd) hx hl hk hb;rw [if_neg oM] at h
 simpa [yap] using h
theorem cvt {k k':IntKind} {a:Int} {dd:TypeDesc} (hx:ev n f x=.int k a) (hs:P.underlying t=some dd) (hd:P.underlying t'=some (.int k')):Runs P n f ⟨d,.convert t t' x,ty,pos,aft,gd⟩ (.int k' (k'.wrap a)):=by
 refine ⟨fun W=>?_⟩
 simp [execOp,hx,convert,run_under hs,run_under hd,Conv.intToInt]
theorem shr1 {k k':IntKind} {a:Int} (hx:ev n f x=.int k a) (hy:ev n f y=.int k' 1) (hk:1≤k.bits):Runs P n f ⟨d,.binOp .shr t x y t',ty,pos,aft,gd⟩ (.int k (a / 2)):=by
 refine ⟨fun W=>?_⟩;have e:min 1 k.bits=1:=by omega
 have e2:a.fdiv 2=a / 2:=Int.fdiv_eq_ediv_of_nonneg _ oM
 simp [execOp,hx,hy,eqGuard_none,binOp,Op.shift,e,e2]
end
end R
section
variable {w r:World} {M:List Nat} {L F:List Res} {e sz g:Nat}
theorem chg_setRow (w:World) (g:Nat) (cs:Array Value):Chg [g] w (w.setRow g cs):=
 ⟨rfl,rfl,rfl,by simp [World.setRow],fun k _ hk=>setRow_other w g k cs (by simpa using hk)⟩
theorem blk_ne {g' T T':Nat} {cs cs':List Value} (h:Sep r M (.blk g T cs::.blk g' T' cs'::F) w):g≠g':=by
 obtain ⟨fp,⟨f1,f2,rfl,⟨rfl,_⟩,⟨f3,f4,rfl,⟨rfl,_⟩,_⟩⟩,hn,_⟩:=h.ex;rintro rfl
 simp at hn
theorem yar {A:Option Addr} {n c:Nat} {rows:List (List Value)} (h:Sep r M (.sl e sz (.slice A n c) rows::F) w) (h0:0 < rows.length) :
  ∃ g cs,A=some ⟨g,0,none⟩∧n=rows.length∧n≤c∧c≤maxLen∧cs.length=c * sz∧cs.take (n * sz)=rows.flatten∧(∀ row,row∈rows→row.length=sz∧∀ u,u∈row→u.oneCell'=true)∧Sep r M (.blk g e cs::F) w:=by
 obtain ⟨fp,⟨f1,f2,rfl,⟨hok,A',c',hv,hx⟩,_⟩,_⟩:=id h.ex
 injection hv with e1 e2 e3
 subst e1;subst e3;subst e2
 rcases hx with ⟨_,hnil,_⟩|⟨hc,g,cur,rfl,hf,hb,hle,hm,hs,ht⟩
 ·subst hnil;simp at h0
 ·refine ⟨g,cur.toList,rfl,rfl,hle,hm,by simpa using hs,ht,hok,h.upd fun f3 hf3=>⟨Chg.refl _ _,[g],⟨rfl,by simpa using hb⟩,by simp,fun b hb'=>?_⟩⟩
  simp at hb'
  subst hb';obtain ⟨_,A',c',hv,hx⟩:=hf3
  injection hv with e1 e2 e3
  subst e1;subst e3
  rcases hx with ⟨hc0,_⟩|⟨_,g',cur',hA,hf',_⟩
  ·omega
  ·injection hA with hA
   injection hA with hA _
   subst hA;exact ⟨hb.lt,.inl (by rw [hf'];simp)⟩
theorem yao {c:Nat} {cs:List Value} {rows:List (List Value)} (h:Sep r M (.blk g e cs::F) w) (hc:0 < c) (hm:c≤maxLen) (hl:cs.length=c * sz) (hn:rows.length≤c) (ht:cs.take (rows.length * sz)=rows.flatten) (hok:∀ row,row∈rows→row.length=sz∧∀ u,u∈row→u.oneCell'=true) :
  Sep r M (.sl e sz (.slice (some ⟨g,0,none⟩) rows.length c) rows::F) w:=by
 refine h.upd fun f1 hf=>?_
 obtain ⟨rfl,hb⟩:=id hf;exact ⟨Chg.refl _ _,[g],⟨hok,_,_,rfl,.inr ⟨hc,g,_,rfl,rfl,hb,hn,hm,by simpa using hl,by simpa using ht⟩⟩,by simp,fun b hb'=>by simp at hb';subst hb';exact ⟨hb.lt,.inl (by simp)⟩⟩
theorem rows_mid {T o m c:Nat} {cs:List Value} {rows:List (List Value)} (hb:Blk w g T cs.toArray) (hok:∀ row,row∈rows→row.length=sz∧∀ u,u∈row→u.oneCell'=true) (hm:m=rows.length) (hc:m≤c) (hsub:(cs.drop o).take (m * sz)=rows.flatten):Rows' w sz (.slice (some ⟨g,o,none⟩) m c) rows:=by
 subst hm;refine ⟨hok,_,_,rfl,by simp,hc,flatten_length fun row hr=>(hok row hr).1,fun _=>⟨_,rfl,fun j u hu=>?_⟩⟩;rw [yap,hb.cell];rw [← hsub,List.getElem?_take] at hu
 split at hu
 ·rw [List.getElem?_drop] at hu;simpa using hu
 ·cases hu
end
namespace Z
section
variable {P:Program} {K:(Nat→Value)→World→Prop} {Q:Exit→Act→World→Prop} {n:Nat} {f:Nat→Value} {w r:World} {M:List Nat} {L:List Res} {d:Tmp} {ty t t':TypeId} {pos:String} {aft:Array Edge} {v:Value}
 {x y:Operand} {e sz bytes g o T:Nat} {k:List Res} {cs zs:List Value} {ys:List (List Value)}
theorem clf {F:FuncId} [hfn:HasF P F] {c:Operand} {caps:List Value} {args:List Operand} {ats:Array TypeId} {avs:Array Value} {R:Ending→World→Prop} (hc:ev n f c=.func (.func F) #[] caps.toArray) (h:Calls P F avs w R) (ha:args.map (ev n f)++caps=avs.toList)
  (hk:∀ e w',R e w'→∃ v,e=.returned v∧K (upd' f d v) w'):WE P ⟨some d,.call ⟨.value c,args.toArray,ats⟩,ty,pos,aft,none⟩ K Q n f w:=
 .mk fun K' hK=>by
  unfold Oper.wp;rw [act_eval'];have has:(List.map (ev n f) args).toArray++caps.toArray=avs:=by rw [List.append_toArray,ha]
  have:(execOp (ev n f) ⟨some d,.call ⟨.value c,args.toArray,ats⟩,ty,pos,aft,none⟩).run P w=.ok (.enter F avs) w:=by
   obtain ⟨fn,hF,hn,hb⟩:=hfn.ok
   have hn' : fn.name ≠ "runtime.NumGoroutine" := by simpa using hn
   obtain ⟨c',hc'⟩:=Option.isSome_iff_exists.1 hb;simp only [execOp,resolve,hc,Deferred.ofValue,Sem.run_bind,Sem.run_pure,Result.andThen_ok,invoke];have e1:(#[]++Array.map (ev n f) args.toArray)++caps.toArray=avs:=by rw [← has];simp
   simp [callFunc,hF,hn',hc',go_sem] at e1 ⊢
   rw [← e1]
  rw [this,Oper.upon_enter];refine h.mono ?_;intro e w' hR;obtain ⟨v,rfl,hw⟩:=hk e w' hR;simp only [yac];exact hK _ _ hw
theorem clx {F:FuncId} {args:List Operand} {ats:Array TypeId} {avs:Array Value} (h:(callFunc F avs).run P w=.ok (.value v) w) (ha:args.map (ev n f)=avs.toList) (hk:K (upd' f d v) w):WE P ⟨some d,.call ⟨.value (.func F),args.toArray,ats⟩,ty,pos,aft,none⟩ K Q n f w:=
 .mk fun K' hK=>by
  unfold Oper.wp;rw [act_eval'];have has:(List.map (ev n f) args).toArray=avs:=by rw [ha]
  have:(execOp (ev n f) ⟨some d,.call ⟨.value (.func F),args.toArray,ats⟩,ty,pos,aft,none⟩).run P w=.ok (.value v) w:=by
   simp only [execOp,resolve,ev,Deferred.ofValue,Sem.run_bind,Sem.run_pure,Result.andThen_ok,invoke];have e1:(#[]++Array.map (ev n f) args.toArray)++#[]=avs:=by rw [← has];simp
   rw [← h,← e1]
  rw [this];simp only [Oper.upon_value,yac];exact hK _ _ hk
theorem ap_run2 (x y:Operand) {ty:TypeId} {pos:String} {aft:Array Edge} {dd:Option Tmp} {gd:Option (Nat×Bool)} {u:Value} {res:Result Value} (hx:ev n f x=v) (hy:ev n f y=u) (h:(Builtin.append_ #[t,t'] ty #[v,u]).run P w=res) :
  (execOp (ev n f) ⟨dd,.call ⟨.builtin .append,#[x,y],#[t,t']⟩,ty,pos,aft,gd⟩).run P w=res.andThen fun a w'=>.ok (.value a) w':=by
 simp [execOp,resolve,invoke,builtin,hx,hy,h]
theorem cp [ht:HasTT P] {dLen dCap sLen sCap:Nat} {ad:Addr} (kk:Nat) (hS:Sep r M L w) (hx:ev n f x=.slice (some ⟨g,o,none⟩) dLen dCap) (hy:ev n f y=.slice (some ad) sLen sCap) (hk:kindOf ht.tt t=.sl e sz) (ha:At L k (.blk g T cs)) (hkk:min sLen dLen=kk) (hsrc:Rows' w sz (.slice (some ad) kk kk) ys) (hfit:o+kk * sz≤cs.length)
  (h:∀ w',Sep r M (.blk g T (cs.take o++ys.flatten++cs.drop (o+kk * sz))::k) w'→K (upd' f d (.int .i64 (kk:Nat))) w') :
  WE P ⟨some d,.call ⟨.builtin .copy,#[x,y],#[t,t']⟩,ty,pos,aft,none⟩ K Q n f w:=by
 refine ⟨fun K' hK=>?_⟩;obtain ⟨hu,hs⟩:=kind_sl hk;obtain ⟨hok,A,c,hv,hnil,hle,hr⟩:=hsrc
 injection hv with e1 e2 e3
 subst e1;subst e2;have hb:=hS.blk ha;have hfl:ys.flatten.length=ys.length * sz:=flatten_length fun row hr=>(hok row hr).1
 have h1:∀ u∈ys.flatten,u.oneCell'=true:=fun u hu=>by
  obtain ⟨row,hrow,hu⟩:=List.mem_flatten.1 hu;exact (hok row hrow).2 u hu
 have hload:(Builtin.firstCells sz ys.length (.slice (some ad) sLen sCap)).run P w=.ok ys.flatten.toArray w:=by
  unfold Builtin.firstCells;rw [← hfl];refine run_loadCells_list (P:=P) w ad _ fun j u hu=>?_
  have hp:0 < ys.length:=by
   rcases Nat.eq_zero_or_pos ys.length with h|h
   ·have:ys=[]:=List.eq_nil_of_length_eq_zero h;subst this;simp at hu
   ·exact h
  obtain ⟨ad',e1,hc⟩:=hr.2 hp
  injection e1 with e1
  subst e1;exact hc j u hu
 have hst:=run_storeCells_at P g o T ys.flatten 0 cs.toArray w hb (by rw [hfl];simp;omega) h1;have hrun:(Builtin.copy_ #[t,t'] ty #[.slice (some ⟨g,o,none⟩) dLen dCap,.slice (some ad) sLen sCap]).run P w=.ok (.int .i64 (ys.length:Nat)) (w.setRow g (cs.take o++ys.flatten++cs.drop (o+ys.length * sz)).toArray):=by
  have e1:Nat.min sLen dLen=ys.length:=hkk;simp only [Nat.add_zero,hfl] at hst
  simp [Builtin.copy_,run_under hu,Builtin.lenOf,run_size hs,e1,hload,hst,goInt]
 unfold Oper.wp;rw [act_eval'];have:(execOp (ev n f) ⟨some d,.call ⟨.builtin .copy,#[x,y],#[t,t']⟩,ty,pos,aft,none⟩).run P w=.ok (.value (.int .i64 (ys.length:Nat))) (w.setRow g (cs.take o++ys.flatten++cs.drop (o+ys.length * sz)).toArray):=by
  simp [execOp,resolve,invoke,builtin,hx,hy,hrun]
 rw [this];simp only [Oper.upon_value,yac];exact hK _ _ (h _ (hS.put ha (chg_setRow w g _) (setRow_heap w g _ _ T _ hb)))
theorem apz [ht:HasTT P] {i c m:Nat} {z:Int} [he:HasE P e sz bytes] [hzz:HasZ P e zs] (hS:Sep r M L w) (hx:ev n f x=.slice (some ⟨g,0,none⟩) i c) (hy:ev n f y=.int .i64 z) (hk:kindOf ht.tt t=.sl e sz) (hti:P.underlying t'=some (.int .i64)) (hz:z=(m:Int)) (hsrc:Rows' w sz (.slice (some ⟨g,0,none⟩) i c) ys) (h1:zs.all (·.oneCell')=true)
  (hm0:0 < m) (hneed:c < i+m) (h63:(i+m) * bytes≤140737488355328) (hm:i+m≤maxLen)
  (h:∀ A' c' w',Sep r M (.sl e sz (.slice A' (i+m) c') (ys++List.replicate m zs)::L) w'→K (upd' f d (.slice A' (i+m) c')) w') :
  WE P ⟨some d,.call ⟨.builtin .append,#[x,y],#[t,t']⟩,ty,pos,aft,none⟩ K Q n f w:=by
 refine ⟨fun K' hK=>?_⟩;subst hz;obtain ⟨hu,_⟩:=kind_sl hk;obtain ⟨i0,z,hi,hz,hsz,hby,hzs,hpos⟩:=he.ok;obtain ⟨hok,A,c1,hv,hnil,hle,hr⟩:=hsrc
 injection hv with e1 e2 e3
 subst e1;subst e2;have hz':=hzz.ok
 simp [hi,hz] at hz'
 have hzl:zs.length=sz:=by omega
 have hfl:ys.flatten.length=ys.length * sz:=flatten_length fun row hr=>(hok row hr).1
 have hold:(Builtin.firstCells i0.size ys.length (.slice (some ⟨g,0,none⟩) ys.length c)).run P w.drew=.ok ys.flatten.toArray w.drew:=by
  unfold Builtin.firstCells;rw [hsz,← hfl];refine run_loadCells_list (P:=P) w.drew _ _ fun j u hu=>?_
  have hp:0 < ys.length:=by
   rcases Nat.eq_zero_or_pos ys.length with h|h
   ·have:ys=[]:=List.eq_nil_of_length_eq_zero h;subst this;simp at hu
   ·exact h
  obtain ⟨ad',e1,hc⟩:=hr.2 hp
  injection e1 with e1
  subst e1;exact hc j u hu
 have hmm:maxLen=9223372036854775807:=rfl;have hbytes:m * i0.bytes≤281474976710656:=by
  have:m * bytes≤(ys.length+m) * bytes:=Nat.mul_le_mul_right _ oM;rw [hby];omega
 have hrun:=Lib.run_append_grow_zeros (P:=P) w t t' ty e i0 z .i64 .i64 hu hti hi hz (some ⟨g,0,none⟩) ys.length c ys.flatten hold m hm0 oM hneed oM hbytes (by rw [hby];exact growslice_fits hneed h63);have hge:=grownCap_ge w (ys.length+m) c e;have hle':=grownCap_le_maxLen w (ys.length+m) c e hm;generalize grownCap w (ys.length+m) c e=c' at *;have hzc:∀ q,Builtin.zeroCells z.cells q=(zerosL zs q).toArray:=fun q=>by
  have:=zerosL_ok zs q;unfold Builtin.zeroCells;rw [hz'.1]
  simpa using this
 have hlz:∀ q,(zerosL zs q).length=q * sz:=fun q=>by
  have:=congrArg Array.size (zerosL_ok zs q)
  simp at this
  rw [← this,hzl]
 have hrep:∀ q,(List.replicate q zs).flatten=zerosL zs q:=fun q=>by
  induction q with
  | zero=>rfl
  | succ q ih=>rw [List.replicate_succ,List.flatten_cons,ih];rfl
 rw [hzc,hzc] at hrun;unfold Oper.wp;rw [act_eval',ap_run2 x y hx hy hrun];simp only [Result.andThen_ok,Oper.upon_value,yac];refine hK _ _ (h _ _ _ (hS.add (f2:=[w.heap.size]) ((Chg.refl _ _).drew.alloc _) ⟨?_,_,_,by simp,.inr ⟨oM,w.heap.size,_,rfl,rfl,Blk.new' _ _ _ rfl,by simpa using hge,hle',?_,?_⟩⟩ (by simp) ?_))
 ·intro row hrow
  rcases List.mem_append.1 hrow with h2|h2
  ·exact hok row h2
  ·obtain ⟨_,rfl⟩:=List.mem_replicate.1 h2;exact ⟨hzl,by simpa using h1⟩
 ·simp only [Array.size_append,List.size_toArray,hfl,hlz];rw [← Nat.add_mul,← Nat.add_mul]
  congr 1
  omega
 ·rw [List.flatten_append,hrep];have:((ys++List.replicate m zs).length * sz)=(ys.flatten++zerosL zs m).length:=by
   simp only [List.length_append,List.length_replicate,hfl,hlz,Nat.add_mul]
  rw [this];simp only [Array.toList_append,List.append_assoc];rw [← List.append_assoc];exact List.take_left
 ·intro b hb
  simp at hb
  subst hb;have:=(Blk.new' (g:=w.heap.size) w.drew e (ys.flatten.toArray++(zerosL zs m).toArray++(zerosL zs (c' - (ys.length+m))).toArray) rfl).lt;exact ⟨this,Nat.le_refl _⟩
theorem clr [ht:HasTT P] {m c:Nat} (hS:Sep r M L w) (hx:ev n f x=.slice (some ⟨g,o,none⟩) m c) (hk:kindOf ht.tt t=.sl e sz) [hz:HasZ P e zs] (ha:At L k (.blk g T cs)) (hfit:o+m * sz≤cs.length) (h1:zs.all (·.oneCell')=true)
  (h:∀ w',Sep r M (.blk g T (cs.take o++zerosL zs m++cs.drop (o+m * sz))::k) w'→K f w') :
  WE P ⟨none,.call ⟨.builtin .clear,#[x],#[t]⟩,ty,pos,aft,none⟩ K Q n f w:=by
 refine ⟨fun K' hK=>?_⟩;obtain ⟨hu,hs⟩:=kind_sl hk;have hb:=hS.blk ha;have hz':=hz.ok
 cases hi:P.info? e with
 | none=>simp [hi] at hz'
 | some i=>
  simp [hi] at hz'
  obtain ⟨⟨z,hz1,hz2⟩,hz3⟩:=hz';have hsz:i.size=sz:=by
   have hs':=hs
   simp [sizeB,hi] at hs'
   exact hs'
  have hzl:zs.length=sz:=by omega
  have hzv:(zeroValue e).run P w=.ok z w:=by simp [zeroValue,typeInfo,hi,hz1]
  have hcells:Builtin.zeroCells z.cells m=(zerosL zs m).toArray:=by
   have:=zerosL_ok zs m;unfold Builtin.zeroCells;rw [hz2]
   simpa using this
  have hlz:(zerosL zs m).length=m * sz:=by
   have:=congrArg Array.size (zerosL_ok zs m)
   simp at this
   rw [← this,hzl]
  have h1':∀ u∈zerosL zs m,u.oneCell'=true:=by
   clear hcells hlz
   induction m with
   | zero=>simp [zerosL]
   | succ m ih=>
    intro u hu;simp only [zerosL,List.mem_append] at hu
    rcases hu with hu|hu
    ·simp at h1;exact h1 u hu
    ·have hh:∀ q u,u∈zerosL zs q→u.oneCell'=true:=by
      intro q
      induction q with
      | zero=>simp [zerosL]
      | succ q ih2=>
       intro u hu;simp only [zerosL,List.mem_append] at hu
       rcases hu with hu|hu
       ·simp at h1;exact h1 u hu
       ·exact ih2 u hu
     exact hh m u hu
  have hst:=run_storeCells_at P g o T (zerosL zs m) 0 cs.toArray w hb (by rw [hlz];simp;omega) h1';simp only [Nat.add_zero,hlz] at hst
  by_cases hm:m=0
  ·subst hm;have hrun:(Builtin.clear_ #[t] ty #[.slice (some ⟨g,o,none⟩) 0 c]).run P w=.ok (.tuple #[]) w:=by
    simp [Builtin.clear_,run_under hu]
   unfold Oper.wp;rw [act_eval'];have:(execOp (ev n f) ⟨none,.call ⟨.builtin .clear,#[x],#[t]⟩,ty,pos,aft,none⟩).run P w=.ok (.value (.tuple #[])) w:=by
    simp [execOp,resolve,invoke,builtin,hx,hrun]
   rw [this];simp only [Oper.upon_value,yac];refine hK _ _ (h _ ?_);simp only [zerosL,List.append_nil,Nat.zero_mul,Nat.add_zero,List.take_append_drop];exact hS.focus ha
  ·have hrun:(Builtin.clear_ #[t] ty #[.slice (some ⟨g,o,none⟩) m c]).run P w=.ok (.tuple #[]) (w.setRow g (cs.take o++zerosL zs m++cs.drop (o+m * sz)).toArray):=by
    cases m with
    | zero=>exact absurd rfl hm
    | succ m=>simp [Builtin.clear_,run_under hu,hzv,hcells,hst]
   unfold Oper.wp;rw [act_eval'];have:(execOp (ev n f) ⟨none,.call ⟨.builtin .clear,#[x],#[t]⟩,ty,pos,aft,none⟩).run P w=.ok (.value (.tuple #[])) (w.setRow g (cs.take o++zerosL zs m++cs.drop (o+m * sz)).toArray):=by
    simp [execOp,resolve,invoke,builtin,hx,hrun]
   rw [this];simp only [Oper.upon_value,yac];exact hK _ _ (h _ (hS.put ha (chg_setRow w g _) (setRow_heap w g _ _ T _ hb)))
end
end Z
section
variable {r w:World} {M:List Nat} {L L' k:List Res} {R:Res} {g T:Nat} {cs:List Value}
theorem Sep.sb (h:Sep r M L w) (hs:Sub L L':=by repeat (first|exact Sub.rest|exact Sub.nil|exact .skip .rest|exact .skip (.skip .rest)|exact .skip (.skip (.skip .rest))|apply Sub.keep|refine Sub.cons AtF ?_|apply Sub.skip)):Sep r M L' w:=h.sub hs
theorem Sep.fo (h:Sep r M L w) (ha:At L k R:=by repeat (first|exact At.here|apply At.next)):Sep r M (R::k) w:=h.focus ha
theorem Sep.bk (h:Sep r M L w) (ha:At L k (.blk g T cs):=by repeat (first|exact At.here|apply At.next)):Blk w g T cs.toArray:=h.blk ha
end
namespace R
section
variable {P:Program} {n:Nat} {f:Nat→Value} {d:Option Tmp} {ty t:TypeId} {pos:String} {aft:Array Edge} {gd:Option (Nat×Bool)} {x lo hi:Operand} {e sz:Nat} {m c:Nat} {l h:Int}
theorem spanL [ht:HasTT P] {g o:Nat} (hx:ev n f x=.slice (some ⟨g,o,none⟩) m c) (hl:ev n f lo=.int .i64 l) (hh:ev n f hi=.int .i64 h) (hk:kindOf ht.tt t=.sl e sz) (hb:0≤h∧h≤c) (hb':0≤l∧l≤h.toNat) (hc:l.toNat < c) :
  Runs P n f ⟨d,.slice t x (some lo) (some hi) none,ty,pos,aft,gd⟩ (.slice (some ⟨g,o+l.toNat * sz,none⟩) (h.toNat - l.toNat) (c - l.toNat)):=by
 have h1:=span (P:=P) (d:=d) (ty:=ty) (pos:=pos) (aft:=aft) (gd:=gd) hx hl hh hk hb hb';rw [if_neg oM] at h1
 simpa [yap] using h1
end
end R
namespace Z
section
variable {P:Program} {ops:Array Oper} {Q:Exit→Act→World→Prop} {n:Nat} {f:Nat→Value} {w:World} {rest:List Oper} {d:Tmp} {op:Op} {ty:TypeId} {pos:String} {aft:Array Edge}
theorem gU {j s:Nat} {b:Bool} (hj:(ops[j]?).bind (·.dst)=some s) (hs:ev n f (.tmp s)=undef) (h:WL P ops Q rest n (upd' f d undef) w):WL P ops Q (⟨some d,op,ty,pos,aft,some (j,b)⟩::rest) n f w:=by
 refine ⟨?_⟩;unfold wpList;have hy:yielded ops (fr n f) j=none:=by
  unfold yielded;rw [hj];simp only [Option.bind_some];simp only [ev] at hs
  cases hb:Nat.blt s n
  ·have hge:¬ s < n:=fun hlt=>by rw [← Nat.blt_eq,hb] at hlt;cases hlt
   have:(fr n f)[s]?=none:=by simp [fr];omega
   rw [this]
  ·rw [hb] at hs;have hlt:s < n:=by simpa [Nat.blt_eq] using hb
   rw [yc6 hlt];simp only [cond_true] at hs;rw [hs]
   simp [undef]
 rw [if_neg (by simp [Region.wanted,hy])];rw [yac];exact h.out
end
end Z
namespace Sh
section
variable {P:Program} {ops:Array Oper} {Q:Exit→Act→World→Prop} {n:Nat} {f:Nat→Value} {w r:World} {M:List Nat} {L k:List Res} {rest:List Oper} {d:Tmp} {op:Op} {ty t t':TypeId} {pos:String} {aft:Array Edge} {v:Value} {x y lo hi:Operand} {g o T q e sz len m c:Nat} {cs cs' zs:List Value} {A:Option Addr} {j l h':Int} {xs ys:Array Value} {b ag:Bool}
theorem la [ht:HasTT P] (hS:Sep r M L w) (h:WL P ops Q rest n (upd' f d v) w) (hx:ev n f x=.pointer (some ⟨g,o,none⟩):=by exact rfl) (ha:At L k (.blk g T cs):=by repeat (first|exact At.here|apply At.next)) (hv:Z.ldv ht.tt t cs o=some v:=by exact rfl):WL P ops Q (⟨some d,.load t x,ty,pos,aft,none⟩::rest) n f w:=Z.eff (Z.ld hS hx ha hv h) rfl
theorem lb [ht:HasTT P] (h:WL P ops Q rest n (upd' f d v) w) (hx:ev n f x=.pointer (some ⟨g,o,none⟩):=by exact rfl) (hc:w.rangeAt g o cs:=by assumption) (hl:Z.ldv ht.tt t cs 0=some v:=by exact rfl):WL P ops Q (⟨some d,.load t x,ty,pos,aft,none⟩::rest) n f w:=Z.eff (Z.ldR hx hc hl h) rfl
theorem lc [ht:HasTT P] (h:WL P ops Q rest n (upd' f d v) w) (hx:ev n f x=.pointer (some ⟨g,o+q,none⟩):=by exact rfl) (hc:w.rangeAt g o cs:=by assumption) (hl:Z.ldv ht.tt t (cs.drop q) 0=some v:=by exact rfl):WL P ops Q (⟨some d,.load t x,ty,pos,aft,none⟩::rest) n f w:=Z.eff (Z.ldE hx hc hl h) rfl
theorem sa [ht:HasTT P] (hS:Sep r M L w) (h:∀ w',Sep r M (.blk g T cs'::k) w'→WL P ops Q rest n f w') (hx:ev n f x=.pointer (some ⟨g,o,none⟩):=by exact rfl) (ha:At L k (.blk g T cs):=by repeat (first|exact At.here|apply At.next)) (hy:ev n f y=v:=by exact rfl) (hv:Z.stv ht.tt t cs o v=some cs':=by exact rfl):WL P ops Q (⟨none,.store t x y,ty,pos,aft,none⟩::rest) n f w:=Z.eff (Z.st hS hx ha hy hv h) rfl
theorem aa [hz:HasZ P t cs] (hS:Sep r M L w) (h:∀ g w',Sep r M (.blk g t cs::L) w'→w.heap.size≤g→WL P ops Q rest n (upd' f d (.pointer (some ⟨g,0,none⟩))) w'):WL P ops Q (⟨some d,.alloc t,ty,pos,aft,none⟩::rest) n f w:=Z.eff (Z.al hS h) rfl
theorem ab (hS:Sep r M L w) {fn:Nat→Value} (h:∀ g w',Sep r M (.blk g t cs::L) w'→w.heap.size≤g→WL P ops Q rest n (upd' fn d (.pointer (some ⟨g,0,none⟩))) w') (hx:Z.vcells (ev n fn x)=some cs:=by exact rfl):WL P ops Q (⟨some d,.box t x,ty,pos,aft,none⟩::rest) n fn w:=Z.eff (Z.bx hS hx h) rfl
theorem ac [ht:HasTT P] {ps:List (Nat×Operand)} {fn:Nat→Value} (hS:Sep r M L w) (h:∀ g w',Sep r M (.blk g e cs::L) w'→w.heap.size≤g→WL P ops Q rest n (upd' fn d (.slice (some ⟨g,0,none⟩) len len)) w') (hk:kindOf ht.tt t=.sl e sz:=by exact rfl) (hz:HasZ P e zs:=by infer_instance) (hf:Z.fillA sz (Z.zerosL zs len) (Z.partsV n fn ps)=some cs:=by exact rfl) (hn:Nat.ble (len * sz) 16777216=true:=by exact rfl):WL P ops Q (⟨some d,.buildSlice t len ps.toArray,ty,pos,aft,none⟩::rest) n fn w:=Z.eff (Z.bs hS hk hf hn h) rfl
theorem su {z:Int} {fn:Nat→Value} (hw:WL P ops Q rest n (upd' fn d (.int .i64 z)) w) (hp:Z.ari n fn op=some z:=by exact rfl) (h1 : -9223372036854775808≤z∧z≤9223372036854775807:=by constructor<;>omega):WL P ops Q (⟨some d,op,ty,pos,aft,none⟩::rest) n fn w:=Z.sum hp h1 hw
theorem ix [ht:HasTT P] {jj cap:Nat} {fn:Nat→Value} (hw:WL P ops Q rest n (upd' fn d (.pointer (some ⟨g,o+jj * sz,none⟩))) w) (hx:ev n fn x=.slice (some ⟨g,o,none⟩) len cap:=by exact rfl) (hy:ev n fn y=.int .i64 (jj:Int):=by exact rfl) (hk:kindOf ht.tt t=.sl e sz:=by exact rfl) (hj:jj < len:=by omega):WL P ops Q (⟨some d,.indexAddr t x y,ty,pos,aft,none⟩::rest) n fn w:=Z.ixn hx hy hk hj hw
theorem ix2 [ht:HasTT P] {cap:Nat} {fn:Nat→Value} (hw:WL P ops Q rest n (upd' fn d (.pointer (some ⟨g,o+j.toNat * sz,none⟩))) w) (hx:ev n fn x=.slice (some ⟨g,o,none⟩) len cap:=by exact rfl) (hy:ev n fn y=.int .i64 j:=by exact rfl) (hk:kindOf ht.tt t=.sl e sz:=by exact rfl) (hj:0≤j∧j < len:=by omega):WL P ops Q (⟨some d,.indexAddr t x y,ty,pos,aft,none⟩::rest) n fn w:=Z.ix hx hy hk hj hw
theorem ix3 [ht:HasTT P] {fn:Nat→Value} (hw:WL P ops Q rest n (upd' fn d (.pointer (some ⟨g,o+j.toNat * sz,none⟩))) w) (hx:ev n fn x=.pointer (some ⟨g,o,none⟩):=by exact rfl) (hy:ev n fn y=.int .i64 j:=by exact rfl) (hk:kindOf ht.tt t=.ar len e sz:=by exact rfl) (hj:0≤j∧j < len:=by omega):WL P ops Q (⟨some d,.indexAddr t x y,ty,pos,aft,none⟩::rest) n fn w:=Z.ia hx hy hk hj hw
theorem up [ht:HasTT P] {z:Int} {fn:Nat→Value} (hw:WL P ops Q rest n (upd' fn d (.slice A z.toNat c)) w) (hx:ev n fn x=.slice A m c:=by exact rfl) (hh:ev n fn hi=.int .i64 z:=by exact rfl) (hk:kindOf ht.tt t=.sl e sz:=by exact rfl) (hb:0≤z∧z≤c:=by omega):WL P ops Q (⟨some d,.slice t x none (some hi) none,ty,pos,aft,none⟩::rest) n fn w:=Z.pl (R.upto hx hh hk hb) hw
theorem sl1 [ht:HasTT P] {z:Int} {fn:Nat→Value} (hw:WL P ops Q rest n (upd' fn d (.slice (some ⟨g,o+z.toNat * sz,none⟩) (m - z.toNat) (c - z.toNat))) w) (hx:ev n fn x=.slice (some ⟨g,o,none⟩) m c:=by exact rfl) (hl:ev n fn lo=.int .i64 z:=by exact rfl) (hk:kindOf ht.tt t=.sl e sz:=by exact rfl) (hb:0≤z∧z≤m:=by omega) (hc:z.toNat < c:=by omega):WL P ops Q (⟨some d,.slice t x (some lo) none none,ty,pos,aft,none⟩::rest) n fn w:=Z.pl (R.sinceL hx hl hk hb hc) hw
theorem sl2 [ht:HasTT P] {z:Int} {fn:Nat→Value} (hw:WL P ops Q rest n (upd' fn d (.slice (if c=z.toNat then A else A.map fun x=>x.add (z.toNat * sz)) (m - z.toNat) (c - z.toNat))) w) (hx:ev n fn x=.slice A m c:=by exact rfl) (hl:ev n fn lo=.int .i64 z:=by exact rfl) (hk:kindOf ht.tt t=.sl e sz:=by exact rfl) (hb:0≤z∧z≤m:=by omega):WL P ops Q (⟨some d,.slice t x (some lo) none none,ty,pos,aft,none⟩::rest) n fn w:=Z.pl (R.since hx hl hk hb) hw
theorem sl3 [ht:HasTT P] {z z':Int} {fn:Nat→Value} (hw:WL P ops Q rest n (upd' fn d (.slice (if c=z.toNat then A else A.map fun x=>x.add (z.toNat * sz)) (z'.toNat - z.toNat) (c - z.toNat))) w) (hx:ev n fn x=.slice A m c:=by exact rfl) (hl:ev n fn lo=.int .i64 z:=by exact rfl) (hh:ev n fn hi=.int .i64 z':=by exact rfl) (hk:kindOf ht.tt t=.sl e sz:=by exact rfl) (hb:0≤z'∧z'≤c:=by omega) (hb':0≤z∧z≤z'.toNat:=by omega):WL P ops Q (⟨some d,.slice t x (some lo) (some hi) none,ty,pos,aft,none⟩::rest) n fn w:=Z.pl (R.span hx hl hh hk hb hb') hw
theorem sl5 [ht:HasTT P] {z z':Int} {fn:Nat→Value} (hw:WL P ops Q rest n (upd' fn d (.slice (some ⟨g,o+z.toNat * sz,none⟩) (z'.toNat - z.toNat) (c - z.toNat))) w) (hx:ev n fn x=.slice (some ⟨g,o,none⟩) m c:=by exact rfl) (hl:ev n fn lo=.int .i64 z:=by exact rfl) (hh:ev n fn hi=.int .i64 z':=by exact rfl) (hk:kindOf ht.tt t=.sl e sz:=by exact rfl) (hb:0≤z'∧z'≤c:=by omega) (hb':0≤z∧z≤z'.toNat:=by omega) (hc:z.toNat < c:=by omega):WL P ops Q (⟨some d,.slice t x (some lo) (some hi) none,ty,pos,aft,none⟩::rest) n fn w:=Z.pl (R.spanL hx hl hh hk hb hb' hc) hw
theorem sl4 [ht:HasTT P] {fn:Nat→Value} (hw:WL P ops Q rest n (upd' fn d (.slice (some ⟨g,o,none⟩) len len)) w) (hx:ev n fn x=.pointer (some ⟨g,o,none⟩):=by exact rfl) (hk:kindOf ht.tt t=.ar len e sz:=by exact rfl):WL P ops Q (⟨some d,.slice t x none none none,ty,pos,aft,none⟩::rest) n fn w:=Z.pl (R.whole hx hk) hw
theorem eq [hq:HasQ P] {fn:Nat→Value} (hw:WL P ops Q rest n (upd' fn d (.bool b)) w) (hx:ev n fn x=.agg xs:=by exact rfl) (hy:ev n fn y=.agg ys:=by exact rfl) (hk:(match kq hq.qt t with|.st _=>true|.ar _ _ _ _=>true|_=>false)=true:=by exact rfl) (hb:eqV hq.qt 20 t (.agg xs) (.agg ys)=some b:=by exact rfl):WL P ops Q (⟨some d,.binOp .eql t x y t',ty,pos,aft,none⟩::rest) n fn w:=Z.pl (R.eqa hx hy hk hb) hw
theorem ne [hq:HasQ P] {fn:Nat→Value} (hw:WL P ops Q rest n (upd' fn d (.bool (!b))) w) (hx:ev n fn x=.agg xs:=by exact rfl) (hy:ev n fn y=.agg ys:=by exact rfl) (hk:(match kq hq.qt t with|.st _=>true|.ar _ _ _ _=>true|_=>false)=true:=by exact rfl) (hb:eqV hq.qt 20 t (.agg xs) (.agg ys)=some b:=by exact rfl):WL P ops Q (⟨some d,.binOp .neq t x y t',ty,pos,aft,none⟩::rest) n fn w:=Z.pl (R.nea hx hy hk hb) hw
theorem again {fn f0:Nat→Value} {Ms:List Nat} {I:Nat→World→List (Nat×Value)→Prop} {mm:Nat} (m':Nat) (l':List (Nat×Value)) (h:I m' w l') (hm:m' < mm:=by omega)
  (h1:Same Ms fn f0:=by repeat (first|with_reducible exact Same.mix|((with_reducible refine Same.upd ?_ ?_);· rfl)|((with_reducible refine Same.cons ?_ ?_);· rfl)|with_reducible exact Same.refl|with_reducible refine Same.nil ?_|((with_reducible refine Same.mixS ?_ ?_);· rfl)))
  (h2:slotsL fn l':=by repeat (first|exact trivial|refine ⟨rfl,?_⟩)):Exit.then (Z.AgainS n mm Ms f0 I) Q .normal (act n fn) w:=Z.againS m' l' hm h1 h2 h
theorem cut {fn f0:Nat→Value} {Ms:List Nat} {I:World→List (Nat×Value)→Prop} (l':List (Nat×Value)) (h:I w l')
  (h1:Same Ms fn f0:=by repeat (first|with_reducible exact Same.mix|((with_reducible refine Same.upd ?_ ?_);· rfl)|((with_reducible refine Same.cons ?_ ?_);· rfl)|with_reducible exact Same.refl|with_reducible refine Same.nil ?_|((with_reducible refine Same.mixS ?_ ?_);· rfl)))
  (h2:slotsL fn l':=by repeat (first|exact trivial|refine ⟨rfl,?_⟩)):Exit.then (Z.CutS n Ms f0 I) Q .normal (act n fn) w:=Z.cutE l' h1 h2 h
end
section
variable {P:Program} {ops:Array Oper} {Q:Exit→Act→World→Prop} {S:World→Prop} {L k m n:Nat} {f:Nat→Value} {w r:World} {M:List Nat} {Lr kr:List Res} {d:Tmp} {op:Op} {ty t:TypeId} {pos:String} {aft:Array Edge} {gd:Option (Nat×Bool)} {v:Value} {x:Operand} {g o T:Nat} {cs:List Value}
theorem dp [ht:HasTT P] (i m':Nat) (h:WR P ops Q S L k m' n (upd' f d v) w) (hi:ops[i]?=some ⟨some d,op,ty,pos,aft,gd⟩:=by exact rfl) (hw:Region.wanted ⟨some d,op,ty,pos,aft,gd⟩ (yielded ops (fr n f))=true:=by first|exact D.wantedN|exact D.wantedT rfl rfl) (hc:okTake ops L m m' i=true:=by kernel_rfl) (hp:pureOp ht.tt n f op=some v:=by exact rfl):WR P ops Q S L (k+1) m n f w:=D.pr i m' hi hw hc hp h
theorem dl [ht:HasTT P] (i m':Nat) (h:WR P ops Q (Sep r M Lr) L k m' n (upd' f d v) w) (hi:ops[i]?=some ⟨some d,.load t x,ty,pos,aft,gd⟩:=by exact rfl) (hw:Region.wanted ⟨some d,.load t x,ty,pos,aft,gd⟩ (yielded ops (fr n f))=true:=by first|exact D.wantedN|exact D.wantedT rfl rfl) (hc:okLoad ops L m m' i=true:=by kernel_rfl) (hx:ev n f x=.pointer (some ⟨g,o,none⟩):=by exact rfl) (ha:At Lr kr (.blk g T cs):=by repeat (first|exact At.here|apply At.next)) (hv:Z.ldv ht.tt t cs o=some v:=by exact rfl):WR P ops Q (Sep r M Lr) L (k+1) m n f w:=D.ld i m' hi hw hc hx (fun W hW=>hW.blk ha) hv h
end
end Sh
namespace R
section
variable {P:Program} {n:Nat} {f:Nat→Value} {d:Option Tmp} {ty t:TypeId} {pos:String} {aft:Array Edge} {gd:Option (Nat×Bool)} {x lo hi mx:Operand} {e sz:Nat} {A:Option Addr} {m c:Nat} {l h k:Int}
theorem span3 [ht:HasTT P] (hx:ev n f x=.slice A m c) (hl:ev n f lo=.int .i64 l) (hh:ev n f hi=.int .i64 h) (hm:ev n f mx=.int .i64 k) (hk:kindOf ht.tt t=.sl e sz) (hb:0≤k∧k≤c) (hb':0≤h∧h≤k.toNat) (hb'':0≤l∧l≤h.toNat) :
  Runs P n f ⟨d,.slice t x (some lo) (some hi) (some mx),ty,pos,aft,gd⟩ (.slice (if k.toNat=l.toNat then A else A.map fun x=>x.add (l.toNat * sz)) (h.toNat - l.toNat) (k.toNat - l.toNat)):=by
 obtain ⟨hu,hs⟩:=Z.kind_sl hk;refine ⟨fun W=>?_⟩;simp only [execOp,hx,Instr.sliceAt,Option.map_some,hl,hh,hm,Sem.run_bind,run_under hu,Result.andThen_ok,Instr.slice,Instr.sliceBounds,Sem.run_pure,if_true,bound _ hb,bound _ hb',bound _ hb'',run_size hs]
theorem sinceE [ht:HasTT P] (hx:ev n f x=.slice A m c) (hl:ev n f lo=.int .i64 l) (hk:kindOf ht.tt t=.sl e sz) (hb:0≤l∧l≤m) (he:c=l.toNat) :
  Runs P n f ⟨d,.slice t x (some lo) none none,ty,pos,aft,gd⟩ (.slice A (m - l.toNat) (c - l.toNat)):=by
 have h1:=since (P:=P) (d:=d) (ty:=ty) (pos:=pos) (aft:=aft) (gd:=gd) hx hl hk hb;rw [if_pos he] at h1;exact h1
end
end R
namespace Z
section
variable {P:Program} {Q:Exit→Act→World→Prop} {n:Nat} {f:Nat→Value} {w:World} {a:Act}
theorem label {l:Nat} (h:Q .normal (act n f) w):WC P (.label l) Q n f w:=⟨wp_label h⟩
theorem scope {c:Code} (h:WC P c (Exit.noGoto Q) n f w):WC P (.scope c) Q n f w:=⟨wp_scope_straight h.out⟩
theorem ngN (h:Q .normal a w):Exit.noGoto Q .normal a w:=h
theorem ngR (h:Q .ret a w):Exit.noGoto Q .ret a w:=h
theorem ngE {i:Nat} (h:Q (.exit i) a w):Exit.noGoto Q (.exit i) a w:=h
end
section
variable {P:Program} {K:(Nat→Value)→World→Prop} {Q:Exit→Act→World→Prop} {n:Nat} {f:Nat→Value} {w r:World} {M:List Nat} {L:List Res} {d:Tmp} {ty t:TypeId} {pos:String} {aft:Array Edge}
 {x y:Operand} {e sz bytes g:Nat} {k:List Res} {cs:List Value} {ys:List (List Value)}
theorem apf [ht:HasTT P] {sLen sCap m mc:Nat} {ad:Addr} [he:HasE P e sz bytes] (hS:Sep r M L w) (hx:ev n f x=.slice (some ⟨g,0,none⟩) sLen sCap) (hy:ev n f y=.slice (some ad) m mc) (hk:kindOf ht.tt t=.sl e sz) (ha:At L k (.blk g e cs)) (hsrc:Rows' w sz (.slice (some ad) m m) ys) (hroom:sLen+m≤sCap) (hfit:(sLen+m) * sz≤cs.length)
  (h:∀ w',Sep r M (.blk g e (cs.take (sLen * sz)++ys.flatten++cs.drop ((sLen+m) * sz))::k) w'→K (upd' f d (.slice (some ⟨g,0,none⟩) (sLen+m) sCap)) w') :
  WE P ⟨some d,.call ⟨.builtin .append,#[x,y],#[t,t]⟩,ty,pos,aft,none⟩ K Q n f w:=by
 refine ⟨fun K' hK=>?_⟩;obtain ⟨hu,_⟩:=kind_sl hk;obtain ⟨i0,z,hi,hz,hsz,hby,hzs,hpos⟩:=he.ok;obtain ⟨hok,A,c1,hv,hnil,hle,hr⟩:=hsrc
 injection hv with e1 e2 e3
 subst e1;subst e2;have hb:=hS.blk ha;have hfl:ys.flatten.length=ys.length * sz:=flatten_length fun row hr=>(hok row hr).1
 have hcell:∀ j u,ys.flatten[j]?=some u→w.cell? (ad.add j)=some u:=fun j u hu=>by
  have hp:0 < ys.length:=by
   rcases Nat.eq_zero_or_pos ys.length with h|h
   ·have:ys=[]:=List.eq_nil_of_length_eq_zero h;subst this;simp at hu
   ·exact h
  obtain ⟨ad',e1,hc⟩:=hr.2 hp
  injection e1 with e1
  subst e1;exact hc j u hu
 have h1:∀ u∈ys.flatten,u.oneCell'=true:=fun u hu=>by
  obtain ⟨row,hrow,hu⟩:=List.mem_flatten.1 hu;exact (hok row hrow).2 u hu
 have hrun:=run_append_room (P:=P) w t ty e i0 hu hi g sLen sCap cs.toArray hb ad ys.length mc ys.flatten (by rw [hfl,hsz]) hcell h1 hroom (by rw [hsz,hfl,← Nat.add_mul];simpa using hfit);unfold Oper.wp;rw [act_eval',ap_run x y hx hy hrun];simp only [Result.andThen_ok,Oper.upon_value,yac];refine hK _ _ (h _ ?_);have:=hS.put (cs':=cs.take (sLen * sz)++ys.flatten++cs.drop ((sLen+ys.length) * sz)) ha (chg_setRow w g _) (setRow_heap w g _ _ e _ hb)
 simpa [hsz,hfl,Nat.add_mul] using this
end
end Z
namespace D
section
variable {P:Program} {ops:Array Oper} {Q:Exit→Act→World→Prop} {S:World→Prop} {L k m n:Nat} {f:Nat→Value} {w:World} {d:Tmp} {op:Op} {ty:TypeId} {pos:String} {aft:Array Edge}
theorem skU (i m':Nat) {j s:Nat} {b:Bool} (hi:ops[i]?=some ⟨some d,op,ty,pos,aft,some (j,b)⟩) (hc:okTake ops L m m' i=true) (hj:(ops[j]?).bind (·.dst)=some s) (hs:ev n f (.tmp s)=undef) (h:WR P ops Q S L k m' n (upd' f d undef) w):WR P ops Q S L (k+1) m n f w:=by
 refine yes i m' hi hc ?_ h;have hy:yielded ops (fr n f) j=none:=by
  unfold yielded;rw [hj];simp only [Option.bind_some];simp only [ev] at hs
  cases hb:Nat.blt s n
  ·have hge:¬ s < n:=fun hlt=>by rw [← Nat.blt_eq,hb] at hlt;cases hlt
   have:(fr n f)[s]?=none:=by simp [fr];omega
   rw [this]
  ·rw [hb] at hs;have hlt:s < n:=by simpa [Nat.blt_eq] using hb
   rw [yc6 hlt];simp only [cond_true] at hs;rw [hs]
   simp [undef]
 simp [Region.wanted,hy]
end
end D
namespace Z
section
variable {P:Program} {K:(Nat→Value)→World→Prop} {Q:Exit→Act→World→Prop} {n:Nat} {f:Nat→Value} {w r:World} {M:List Nat} {L:List Res} {ty t:TypeId} {pos:String} {aft:Array Edge} {v:Value} {x y:Operand} {e sz:Nat} {k:List Res}
theorem stv_one [ht:HasTT P] {cs:List Value} {o:Nat} (hz:sizeT ht.tt t=some 1) (h1:v.oneCell'=true) (ho:o < cs.length):stv ht.tt t cs o v=some (cs.set o v):=by
 unfold sizeT at hz;unfold stv
 cases hy:ht.tt[t]? with
 | none=>simp [hy] at hz
 | some y=>
  simp only [hy] at hz;have hb:Nat.blt o cs.length=true:=by simpa [Nat.blt_eq] using ho
  cases hk:y.k<;>simp only [hk] at hz ⊢<;>first|cases hz|(injection hz with hz;rw [hz];cases v<;>first|(simp [Value.oneCell'] at h1;done)|simp [stv1,someV,hb])
theorem stF [ht:HasTT P] {α:Type} {fc:α→List Value} {l:List α} {q j n0 c g:Nat} (z:α) (hS:Sep r M L w) (hx:ev n f x=.pointer (some ⟨g,0+q * sz+j,none⟩)) (ha:At L k (.sl e sz (.slice (some ⟨g,0,none⟩) n0 c) (l.map fc))) (hq:q < l.length) (hy:ev n f y=v)
  (hz:sizeT ht.tt t=some 1) (h1:v.oneCell'=true) (hj:j < sz) (hzc:fc z=(fc (l[q]'hq)).set j v)
  (h:∀ w',Sep r M (.sl e sz (.slice (some ⟨g,0,none⟩) n0 c) ((l.set q z).map fc)::k) w'→K f w'):WE P ⟨none,.store t x y,ty,pos,aft,none⟩ K Q n f w:=by
 obtain ⟨g',cs,hA,hn,hnc,hm,hl,ht',hok,hS2⟩:=yar (hS.focus ha) (by simpa using (by omega:0 < l.length))
 injection hA with hA
 injection hA with hA _
 subst hA;have hrow:∀ a,a∈l→(fc a).length=sz:=fun a ha=>(hok (fc a) (List.mem_map.2 ⟨a,ha,rfl⟩)).1
 simp only [List.length_map] at hn;have hlt:q * sz+j < l.length * sz:=by
  have:(q+1) * sz≤l.length * sz:=Nat.mul_le_mul_right _ oM;rw [Nat.add_mul] at this;omega
 have hcs:l.length * sz≤cs.length:=by rw [hl];exact Nat.mul_le_mul_right _ oM
 rw [Nat.zero_add] at hx;refine st hS2 hx .here hy (stv_one hz h1 oM) ?_;intro w' hS';refine h w' ?_;have hlen:(l.set q z).length=l.length:=by simp
 have:=yao (rows:=(l.set q z).map fc) (sz:=sz) hS' oM hm (by simpa using hl) (by simpa using (by omega:l.length≤c)) ?_ ?_
 ·simp only [List.length_map,List.length_set] at this;rw [hn];exact this
 ·have e1:=yav (fun row hr=>(hok row hr).1) (q:=q) (rows:=l.map fc) (by simpa using hq) (row':=fc z) (by rw [hzc,List.length_set];exact hrow _ (by simp));have e0:=yav (fun row hr=>(hok row hr).1) (q:=q) (rows:=l.map fc) (by simpa using hq) (row':=fc l[q]) (hrow _ (by simp));have e2:(l.map fc).set q (fc l[q])=l.map fc:=by
   have:(l.map fc)[q]'(by simpa using hq)=fc l[q]:=by simp
   rw [← this];exact List.set_getElem_self _
  rw [e2] at e0;rw [List.map_set,e1];simp only [List.length_set,List.length_map];rw [List.take_set,← hn,ht'];have hX:((l.map fc).flatten.take (q * sz)).length=q * sz:=by
   rw [List.length_take,← ht',List.length_take,hn];have:q * sz≤l.length * sz:=Nat.mul_le_mul_right _ oM;omega
  have hA:=hrow l[q] (by simp)
  conv=>lhs;rw [e0]
  rw [List.append_assoc,List.set_append,if_neg (by rw [hX];omega),hX,Nat.add_sub_cancel_left,List.set_append,if_pos (by rw [hA];exact hj),hzc,List.append_assoc]
 ·intro row hr;obtain ⟨a,ha,rfl⟩:=List.mem_map.1 hr
  rcases List.mem_or_eq_of_mem_set ha with h2|h2
  ·exact hok _ (List.mem_map.2 ⟨a,h2,rfl⟩)
  ·subst h2;rw [hzc];refine ⟨by rw [List.length_set];exact hrow _ (by simp),fun u hu=>?_⟩
   rcases List.mem_or_eq_of_mem_set hu with h3|h3
   ·exact (hok _ (List.mem_map.2 ⟨l[q],by simp,rfl⟩)).2 u h3
   ·subst h3;exact h1
end
end Z
class St (G:Prop) (H:outParam Prop):Prop where
 go:H→G
section
variable {P:Program} {Q:Exit→Act→World→Prop} {K:Act→World→Prop} {n i:Nat} {f:Nat→Value} {w:World} {a:Act} {x y c:Code} {l:List Oper} {ops:Array Oper}
instance : St (WC P (.seq x y) Q n f w) (WC P x (Exit.then (y.wp P Q) Q) n f w):=⟨Z.seq⟩
instance : St (WC P (.region i l.toArray false) Q n f w) (WL P l.toArray Q l n f w):=⟨Z.reg⟩
instance : St (WL P ops Q [] n f w) (Q .normal (act n f) w):=⟨Z.nil⟩
instance : St (WC P .skip Q n f w) (Q .normal (act n f) w):=⟨Z.skip⟩
instance : St (WC P (.exit i) Q n f w) (Q (.exit i) (act n f) w):=⟨Z.exit⟩
instance : St (WC P .ret Q n f w) (Q .ret (act n f) w):=⟨Z.ret⟩
instance : St (Exit.then (y.wp P Q) Q .normal (act n f) w) (WC P y Q n f w):=⟨Z.thN⟩
instance {N:Nat}:St (Exit.then (Code.rounds P c Q (N+1)) Q .normal (act n f) w) (WC P c (Exit.then (Code.rounds P c Q N) Q) n f w):=⟨Z.thU⟩
instance : St (Exit.then K Q (.exit i) a w) (Q (.exit i) a w):=⟨Z.thE⟩
instance : St (Exit.then K Q .ret a w) (Q .ret a w):=⟨Z.thR⟩
instance : St (Exit.inBlock i Q .normal a w) (Q .normal a w):=⟨Z.blN⟩
instance : St (Exit.inBlock i Q .ret a w) (Q .ret a w):=⟨Z.blR⟩
instance : St (Exit.inBlock i Q (.exit i) a w) (Q .normal a w):=⟨Z.blE⟩
instance {j:Nat}:St (WC P (.label j) Q n f w) (Q .normal (act n f) w):=⟨Z.label⟩
instance : St (WC P (.scope c) Q n f w) (WC P c (Exit.noGoto Q) n f w):=⟨Z.scope⟩
instance : St (Exit.noGoto Q .ret a w) (Q .ret a w):=⟨Z.ngR⟩
theorem V0 {G H:Prop} [s:St G H] (h:H):G:=s.go h
theorem VB {c:Operand} {x y:Code} {b:Bool} (h1:b=true→WC P x Q n f w) (h2:b=false→WC P y Q n f w) (hc:ev n f c=.bool b:=by exact rfl):WC P (.cond c x y) Q n f w:=Z.br hc h1 h2
theorem VT {c:Operand} {x y:Code} (h:WC P x Q n f w) (hc:ev n f c=.bool true:=by exact rfl):WC P (.cond c x y) Q n f w:=Z.brT hc h
theorem VF {c:Operand} {x y:Code} (h:WC P y Q n f w) (hc:ev n f c=.bool false:=by exact rfl):WC P (.cond c x y) Q n f w:=Z.brF hc h
end
section
variable {P:Program} {ops:Array Oper} {Q:Exit→Act→World→Prop} {n:Nat} {f:Nat→Value} {w:World} {rest:List Oper} {d:Tmp} {dd:Option Tmp} {op:Op} {ty:TypeId} {pos:String} {aft:Array Edge} {v:Value} {j s:Nat} {b c:Bool} {x y:Operand}
theorem VP [ht:HasTT P] (h:WL P ops Q rest n (upd' f d v) w) (hp:pureOp ht.tt n f op=some v:=by exact rfl):WL P ops Q (⟨some d,op,ty,pos,aft,none⟩::rest) n f w:=Z.pr hp h
theorem G1 (h:WL P ops Q (⟨dd,op,ty,pos,aft,none⟩::rest) n f w) (hj:(ops[j]?).bind (·.dst)=some s:=by exact rfl) (hs:ev n f (.tmp s)=.bool b:=by exact rfl):WL P ops Q (⟨dd,op,ty,pos,aft,some (j,b)⟩::rest) n f w:=Z.gT hj hs h
theorem G2 (h:WL P ops Q rest n (upd' f d undef) w) (hj:(ops[j]?).bind (·.dst)=some s:=by exact rfl) (hs:ev n f (.tmp s)=.bool (!b):=by exact rfl):WL P ops Q (⟨some d,op,ty,pos,aft,some (j,b)⟩::rest) n f w:=Z.gF hj hs h
theorem G3 (h:WL P ops Q rest n f w) (hj:(ops[j]?).bind (·.dst)=some s:=by exact rfl) (hs:ev n f (.tmp s)=.bool (!b):=by exact rfl):WL P ops Q (⟨none,op,ty,pos,aft,some (j,b)⟩::rest) n f w:=Z.gF0 hj hs h
theorem G4 (h:WL P ops Q rest n (upd' f d undef) w) (hj:(ops[j]?).bind (·.dst)=some s:=by exact rfl) (hs:ev n f (.tmp s)=undef:=by exact rfl):WL P ops Q (⟨some d,op,ty,pos,aft,some (j,b)⟩::rest) n f w:=Z.gU hj hs h
theorem GS (h1:b=true→WL P ops Q (⟨dd,op,ty,pos,aft,some (j,c)⟩::rest) n (upd' f s (.bool true)) w) (h2:b=false→WL P ops Q (⟨dd,op,ty,pos,aft,some (j,c)⟩::rest) n (upd' f s (.bool false)) w) (hj:(ops[j]?).bind (·.dst)=some s:=by exact rfl) (hs:ev n f (.tmp s)=.bool b:=by exact rfl):WL P ops Q (⟨dd,op,ty,pos,aft,some (j,c)⟩::rest) n f w:=Z.gS hj hs h1 h2
theorem VM {ats:Array TypeId} {p q:Int} (h:WL P ops Q rest n (upd' f d (.int .i64 (max p q))) w) (hx:ev n f x=.int .i64 p:=by exact rfl) (hy:ev n f y=.int .i64 q:=by exact rfl):WL P ops Q (⟨some d,.call ⟨.builtin .max,#[x,y],ats⟩,ty,pos,aft,none⟩::rest) n f w:=Z.pl (R.max2 hx hy) h
end
theorem J1 {p:Prop} [Decidable p]:(decide p=true)=p:=by simp
theorem J2 {p:Prop} [Decidable p]:(decide p=false)=¬ p:=by simp
theorem J3 {b:Bool}:((!b)=true)=(b=false):=by simp
theorem J4 {b:Bool}:((!b)=false)=(b=true):=by simp
theorem J5 {a b:Int}:(¬ a < b)=(b≤a):=by simp
theorem J6 {a b:Int}:(¬ a≤b)=(b < a):=by simp
theorem JJ:(∀ (p:Prop) [Decidable p],(decide p=true)=p)∧(∀ (p:Prop) [Decidable p],(decide p=false)=¬ p)∧(∀ b:Bool,((!b)=true)=(b=false))∧(∀ b:Bool,((!b)=false)=(b=true))∧(∀ a b:Int,(¬ a < b)=(b≤a))∧(∀ a b:Int,(¬ a≤b)=(b < a)):=⟨fun _ _=>J1,fun _ _=>J2,fun _=>J3,fun _=>J4,fun _ _=>J5,fun _ _=>J6⟩
theorem JX {G:Prop} (h:False:=by first|omega|exact hb trivial):G:=h.elim
theorem NoF {p G:Prop} (h:p→G:=by intro hb;exfalso;(try simp only [JJ] at hb)<;>first|omega|exact hb trivial|cases hb|simp at hb):p→G:=h
theorem HMs {A B:Prop} (h:B) (k:A:=by exact HM.s (hS.sb)):A∧B:=⟨k,h⟩
theorem KB {G H1 H2:Prop} (h1:H1) (h2:H2) (k:H1→H2→G:=by
  intro h1 h2
  first|exact GS h1 h2|exact VB h1 h2):G:=k h1 h2
theorem K {G H:Prop} (h:H) (k:H→G:=by
  intro h
  first
  | exact VP h|exact Sh.la hS h|exact Sh.lb h|exact Sh.lc h|exact Sh.su h
  | exact Sh.ix h|exact Sh.up h|exact Sh.sl1 h|exact Sh.sl2 h|exact Sh.sl5 h|exact Sh.sl3 h|exact Sh.sl4 h|exact Sh.eq h|exact Sh.ne h|exact Sh.ix2 h|exact Sh.ix3 h
  | exact Z.bu rfl rfl h|exact Z.buA rfl rfl h|exact VM h|exact Z.pl (R.cap rfl rfl) h|exact Z.pl R.mf h|exact Z.pl (R.min2 rfl rfl) h
  | exact G1 h|exact G2 h|exact G3 h|exact G4 h|with_reducible (first|exact V0 h|exact Z.block h)
  | ((with_reducible refine Z.blX h ?_);exact rfl)|exact VT h|exact VF h
  | exact IB h|exact IS h|exact IQ h|exact IC h|exact IU h|exact IM h|exact IA h|exact IFi h|exact IFs h):G:=k h
theorem Kn {G H:Prop} (h:H) (k:H→G:=by
  intro h
  first
  | exact VP h|exact Sh.la hS h|exact Sh.lb h|exact Sh.lc h|exact Sh.su h
  | exact Sh.ix h|exact Sh.up h|exact Sh.sl1 h|exact Sh.sl2 h|exact Sh.sl5 h|exact Sh.sl3 h|exact Sh.sl4 h|exact Sh.eq h|exact Sh.ne h|exact Sh.ix2 h|exact Sh.ix3 h
  | exact Z.bu rfl rfl h|exact Z.buA rfl rfl h|exact VM h|exact Z.pl (R.cap rfl rfl) h|exact Z.pl R.mf h|exact Z.pl (R.min2 rfl rfl) h
  | exact G1 h|exact G2 h|exact G3 h|exact G4 h|with_reducible (first|exact Z.seq h|exact Z.reg h|exact Z.nil h|exact Z.skip h|exact Z.exit h|exact Z.ret h|exact Z.block h|exact Z.thU h|exact Z.thE h|exact Z.thR h|exact Z.blN h|exact Z.blR h|exact Z.blE h|exact Z.label h|exact Z.scope h|exact Z.ngN h|exact Z.ngR h|exact Z.ngE h)
  | ((with_reducible refine Z.blX h ?_);exact rfl)|exact VT h|exact VF h
  | exact IB h|exact IS h|exact IQ h|exact IC h|exact IU h|exact IM h|exact IA h|exact IFi h|exact IFs h):G:=k h
theorem K3 {G H:Prop} (h:H) (k:H→G:=by
  intro h
  first
  | exact Sh.aa hS h|exact Sh.ab hS h|exact Sh.ac hS h):G:=k h
theorem Sa {G H:Prop} (h:H) (k:H→G:=by
  intro h;exact Sh.sa hS h):G:=k h
theorem KC {G H1 H2 p q p' q':Prop} (h1:p'→H1) (h2:q'→H2) (k:(p→H1)→(q→H2)→G:=by
  intro h1 h2
  first|exact GS h1 h2|exact VB h1 h2) (e1:p→p':=by
  intro hb
  (try simp only [JJ] at hb)
  exact hb) (e2:q→q':=by
  intro hb
  (try simp only [JJ] at hb)
  exact hb):G:=k (fun x=>h1 (e1 x)) (fun x=>h2 (e2 x))
theorem sQ {G:Prop} {S H:World→Prop} (h:∀ w,S w→H w) (k:(∀ w,S w→H w)→G:=by
  intro h
  repeat' (first|refine K ?_|(refine Sh.sa hS ?_;intro w hS)|(refine K3 ?_;intro g w hS hge)|(refine KB ?_ ?_<;>intro hb<;>(try simp only [JJ] at hb)<;>(try exact JX))|fail)
  exact h w hS):G:=k h
theorem aQ1 {G:Prop} {S H:Nat→World→Prop} (h:∀ g w,S g w→H g w) (k:(∀ g w,S g w→H g w)→G:=by
  intro h
  repeat' (first|refine K ?_|(refine Sh.sa hS ?_;intro w hS)|(refine K3 ?_;intro g w hS hge)|(refine KB ?_ ?_<;>intro hb<;>(try simp only [JJ] at hb)<;>(try exact JX))|fail)
  exact h g w hS):G:=k h
theorem aQ2 {G:Prop} {S H:Nat→Nat→World→Prop} (h:∀ g1 g w,S g1 g w→H g1 g w) (k:(∀ g1 g w,S g1 g w→H g1 g w)→G:=by
  intro h
  repeat' (first|refine K ?_|(refine Sh.sa hS ?_;intro w hS)|(refine K3 ?_;intro g w hS hge)|(refine KB ?_ ?_<;>intro hb<;>(try simp only [JJ] at hb)<;>(try exact JX))|fail)
  rename_i g1 _ _ _;exact h g1 g w hS):G:=k h
theorem aQ3 {G:Prop} {S H:Nat→Nat→Nat→World→Prop} (h:∀ g1 g2 g w,S g1 g2 g w→H g1 g2 g w) (k:(∀ g1 g2 g w,S g1 g2 g w→H g1 g2 g w)→G:=by
  intro h
  repeat' (first|refine K ?_|(refine Sh.sa hS ?_;intro w hS)|(refine K3 ?_;intro g w hS hge)|(refine KB ?_ ?_<;>intro hb<;>(try simp only [JJ] at hb)<;>(try exact JX))|fail)
  rename_i g1 _ _ _ g2 _ _ _;exact h g1 g2 g w hS):G:=k h
theorem aQ4 {G:Prop} {S H:Nat→Nat→Nat→Nat→World→Prop} (h:∀ g1 g2 g3 g w,S g1 g2 g3 g w→H g1 g2 g3 g w) (k:(∀ g1 g2 g3 g w,S g1 g2 g3 g w→H g1 g2 g3 g w)→G:=by
  intro h
  repeat' (first|refine K ?_|(refine Sh.sa hS ?_;intro w hS)|(refine K3 ?_;intro g w hS hge)|(refine KB ?_ ?_<;>intro hb<;>(try simp only [JJ] at hb)<;>(try exact JX))|fail)
  rename_i g1 _ _ _ g2 _ _ _ g3 _ _ _;exact h g1 g2 g3 g w hS):G:=k h
theorem eQ {G:Prop} {S H:World→Prop} (h:∀ w,S w→H w) (k:(∀ w,S w→H w)→G:=by
  intro h;refine ⟨_,rfl,?_⟩
  repeat' (first|refine K ?_|(refine Sh.sa hS ?_;intro w hS)|(refine K3 ?_;intro g w hS hge)|(refine KB ?_ ?_<;>intro hb<;>(try simp only [JJ] at hb)<;>(try exact JX))|fail)
  exact h w hS):G:=k h
theorem cQ {P:Program} {ops:Array Oper} {Q:Exit→Act→World→Prop} {n:Nat} {f:Nat→Value} {w:World} {rest:List Oper} {d:Tmp} {ty:TypeId} {pos:String} {aft:Array Edge} {F:FuncId} [HasF P F] {args:List Operand} {ats:Array TypeId} {ags:Array Value} {R:Ending→World→Prop} (h:Calls P F ags w R) (ha:args.map (ev n f)=ags.toList) (hk:∀ e w',R e w'→∃ v,e=.returned v∧WL P ops Q rest n (upd' f d v) w'):WL P ops Q (⟨some d,.call ⟨.value (.func F),args.toArray,ats⟩,ty,pos,aft,none⟩::rest) n f w:=Z.eff (Z.cl h ha hk) rfl
theorem rQ {C G:Prop} {S H:World→Prop} (c:C) (h:∀ w,S w→H w) (k:C→(∀ w,S w→H w)→G:=by
  intro c h;refine Z.eff (Z.cl c rfl ?_) rfl;rintro e w ⟨rfl,hS⟩;refine ⟨_,rfl,?_⟩
  repeat' (first|refine K ?_|(refine Sh.sa hS ?_;intro w hS)|(refine K3 ?_;intro g w hS hge)|(refine KB ?_ ?_<;>intro hb<;>(try simp only [JJ] at hb)<;>(try exact JX))|fail)
  exact h w hS):G:=k c h
theorem dQ {C G:Prop} {S H:World→Prop} (c:C) (h:∀ w,S w→H w) (k:C→(∀ w,S w→H w)→G:=by
  intro c h;refine Z.cl c rfl ?_;rintro e w ⟨rfl,hS⟩;refine ⟨_,rfl,?_⟩;refine HMs ?_;exact h w hS):G:=k c h
theorem Dct {p G H:Prop} (hr:p) (h:H) (k:p→H→G:=by
  intro hr h
  first|exact Z.done hS hr (Z.RV.cell rfl AtF rfl (Z.RV.tmp rfl Z.RV.nil)) h|exact Z.doneN hS hr (Z.RV.cell rfl AtF rfl (Z.RV.tmp rfl Z.RV.nil)) h):G:=k hr h
theorem HMl {A B:Prop} (h:B) (k:A:=by exact HM.last kR):A∧B:=⟨k,h⟩
theorem Dn {p G H:Prop} (hr:p) (h:H) (k:p→H→G:=by
  intro hr h
  first|exact Z.done hS hr Z.RV.nil h|exact Z.doneN hS hr Z.RV.nil h):G:=k hr h
theorem Dnt {p G H:Prop} (hr:p) (h:H) (k:p→H→G:=by
  intro hr h
  first|exact Z.done hS hr (Z.RV.tmp rfl Z.RV.nil) h|exact Z.doneN hS hr (Z.RV.tmp rfl Z.RV.nil) h):G:=k hr h
theorem Dntt {p G H:Prop} (hr:p) (h:H) (k:p→H→G:=by
  intro hr h
  first|exact Z.done hS hr (Z.RV.tmp rfl (Z.RV.tmp rfl Z.RV.nil)) h|exact Z.doneN hS hr (Z.RV.tmp rfl (Z.RV.tmp rfl Z.RV.nil)) h):G:=k hr h
theorem Dnttt {p G H:Prop} (hr:p) (h:H) (k:p→H→G:=by
  intro hr h
  first|exact Z.done hS hr (Z.RV.tmp rfl (Z.RV.tmp rfl (Z.RV.tmp rfl Z.RV.nil))) h|exact Z.doneN hS hr (Z.RV.tmp rfl (Z.RV.tmp rfl (Z.RV.tmp rfl Z.RV.nil))) h):G:=k hr h
theorem Dnc {p G H:Prop} (hr:p) (h:H) (k:p→H→G:=by
  intro hr h
  first|exact Z.done hS hr (Z.RV.cell rfl AtF rfl Z.RV.nil) h|exact Z.doneN hS hr (Z.RV.cell rfl AtF rfl Z.RV.nil) h):G:=k hr h
open Go.MapKept (Stamped stamped_iff stamped_empty stamped_push stamped_modify stamped_erase)
open Go.ChangeMaps (setBlock heap_setBlock_same heap_setBlock_other set_perm modify_eq_set map_eraseIdx)
attribute [local irreducible] Res.blk Res.sl Res.all Res.ex Res.pure Res.star
def kv (x:MapEntry):Value×Value:=(x.key,x.val)
def LookM (m:List (Value×Value)) (key:Value) (o:Option Value):Prop:=(∃ v,o=some v∧(key,v)∈m)∨(o=none∧∀ p,p∈m→p.1≠key)
def PutM (m:List (Value×Value)) (key v:Value) (m':List (Value×Value)):Prop:=(∃ u m0,m.Perm ((key,u)::m0)∧m'.Perm ((key,v)::m0))∨((∀ p,p∈m→p.1≠key)∧m'.Perm ((key,v)::m))
def DelM (m:List (Value×Value)) (key:Value) (m':List (Value×Value)):Prop:=(∃ u,m.Perm ((key,u)::m'))∨((∀ p,p∈m→p.1≠key)∧m'.Perm m)
def MapAt (P:Program) (k:TypeId) (w:World) (g:Nat) (m:List (Value×Value)):Prop:=
 ∃ es clock,w.heap[g]?=some (.map es clock)∧Stamped es clock∧es.size≤maxLen∧(∀ x,x∈es.toList→∃ l,keyOf P k x.key=some l)∧(es.toList.map kv).Perm m
def Res.mp (P:Program) (k:TypeId) (g:Nat) (m:List (Value×Value)):Res where
 holds w fp:=fp=[g]∧MapAt P k w g m
 loc:=fun ⟨h1,es,cl,hb,h2⟩ hb'=>⟨h1,es,cl,by rw [hb' g (by rw [h1];simp)];exact hb,h2⟩
class HasM (P:Program) (t:TypeId) (kt et:outParam TypeId) (z:outParam Value):Prop where
 u:P.underlying t=some (.map kt et)
 key:Maps.Keyed P kt
 zero:∀ w,(zeroValue et).run P w=.ok z w
section
variable {P:Program} {kt g:Nat} {m m':List (Value×Value)} {w r:World} {M:List Nat} {L k:List Res}
theorem MapAt.lt (h:MapAt P kt w g m):g < w.heap.size:=by
 obtain ⟨es,cl,h1,_⟩:=h;exact (Array.getElem?_eq_some_iff.1 h1).1
theorem Sep.mapAt (h:Sep r M L w) (ha:At L k (.mp P kt g m)):MapAt P kt w g m:=by
 obtain ⟨fp,⟨f1,f2,rfl,⟨_,hm⟩,_⟩,_⟩:=(h.focus ha).ex;exact hm
theorem Sep.mapPut (h:Sep r M L w) (ha:At L k (.mp P kt g m)) {w':World} (hc:Chg [g] w w') (hm:MapAt P kt w' g m'):Sep r M (.mp P kt g m'::k) w':=by
 refine (h.focus ha).upd fun f1 hf=>?_
 obtain ⟨rfl,_⟩:=hf;exact ⟨hc,[g],⟨rfl,hm⟩,by simp,fun b hb=>by simp at hb;subst hb;exact ⟨hm.lt,.inl (by simp)⟩⟩
theorem Sep.mapNew (h:Sep r M L w):Sep r M (.mp P kt w.heap.size []::L) (w.alloc (.map #[] 0)):=
 h.add (f2:=[w.heap.size]) ((Chg.refl _ _).alloc _) ⟨rfl,#[],0,(MapKept.heap_alloc w _).1,stamped_empty 0,by simp,by simp,by simp⟩ (by simp) (fun b hb=>by simp at hb;subst hb;exact ⟨by simp,Nat.le_refl _⟩)
theorem chg_setBlock {es:Array MapEntry} {cl:Nat} (hb:w.heap[g]?=some (.map es cl)) (o:Obj):Chg [g] w (setBlock w g o):=
 ⟨rfl,rfl,rfl,by simp [setBlock],fun i _ hn=>heap_setBlock_other hb o (by simpa using hn)⟩
theorem kv_uniq {es:List MapEntry} (h:es.Pairwise fun x y=>x.key≠y.key) {j:Nat} {e0:MapEntry} (h2:es[j]?=some e0) {u:Value} {m0:List (Value×Value)} (hp:(es.map kv).Perm ((e0.key,u)::m0)):u=e0.val∧((es.map kv).eraseIdx j).Perm m0:=by
 have hjl:j < es.length:=(List.getElem?_eq_some_iff.1 h2).1;have hej:es[j]=e0:=(List.getElem?_eq_some_iff.1 h2).2;have h3:(es.map kv).Perm ((e0.key,e0.val)::(es.map kv).eraseIdx j):=by
  have:=set_perm (es.map kv) j (by simpa using hjl) (kv e0);have e:(es.map kv).set j (kv e0)=es.map kv:=by
   have:(es.map kv)[j]'(by simpa using hjl)=kv e0:=by simp [hej]
   rw [← this];exact List.set_getElem_self _
  rw [e] at this;exact this
 have h4:((e0.key,u)::m0).Pairwise fun p q=>p.1≠q.1:=by
  refine (hp.pairwise_iff (fun {a b} h=>h.symm)).1 ?_;rw [List.pairwise_map];exact h
 have h5:(e0.key,e0.val)∈(e0.key,u)::m0:=hp.mem_iff.1 (h3.mem_iff.2 (by simp));have hu:u=e0.val:=by
  rcases List.mem_cons.1 h5 with e|e
  ·exact (Prod.mk.injEq _ _ _ _ ▸ e).2.symm
  ·exact absurd rfl ((List.pairwise_cons.1 h4).1 (e0.key,e0.val) e)
 subst hu;exact ⟨rfl,(h3.symm.trans hp).cons_inv⟩
theorem ycn {es:List MapEntry} {key:Value} (h2:∀ e,e∈es→e.key≠key) {m:List (Value×Value)} (hp:(es.map kv).Perm m):∀ p,p∈m→p.1≠key:=by
 intro p hpm;obtain ⟨x,hx,rfl⟩:=List.mem_map.1 (hp.mem_iff.2 hpm);exact h2 x hx
theorem MapAt.look {t et:TypeId} {z:Value} [hm:HasM P t kt et z] (c:Bool) (h:MapAt P kt w g m) {key:Value} (hk:∃ l,keyOf P kt key=some l) {o:Option Value} (ho:LookM m key o) :
  (Instr.lookup t (.map (some g)) key c).run P w=.ok (if c then .tuple #[o.getD z,.bool o.isSome] else o.getD z) w:=by
 obtain ⟨es,cl,hb,hst,hsz,hks,hp⟩:=h;obtain ⟨kl,hkl⟩:=hk;have K:=hm.key;have hn:=((stamped_iff es cl).1 hst).2.2
 rcases K.find w hkl es.toList hks with ⟨h1,h2⟩|⟨j,e0,h1,h2,h3⟩
 ·have h4:=ycn h2 hp
  rcases ho with ⟨v,rfl,hv⟩|⟨rfl,_⟩
  ·exact absurd rfl (h4 _ hv)
  ·simp [Instr.lookup,run_underlying hm.u,MapKept.run_getObj_map hb,K.check w _ hkl,h1,hm.zero w,Result.andThen]
 ·have hm0:e0∈es.toList:=List.mem_of_getElem? h2
  rcases ho with ⟨v,rfl,hv⟩|⟨rfl,hno⟩
  ·obtain ⟨x,hx,hxe⟩:=List.mem_map.1 (hp.mem_iff.2 hv);unfold kv at hxe;simp only [Prod.mk.injEq] at hxe;have hxe0:x=e0:=by
    obtain ⟨i,hi,rfl⟩:=List.mem_iff_getElem.1 hx;obtain ⟨j',hj',rfl⟩:=List.mem_iff_getElem.1 hm0
    rcases Nat.lt_trichotomy i j' with hlt|hlt|hlt
    ·exact absurd (hxe.1.trans h3.symm) (List.pairwise_iff_getElem.1 hn i j' hi hj' hlt)
    ·subst hlt;rfl
    ·exact absurd (h3.trans hxe.1.symm) (List.pairwise_iff_getElem.1 hn j' i hj' hi hlt)
   subst hxe0;rw [← hxe.2]
   simp [Instr.lookup,run_underlying hm.u,MapKept.run_getObj_map hb,K.check w _ hkl,h1,Result.andThen]
  ·exact absurd h3 (hno (kv e0) (hp.mem_iff.1 (List.mem_map.2 ⟨e0,hm0,rfl⟩)))
theorem MapAt.put {t et:TypeId} {z:Value} [hm:HasM P t kt et z] (h:MapAt P kt w g m) {key v:Value} (hk:∃ l,keyOf P kt key=some l) (ho:PutM m key v m') (hlen:m.length < maxLen) :
  ∃ w',(Instr.mapUpdate t (.map (some g)) key v).run P w=.ok () w'∧Chg [g] w w'∧MapAt P kt w' g m':=by
 obtain ⟨es,cl,hb,hst,hsz,hks,hp⟩:=h;obtain ⟨kl,hkl⟩:=hk;have K:=hm.key;have hn:=((stamped_iff es cl).1 hst).2.2;have hle:=hp.length_eq;simp only [List.length_map,Array.length_toList] at hle
 rcases K.find w hkl es.toList hks with ⟨h1,h2⟩|⟨j,e0,h1,h2,h3⟩
 ·have h4:=ycn h2 hp;refine ⟨setBlock w g (.map (es.push ⟨key,v,cl⟩) (cl+1)),?_,chg_setBlock hb _,es.push ⟨key,v,cl⟩,cl+1,heap_setBlock_same hb _,stamped_push hst h2,by simp;omega,?_,?_⟩
  ·simp [Instr.mapUpdate,run_underlying hm.u,MapKept.run_getObj_map hb,K.check w false hkl,h1,MapKept.run_setObj_map _ hb,Result.andThen,setBlock]
  ·intro x hx;simp only [Array.toList_push,List.mem_append,List.mem_singleton] at hx
   rcases hx with hx|rfl
   ·exact hks x hx
   ·exact ⟨kl,hkl⟩
  ·rcases ho with ⟨u,m0,hu,_⟩|⟨_,hp'⟩
   ·exact absurd rfl (h4 (key,u) (hu.mem_iff.2 (by simp)))
   ·rw [Array.toList_push,List.map_append,List.map_singleton];exact (List.perm_append_singleton _ _).trans ((List.Perm.cons _ hp).trans hp'.symm)
 ·have hj:es[j]?=some e0:=by simpa using h2
  have hjl:j < es.toList.length:=(List.getElem?_eq_some_iff.1 h2).1;have hkeyf:∀ e',es[j]?=some e'→({ e' with key:=key,val:=v }:MapEntry).key=e'.key:=fun e' he'=>by rw [hj] at he';cases he';exact h3.symm
  have hlist:(es.modify j (fun e'=>{ e' with key:=key,val:=v })).toList=es.toList.set j { e0 with key:=key,val:=v }:=by rw [Array.toList_modify,modify_eq_set _ _ _ _ h2]
  refine ⟨setBlock w g (.map (es.modify j (fun e'=>{ e' with key:=key,val:=v })) cl),?_,chg_setBlock hb _,_,cl,heap_setBlock_same hb _,stamped_modify hst _ _ (fun _ _=>rfl) (fun e' _ he'=>hkeyf e' he'),by simpa using hsz,?_,?_⟩
  ·simp [Instr.mapUpdate,run_underlying hm.u,MapKept.run_getObj_map hb,K.check w false hkl,h1,hj,h3,K.stays w hkl,MapKept.run_setObj_map _ hb,Result.andThen,setBlock]
  ·intro x hx;rw [hlist] at hx
   rcases List.mem_or_eq_of_mem_set hx with hx|rfl
   ·exact hks x hx
   ·exact ⟨kl,hkl⟩
  ·rw [hlist,List.map_set]
   rcases ho with ⟨u,m0,hu,hp'⟩|⟨hno,_⟩
   ·rw [← h3] at hu;have:=(kv_uniq hn h2 (hp.trans hu)).2;refine (set_perm _ _ (by simpa using hjl) _).trans ((List.Perm.cons _ this).trans ?_);exact hp'.symm
   ·exact absurd h3 (hno (kv e0) (hp.mem_iff.1 (List.mem_map.2 ⟨e0,List.mem_of_getElem? h2,rfl⟩)))
theorem MapAt.del {t et:TypeId} {z:Value} [hm:HasM P t kt et z] (h:MapAt P kt w g m) {key:Value} (hk:∃ l,keyOf P kt key=some l) (ho:DelM m key m') (ty:TypeId) :
  ∃ w',(Builtin.delete_ #[t,kt] ty #[.map (some g),key]).run P w=.ok (.tuple #[]) w'∧Chg [g] w w'∧MapAt P kt w' g m':=by
 obtain ⟨es,cl,hb,hst,hsz,hks,hp⟩:=h;obtain ⟨kl,hkl⟩:=hk;have K:=hm.key;have hn:=((stamped_iff es cl).1 hst).2.2
 rcases K.find w hkl es.toList hks with ⟨h1,h2⟩|⟨j,e0,h1,h2,h3⟩
 ·have h4:=ycn h2 hp;refine ⟨setBlock w g (.map es cl),?_,chg_setBlock hb _,es,cl,heap_setBlock_same hb _,hst,hsz,hks,?_⟩
  ·simp [Builtin.delete_,run_underlying hm.u,MapKept.run_getObj_map hb,K.check w _ hkl,h1,MapKept.run_setObj_map _ hb,Result.andThen,setBlock]
  ·rcases ho with ⟨u,hu⟩|⟨_,hp'⟩
   ·exact absurd rfl (h4 (key,u) (hu.mem_iff.2 (by simp)))
   ·exact hp.trans hp'.symm
 ·have hjl:j < es.toList.length:=(List.getElem?_eq_some_iff.1 h2).1;have hjs:j < es.size:=by simpa using hjl
  have hsub:(es.eraseIdxIfInBounds j).toList=es.toList.eraseIdx j:=by
   unfold Array.eraseIdxIfInBounds;rw [dif_pos hjs]
   simp
  refine ⟨setBlock w g (.map (es.eraseIdxIfInBounds j) cl),?_,chg_setBlock hb _,_,cl,heap_setBlock_same hb _,stamped_erase hst j,Nat.le_trans (MapFrom.size_erase es j) hsz,?_,?_⟩
  ·simp [Builtin.delete_,run_underlying hm.u,MapKept.run_getObj_map hb,K.check w _ hkl,h1,MapKept.run_setObj_map _ hb,Result.andThen,setBlock]
  ·intro x hx;rw [hsub] at hx;exact hks x ((List.eraseIdx_sublist _ _).subset hx)
  ·rw [hsub,map_eraseIdx]
   rcases ho with ⟨u,hu⟩|⟨hno,_⟩
   ·rw [← h3] at hu;exact (kv_uniq hn h2 (hp.trans hu)).2
   ·exact absurd h3 (hno (kv e0) (hp.mem_iff.1 (List.mem_map.2 ⟨e0,List.mem_of_getElem? h2,rfl⟩)))
end
namespace Z
section
variable {P:Program} {Q:Exit→Act→World→Prop} {K:(Nat→Value)→World→Prop} {n:Nat} {f:Nat→Value} {w r:World} {M:List Nat} {L k:List Res} {d:Tmp} {ty t kt et:TypeId} {pos:String} {aft:Array Edge} {x y y2:Operand} {g:Nat} {m:List (Value×Value)} {key v z:Value}
theorem mkm [hm:HasM P t kt et z] (hS:Sep r M L w) (h:∀ g w',Sep r M (.mp P kt g []::L) w'→w.heap.size≤g→K (upd' f d (.map (some g))) w'):WE P ⟨some d,.makeMap t none,ty,pos,aft,none⟩ K Q n f w:=
 .mk fun K' hK=>by
  unfold Oper.wp;rw [act_eval'];unfold execOp;simp only [Option.map_none,Sem.run_bind,run_makeMap,Result.andThen_ok,Sem.run_pure,Oper.upon_value,yac];exact hK _ _ (h _ _ hS.mapNew (Nat.le_refl _))
theorem lkO [hm:HasM P t kt et z] (hS:Sep r M L w) (o:Option Value) (hx:ev n f x=.map (some g)) (hy:ev n f y=key) (ha:At L k (.mp P kt g m)) (hk:∃ l,keyOf P kt key=some l) (hl:LookM m key o)
  (h:K (upd' f d (.tuple #[o.getD z,.bool o.isSome])) w):WE P ⟨some d,.lookup t x y true,ty,pos,aft,none⟩ K Q n f w:=
 .mk fun K' hK=>by
  unfold Oper.wp;rw [act_eval'];unfold execOp;have:=(hS.mapAt ha).look (t:=t) true hk hl;simp only [if_true] at this;simp only [hx,hy,Sem.run_bind,this,Result.andThen_ok,Sem.run_pure,Oper.upon_value,yac];exact hK _ _ h
theorem lk [hm:HasM P t kt et z] (hS:Sep r M L w) (o:Option Value) (hx:ev n f x=.map (some g)) (hy:ev n f y=key) (ha:At L k (.mp P kt g m)) (hk:∃ l,keyOf P kt key=some l) (hl:LookM m key o)
  (h:K (upd' f d (o.getD z)) w):WE P ⟨some d,.lookup t x y false,ty,pos,aft,none⟩ K Q n f w:=
 .mk fun K' hK=>by
  unfold Oper.wp;rw [act_eval'];unfold execOp;have:=(hS.mapAt ha).look (t:=t) false hk hl;simp only [Bool.false_eq_true,if_false] at this;simp only [hx,hy,Sem.run_bind,this,Result.andThen_ok,Sem.run_pure,Oper.upon_value,yac];exact hK _ _ h
theorem upm [hm:HasM P t kt et z] (hS:Sep r M L w) (m':List (Value×Value)) (hx:ev n f x=.map (some g)) (hy:ev n f y=key) (hv:ev n f y2=v) (ha:At L k (.mp P kt g m)) (hk:∃ l,keyOf P kt key=some l) (hp:PutM m key v m') (hl:m.length < maxLen)
  (h:∀ w',Sep r M (.mp P kt g m'::k) w'→K f w'):WE P ⟨none,.mapUpdate t x y y2,ty,pos,aft,none⟩ K Q n f w:=
 .mk fun K' hK=>by
  unfold Oper.wp;rw [act_eval'];unfold execOp;obtain ⟨w',hrun,hc,hm'⟩:=(hS.mapAt ha).put (t:=t) hk hp hl;simp only [hx,hy,hv,Sem.run_bind,hrun,Result.andThen_ok,Sem.run_pure,Oper.upon_skip,yac];exact hK _ _ (h w' (hS.mapPut ha hc hm'))
theorem dlm [hm:HasM P t kt et z] (hS:Sep r M L w) (m':List (Value×Value)) (hx:ev n f x=.map (some g)) (hy:ev n f y=key) (ha:At L k (.mp P kt g m)) (hk:∃ l,keyOf P kt key=some l) (hp:DelM m key m')
  (h:∀ w',Sep r M (.mp P kt g m'::k) w'→K f w'):WE P ⟨none,.call ⟨.builtin .delete,#[x,y],#[t,kt]⟩,ty,pos,aft,none⟩ K Q n f w:=
 .mk fun K' hK=>by
  obtain ⟨w',hrun,hc,hm'⟩:=(hS.mapAt ha).del (t:=t) hk hp ty;unfold Oper.wp;rw [act_eval'];have:(execOp (ev n f) ⟨none,.call ⟨.builtin .delete,#[x,y],#[t,kt]⟩,ty,pos,aft,none⟩).run P w=.ok (.value (.tuple #[])) w':=by
   simp [execOp,resolve,invoke,builtin,hx,hy,hrun]
  simp only [this,Oper.upon_value,yac];exact hK _ _ (h w' (hS.mapPut ha hc hm'))
theorem lnm [hm:HasM P t kt et z] (hS:Sep r M L w) (hx:ev n f x=.map (some g)) (ha:At L k (.mp P kt g m)) (h:K (upd' f d (.int .i64 m.length)) w):WE P ⟨some d,.call ⟨.builtin .len,#[x],#[t]⟩,ty,pos,aft,none⟩ K Q n f w:=
 .mk fun K' hK=>by
  obtain ⟨es,cl,hb,hst,hsz,hks,hp⟩:=hS.mapAt ha;have hle:=hp.length_eq;simp only [List.length_map,Array.length_toList] at hle;unfold Oper.wp;rw [act_eval'];have:(execOp (ev n f) ⟨some d,.call ⟨.builtin .len,#[x],#[t]⟩,ty,pos,aft,none⟩).run P w=.ok (.value (.int .i64 m.length)) w:=by
   simp [execOp,resolve,invoke,builtin,Builtin.len_,hx,run_underlying hm.u,MapKept.run_getObj_map hb,goInt,hle,Result.andThen]
  simp only [this,Oper.upon_value,yac];exact hK _ _ h
end
end Z
end Go.Proofs.YtfmnjbhncnldmaaGreat
namespace Go.Proofs.YtfmnjbhncnldmaaGreat
open Go.RowKit
attribute [local irreducible] Res.blk Res.sl Res.all Res.ex Res.pure Res.star
theorem yhF {P:Program} (w:World) (d:Nat) (t k e:TypeId) (p:Option Nat) (h:P.underlying t=some (.map k e)):(Op.equalIn (d+1) t (.map p) (.map none)).run P w=.ok p.isNone w:=by
 cases p<;>simp [Op.equalIn,run_underlying h]
namespace R
section
variable {P:Program} {n:Nat} {f:Nat→Value} {d:Option Tmp} {ty t t' kt et:TypeId} {pos:String} {aft:Array Edge} {gd:Option (Nat×Bool)} {x y:Operand} {p:Option Nat} {z v:Value}
theorem mnil [hm:HasM P t kt et z] (hx:ev n f x=.map p) (hy:ev n f y=.map none):Runs P n f ⟨d,.binOp .eql t x y t',ty,pos,aft,gd⟩ (.bool p.isNone):=
 ⟨fun W=>(eq_exec hx hy rfl t W (by
  rw [show Op.equal t (.map p) (.map none)=Op.equalIn (9999+1) t (.map p) (.map none) from rfl];exact yhF W 9999 t kt et p hm.u) d t' ty pos aft gd).1⟩
theorem mkI [hm:HasM P t kt et z] (hx:ev n f x=v):Runs P n f ⟨d,.makeInterface t x,ty,pos,aft,gd⟩ (.iface t v):=
 ⟨fun W=>by simp [execOp,hx,Instr.makeInterface,run_underlying hm.u]⟩
theorem tas [hm:HasM P t kt et z] (hx:ev n f x=.iface t v):Runs P n f ⟨d,.typeAssert x t' t false,ty,pos,aft,gd⟩ v:=
 ⟨fun W=>by simp [execOp,hx,Instr.typeAssert,run_underlying hm.u,go_sem,Result.andThen]⟩
end
end R
section
variable {P:Program} {kt g:Nat} {m:List (Value×Value)} {w r:World} {M:List Nat} {L k:List Res}
theorem Sep.mapClone (h:Sep r M L w) (ha:At L k (.mp P kt g m)):∃ es cl,w.heap[g]?=some (.map es cl)∧Sep r M (.mp P kt w.heap.size m::L) (w.alloc (.map es cl)):=by
 obtain ⟨es,cl,hb,h2,h3,h4,h5⟩:=h.mapAt ha;exact ⟨es,cl,hb,h.add (f2:=[w.heap.size]) ((Chg.refl _ _).alloc _) ⟨rfl,es,cl,(MapKept.heap_alloc w _).1,h2,h3,h4,h5⟩ (by simp) (fun b hb=>by simp at hb;subst hb;exact ⟨by simp,Nat.le_refl _⟩)⟩
theorem run_mclone {es:Array MapEntry} {cl:Nat} (t:TypeId) (hb:w.heap[g]?=some (.map es cl)) :
  (Extern.MapsClone.clone #[.iface t (.map (some g))]).run P w=.ok (.iface t (.map (some w.heap.size))) (w.alloc (.map es cl)):=by
 have e:Extern.MapsClone.clone #[.iface t (.map (some g))]=(getObj g >>= fun o=>match o with
   | .map entries clock=>(newObj (.map entries clock) >>= fun n=>pure (.iface t (.map (some n))))
   | _ => stuck "maps.clone: a map expected") := rfl
 rw [e]
 simp [MapKept.run_getObj_map hb,Result.andThen,go_sem]
end
namespace Z
section
variable {P:Program} {Q:Exit→Act→World→Prop} {K:(Nat→Value)→World→Prop} {n:Nat} {f:Nat→Value} {w r:World} {M:List Nat} {L k:List Res} {d:Tmp} {ty t kt:TypeId} {pos:String} {aft:Array Edge} {g:Nat} {m:List (Value×Value)}
theorem mcl {F : FuncId} {fn : Func} {x : Operand} {ats : Array TypeId} (hS : Sep r M L w) (hx : ev n f x = .iface t (.map (some g))) (ha : At L k (.mp P kt g m)) (hf : P.funcs[F]? = some fn) (hname : (fn.name == "runtime.NumGoroutine") = false)
  (hb:fn.body.isNone=true) (hn:Extern.findNext fn=none) (he:Extern.find fn=some Extern.MapsClone.clone)
  (h:∀ g' w',Sep r M (.mp P kt g' m::L) w'→K (upd' f d (.iface t (.map (some g')))) w'):WE P ⟨some d,.call ⟨.value (.func F),#[x],ats⟩,ty,pos,aft,none⟩ K Q n f w:=
 .mk fun K' hK=>by
  obtain ⟨es,cl,hbk,hS'⟩:=hS.mapClone ha;unfold Oper.wp;rw [act_eval'];have:(execOp (ev n f) ⟨some d,.call ⟨.value (.func F),#[x],ats⟩,ty,pos,aft,none⟩).run P w=.ok (.value (.iface t (.map (some w.heap.size)))) (w.alloc (.map es cl)):=by
   simp only [execOp,resolve,ev,Deferred.ofValue,Sem.run_bind,Sem.run_pure,Result.andThen_ok,invoke];have e1:(#[]++Array.map (ev n f) #[x])++#[]=#[.iface t (.map (some g))]:=by simp [hx]
   rw [e1,run_callFunc_extern hf hname hb hn he,run_mclone t hbk]
   rfl
  simp only [this,Oper.upon_value,yac];exact hK _ _ (h _ _ hS')
end
end Z
open Go.MapKept (Stamped stamped_iff)
open Go.ChangeMaps (setBlock heap_setBlock_same heap_setBlock_other)
namespace Z
end Z
end Go.Proofs.YtfmnjbhncnldmaaGreat
namespace Go.Proofs.YtfmnjbhncnldmaaGreat
open Go.RowKit
attribute [local irreducible] Res.blk Res.sl Res.all Res.ex Res.pure Res.star
end Go.Proofs.YtfmnjbhncnldmaaGreat
