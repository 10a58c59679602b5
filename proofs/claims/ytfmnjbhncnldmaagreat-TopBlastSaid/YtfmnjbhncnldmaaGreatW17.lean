import Derived.Test.YtfmnjbhncnldmaaGreatW02
set_option linter.unusedSimpArgs false
set_option linter.unusedVariables false
namespace Go.Proofs.YtfmnjbhncnldmaaGreat
open Go.RowKit
namespace Z
section
variable {P:Program} {Q:Exit→Act→World→Prop} {K:(Nat→Value)→World→Prop} {n:Nat} {f:Nat→Value} {w r:World} {M:List Nat} {L k:List Res} {d:Tmp} {ty t t' e sz bytes:TypeId} {pos:String} {aft:Array Edge} {x y:Operand} {zs:List Value}
theorem apz0 [ht:HasTT P] {m:Nat} {z:Int} [he:HasE P e sz bytes] [hzz:HasZ P e zs] (hS:Sep r M L w) (hx:ev n f x=.slice none 0 0) (hy:ev n f y=.int .i64 z) (hk:kindOf ht.tt t=.sl e sz) (hti:P.underlying t'=some (.int .i64)) (hz:z=(m:Int)) (h1:zs.all (·.oneCell')=true)
  (hm0:0 < m) (h63:m * bytes≤140737488355328) (hm:m≤maxLen)
  (h:∀ A' c' w',Sep r M (.sl e sz (.slice A' m c') (List.replicate m zs)::L) w'→K (upd' f d (.slice A' m c')) w') :
  WE P ⟨some d,.call ⟨.builtin .append,#[x,y],#[t,t']⟩,ty,pos,aft,none⟩ K Q n f w:=by
 refine ⟨fun K' hK=>?_⟩;subst hz;obtain ⟨hu,_⟩:=kind_sl hk;obtain ⟨i0,z,hi,hz,hsz,hby,hzs,hpos⟩:=he.ok;have hz':=hzz.ok
 simp [hi,hz] at hz'
 have hzl:zs.length=sz:=by omega
 have hold:(Builtin.firstCells i0.size 0 (.slice none 0 0)).run P w.drew=.ok ([]:List Value).toArray w.drew:=by
  unfold Builtin.firstCells
  rfl
 have hmm:maxLen=9223372036854775807:=rfl;have hbytes:m * i0.bytes≤281474976710656:=by rw [hby];omega
 have hrun:=Lib.run_append_grow_zeros (P:=P) w t t' ty e i0 z .i64 .i64 hu hti hi hz none 0 0 [] hold m hm0 oM oM oM hbytes (by rw [hby];exact growslice_fits oM (by rw [Nat.zero_add];exact h63));have hge:=grownCap_ge w (0+m) 0 e;have hle':=grownCap_le_maxLen w (0+m) 0 e oM;generalize grownCap w (0+m) 0 e=c' at *;have hzc:∀ q,Builtin.zeroCells z.cells q=(zerosL zs q).toArray:=fun q=>by
  have:=zerosL_ok zs q;unfold Builtin.zeroCells;rw [hz'.1]
  simpa using this
 have hlz:∀ q,(zerosL zs q).length=q * sz:=fun q=>by
  have:=congrArg Array.size (zerosL_ok zs q)
  simp at this
  rw [← this,hzl]
 have hrep:∀ q,(List.replicate q zs).flatten=zerosL zs q:=fun q=>by
  induction q with
  | zero=>rfl
  | succ q ih=>rw [List.replicate_succ,List.flatten_cons,ih];rfl
 rw [hzc,hzc] at hrun;simp only [Nat.zero_add] at hrun hge hle';unfold Oper.wp;rw [act_eval',ap_run2 x y hx hy hrun];simp only [Result.andThen_ok,Oper.upon_value,yac];refine hK _ _ (h _ _ _ (hS.add (f2:=[w.heap.size]) ((Chg.refl _ _).drew.alloc _) ⟨?_,_,_,by simp,.inr ⟨oM,w.heap.size,_,rfl,rfl,Blk.new' _ _ _ rfl,by simpa using hge,hle',?_,?_⟩⟩ (by simp) ?_))
 ·intro row hrow;obtain ⟨_,rfl⟩:=List.mem_replicate.1 hrow;exact ⟨hzl,by simpa using h1⟩
 ·simp only [Array.size_append,List.size_toArray,hlz,List.length_nil];rw [Nat.zero_add,← Nat.add_mul]
  congr 1
  omega
 ·rw [hrep];have:((List.replicate m zs).length * sz)=(zerosL zs m).length:=by simp [hlz]
  rw [this];simp only [Array.toList_append,List.append_assoc,List.nil_append];exact List.take_left
 ·intro b hb
  simp at hb
  subst hb;have:=(Blk.new' (g:=w.heap.size) w.drew e (([]:List Value).toArray++(zerosL zs m).toArray++(zerosL zs (c' - m)).toArray) rfl).lt;exact ⟨this,Nat.le_refl _⟩
end
end Z
end Go.Proofs.YtfmnjbhncnldmaaGreat
