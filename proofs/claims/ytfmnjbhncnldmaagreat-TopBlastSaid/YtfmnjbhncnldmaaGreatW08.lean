import Derived.Test.YtfmnjbhncnldmaaGreatW07
set_option maxHeartbeats 4000000
set_option linter.unusedSimpArgs false
set_option linter.unusedVariables false
namespace Go.Proofs.YtfmnjbhncnldmaaGreat
open Go.RowKit
attribute [local irreducible] Res.blk Res.sl Res.all Res.ex Res.pure Res.star
theorem yi1 (c:Cfg) (a:CAd) (r:World) (F:List Res) (w:World) (hS:Sep r [] F w) (ho:c.ok) :
  Calls Tryz.prog 63 #[c.val a] w fun e w'=>∃ (s':Sta) (b':SAd),e=.returned (s'.val b')∧s'.ok c∧Sep r [] (.sl 183 12 (.slice b'.tA s'.tenants.length b'.tc) (s'.tenants.map TS.cells)::.sl 186 4 (.slice b'.kA s'.cells.length b'.kc) (s'.cells.map CS.cells)::F) w':=by
 have h1:=ho.t;have h2:=ho.k;have h3:=ho.v;refine Z.enter Tryz.func63 Tryz.ntmps63 rfl rfl ?_
 repeat' first|refine K ?_|refine Sa ?_;clear hS;intro w hS|refine K3 ?_;clear hS;intro g w hS hge|refine KC ?_ ?_<;>intro hb<;>try exact JX|fail
 rename Nat=>g3;rename_i gc _ _ _ _ _;replace hS:=Z.nilsl hS 183 12 none;refine Z.lpS [4,7,8,9,10,11,12,13,14,15,16,17,18,19,20] (fun m w z=>∃ (i:Nat) (ts:List TS) (A:Option Addr) (ca:Nat),z=[(4,.int .i64 i)]∧(ts.length=i∧∀ x,x∈ts→TOk c.cells.length x)∧i≤c.tenants.length∧m=c.tenants.length - i∧Sep r [] (.sl 183 12 (.slice A ts.length ca) (ts.map TS.cells)::.blk g3 69 ((⟨0,0,ts,[],1,0,0,0⟩:Sta).cl ⟨A,ca,none,0⟩)::.blk g 69 (Sta.zero.cl SAd.zero)::.blk gc 55 (c.cl a)::F) w) _ [(4,.int .i64 (0:Nat))] TrF ⟨0,[],none,0,rfl,⟨rfl,by simp⟩,oM,rfl,hS⟩ ?_;clear hS;rintro m f0 w _ ⟨i,ts,A,ca,rfl,⟨hti,hts⟩,hi,rfl,hS⟩
 by_cases hlt:i < c.tenants.length
 ·repeat' first|refine K ?_|refine Sa ?_;intro w hS|refine K3 ?_;intro g w hS hge|refine KC ?_ ?_<;>intro hb<;>try exact JX|fail
  refine Z.eff (Z.apm (l':=[TS.fresh]) hS rfl rfl rfl AtF (hS.lit1 AtF rfl rfl) LnF LnF ?_) rfl;clear hS;intro A' ca' w hS;rw [← List.length_append] at hS ⊢;refine sQ ?_;intro w hS;refine Sh.again (c.tenants.length - (i+1)) [(4,.int .i64 (i+1:Nat))] ?_;refine ⟨i+1,ts++[TS.fresh],A',ca',rfl,⟨by simp;omega,fun x hx=>?_⟩,oM,rfl,hS.sb⟩
  rcases List.mem_append.1 hx with hx|hx
  ·exact hts x hx
  ·rw [List.mem_singleton] at hx;subst hx;exact TS.fresh_ok _
 have hie:ts.length=c.tenants.length:=by omega
 refine sQ ?_;intro w hS;replace hS:=Z.nilsl hS 186 4 none;refine Z.lpS [5,21,22,23,24,25,26,27,28,29,30,31,32,33] (fun m w z=>∃ (i:Nat) (ks:List CS) (B:Option Addr) (cb:Nat),z=[(5,.int .i64 i)]∧(ks.length=i∧∀ x,x∈ks→KOj c.versions.length x)∧i≤c.cells.length∧m=c.cells.length - i∧Sep r [] (.sl 186 4 (.slice B ks.length cb) (ks.map CS.cells)::.sl 183 12 (.slice A ts.length ca) (ts.map TS.cells)::.blk g3 69 ((⟨0,0,ts,ks,1,0,0,0⟩:Sta).cl ⟨A,ca,B,cb⟩)::.blk g 69 (Sta.zero.cl SAd.zero)::.blk gc 55 (c.cl a)::F) w) _ [(5,.int .i64 (0:Nat))] TrF ⟨0,[],none,0,rfl,⟨rfl,by simp⟩,oM,rfl,hS⟩ ?_;clear hS;rintro m f0 w _ ⟨i,ks,B,cb,rfl,⟨hki,hks⟩,hi,rfl,hS⟩
 by_cases hlt:i < c.cells.length
 ·repeat' first|refine K ?_|refine Sa ?_;intro w hS|refine K3 ?_;intro g w hS hge|refine KC ?_ ?_<;>intro hb<;>try exact JX|fail
  refine Z.eff (Z.apm (l':=[(⟨1,0,0,0⟩:CS)]) hS rfl rfl rfl AtF (hS.lit1 AtF rfl rfl) LnF LnF ?_) rfl;clear hS;intro B' cb' w hS;rw [← List.length_append] at hS ⊢;refine sQ ?_;intro w hS;refine Sh.again (c.cells.length - (i+1)) [(5,.int .i64 (i+1:Nat))] ?_;refine ⟨i+1,ks++[⟨1,0,0,0⟩],B',cb',rfl,⟨by simp;omega,fun x hx=>?_⟩,oM,rfl,hS.sb⟩
  rcases List.mem_append.1 hx with hx|hx
  ·exact hks x hx
  ·rw [List.mem_singleton] at hx;subst hx;exact ⟨⟨by show (0:Int)≤0;omega,by show (0:Int) < _;omega⟩,⟨by show (0:Int)≤0;omega,by show (0:Int) < _;omega⟩⟩
 refine sQ ?_;intro w hS;refine Dnc Tryz.results63 ?_;exact ⟨⟨0,0,ts,ks,1,0,0,0⟩,⟨A,ca,B,cb⟩,rfl,⟨hie,by show ks.length=_;omega,hts,hks⟩,hS.sb⟩
theorem ygu (s:Sta) (b:SAd) (r:World) (F:List Res) (w:World) (hS:Sep r [] F w) (hs:StR r F s b) (h1:s.tenants.length≤32) (h2:s.cells.length≤16) :
  Calls Tryz.prog 135 #[s.val b] w fun e w'=>∃ (b':SAd),e=.returned (s.val b')∧Sep r [] (.sl 183 12 (.slice b'.tA s.tenants.length b'.tc) (s.tenants.map TS.cells)::.sl 186 4 (.slice b'.kA s.cells.length b'.kc) (s.cells.map CS.cells)::F) w':=by
 refine Z.enter Tryz.func135 Tryz.ntmps135 rfl rfl ?_
 repeat' first|refine K ?_|refine Sa ?_;intro w hS|refine K3 ?_;intro g w hS hge|refine KC ?_ ?_<;>intro hb<;>try exact JX|fail
 refine Z.eff (Z.ap0m (fc:=TS.cells) hS rfl rfl rfl (hs.t [_,_,_] _ hS) LnF LnF ?_) rfl;clear hS;intro A' ca' w hS
 repeat' first|refine K ?_|refine Sa ?_;intro w hS|refine K3 ?_;intro g w hS hge|refine KC ?_ ?_<;>intro hb<;>try exact JX|fail
 refine Z.eff (Z.ap0m (fc:=CS.cells) hS rfl rfl rfl (hs.k [_,_,_,_,_] _ hS) LnF LnF ?_) rfl;clear hS;intro B' cb' w hS;refine sQ ?_;intro w hS;refine Dnc Tryz.results135 ?_;exact ⟨⟨A',ca',B',cb'⟩,rfl,hS.sb⟩
section
variable {P:Program} {ops:Array Oper} {Q:Exit→Act→World→Prop} {n:Nat} {f:Nat→Value} {w:World} {rest:List Oper} {d:Tmp} {ty:TypeId} {op:Op} {pos:String} {aft:Array Edge}
theorem SWO {c:Int} (h:WL P ops Q rest n (upd' f d (.int .i64 (IntKind.i64.wrap c))) w) (hp:Z.ari n f op=some c:=by exact rfl):WL P ops Q (⟨some d,op,ty,pos,aft,none⟩::rest) n f w:=Z.sumW hp h
end
theorem Kw {G H:Prop} (h:H) (k:H→G:=by
  intro h
  first|exact K h|exact SWO h):G:=k h
theorem yhR {X a b c Y R xs:List Value} (h:xs.length=b.length):(X++(a++b++c)++Y++R).take (X.length+a.length)++xs++(X++(a++b++c)++Y++R).drop (X.length+a.length+xs.length)=X++(a++xs++c)++Y++R:=by
 have e1:X++(a++b++c)++Y++R=(X++a)++(b++(c++Y++R)):=by simp [List.append_assoc]
 have e2:(X++a)++(b++(c++Y++R))=(X++a++b)++(c++Y++R):=by simp
 have t:((X++a)++(b++(c++Y++R))).take (X.length+a.length)=X++a:=List.take_left' (by simp);have d:((X++a++b)++(c++Y++R)).drop (X.length+a.length+xs.length)=c++Y++R:=List.drop_left' (by simp;omega);rw [e1,t,e2,d]
 simp
namespace Z
section
variable {P:Program} {K:(Nat→Value)→World→Prop} {Q:Exit→Act→World→Prop} {n:Nat} {f:Nat→Value} {w r:World} {M:List Nat} {L:List Res} {ty t:TypeId} {pos:String} {aft:Array Edge} {v:Value} {x y:Operand} {k:List Res} {e sz:Nat}
theorem stv_many [ht:HasTT P] {cs xs:List Value} {o m:Nat} (hz:sizeT ht.tt t=some m) (hm:xs.length=m) (h1:xs.all (·.oneCell')=true) (ho:o+m≤cs.length):stv ht.tt t cs o (.agg xs.toArray)=some (cs.take o++xs++cs.drop (o+m)):=by
 unfold sizeT at hz;unfold stv
 cases hy:ht.tt[t]? with
 | none=>simp [hy] at hz
 | some y=>
  simp only [hy] at hz;have hb:Nat.ble (o+m) cs.length=true:=Nat.ble_eq_true_of_le ho;have hmb:Nat.beq m xs.length=true:=by rw [hm];exact Nat.beq_refl m
  have key:stv1 m cs o (.agg xs.toArray)=some (cs.take o++xs++cs.drop (o+m)):=by
   unfold stv1;simp only [hmb,h1,Bool.and_self,cond_true,hb]
   cases h0:(Nat.beq o 0 && Nat.beq xs.length cs.length)
   ·rfl
   ·simp only [Bool.and_eq_true] at h0;have h2:=Nat.eq_of_beq_eq_true h0.1;have h3:=Nat.eq_of_beq_eq_true h0.2;subst h2;simp only [cond_true];rw [List.take_zero,List.nil_append,List.drop_of_length_le oM,List.append_nil]
  cases hk:y.k<;>simp only [hk] at hz ⊢<;>cases hz<;>exact key
theorem stFw [ht:HasTT P] {α:Type} {fc:α→List Value} {l:List α} {q j m n0 c g:Nat} {xs:List Value} (z:α) (hS:Sep r M L w) (hx:ev n f x=.pointer (some ⟨g,0+q * sz+j,none⟩)) (ha:At L k (.sl e sz (.slice (some ⟨g,0,none⟩) n0 c) (l.map fc))) (hq:q < l.length) (hy:ev n f y=.agg xs.toArray)
  (hz:sizeT ht.tt t=some m) (hxm:xs.length=m) (h1:xs.all (·.oneCell')=true) (hj:j+m≤sz) (hzc:fc z=(fc (l[q]'hq)).take j++xs++(fc (l[q]'hq)).drop (j+m))
  (h:∀ w',Sep r M (.sl e sz (.slice (some ⟨g,0,none⟩) n0 c) ((l.set q z).map fc)::k) w'→K f w'):WE P ⟨none,.store t x y,ty,pos,aft,none⟩ K Q n f w:=by
 obtain ⟨g',cs,hA,hn,hnc,hm,hl,ht',hok,hS2⟩:=yar (hS.focus ha) (by simpa using (by omega:0 < l.length))
 injection hA with hA
 injection hA with hA _
 subst hA;have hrow:∀ a,a∈l→(fc a).length=sz:=fun a ha=>(hok (fc a) (List.mem_map.2 ⟨a,ha,rfl⟩)).1
 simp only [List.length_map] at hn;have hlt:q * sz+j+m≤l.length * sz:=by
  have:(q+1) * sz≤l.length * sz:=Nat.mul_le_mul_right _ oM;rw [Nat.add_mul] at this;omega
 have hlt2:q * sz+sz≤l.length * sz:=by
  have:(q+1) * sz≤l.length * sz:=Nat.mul_le_mul_right _ oM;rw [Nat.add_mul] at this;omega
 have hcs:l.length * sz≤cs.length:=by rw [hl];exact Nat.mul_le_mul_right _ oM
 rw [Nat.zero_add] at hx;have hA:=hrow l[q] (by simp);have hzl:(fc z).length=sz:=by
  rw [hzc];simp only [List.length_append,List.length_take,List.length_drop,hA];omega
 refine st hS2 hx .here hy (stv_many hz hxm h1 oM) ?_;intro w' hS';refine h w' ?_;have hlen:(l.set q z).length=l.length:=by simp
 have:=yao (rows:=(l.set q z).map fc) (sz:=sz) hS' oM hm (by simp only [List.length_append,List.length_take,List.length_drop];omega) (by simpa using (by omega:l.length≤c)) ?_ ?_
 ·simp only [List.length_map,List.length_set] at this;rw [hn];exact this
 ·have e1:=yav (fun row hr=>(hok row hr).1) (q:=q) (rows:=l.map fc) (by simpa using hq) (row':=fc z) hzl;have e0:=yav (fun row hr=>(hok row hr).1) (q:=q) (rows:=l.map fc) (by simpa using hq) (row':=fc l[q]) (hrow _ (by simp));have e2:(l.map fc).set q (fc l[q])=l.map fc:=by
   have:(l.map fc)[q]'(by simpa using hq)=fc l[q]:=by simp
   rw [← this];exact List.set_getElem_self _
  rw [e2] at e0;rw [List.map_set,e1];simp only [List.length_set,List.length_map];rw [hn] at ht';have hFl:(l.map fc).flatten.length=l.length * sz:=by
   rw [← ht',List.length_take];omega
  generalize (l.map fc).flatten=Fl at *;have hX:(Fl.take (q * sz)).length=q * sz:=by
   rw [List.length_take];omega
  have hY:(Fl.drop (q * sz+sz)).length=l.length * sz - (q * sz+sz):=by rw [List.length_drop,hFl]
  generalize Fl.take (q * sz)=X at *;generalize Fl.drop (q * sz+sz)=Y at *;have hab:fc l[q]=(fc l[q]).take j++((fc l[q]).drop j).take m++(fc l[q]).drop (j+m):=by
   rw [← List.drop_drop,List.append_assoc,List.take_append_drop,List.take_append_drop]
  have hal:((fc l[q]).take j).length=j:=by rw [List.length_take,hA];omega
  have hbl:(((fc l[q]).drop j).take m).length=m:=by rw [List.length_take,List.length_drop,hA];omega
  have hcl:((fc l[q]).drop (j+m)).length=sz - (j+m):=by rw [List.length_drop,hA]
  rw [hzc];generalize (fc l[q]).drop (j+m)=C at *;generalize ((fc l[q]).drop j).take m=Bm at *;generalize (fc l[q]).take j=Aj at *;have hcs2:cs=X++(Aj++Bm++C)++Y++cs.drop (l.length * sz):=by
   conv=>lhs;rw [← List.take_append_drop (l.length * sz) cs,ht',e0,hab]
  have hmid:=yhR (X:=X) (a:=Aj) (b:=Bm) (c:=C) (Y:=Y) (R:=cs.drop (l.length * sz)) (xs:=xs) oM;rw [← hcs2,hX,hal,hxm] at hmid;rw [hmid];refine List.take_left' ?_;simp only [List.length_append,hX,hal,hxm,hcl,hY];omega
 ·intro row hr;obtain ⟨a,ha,rfl⟩:=List.mem_map.1 hr
  rcases List.mem_or_eq_of_mem_set ha with h2|h2
  ·exact hok _ (List.mem_map.2 ⟨a,h2,rfl⟩)
  ·subst h2;refine ⟨hzl,fun u hu=>?_⟩;rw [hzc] at hu;have hrow1:=(hok _ (List.mem_map.2 ⟨l[q],by simp,rfl⟩)).2
   rcases List.mem_append.1 hu with hu|hu
   ·rcases List.mem_append.1 hu with hu|hu
    ·exact hrow1 u (List.mem_of_mem_take hu)
    ·exact List.all_eq_true.1 h1 u hu
   ·exact hrow1 u (List.mem_of_mem_drop hu)
theorem stT [ht:HasTT P] {ts:List TS} {q j n0 c g:Nat} {y0:TS} (y':TS) (hS:Sep r M L w) (hx:ev n f x=.pointer (some ⟨g,0+q * 12+j,none⟩)) (ha:At L k (.sl e 12 (.slice (some ⟨g,0,none⟩) n0 c) ((ts.set q y0).map TS.cells))) (hq:q < ts.length) (hy:ev n f y=v)
  (hz:sizeT ht.tt t=some 1) (h1:v.oneCell'=true) (hj:j < 12) (hzc:y'.cells=y0.cells.set j v)
  (h:∀ w',Sep r M (.sl e 12 (.slice (some ⟨g,0,none⟩) n0 c) ((ts.set q y').map TS.cells)::k) w'→K f w'):WE P ⟨none,.store t x y,ty,pos,aft,none⟩ K Q n f w:=
 stF (fc:=TS.cells) (l:=ts.set q y0) y' hS hx ha (by simpa using hq) hy hz h1 hj (by rw [List.getElem_set_self];exact hzc) fun w' h'=>h w' (by rw [List.set_set] at h';exact h')
theorem stTw [ht:HasTT P] {ts:List TS} {q n0 c g:Nat} {y0:TS} {xs:List Value} (y':TS) (hS:Sep r M L w) (hx:ev n f x=.pointer (some ⟨g,0+q * 12+7,none⟩)) (ha:At L k (.sl e 12 (.slice (some ⟨g,0,none⟩) n0 c) ((ts.set q y0).map TS.cells))) (hq:q < ts.length) (hy:ev n f y=.agg xs.toArray)
  (hz:sizeT ht.tt t=some 5) (hxm:xs.length=5) (h1:xs.all (·.oneCell')=true) (hzc:y'.cells=y0.cells.take 7++xs++y0.cells.drop 12)
  (h:∀ w',Sep r M (.sl e 12 (.slice (some ⟨g,0,none⟩) n0 c) ((ts.set q y').map TS.cells)::k) w'→K f w'):WE P ⟨none,.store t x y,ty,pos,aft,none⟩ K Q n f w:=
 stFw (fc:=TS.cells) (l:=ts.set q y0) (j:=7) (m:=5) y' hS hx ha (by simpa using hq) hy hz hxm h1 oM (by rw [List.getElem_set_self];exact hzc) fun w' h'=>h w' (by rw [List.set_set] at h';exact h')
theorem stK [ht:HasTT P] {ks:List CS} {q j n0 c g:Nat} {y0:CS} (y':CS) (hS:Sep r M L w) (hx:ev n f x=.pointer (some ⟨g,0+q * 4+j,none⟩)) (ha:At L k (.sl e 4 (.slice (some ⟨g,0,none⟩) n0 c) ((ks.set q y0).map CS.cells))) (hq:q < ks.length) (hy:ev n f y=v)
  (hz:sizeT ht.tt t=some 1) (h1:v.oneCell'=true) (hj:j < 4) (hzc:y'.cells=y0.cells.set j v)
  (h:∀ w',Sep r M (.sl e 4 (.slice (some ⟨g,0,none⟩) n0 c) ((ks.set q y').map CS.cells)::k) w'→K f w'):WE P ⟨none,.store t x y,ty,pos,aft,none⟩ K Q n f w:=
 stF (fc:=CS.cells) (l:=ks.set q y0) y' hS hx ha (by simpa using hq) hy hz h1 hj (by rw [List.getElem_set_self];exact hzc) fun w' h'=>h w' (by rw [List.set_set] at h';exact h')
end
end Z
theorem yaa {r w:World} {L k:List Res} {α:Type} {fc:α→List Value} {l:List α} {e sz g n c q:Nat} {x:α} (hS:Sep r [] L w) (ha:At L k (.sl e sz (.slice (some ⟨g,0,none⟩) n c) (l.map fc))) (hz:0 < sz) (hq:q < l.length) (hx:l[q]'hq=x):w.rangeAt g (0+q * sz) (fc x):=by
 have h3:=(hS.slrows ha).elem (q:=q) hz (by simpa using hq);subst hx
 simpa using h3
theorem yag {α:Type} {l:List α} {q:Nat} {x:α} (hq:q < l.length) (hx:l[q]'hq=x):l=l.set q x:=by
 subst hx;exact (List.set_getElem_self _).symm
def Sta.cc (s:Sta) (c:Cfg) (b:SAd):List Value:=[.int .i64 s.tick,.int .i64 s.count,.slice b.tA c.tenants.length b.tc,.slice b.kA c.cells.length b.kc,.int .i64 s.proven,.int .i64 s.evac,.int .i64 s.low,.int .i64 s.high]
def Sta.vc (s:Sta) (c:Cfg) (b:SAd):Value:=.agg (s.cc c b).toArray
theorem Sta.ok.vc {s:Sta} {c:Cfg} (h:s.ok c) (b:SAd):s.val b=s.vc c b:=by
 unfold Sta.val Sta.vc Sta.cl Sta.cc;rw [h.tl,h.kl]
structure StC (r:World) (F:List Res) (s:Sta) (c:Cfg) (b:SAd):Prop where
 t:Reads r F 12 (.slice b.tA c.tenants.length b.tc) (s.tenants.map TS.cells)
 k:Reads r F 4 (.slice b.kA c.cells.length b.kc) (s.cells.map CS.cells)
theorem StC.str {r:World} {F:List Res} {s:Sta} {c:Cfg} {b:SAd} (h:StC r F s c b) (ho:s.ok c):StR r F s b:=⟨by rw [ho.tl];exact h.t,by rw [ho.kl];exact h.k⟩
theorem frozen_c (c:Cfg) (a:CAd) (s:Sta) (b:SAd) (k:Int) (r:World) (F:List Res) (w:World) (hS:Sep r [] F w) (hr:CfR r F c a) (ho:c.ok) (hs:s.ok c) :
  Calls Tryz.prog 219 #[c.val a,s.vc c b,.int .i64 k] w fun e w'=>∃ q,e=.returned (.bool q)∧Sep r [] F w':=by
 rw [← hs.vc];exact ygD c a s b k r F w hS hr ho
theorem proven_c (c:Cfg) (s:Sta) (b:SAd) (v:Int) (r:World) (F:List Res) (w:World) (hS:Sep r [] F w) (hs:s.ok c) :
  Calls Tryz.prog 225 #[s.vc c b,.int .i64 v] w fun e w'=>∃ q,e=.returned (.bool q)∧Sep r [] F w':=by
 rw [← hs.vc];exact ybQ s b v r F w hS
theorem open_c (c:Cfg) (s:Sta) (b:SAd) (k:Nat) (r:World) (F:List Res) (w:World) (hS:Sep r [] F w) (hs:s.ok c) (hr:StC r F s c b) (hk:k < c.cells.length) :
  Calls Tryz.prog 224 #[s.vc c b,.int .i64 k] w fun e w'=>∃ q,e=.returned (.bool q)∧Sep r [] F w':=by
 rw [← hs.vc];exact yiM s b k r F w hS (hr.str hs) (by rw [hs.kl];exact hk)
def yesC (s:Sta) (c:Cfg) (b:SAd):Value:=.tuple #[s.vc c b,.int .i64 0]
theorem fit_c (c:Cfg) (a:CAd) (s:Sta) (b:SAd) (r:World) (F:List Res) (w:World) (hS:Sep r [] F w) (hr:CfR r F c a) (ho:c.ok) (hs:s.ok c) (hq:StC r F s c b) :
  Calls Tryz.prog 221 #[c.val a,s.vc c b] w fun e w'=>∃ v,e=.returned v∧(v=noV 10∨v=yesC s c b)∧Sep r [] F w':=by
 rw [← hs.vc];refine (yjc c a s b r F w hS hr (hq.str hs) ho hs.tl).mono ?_;rintro e w' ⟨h|h,h2⟩
 ·exact ⟨_,h,.inl rfl,h2⟩
 ·refine ⟨_,h,.inr ?_,h2⟩;unfold yesV yesC;rw [hs.vc]
end Go.Proofs.YtfmnjbhncnldmaaGreat
