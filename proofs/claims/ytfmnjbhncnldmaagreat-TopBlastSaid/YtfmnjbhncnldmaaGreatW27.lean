import Derived.Test.YtfmnjbhncnldmaaGreatW26
set_option maxHeartbeats 4000000
set_option linter.unusedSimpArgs false
set_option linter.unusedVariables false
namespace Go.Proofs.YtfmnjbhncnldmaaGreat
open Go.RowKit
attribute [local irreducible] Res.blk Res.sl Res.all Res.ex Res.pure Res.star
structure Sp where
 tenant:Int
 index:Int
 w:Wj
def Wj.cells (w:Wj):List Value:=[.int .i64 w.cell,.int .i64 w.epoch,.int .i64 w.version,.int .i64 w.from_,.int .i64 w.until_]
def Sp.cells (x:Sp):List Value:=[.int .i64 x.tenant,.int .i64 x.index,.int .i64 x.w.cell,.int .i64 x.w.epoch,.int .i64 x.w.version,.int .i64 x.w.from_,.int .i64 x.w.until_]
def Sp.val (x:Sp):Value:=.agg x.cells.toArray
structure StepOk (c:Cfg) (s:Sta) (e:En):Prop where
 ok:s.ok c
 n:0≤s.count∧s.count≤5000
 acc:accP c s e=true
 k:e.kind=1∨(e.kind=2∧validP c e=true∧s.count < 4096∧s.tick≤e.tick∧GrOk c s e)
def stN (c:Cfg) (l:List En) (i:Nat):Sta:=(l.take i).foldl effP (newS c)
theorem yhf {c:Cfg} {l:List En} {i:Nat} (h:i < l.length):stN c l (i+1)=effP (stN c l i) l[i]:=by
 unfold stN;rw [List.take_succ_eq_append_getElem h,List.foldl_append]
 rfl
theorem yhg (c:Cfg) (a:CAd) (l:List En) (v:Value) (r:World) (F:List Res) (w:World) (hS:Sep r [] F w) (hr:CfR r F c a) (hv:CfgV c) (hrd:Reads r F 9 v (l.map En.cells)) (hl:l.length≤5000) (hok:∀ i (h:i < l.length),StepOk c (stN c l i) l[i]) :
  Calls Tryz.prog 199 #[c.val a,v] w fun x w'=>∃ b',x=.returned (.tuple #[(stN c l l.length).vc c b',.int .i64 (l.length:Nat),.int .i64 0])∧Sep r [] (SO c (stN c l l.length) b'::F) w':=by
 have h1:=hv.ok.t;have h2:=hv.ok.k;obtain ⟨Al,cl,rfl,_⟩:=(hrd [] w hS).mform;refine Z.enter Tryz.func199 Tryz.ntmps199 rfl rfl ?_;refine aQ2 ?_;intro gc gr w hS;refine cQ (ycu c a _ _ _ hS oM oM) rfl ?_;clear hS;rintro e w ⟨b,rfl,hS⟩;refine ⟨_,rfl,?_⟩
 repeat' first|refine K ?_|refine Sa ?_;clear hS;intro w hS|refine K3 ?_;clear hS;intro g w hS hge|refine KC ?_ ?_<;>intro hb<;>try exact JX|fail
 rename Nat=>g7;refine Z.lpS [5,6,8,9,10,11,16,17,18,19,20,21,22,23,24,25,26,27,28,29,30,31,32,33,34] (fun m w z=>∃ (i:Nat) (b:SAd),z=[(16,.int .i64 i)]∧i≤l.length∧m=l.length - i∧Sep r [] (.blk g7 69 ((stN c l i).cc c b)::SO c (stN c l i) b::.blk gr 69 (Sta.zero.cl SAd.zero)::.blk gc 55 (c.cl a)::F) w) _ [(16,.int .i64 (0:Nat))] TrF ⟨0,b,rfl,oM,rfl,hS.sb⟩ ?_;clear hS;rintro m f0 w _ ⟨i,b,rfl,hi,rfl,hS⟩
 by_cases hlt:i < l.length
 ·obtain ⟨gb,o,hA,_,hra⟩:=(hrd [_,_,_,_] w hS).mat oM (q:=i) (by simpa using hlt);subst hA;have hra2:w.rangeAt gb (o+i * 9) l[i].cells:=by simpa using hra
  clear hra;have hsucc:=yhf (c:=c) hlt;obtain ⟨k1,k2,k3,k4⟩:=hok i hlt;generalize l[i]=e at *;generalize stN c l i=s at *
  repeat' first|refine K ?_|refine Sa ?_;intro w hS|refine K3 ?_;intro g w hS hge|refine KC ?_ ?_<;>intro hb<;>try exact JX|fail
  refine cQ (yaV c a s b e _ _ _ hS (hr.app [_,_,_,_,_]) hv k1 (StC.of_so AtF) k2 k4) rfl ?_;clear hS;rintro e w ⟨cz,s',b',er,X,⟨rfl,hi',hz⟩,hS⟩;refine ⟨_,rfl,?_⟩;obtain rfl:er=0:=hi'.2 k3;obtain ⟨rfl,rfl,rfl⟩:=hz rfl
  repeat' first|refine K ?_|refine Sa ?_;intro w hS|refine K3 ?_;intro g w hS hge|refine KC ?_ ?_<;>intro hb<;>try exact JX|fail
  refine Sh.again (l.length - (i+1)) [(16,.int .i64 (i+1:Nat))] ?_;exact ⟨i+1,b',rfl,oM,rfl,by rw [hsucc];exact hS.sb⟩
 ·obtain rfl:i=l.length:=by omega
  refine sQ ?_;intro w hS
  first|refine Z.done hS Tryz.results199 (Z.RV.cell rfl AtF rfl (Z.RV.tmp rfl (Z.RV.tmp rfl Z.RV.nil))) ?_|refine Z.doneN hS Tryz.results199 (Z.RV.cell rfl AtF rfl (Z.RV.tmp rfl (Z.RV.tmp rfl Z.RV.nil))) ?_
  exact ⟨b,rfl,hS.sb⟩
theorem ygm (x:Wj) (t:Int) (r:World) (F:List Res) (w:World) (hS:Sep r [] F w) (h:x.from_≤t∧t < x.until_) :
  Calls Tryz.prog 110 #[.agg x.cells.toArray,.int .i64 t] w fun y w'=>y=.returned (.bool true)∧Sep r [] F w':=by
 refine Z.enter Tryz.func110 Tryz.ntmps110 rfl rfl ?_;refine aQ1 ?_;intro g w hS;refine Dnt Tryz.results110 ?_;exact ⟨by simp [Z.packR,h],hS.sb⟩
theorem spn_index (p:Sp→Bool) (FC:FuncId) [HasF Tryz.prog FC] (caps:List Value) (l:List Sp) (v:Value) (r:World) (F:List Res) (w:World) (hS:Sep r [] F w) (hrd:Reads r F 7 v (l.map Sp.cells)) (hl:l.length≤100000)
  (hp:∀ (L:List Res) (w:World) (x:Sp),Sep r [] (L++F) w→Calls Tryz.prog FC (x.val::caps).toArray w fun e w'=>e=.returned (.bool (p x))∧Sep r [] (L++F) w') :
  Calls Tryz.prog 275 #[v,.func (.func FC) #[] caps.toArray] w fun e w'=>∃ k:Int,e=.returned (.int .i64 k)∧Sep r [] F w'∧((k = -1∧∀ x,x∈l→p x=false)∨∃ (q:Nat) (hq:q < l.length),k=q∧p l[q]=true∧∀ x,x∈l.take q→p x=false):=by
 obtain ⟨A,c,rfl,hc⟩:=(hrd [] w hS).mform;refine Z.enter Tryz.func275 Tryz.ntmps275 rfl rfl ?_;refine sQ ?_;intro w hS;refine Z.lpS [4,5,8,9,10,11,12,13,14,15,16,17,18] (fun m w s=>∃ q:Nat,s=[(8,.int .i64 q)]∧q≤l.length∧(∀ x,x∈l.take q→p x=false)∧m=l.length - q∧Sep r [] F w) _ [(8,.int .i64 (0:Nat))] TrF ⟨0,rfl,oM,by simp,rfl,hS⟩ ?_;clear hS;rintro m f0 w _ ⟨q,rfl,hq,hall,rfl,hS⟩
 by_cases hlt:q < l.length
 ·obtain ⟨gb,o,rfl,_,hra⟩:=(hrd [] w hS).mat oM hlt;refine sQ ?_;intro w hS;refine Z.eff (Z.clf rfl (hp [] w l[q] hS) rfl ?_) rfl;clear hS;rintro e w ⟨rfl,hS⟩;refine ⟨_,rfl,?_⟩
  repeat' first|refine K ?_|refine Sa ?_;intro w hS|refine K3 ?_;intro g w hS hge|refine KC ?_ ?_<;>intro hb<;>try exact JX|fail
  ·refine Dnt Tryz.results275 ?_;exact ⟨q,rfl,hS,.inr ⟨q,hlt,rfl,hb,hall⟩⟩
  ·refine Sh.again (l.length - (q+1)) [(8,.int .i64 (q+1:Nat))] ?_;refine ⟨q+1,rfl,oM,fun x hx=>?_,rfl,hS⟩;rw [List.take_succ_eq_append_getElem hlt,List.mem_append] at hx
   rcases hx with hx|hx
   ·exact hall x hx
   ·simp at hx;subst hx;exact hb
 ·refine sQ ?_;intro w hS;refine Dnt Tryz.results275 ?_;exact ⟨-1,rfl,hS,.inl ⟨rfl,fun x hx=>hall x (by rw [List.take_of_length_le oM];exact hx)⟩⟩
theorem ye9 (x:Sp) (r:World) (F:List Res) (w:World) (hS:Sep r [] F w) :
  Calls Tryz.prog 202 #[x.val] w fun y w'=>y=.returned (.bool (decide (x.w.from_=x.w.until_)))∧Sep r [] F w':=by
 refine Z.enter Tryz.func202 Tryz.ntmps202 rfl rfl ?_;refine aQ1 ?_;intro g w hS;refine Dnt Tryz.results202 ?_;exact ⟨rfl,hS.sb⟩
theorem yhv (x:Sp) (A:Option Addr) (cap:Nat) (r:World) (F:List Res) (w:World) (hS:Sep r [] (.sl 124 7 (.slice A 1 cap) ([x].map Sp.cells)::F) w) (hx:x.w.from_≠x.w.until_) :
  Calls Tryz.prog 201 #[.slice A 1 cap,.func (.func 202) #[] #[]] w fun y w'=>y=.returned (.slice A 1 cap)∧Sep r [] (.sl 124 7 (.slice A 1 cap) ([x].map Sp.cells)::F) w':=by
 refine Z.enter Tryz.func201 Tryz.ntmps201 rfl rfl ?_;refine sQ ?_;intro w hS;refine cQ (spn_index (fun y=>decide (y.w.from_=y.w.until_)) 202 [] [x] (.slice A 1 cap) _ _ _ hS (Reads.of_at (e:=124) .here) (by simp) (fun L w y h=>ye9 y _ _ _ h)) rfl ?_;clear hS;rintro e w ⟨k,rfl,hS,hk⟩;refine ⟨_,rfl,?_⟩;have hk1:k = -1:=by
  rcases hk with ⟨hk,_⟩|⟨q,hq,_,hp,_⟩
  ·exact hk
  ·have hq0:q=0:=by simpa using hq
   subst hq0
   simp [hx] at hp
 subst hk1;refine sQ ?_;intro w hS;refine Dnt Tryz.results201 ?_;exact ⟨rfl,hS⟩
theorem yhw (x:Sp) (A:Option Addr) (cap:Nat) (r:World) (F:List Res) (w:World) (hS:Sep r [] (.sl 124 7 (.slice A 1 cap) ([x].map Sp.cells)::F) w) :
  Calls Tryz.prog 342 #[.slice A 1 cap,.int .i64 0,.int .i64 1,.func (.func 204) #[] #[]] w fun y w'=>y=.returned (.tuple #[])∧Sep r [] (.sl 124 7 (.slice A 1 cap) ([x].map Sp.cells)::F) w':=by
 refine Z.enter Tryz.func342 Tryz.ntmps342 rfl rfl ?_;refine sQ ?_;intro w hS;refine Z.lpS [8,9,12,13,14,15,16,17,18,19,20,21,22,23,24,25,26,27,28,29,30,31,32,33,34,35,36,37,38,39,40,41,42,43,44,45,46,47,48,49,50,51,52] (fun m w z=>z=[(8,.int .i64 1)]∧Sep r [] (.sl 124 7 (.slice A 1 cap) ([x].map Sp.cells)::F) w) 0 [(8,.int .i64 1)] TrF ⟨rfl,hS⟩ ?_;clear hS;rintro m f0 w _ ⟨rfl,hS⟩;refine sQ ?_;intro w hS;refine Dn Tryz.results342 ?_;exact ⟨rfl,hS⟩
theorem yhy (x:Sp) (A:Option Addr) (cap:Nat) (k:Int) (r:World) (F:List Res) (w:World) (hS:Sep r [] (.sl 124 7 (.slice A 1 cap) ([x].map Sp.cells)::F) w) :
  Calls Tryz.prog 276 #[.slice A 1 cap,.int .i64 0,.int .i64 1,.int .i64 k,.func (.func 204) #[] #[]] w fun y w'=>y=.returned (.tuple #[])∧Sep r [] (.sl 124 7 (.slice A 1 cap) ([x].map Sp.cells)::F) w':=by
 refine Z.enter Tryz.func276 Tryz.ntmps276 rfl rfl ?_;refine sQ ?_;intro w hS;refine Z.lpS [1,2,3,10,11,12,13,14,15,16,17,18,19,20,21,22,23,24,25,26,27,28,29,30,31,32,33,34,35,36,37,38,39,40,41,42,43,44,45,46,47,48,49,50,51,52,53,54,55,56,57,58,59,60,61,62,63,64,65,66,67,68,69,70,71,72,73,74,75,76,77,78,79,80,81,82,83,84,85,86,87,88,89,90,91,92,93,94,95,96,97,98,99,100,101,102,103,104,105,106,107,108,109,110,111,112,113,114,115,116,117,118,119,120,121,122,123,124,125,126,127,128,129,130,131,132,133,134,135,136,137,138,139,140,141,142,143,144,145,146,147] (fun m w z=>z=[(1,.int .i64 0),(2,.int .i64 1)]∧Sep r [] (.sl 124 7 (.slice A 1 cap) ([x].map Sp.cells)::F) w) 0 [(1,.int .i64 0),(2,.int .i64 1)] TrF ⟨rfl,hS⟩ ?_;clear hS;rintro m f0 w _ ⟨rfl,hS⟩;refine sQ ?_;intro w hS;refine rQ (yhw x A cap _ _ _ hS) ?_;intro w hS;refine Dn Tryz.results276 ?_;exact ⟨rfl,hS⟩
section
variable {P:Program} {ops:Array Oper} {Q:Exit→Act→World→Prop} {n:Nat} {f:Nat→Value} {w:World} {rest:List Oper} {d:Tmp} {ty t:TypeId} {pos:String} {aft:Array Edge} {x y:Operand}
theorem IXS8 {s:ByteArray} {j:Nat} (hu:P.underlying t=some .string) (hj:j < s.size) (hx:ev n f x=.string s) (hy:ev n f y=.int .u8 (j:Int)) (h:WL P ops Q rest n (upd' f d (.int .u8 (s[j].toNat:Int))) w):WL P ops Q (⟨some d,.index t x y,ty,pos,aft,none⟩::rest) n f w:=by
 refine Z.pl ⟨fun W=>?_⟩ h;have e:s[j]?=some s[j]:=by simp [hj]
 simp only [execOp,hx,hy,Instr.index,asIntOf,Sem.run_bind,Sem.run_pure,Result.andThen_ok,run_under hu]
 simp [e]
end
theorem yfa (r:World) (F:List Res) (w:World) (hS:Sep r [] F w):Calls Tryz.prog 250 #[.int .u64 1] w fun y w'=>∃ k:Int,y=.returned (.int .i64 k)∧Sep r [] F w':=by
 refine Z.enter Tryz.func250 Tryz.ntmps250 rfl rfl ?_;refine sQ ?_;intro w hS;refine IXS8 (j:=1) Tryz.underlying9 (of_decide_eq_true kR) rfl rfl ?_
 repeat' (first|refine Kw ?_|(refine Sh.sa hS ?_;clear hS;intro w hS)|(refine K3 ?_;clear hS;intro g w hS hge)|(refine KB ?_ ?_<;>intro hb<;>(try simp only [JJ] at hb)<;>(try exact JX))|fail)
 refine Dnt Tryz.results250 ?_;exact ⟨_,rfl,hS⟩
theorem yhx (r:World) (F:List Res) (w:World) (hS:Sep r [] F w):Calls Tryz.prog 155 #[.int .u64 1] w fun y w'=>∃ k:Int,y=.returned (.int .i64 k)∧Sep r [] F w':=by
 refine Z.enter Tryz.func155 Tryz.ntmps155 rfl rfl ?_;refine sQ ?_;intro w hS;refine cQ (yfa _ _ _ hS) rfl ?_;clear hS;rintro e w ⟨k,rfl,hS⟩;refine eQ ?_;intro w hS;refine Dnt Tryz.results155 ?_;exact ⟨_,rfl,hS⟩
theorem ygn (x:Sp) (A:Option Addr) (cap:Nat) (r:World) (F:List Res) (w:World) (hS:Sep r [] (.sl 124 7 (.slice A 1 cap) ([x].map Sp.cells)::F) w) :
  Calls Tryz.prog 203 #[.slice A 1 cap,.func (.func 204) #[] #[]] w fun y w'=>y=.returned (.tuple #[])∧Sep r [] (.sl 124 7 (.slice A 1 cap) ([x].map Sp.cells)::F) w':=by
 refine Z.enter Tryz.func203 Tryz.ntmps203 rfl rfl ?_;refine sQ ?_;intro w hS;refine cQ (yhx _ _ _ hS) rfl ?_;clear hS;rintro e w ⟨k,rfl,hS⟩;refine eQ ?_;intro w hS;refine rQ (yhy x A cap k _ _ _ hS) ?_;intro w hS;refine Dn Tryz.results203 ?_;exact ⟨rfl,hS⟩
def spOf (i:Int) (e:En):Sp:=⟨e.tenant,i,⟨e.cell,e.epoch,e.n,e.from_,e.until_⟩⟩
theorem yhz (c:Cfg) (a:CAd) (e0 e1:En) (v:Value) (r:World) (F:List Res) (w:World) (hS:Sep r [] F w) (hr:CfR r F c a) (hv:CfgV c) (hrd:Reads r F 9 v ([e0,e1].map En.cells)) (hok:∀ i (h:i < [e0,e1].length),StepOk c (stN c [e0,e1] i) [e0,e1][i]) (h0:e0.kind=1) (h1:e1.kind=2) (hne:e1.from_≠e1.until_) :
  Calls Tryz.prog 109 #[c.val a,v] w fun y w'=>∃ A cap,y=.returned (.slice A 1 cap)∧Sep r [] (.sl 124 7 (.slice A 1 cap) ([spOf 1 e1].map Sp.cells)::F) w':=by
 obtain ⟨Al,cl,rfl,hcl⟩:=(hrd [] w hS).mform;simp only [List.length_cons,List.length_nil] at hcl;refine Z.enter Tryz.func109 Tryz.ntmps109 rfl rfl ?_;refine aQ1 ?_;intro gc w hS;refine cQ (yhg c a [e0,e1] _ _ _ _ hS (hr.app [_]) hv (hrd.app [_]) (by simp) hok) rfl ?_;clear hS;rintro e w ⟨b,rfl,hS⟩;refine ⟨_,rfl,?_⟩;simp only [List.length_cons,List.length_nil,Nat.zero_add,Nat.reduceAdd] at hS ⊢
 repeat' first|refine K ?_|refine Sa ?_;clear hS;intro w hS|refine K3 ?_;clear hS;intro g w hS hge|refine KC ?_ ?_<;>intro hb<;>try exact JX|fail
 rename Nat=>g5;replace hS:=Z.nilsl hS 124 7 none;refine Z.lpS [8,9,10,11,23,24,25,26,27,28,29,30,31,32,33,34,35,36,37,38,39,40,41,42,43,44,45,46,47,48,49,50,51,52,53,54,55,56] (fun m w z=>∃ (i:Nat) (o:List Sp) (A:Option Addr) (cap:Nat),z=[(8,.slice A o.length cap),(23,.int .i64 i)]∧i≤2∧(i≤1→o=[])∧(i=2→o=[spOf 1 e1])∧m=2 - i∧Sep r [] (.sl 124 7 (.slice A o.length cap) (o.map Sp.cells)::.blk g5 69 ((stN c [e0,e1] 2).cc c b)::SO c (stN c [e0,e1] 2) b::.blk gc 55 (c.cl a)::F) w) _ [(8,.slice none 0 0),(23,.int .i64 (0:Nat))] TrF ⟨0,[],none,0,rfl,oM,fun _=>rfl,oM,rfl,hS.sb⟩ ?_;clear hS;rintro m f0 w _ ⟨i,o,A,cap,rfl,hi,ho1,ho2,rfl,hS⟩
 by_cases hi0:i=0
 ·subst hi0;obtain rfl:=ho1 oM;obtain ⟨gb,ob,hAe,_,hra⟩:=(hrd [_,_,_,_] w hS).mat oM (q:=0) (by simp);subst hAe;have hra2:w.rangeAt gb (ob+0 * 9) e0.cells:=by simpa using hra
  clear hra
  repeat' first|refine K ?_|refine Sa ?_;intro w hS|refine K3 ?_;intro g w hS hge|refine KC ?_ ?_<;>intro hb<;>try exact JX|fail
  refine Sh.again (1) [(8,.slice A 0 cap),(23,.int .i64 (1:Nat))] ?_;exact ⟨1,[],A,cap,rfl,oM,fun _=>rfl,oM,rfl,hS.sb⟩
 by_cases hi1:i=1
 ·subst hi1;obtain rfl:=ho1 oM;obtain ⟨gb,ob,hAe,_,hra⟩:=(hrd [_,_,_,_] w hS).mat oM (q:=1) (by simp);subst hAe;have hra2:w.rangeAt gb (ob+1 * 9) e1.cells:=by simpa using hra
  clear hra
  repeat' first|refine K ?_|refine Sa ?_;intro w hS|refine K3 ?_;intro g w hS hge|refine KC ?_ ?_<;>intro hb<;>try exact JX|fail
  refine Z.eff (Z.apm (fc:=Sp.cells) (l:=[]) (l':=[spOf 1 e1]) hS rfl rfl rfl AtF (hS.lit1 AtF rfl rfl) LnF LnF ?_) rfl;clear hS;intro A2 c2 w hS;refine sQ ?_;intro w hS;refine Sh.again (0) [(8,_),(23,.int .i64 (2:Nat))] ?_;exact ⟨2,[spOf 1 e1],A2,c2,rfl,oM,oM,fun _=>rfl,rfl,hS.sb⟩
 obtain rfl:i=2:=by omega
 obtain rfl:=ho2 rfl;refine sQ ?_;intro w hS;refine rQ (yhv (spOf 1 e1) A cap _ _ _ hS hne) ?_;intro w hS;refine rQ (ygn (spOf 1 e1) A cap _ _ _ hS) ?_;intro w hS;refine Dnt Tryz.results109 ?_;exact ⟨A,cap,rfl,hS.sb⟩
theorem ya1 (c:Cfg) (a:CAd) (e0 e1:En) (v:Value) (t k:Int) (r:World) (F:List Res) (w:World) (hS:Sep r [] F w) (hr:CfR r F c a) (hv:CfgV c) (hrd:Reads r F 9 v ([e0,e1].map En.cells)) (hok:∀ i (h:i < [e0,e1].length),StepOk c (stN c [e0,e1] i) [e0,e1][i]) (h0:e0.kind=1) (h1:e1.kind=2) (ht:e1.tenant=t) (hk:e1.from_≤k∧k < e1.until_) :
  Calls Tryz.prog 45 #[c.val a,v,.int .i64 t,.int .i64 k] w fun y w'=>y=.returned (.tuple #[(spOf 1 e1).val,.bool true])∧Sep r [] F w':=by
 obtain ⟨Al,cl,rfl,hcl⟩:=(hrd [] w hS).mform;refine Z.enter Tryz.func45 Tryz.ntmps45 rfl rfl ?_;refine aQ2 ?_;intro gc g8 w hS;refine cQ (yhz c a e0 e1 _ _ _ _ hS (hr.app [_,_]) hv (hrd.app [_,_]) hok h0 h1 oM) rfl ?_;clear hS;rintro e w ⟨A,cap,rfl,hS⟩;refine eQ ?_;intro w hS;refine Z.lpS [9,11,16,17,18,19,20,21,22,23,24,25,26,27,28,29,30,31] (fun m w z=>z=[(16,.int .i64 (0:Nat))]∧Sep r [] (.sl 124 7 (.slice A 1 cap) ([spOf 1 e1].map Sp.cells)::.blk g8 124 (Sp.cells ⟨0,0,⟨0,0,0,0,0⟩⟩)::.blk gc 55 (c.cl a)::F) w) 0 [(16,.int .i64 (0:Nat))] TrF ⟨rfl,hS⟩ ?_;clear hS;rintro m f0 w _ ⟨rfl,hS⟩;obtain ⟨gb,ob,hAe,_,hra⟩:=(hS.slrows (e:=124) (v:=.slice A 1 cap) AtF).mat oM (q:=0) (by simp);subst hAe;have hra2:w.rangeAt gb (ob+0 * 7) (spOf 1 e1).cells:=by simpa using hra
 clear hra;have hcc:(spOf 1 e1).cells=[.int .i64 e1.tenant,.int .i64 1,.int .i64 e1.cell,.int .i64 e1.epoch,.int .i64 e1.n,.int .i64 e1.from_,.int .i64 e1.until_]:=rfl;rw [hcc] at hra2
 repeat' first|refine K ?_|refine Sa ?_;intro w hS|refine K3 ?_;intro g w hS hge|refine KC ?_ ?_<;>intro hb<;>try exact JX|fail
 refine cQ (ygm ⟨e1.cell,e1.epoch,e1.n,e1.from_,e1.until_⟩ k _ _ _ hS hk) rfl ?_;clear hS;rintro e w ⟨rfl,hS⟩;refine ⟨_,rfl,?_⟩
 repeat' first|refine K ?_|refine Sa ?_;clear hS;intro w hS|refine K3 ?_;clear hS;intro g w hS hge|refine KC ?_ ?_<;>intro hb<;>try exact JX|fail
 refine Dct Tryz.results45 ?_;exact ⟨rfl,hS.sb⟩
end Go.Proofs.YtfmnjbhncnldmaaGreat
