import Derived.Test.YtfmnjbhncnldmaaGreatW02
import Derived.Test.YtfmnjbhncnldmaaGreatW31
set_option maxHeartbeats 8000000
set_option linter.unusedSimpArgs false
set_option linter.unusedVariables false
namespace Go.Proofs.YtfmnjbhncnldmaaGreat
open Go.RowKit
attribute [local irreducible] Res.blk Res.sl Res.all Res.ex Res.pure Res.star
instance : HasM Tryz.prog 191 3 4 (.bool false):=⟨Tryz.underlying191,Maps.int_keyed Tryz.underlying3,fun w=>by kernel_rfl⟩
theorem keyIB {k:Int} (h : -9223372036854775808≤k∧k≤9223372036854775807):∃ l,keyOf Tryz.prog 3 (.int .i64 k)=some l:=
 ⟨_,Maps.keyOf_int_mk Tryz.underlying3 (by unfold Lit.wf;rw [Bool.and_eq_true,decide_eq_true_eq,decide_eq_true_eq];exact ⟨h.1,h.2⟩)⟩
def kvIB (k:Int):Value×Value:=(.int .i64 k,.bool true)
theorem noneIB {l:List Int} {k:Int} (h:k∉l):∀ p,p∈l.map kvIB→p.1≠.int .i64 k:=fun p hp e=>by
 obtain ⟨x,hx,rfl⟩:=List.mem_map.1 hp
 injection e with _ e
 subst e;exact h hx
theorem putIB {l:List Int} {k:Int} (h:k∉l):PutM (l.map kvIB) (.int .i64 k) (.bool true) ((l++[k]).map kvIB):=.inr ⟨noneIB h,by
 rw [List.map_append];exact List.perm_append_comm⟩
theorem ygB {W:List Wv} {i:Nat} (hi:i < W.length):((W.take (i+1)).map Wv.l).flatten=((W.take i).map Wv.l).flatten++(W[i]).l:=by
 rw [List.take_succ_eq_append_getElem hi,List.map_append,List.flatten_append]
 simp
theorem yfZ (c:Cfg) (a:CAd) (V:Int) (B:Option Addr) (C:Nat) (W:List Wv) (r:World) (F:List Res) (w:World) (hS:Sep r [] F w) (hv:CfgV c) (hw:WvR r F B C W) (hW:WvK c W) (hV:1≤V∧V < c.versions.length) (hne:∀ x,x∈W→x.l≠[]) (hnd:((W.map Wv.l).flatten).Nodup) :
  Calls Tryz.prog 24 #[c.val a,.agg #[.int .i64 V,.int .i64 0,.slice B W.length C]] w fun e w'=>e=.returned (.bool true)∧Sep r [] F w':=by
 have hck:=hv.ok.k;have hvk:=hv.ok.v;have hwn:=hW.n;refine Z.enter Tryz.func24 Tryz.ntmps24 rfl rfl ?_
 repeat' first|refine K ?_|refine Sa ?_;clear hS;intro w hS|refine K3 ?_;clear hS;intro g w hS hge|refine KC ?_ ?_<;>intro hb<;>try exact JX|fail
 rename Nat=>gr;obtain ⟨gc,rfl⟩:∃ q,q=g:=⟨g,rfl⟩;refine Z.eff (Z.mkm hS ?_) rfl;clear hS;intro gm w hS hgm;refine sQ ?_;intro w hS;refine Z.lpS [4,8,10,45,46,47,48,49,50,51,52,53,54,55,56,57,58,59,60,61,62,63,64,65,66,67,68,69,70,71,72,73,74,75] (fun m w z=>∃ (i:Nat) (seen:List Int),z=[(45,.int .i64 i)]∧i≤W.length∧seen.length≤i * 20∧seen=((W.take i).map Wv.l).flatten∧m=W.length - i∧Sep r [] (.mp Tryz.prog 3 gm (seen.map kvIB)::.blk gr 75 [.int .i64 V,.int .i64 0,.slice B W.length C]::.blk gc 55 (c.cl a)::F) w) _ [(45,.int .i64 (0:Nat))] TrF ⟨0,[],rfl,oM,by simp,by simp,rfl,hS.sb⟩ ?_;clear hS;rintro m f0 w _ ⟨i,seen,rfl,hi,hal,hah,rfl,hS⟩
 by_cases hlt:i < W.length
 rotate_left
 ·refine sQ ?_;intro w hS;refine Dnt Tryz.results24 ?_;exact ⟨rfl,hS.sb⟩
 obtain ⟨gb,o,hB,hra⟩:=hw.get [_,_,_] hS hlt;subst hB;have hin:=hw.inn _ (List.getElem_mem hlt);have hxl:=hW.l _ (List.getElem_mem hlt);have hxk:=hW.k _ (List.getElem_mem hlt);have hxn:=hne _ (List.getElem_mem hlt);have hfl:=ygB hlt;rw [← hah] at hfl;have hnd2:(seen++(W[i]).l).Nodup:=by
  rw [← hfl];have e:(W.map Wv.l).flatten=((W.take (i+1)).map Wv.l).flatten++((W.drop (i+1)).map Wv.l).flatten:=by rw [← List.flatten_append,← List.map_append,List.take_append_drop]
  rw [e] at hnd;exact (List.nodup_append.1 hnd).1
 generalize W[i]=x at *;obtain ⟨l',A',c'⟩:=x;simp only at hin hxl hxk hxn hfl hnd2;have hl0:0 < l'.length:=List.length_pos_iff.2 hxn;refine sQ ?_;intro w hS;have h0S:Sep r [] (.mp Tryz.prog 3 gm ((seen++l'.take 0).map kvIB)::.blk gr 75 [.int .i64 V,.int .i64 0,.slice (some ⟨gb,o,none⟩) W.length C]::.blk gc 55 (c.cl a)::F) w:=by rw [List.take_zero,List.append_nil];exact hS.sb
 refine Z.lpS [4,10,54,55,56,57,58,59,60,61,62,63,64,65,66,67,68,69,70,71,72,73,74] (fun m w z=>∃ j:Nat,z=[(54,.int .i64 j)]∧j≤l'.length∧m=l'.length - j∧Sep r [] (.mp Tryz.prog 3 gm ((seen++l'.take j).map kvIB)::.blk gr 75 [.int .i64 V,.int .i64 0,.slice (some ⟨gb,o,none⟩) W.length C]::.blk gc 55 (c.cl a)::F) w) _ [(54,.int .i64 (0:Nat))] TrF ⟨0,rfl,oM,rfl,h0S⟩ ?_;clear hS h0S;rintro m f1 w _ ⟨j,rfl,hj,rfl,hS⟩
 by_cases hjl:j < l'.length
 ·obtain ⟨ga,oa,hAe,hrb⟩:=yaF hin [_,_,_] hS hjl;subst hAe;have hyb:=hxk _ (List.getElem_mem hjl);have htk:seen++l'.take (j+1)=(seen++l'.take j)++[l'[j]]:=by rw [List.take_succ_eq_append_getElem hjl,List.append_assoc]
  have hno:l'[j]∉seen++l'.take j:=by
   intro hm;have hd:((seen++l'.take j)++[l'[j]]).Nodup:=by
    rw [← htk];have e:seen++l'=(seen++l'.take (j+1))++l'.drop (j+1):=by rw [List.append_assoc,List.take_append_drop]
    rw [e] at hnd2;exact (List.nodup_append.1 hnd2).1
   exact (List.nodup_append.1 hd).2.2 _ hm _ (by simp) rfl
  generalize l'[j]=y at *;refine sQ ?_;intro w hS;refine Z.eff (Z.lk hS none rfl rfl AtF (keyIB oM) (.inr ⟨rfl,noneIB hno⟩) ?_) rfl;refine sQ ?_;intro w hS;refine Z.eff (Z.upm hS ((seen++l'.take j++[y]).map kvIB) rfl rfl rfl AtF (keyIB oM) (putIB hno) (by simp [maxLen];omega) ?_) rfl;clear hS;intro w hS;rw [← htk] at hS;refine sQ ?_;intro w hS;refine Sh.again (l'.length - (j+1)) [(54,.int .i64 (j+1:Nat))] ?_;exact ⟨j+1,rfl,oM,rfl,hS.sb⟩
 ·have hj2:j=l'.length:=by omega
  rw [hj2,List.take_length,← hfl] at hS;refine sQ ?_;intro w hS;refine Sh.again (W.length - (i+1)) [(45,.int .i64 (i+1:Nat))] ?_;exact ⟨i+1,_,rfl,oM,by rw [hfl,List.length_append];omega,rfl,rfl,hS.sb⟩
theorem yeX (c:Cfg) (a:CAd) (s:Sta) (b:SAd) (V tk:Int) (B:Option Addr) (C:Nat) (W:List Wv) (x:Wv) (r:World) (F:List Res) (w:World) (hS:Sep r [] F w) (hr:CfR r F c a) (hv:CfgV c) (hs:s.ok c) (hq:StC r F s c b) (hw:WvR r F B C W) (hxl:x.l.length≤20) (hxk:∀ k,k∈x.l→0≤k∧k < c.cells.length) (hxr:Reads r F 1 (.slice x.A x.l.length x.c) (x.l.map ztC)) (hc:0≤s.count∧s.count≤5000) :
  Calls Tryz.prog 77 #[c.val a,s.vc c b,.agg #[.int .i64 V,.int .i64 0,.slice B W.length C],.slice x.A x.l.length x.c,.int .i64 tk] w fun y w'=>∃ (e:En) (er:Int),y=.returned (.tuple #[e.val,.int .i64 er])∧(e.kind=0∨((e.kind=10∨e.kind=11)∧e.n=V∧e.cell∈x.l))∧Sep r [] F w':=by
 obtain ⟨xl,xA,xc⟩:=x;simp only at hxl hxk hxr;refine Z.enter Tryz.func77 Tryz.ntmps77 rfl rfl ?_;refine aQ4 ?_;intro gc gs gr gz w hS;refine Z.lpS [11,13,14,15,18,19,20,21,22,23,24,25,26,27,28,29,30,31,32,33,34,35,36,37,38,39,40,41,42,43,44,45,46,47] (fun m w z=>∃ j:Nat,z=[(18,.int .i64 j)]∧j≤xl.length∧m=xl.length - j∧Sep r [] (.blk gz 63 (En.mk 0 0 0 0 0 0 0 0 0).cells::.blk gr 75 [.int .i64 V,.int .i64 0,.slice B W.length C]::.blk gs 69 (s.cc c b)::.blk gc 55 (c.cl a)::F) w) _ [(18,.int .i64 (0:Nat))] TrF ⟨0,rfl,oM,rfl,hS.sb⟩ ?_;clear hS;rintro m f1 w _ ⟨j,rfl,hj,rfl,hS⟩
 by_cases hjl:j < xl.length
 rotate_left
 ·refine sQ ?_;intro w hS;refine Dct Tryz.results77 ?_;exact ⟨⟨0,0,0,0,0,0,0,0,0⟩,2,rfl,.inl rfl,hS.sb⟩
 obtain ⟨gx,ox,hx,hrx⟩:=yaF hxr [_,_,_,_] hS hjl;subst hx;have hkk:=hxk _ (List.getElem_mem hjl);have hmem:=List.getElem_mem hjl;generalize xl[j]=k at *;refine sQ ?_;intro w hS;refine cQ (ycL c s b k V _ _ _ hS hv hs (hq.ap [_,_,_,_]) hkk) rfl ?_;clear hS;rintro e w ⟨q,rfl,hS⟩;refine ⟨_,rfl,?_⟩
 cases q with
 | true=>
  refine sQ ?_;intro w hS;refine Sh.again (xl.length - (j+1)) [(18,.int .i64 (j+1:Nat))] ?_;exact ⟨j+1,rfl,oM,rfl,hS⟩
 | false=>
  refine sQ ?_;intro w hS;refine cQ (yaZ 10 tk k V _ _ _ hS) rfl ?_;clear hS;rintro e w ⟨rfl,hS⟩;refine ⟨_,rfl,?_⟩
  repeat' first|refine K ?_|refine Sa ?_;clear hS;intro w hS|refine K3 ?_;clear hS;intro g w hS hge|refine KC ?_ ?_<;>intro hb<;>try exact JX|fail
  rename Nat=>g14;refine D.startS (Lr:=[.blk gr 75 [.int .i64 V,.int .i64 0,.slice B W.length C],.blk gs 69 (s.cc c b)]) (hS.sb) 7 7 kR rfl ?_;replace hS:=hS.drew;refine Sh.dp 1 2 ?_;refine Sh.dp 4 18 ?_;refine Sh.dl 0 19 ?_;refine Sh.dl 5 51 ?_;refine D.ef 2 55 ?_;refine Z.cl (yaQ c s b k _ _ _ hS hv hs (hq.ap [_,_,_,_,_]) hkk) rfl ?_;clear hS;rintro e w ⟨rfl,hS⟩;refine ⟨_,rfl,?_⟩;generalize celP s k=u at *;refine HMs ?_;refine Sh.dp 3 63 ?_
  first|refine D.pr 6 127 rfl D.wantedN kR rfl ?_|refine D.pl 6 127 rfl D.wantedN kR (R.eqa rfl rfl rfl rfl) ?_
  refine D.dn ?_
  repeat' first|refine K ?_|refine Sa ?_;intro w hS|refine K3 ?_;intro g w hS hge|refine KC ?_ ?_<;>intro hb<;>try exact JX|fail
  ·refine cQ (yaz c a s b (⟨11,tk,-1,k,-1,0,0,0,V⟩:En) _ _ _ hS (hr.app [_,_,_,_,_]) hv hs (hq.ap [_,_,_,_,_]) hc (.inr (.inr (.inl rfl)))) rfl ?_;clear hS;rintro e w ⟨er,rfl,hS⟩;refine ⟨_,rfl,?_⟩
   by_cases h0:er=0
   ·refine sQ ?_;intro w hS;refine Dct Tryz.results77 ?_;exact ⟨(⟨11,tk,-1,k,-1,0,0,0,V⟩:En),3,rfl,.inr ⟨.inr rfl,rfl,hmem⟩,hS.sb⟩
   ·refine sQ ?_;intro w hS;refine Sh.again (xl.length - (j+1)) [(18,.int .i64 (j+1:Nat))] ?_;exact ⟨j+1,rfl,oM,rfl,hS.sb⟩
  ·refine cQ (yaz c a s b (⟨10,tk,-1,k,-1,0,0,0,V⟩:En) _ _ _ hS (hr.app [_,_,_,_,_]) hv hs (hq.ap [_,_,_,_,_]) hc (.inr (.inl rfl))) rfl ?_;clear hS;rintro e w ⟨er,rfl,hS⟩;refine ⟨_,rfl,?_⟩
   by_cases h0:er=0
   ·refine sQ ?_;intro w hS;refine Dct Tryz.results77 ?_;exact ⟨(⟨10,tk,-1,k,-1,0,0,0,V⟩:En),1,rfl,.inr ⟨.inl rfl,rfl,hmem⟩,hS.sb⟩
   ·refine sQ ?_;intro w hS;refine Sh.again (xl.length - (j+1)) [(18,.int .i64 (j+1:Nat))] ?_;exact ⟨j+1,rfl,oM,rfl,hS.sb⟩
theorem yc4 {c:Cfg} {W:List Wv} (hW:WvK c W):∀ k,k∈flatW W→0≤k∧k < c.cells.length:=by
 intro k hk;unfold flatW at hk;obtain ⟨l,hl,hkl⟩:=List.mem_flatten.1 hk;obtain ⟨x,hx,rfl⟩:=List.mem_map.1 hl;exact hW.k x hx k hkl
theorem ycB {c:Cfg} {W:List Wv} (hW:WvK c W):(flatW W).length≤400:=by
 have h:∀ W':List Wv,(∀ x,x∈W'→x.l.length≤20)→(flatW W').length≤20 * W'.length:=by
  intro W'
  induction W' with
  | nil=>intro _;simp [flatW]
  | cons x t ih=>
   intro hx;have h1:=hx x (by simp);have h2:=ih fun y hy=>hx y (by simp [hy])
   unfold flatW at h2 ⊢;simp only [List.map_cons,List.flatten_cons,List.length_append,List.length_cons];omega
 have h1:=h W hW.l;have:=hW.n;omega
theorem cel_mem {s:Sta} {k:Int} (h:0≤k∧k < s.cells.length):celP s k∈s.cells:=by
 have hq:k.toNat < s.cells.length:=by omega
 have e1:celP s k=s.cells[k.toNat]:=by simp [celP,List.getD_eq_getElem?_getD,hq]
 rw [e1];exact List.getElem_mem hq
theorem yfY (c:Cfg) (s:Sta) (b:SAd) (V:Int) (B:Option Addr) (C:Nat) (W:List Wv) (r:World) (F:List Res) (w:World) (hS:Sep r [] F w) (hv:CfgV c) (hs:s.ok c) (hq:StC r F s c b) (hw:WvR r F B C W) (hW:WvK c W) (hnd:(flatW W).Nodup) :
  Calls Tryz.prog 158 #[s.vc c b,.agg #[.int .i64 V,.int .i64 0,.slice B W.length C]] w fun e w'=>∃ (A:Option Addr) (n cap:Nat),e=.returned (.slice A n cap)∧n≤1000∧Sep r [] F w':=by
 have hwn:=hW.n;have hck:=hv.ok.k;refine Z.enter Tryz.func158 Tryz.ntmps158 rfl rfl ?_;refine aQ2 ?_;intro gs gr w hS;refine cQ (yhB B C W (srt (flatW W)) _ _ _ hS (hw.app [_,_]) oM (fun x hx=>by have:=hW.l x hx;omega) (srt_asc hnd) (srt_perm _).symm) rfl ?_;clear hS;rintro e w ⟨A,cx,rfl,hS⟩;refine ⟨_,rfl,?_⟩;have hxk:∀ k,k∈srt (flatW W)→0≤k∧k < c.cells.length:=fun k hk=>yc4 hW k ((srt_perm _).mem_iff.1 hk)
 have hxl:(srt (flatW W)).length≤400:=by
  rw [srt_len];exact ycB hW
 generalize srt (flatW W)=x at *;refine sQ ?_;intro w hS;replace hS:=Z.nilsl hS 3 1 none;refine Z.lpS [5,7,8,13,14,15,16,17,18,19,20,21,22,23,24,25,26,27,28,29,30,31,32,33,34,35,36] (fun m w z=>∃ (j:Nat) (y:List Int) (A2:Option Addr) (cy:Nat),z=[(5,.slice A2 y.length cy),(13,.int .i64 j)]∧j≤x.length∧y.length≤j∧m=x.length - j∧Sep r [] (.sl 3 1 (.slice A2 y.length cy) (y.map ztC)::.sl 3 1 (.slice A x.length cx) (x.map ztC)::.blk gr 75 [.int .i64 V,.int .i64 0,.slice B W.length C]::.blk gs 69 (s.cc c b)::F) w) _ [(5,.slice none 0 0),(13,.int .i64 (0:Nat))] TrF ⟨0,[],none,0,rfl,oM,by simp,rfl,hS.sb⟩ ?_;clear hS;rintro m f1 w _ ⟨j,y,A2,cy,rfl,hj,hyl,rfl,hS⟩
 by_cases hjl:j < x.length
 rotate_left
 ·refine sQ ?_;intro w hS;refine Dnt Tryz.results158 ?_;exact ⟨_,y.length,_,rfl,oM,hS.sb⟩
 obtain ⟨gx,ox,hxe,_,hrx⟩:=(hS.slrows (e:=3) (v:=.slice A x.length cx) AtF).mat oM (q:=j) (by simpa using hjl);subst hxe;have hra2:w.rangeAt gx (ox+j * 1) (ztC x[j]):=by simpa using hrx
 clear hrx;have hkk:=hxk _ (List.getElem_mem hjl);generalize x[j]=k at *;refine sQ ?_;intro w hS;refine cQ (yaQ c s b k _ _ _ hS hv hs (hq.ap [_,_,_,_]) hkk) rfl ?_;clear hS;rintro e w ⟨rfl,hS⟩;refine ⟨_,rfl,?_⟩;generalize celP s k=u at *
 repeat' first|refine K ?_|refine Sa ?_;intro w hS|refine K3 ?_;intro g w hS hge|refine KC ?_ ?_<;>intro hb<;>try exact JX|fail
 ·refine Z.eff (Z.apm (fc:=ztC) (l:=y) (l':=[k]) hS rfl rfl rfl AtF (hS.lit1 AtF rfl rfl) LnF LnF ?_) rfl;clear hS;intro A3 c3 w hS;rw [← List.length_append] at hS ⊢;refine sQ ?_;intro w hS;refine Sh.again (x.length - (j+1)) [(5,_),(13,.int .i64 (j+1:Nat))] ?_;exact ⟨j+1,y++[k],A3,c3,rfl,oM,by simp;omega,rfl,hS.sb⟩
 ·refine Z.eff (Z.apm (fc:=ztC) (l:=y) (l':=[k]) hS rfl rfl rfl AtF (hS.lit1 AtF rfl rfl) LnF LnF ?_) rfl;clear hS;intro A3 c3 w hS;rw [← List.length_append] at hS ⊢;refine sQ ?_;intro w hS;refine Sh.again (x.length - (j+1)) [(5,_),(13,.int .i64 (j+1:Nat))] ?_;exact ⟨j+1,y++[k],A3,c3,rfl,oM,by simp;omega,rfl,hS.sb⟩
 ·refine Sh.again (x.length - (j+1)) [(5,_),(13,.int .i64 (j+1:Nat))] ?_;exact ⟨j+1,y,A2,cy,rfl,oM,oM,rfl,hS.sb⟩
theorem yg8 (c:Cfg) (a:CAd) (s:Sta) (b:SAd) (V tk:Int) (B:Option Addr) (C:Nat) (W:List Wv) (r:World) (F:List Res) (w:World) (hS:Sep r [] F w) (hr:CfR r F c a) (hv:CfgV c) (hs:s.ok c) (hq:StC r F s c b) (hw:WvR r F B C W) (hW:WvK c W) (hnd:(flatW W).Nodup) (hc:0≤s.count∧s.count≤5000) (hV:V≠0) (hcl:∀ x,x∈s.cells→(x.running=0∨x.running=V)∧(x.wanted=0∨x.wanted=V)) :
  Calls Tryz.prog 75 #[c.val a,s.vc c b,.agg #[.int .i64 V,.int .i64 0,.slice B W.length C],.int .i64 tk] w fun y w'=>∃ (e:En) (er:Int),y=.returned (.tuple #[e.val,.int .i64 er])∧(e.kind=0∨((e.kind=10∨e.kind=11)∧e.n=0))∧Sep r [] F w':=by
 have hwn:=hW.n;have hck:=hv.ok.k;have hkl:=hs.kl;refine Z.enter Tryz.func75 Tryz.ntmps75 rfl rfl ?_;refine aQ4 ?_;intro gc gs gr gz w hS;refine cQ (yc0 B C W _ _ _ hS (hw.app [_,_,_,_]) oM (fun x hx=>by have:=hW.l x hx;omega)) rfl ?_;clear hS;rintro e w ⟨A,cx,rfl,_,hS⟩;refine ⟨_,rfl,?_⟩;have hxk:=yc4 hW;have hxl:=ycB hW;generalize hfx:flatW W=x at *;refine sQ ?_;intro w hS;refine Z.lpS [9,11,12,13,18,19,20,21,22,23,24,25,26,27,28,29,30,31,32,33,34,35,36,37,38,39,40,41,42,43,44,45,46,47,48,49,50,51,52,53,54,55,56,57,58,59,60,61,62,63,64,65,66,67,68,69,70,71] (fun m w z=>∃ j:Nat,z=[(18,.int .i64 j)]∧j≤x.length∧m=x.length - j∧Sep r [] (.sl 3 1 (.slice A x.length cx) (x.map ztC)::.blk gz 63 (En.mk 0 0 0 0 0 0 0 0 0).cells::.blk gr 75 [.int .i64 V,.int .i64 0,.slice B W.length C]::.blk gs 69 (s.cc c b)::.blk gc 55 (c.cl a)::F) w) _ [(18,.int .i64 (0:Nat))] TrF ⟨0,rfl,oM,rfl,hS.sb⟩ ?_;clear hS;rintro m f1 w _ ⟨j,rfl,hj,rfl,hS⟩
 by_cases hjl:j < x.length
 rotate_left
 ·refine sQ ?_;intro w hS;refine cQ (yfY c s b V B C W _ _ _ hS hv hs (hq.ap [_,_,_,_,_]) (hw.app [_,_,_,_,_]) hW (hfx ▸ hnd)) rfl ?_;clear hS;rintro e w ⟨A2,n,cap,rfl,hn,hS⟩;refine ⟨_,rfl,?_⟩
  repeat' first|refine K ?_|refine Sa ?_;intro w hS|refine K3 ?_;intro g w hS hge|refine KC ?_ ?_<;>intro hb<;>try exact JX|fail
  all_goals
   refine Dct Tryz.results75 ?_;exact ⟨⟨0,0,0,0,0,0,0,0,0⟩,_,rfl,.inl rfl,hS.sb⟩
 obtain ⟨gx,ox,hxe,_,hrx⟩:=(hS.slrows (e:=3) (v:=.slice A x.length cx) AtF).mat oM (q:=j) (by simpa using hjl);subst hxe;have hra2:w.rangeAt gx (ox+j * 1) (ztC x[j]):=by simpa using hrx
 clear hrx;have hkk:=hxk _ (List.getElem_mem hjl);generalize x[j]=k at *;have hcu:=hcl _ (cel_mem (s:=s) (k:=k) oM);refine sQ ?_;intro w hS;refine cQ (yaQ c s b k _ _ _ hS hv hs (hq.ap [_,_,_,_,_]) hkk) rfl ?_;clear hS;rintro e w ⟨rfl,hS⟩;refine ⟨_,rfl,?_⟩;generalize celP s k=u at *
 repeat' first|refine K ?_|refine Sa ?_;intro w hS|refine K3 ?_;intro g w hS hge|refine KC ?_ ?_<;>intro hb<;>try exact JX|fail
 ·refine rQ (yaZ 10 tk k 0 _ _ _ hS) ?_;intro w hS;refine cQ (yaz c a s b (⟨10,tk,-1,k,-1,0,0,0,0⟩:En) _ _ _ hS (hr.app [_,_,_,_,_,_,_]) hv hs (hq.ap [_,_,_,_,_,_,_]) hc (.inr (.inl rfl))) rfl ?_;clear hS;rintro e w ⟨er,rfl,hS⟩;refine ⟨_,rfl,?_⟩
  by_cases h0:er=0
  ·refine sQ ?_;intro w hS;refine Dct Tryz.results75 ?_;exact ⟨(⟨10,tk,-1,k,-1,0,0,0,0⟩:En),7,rfl,.inr ⟨.inl rfl,by show 0=0;omega⟩,hS.sb⟩
  ·refine sQ ?_;intro w hS;refine Sh.again (x.length - (j+1)) [(18,.int .i64 (j+1:Nat))] ?_;exact ⟨j+1,rfl,oM,rfl,hS.sb⟩
 ·refine rQ (yaZ 10 tk k u.running _ _ _ hS) ?_;intro w hS;refine cQ (yaz c a s b (⟨10,tk,-1,k,-1,0,0,0,u.running⟩:En) _ _ _ hS (hr.app [_,_,_,_,_,_,_]) hv hs (hq.ap [_,_,_,_,_,_,_]) hc (.inr (.inl rfl))) rfl ?_;clear hS;rintro e w ⟨er,rfl,hS⟩;refine ⟨_,rfl,?_⟩
  by_cases h0:er=0
  ·refine sQ ?_;intro w hS;refine Dct Tryz.results75 ?_;exact ⟨(⟨10,tk,-1,k,-1,0,0,0,u.running⟩:En),7,rfl,.inr ⟨.inl rfl,by show u.running=0;omega⟩,hS.sb⟩
  ·refine sQ ?_;intro w hS;refine Sh.again (x.length - (j+1)) [(18,.int .i64 (j+1:Nat))] ?_;exact ⟨j+1,rfl,oM,rfl,hS.sb⟩
 ·refine rQ (yaZ 11 tk k u.wanted _ _ _ hS) ?_;intro w hS;refine cQ (yaz c a s b (⟨11,tk,-1,k,-1,0,0,0,u.wanted⟩:En) _ _ _ hS (hr.app [_,_,_,_,_,_,_]) hv hs (hq.ap [_,_,_,_,_,_,_]) hc (.inr (.inr (.inl rfl)))) rfl ?_;clear hS;rintro e w ⟨er,rfl,hS⟩;refine ⟨_,rfl,?_⟩
  by_cases h0:er=0
  ·refine sQ ?_;intro w hS;refine Dct Tryz.results75 ?_;exact ⟨(⟨11,tk,-1,k,-1,0,0,0,u.wanted⟩:En),7,rfl,.inr ⟨.inr rfl,by show u.wanted=0;omega⟩,hS.sb⟩
  ·refine sQ ?_;intro w hS;refine Sh.again (x.length - (j+1)) [(18,.int .i64 (j+1:Nat))] ?_;exact ⟨j+1,rfl,oM,rfl,hS.sb⟩
 ·refine Sh.again (x.length - (j+1)) [(18,.int .i64 (j+1:Nat))] ?_;exact ⟨j+1,rfl,oM,rfl,hS.sb⟩
end Go.Proofs.YtfmnjbhncnldmaaGreat
