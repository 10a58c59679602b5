import Derived.Test.YtfmnjbhncnldmaaGreatW12
import Derived.Test.YtfmnjbhncnldmaaGreatW15
import Derived.Test.YtfmnjbhncnldmaaGreatW28
set_option maxHeartbeats 8000000
set_option linter.unusedSimpArgs false
set_option linter.unusedVariables false
namespace Go.Proofs.YtfmnjbhncnldmaaGreat
open Go.RowKit
attribute [local irreducible] Res.blk Res.sl Res.all Res.ex Res.pure Res.star
def unpN (s:Sta) (i:Nat):List Int:=((List.range i).filter fun i:Nat=>openK s (celP s i)).map fun i:Nat=>(i:Int)
theorem yge (s:Sta) (i:Nat):unpN s (i+1)=unpN s i++if openK s (celP s (i:Nat)) then [(i:Int)] else []:=by
 unfold unpN;rw [List.range_succ,List.filter_append,List.map_append]
 congr 1
 by_cases h:openK s (celP s (i:Nat))=true
 ·simp [h]
 ·simp [h]
theorem yhp (s:Sta) (i:Nat):(unpN s i).length≤i:=by
 unfold unpN;rw [List.length_map];exact Nat.le_trans (List.length_filter_le _ _) (by simp)
theorem ycv (c:Cfg) (s:Sta) (b:SAd) (r:World) (F:List Res) (w:World) (hS:Sep r [] F w) (hq:StC r F s c b) (hv:CfgV c) (hs:s.ok c) :
  Calls Tryz.prog 26 #[s.vc c b] w fun e w'=>∃ (A:Option Addr) (cap:Nat),e=.returned (.slice A (unpP s).length cap)∧(unpP s).length≤16∧Sep r [] (.sl 3 1 (.slice A (unpP s).length cap) ((unpP s).map ztC)::F) w':=by
 have hk:=hv.ok.k;have hkl:=hs.kl;refine Z.enter Tryz.func26 Tryz.ntmps26 rfl rfl ?_;refine aQ1 ?_;intro gs w hS;replace hS:=Z.nilsl hS 3 1 none;refine Z.lpS [3,4,5,9,10,11,12,13,14,15,16,17,18,19,20,21,22,23,24,25,26,27,28,29,30,31,32] (fun m w z=>∃ (i:Nat) (A:Option Addr) (cap:Nat),z=[(3,.slice A (unpN s i).length cap),(9,.int .i64 i)]∧i≤c.cells.length∧m=c.cells.length - i∧Sep r [] (.sl 3 1 (.slice A (unpN s i).length cap) ((unpN s i).map ztC)::.blk gs 69 (s.cc c b)::F) w) _ [(3,.slice none 0 0),(9,.int .i64 (0:Nat))] TrF ⟨0,none,0,rfl,oM,rfl,hS.sb⟩ ?_;clear hS;rintro m f0 w _ ⟨i,A,cap,rfl,hi,rfl,hS⟩;have hul:=yhp s i
 by_cases hlt:i < c.cells.length
 rotate_left
 ·obtain rfl:i=c.cells.length:=by omega
  have e:unpN s c.cells.length=unpP s:=by unfold unpN unpP;rw [hkl]
  rw [e] at hS hul ⊢;refine sQ ?_;intro w hS;refine Dnt Tryz.results26 ?_;exact ⟨A,cap,rfl,oM,hS.sb⟩
 obtain ⟨gk,o,hA,hra⟩:=yas hq hs [_,_] hS (k:=(i:Nat)) oM;rw [Int.toNat_natCast] at hra;have hsu:=yge s i;unfold openK at hsu;generalize celP s (i:Nat)=x at *;generalize unpN s i=u at *;obtain ⟨sA,sc,qA,qc⟩:=b;simp only at hA;subst hA
 repeat' first|refine K ?_|refine Sa ?_;intro w hS|refine K3 ?_;intro g w hS hge|refine KC ?_ ?_<;>intro hb<;>try exact JX|fail
 refine cQ (yaL s.proven x.running _ _ _ hS) rfl ?_;clear hS;rintro e w ⟨rfl,hS⟩;refine ⟨_,rfl,?_⟩
 cases h1:hasB s.proven x.running
 ·rw [h1] at hsu
  repeat' first|refine K ?_|refine Sa ?_;intro w hS|refine K3 ?_;intro g w hS hge|refine KC ?_ ?_<;>intro hb<;>try exact JX|fail
  refine Z.eff (Z.apm (fc:=ztC) (l:=u) (l':=[(i:Int)]) hS rfl rfl rfl AtF (hS.lit1 AtF rfl rfl) LnF LnF ?_) rfl;clear hS;intro A2 c2 w hS;rw [← List.length_append] at hS ⊢;refine sQ ?_;intro w hS;refine Sh.again (c.cells.length - (i+1)) [(3,_),(9,.int .i64 (i+1:Nat))] ?_;refine ⟨i+1,A2,c2,by rw [hsu];rfl,oM,rfl,?_⟩;rw [hsu];exact hS.sb
 refine sQ ?_;intro w hS;refine cQ (yaL s.proven x.wanted _ _ _ hS) rfl ?_;clear hS;rintro e w ⟨rfl,hS⟩;refine ⟨_,rfl,?_⟩
 cases h2:hasB s.proven x.wanted
 ·rw [h1,h2] at hsu
  repeat' first|refine K ?_|refine Sa ?_;intro w hS|refine K3 ?_;intro g w hS hge|refine KC ?_ ?_<;>intro hb<;>try exact JX|fail
  refine Z.eff (Z.apm (fc:=ztC) (l:=u) (l':=[(i:Int)]) hS rfl rfl rfl AtF (hS.lit1 AtF rfl rfl) LnF LnF ?_) rfl;clear hS;intro A2 c2 w hS;rw [← List.length_append] at hS ⊢;refine sQ ?_;intro w hS;refine Sh.again (c.cells.length - (i+1)) [(3,_),(9,.int .i64 (i+1:Nat))] ?_;refine ⟨i+1,A2,c2,by rw [hsu];rfl,oM,rfl,?_⟩;rw [hsu];exact hS.sb
 ·rw [h1,h2] at hsu;replace hsu:unpN s (i+1)=u:=by rw [hsu];simp
  refine sQ ?_;intro w hS;refine Sh.again (c.cells.length - (i+1)) [(3,_),(9,.int .i64 (i+1:Nat))] ?_;refine ⟨i+1,A,cap,by rw [hsu],oM,rfl,?_⟩;rw [hsu];exact hS.sb
theorem ya0 (c:Cfg) (a:CAd) (n:Int) (r:World) (F:List Res) (w:World) (hS:Sep r [] F w) (hr:CfR r F c a) :
  Calls Tryz.prog 263 #[c.val a,.int .i64 n] w fun e w'=>∃ x:Vs,e=.returned (.agg x.cells.toArray)∧Sep r [] F w':=by
 by_cases h:0≤n∧n < c.versions.length
 ·obtain ⟨q,rfl⟩:=Int.eq_ofNat_of_zero_le h.1;have hq:q < c.versions.length:=by omega
  have hrv:∀ L W,Sep r [] (L++F) W→∃ gb o,a.vA=some ⟨gb,o,none⟩∧W.rangeAt gb (o+q * 2) (c.versions[q]).cells:=fun L W hW=>by
   obtain ⟨gb,o,hA,_,hra⟩:=(hr.v L W hW).mat oM (q:=q) (by simpa using hq);exact ⟨gb,o,hA,by simpa using hra⟩
  obtain ⟨gb,o,hA,_⟩:=hrv [] w hS;have hr2:∀ L W,Sep r [] (L++F) W→W.rangeAt gb (o+q * 2) (c.versions[q]).cells:=fun L W hW=>by
   obtain ⟨gb',o',hA',hra⟩:=hrv L W hW;rw [hA] at hA';simp only [Option.some.injEq,Addr.mk.injEq] at hA';obtain ⟨rfl,rfl,_⟩:=hA';exact hra
  clear hrv;generalize c.versions[q]=x at *;obtain ⟨zA,zc,kA,kc,tA,tc,vA,vc,rA,rc,oA,oc⟩:=a;simp only at hA;subst hA;refine Z.enter Tryz.func263 Tryz.ntmps263 rfl rfl ?_
  repeat' first|refine K ?_|refine Sa ?_;intro w hS|refine K3 ?_;intro g w hS hge|refine KC ?_ ?_<;>intro hb<;>try exact JX|fail
  have hra:=hr2 [_,_] _ hS;refine sQ ?_;intro w hS;refine Dnc Tryz.results263 ?_;exact ⟨x,rfl,hS.sb⟩
 ·refine Z.enter Tryz.func263 Tryz.ntmps263 rfl rfl ?_
  repeat' first|refine K ?_|refine Sa ?_;intro w hS|refine K3 ?_;intro g w hS hge|refine KC ?_ ?_<;>intro hb<;>try exact JX|fail
  all_goals
   refine Dnc Tryz.results263 ?_;exact ⟨⟨0,0⟩,rfl,hS.sb⟩
theorem yhn (c:Cfg) (a:CAd) (s:Sta) (b:SAd) (e:En) (r:World) (F:List Res) (w:World) (hS:Sep r [] F w) (hr:CfR r F c a) (hv:CfgV c) (hs:s.ok c) (hq:StC r F s c b) (hk:0≤e.cell∧e.cell < c.cells.length) :
  Calls Tryz.prog 172 #[c.val a,s.vc c b,e.val] w fun x w'=>∃ er:Int,x=.returned (.int .i64 er)∧Sep r [] F w':=by
 have hkn:=hv.ok.k;have hkl:=hs.kl;refine Z.enter Tryz.func172 Tryz.ntmps172 rfl rfl ?_;refine aQ3 ?_;intro gc gs ge w hS;obtain ⟨gk,o,hA,_⟩:=yas hq hs [_,_,_] hS hk;have hra:∀ L W,Sep r [] (L++F) W→W.rangeAt gk (o+e.cell.toNat * 4) (celP s e.cell).cells:=fun L W hW=>at_cp hq hs L hW hA hk
 have hun:=fun (L:List Res) (W:World) (hW:Sep r [] (L++F) W)=>ycv c s b r (L++F) W hW (hq.ap L) hv hs
 generalize celP s e.cell=x at *;obtain ⟨sA,sc,qA,qc⟩:=b;simp only at hA;subst hA;refine Z.cut [7,8,12,13,14,15,16,17,18,19,20,21] (fun w z=>∃ (g7 g8:Nat) (y:Vs),z=[(7,.pointer (some ⟨g7,0,none⟩)),(8,.pointer (some ⟨g8,0,none⟩))]∧Sep r [] (.blk g7 186 x.cells::.blk g8 172 y.cells::.blk ge 63 e.cells::.blk gs 69 (s.cc c ⟨sA,sc,some ⟨gk,o,none⟩,qc⟩)::.blk gc 55 (c.cl a)::F) w) ?_ ?_
 ·refine D.startS (Lr:=(.blk ge 63 e.cells::.blk gs 69 (s.cc c ⟨sA,sc,some ⟨gk,o,none⟩,qc⟩)::.blk gc 55 (c.cl a)::F)) (hS.sb) 13 14 kR rfl ?_;replace hS:=hS.drew;refine Sh.dp 0 1 ?_;refine Sh.dp 2 5 ?_;refine Sh.dp 7 133 ?_;refine Sh.dl 1 135 ?_;refine Sh.dl 3 143 ?_
  first|refine D.ixn 4 159 rfl D.wantedN kR rfl rfl rfl oM ?_|refine D.ix 4 159 rfl D.wantedN kR rfl rfl rfl oM ?_|refine D.ia 4 159 rfl D.wantedN kR rfl rfl rfl oM ?_
  refine D.ldR 5 191 rfl D.wantedN kR rfl (hra [_,_,_]) rfl ?_;refine Sh.dl 6 255 ?_;refine Sh.dl 8 511 ?_;refine D.each [9,10,11] kR rfl ?_;refine D.econs 9 1023 rfl D.wantedN kR (fun _ _ h=>h) ?_ ?_
  ·refine Z.cl (ya0 c a e.n _ _ _ hS (by first|exact hr.app [_,_,_]|exact hr.app [_,_,_,_]|exact hr.app [_,_,_,_,_])) rfl ?_;clear hS;rintro e w ⟨y,rfl,hS⟩;refine ⟨_,rfl,?_⟩;refine HMs ?_;refine D.each [10,11] kR rfl ?_;refine D.econs 10 2047 rfl D.wantedN kR (fun _ _ h=>h) ?_ ?_
   ·refine Z.al hS ?_;clear hS;intro g w hS hge;refine HMs ?_;refine D.ef 11 4095 ?_;refine Z.al hS ?_;clear hS;intro g w hS hge;refine HMs ?_;refine D.ef 12 8191 ?_;refine Z.st hS rfl AtF rfl rfl ?_;clear hS;intro w hS;refine HMs ?_;refine D.ef 13 16383 ?_;refine Z.st hS rfl AtF rfl rfl ?_;clear hS;intro w hS;refine HMl ?_;refine D.dn ?_;refine Sh.cut [(7,_),(8,_)] ?_;exact ⟨_,_,_,rfl,hS.sb⟩
   refine D.econs 11 3071 rfl D.wantedN kR (fun _ _ h=>h) ?_ ?_
   ·refine Z.al hS ?_;clear hS;intro g w hS hge;refine HMs ?_;refine D.ef 10 4095 ?_;refine Z.al hS ?_;clear hS;intro g w hS hge;refine HMs ?_;refine D.ef 12 8191 ?_;refine Z.st hS rfl AtF rfl rfl ?_;clear hS;intro w hS;refine HMs ?_;refine D.ef 13 16383 ?_;refine Z.st hS rfl AtF rfl rfl ?_;clear hS;intro w hS;refine HMl ?_;refine D.dn ?_;refine Sh.cut [(7,_),(8,_)] ?_;exact ⟨_,_,_,rfl,hS.sb⟩
   exact D.enil
  refine D.econs 10 1535 rfl D.wantedN kR (fun _ _ h=>h) ?_ ?_
  ·refine Z.al hS ?_;clear hS;intro g w hS hge;refine HMs ?_;refine D.each [9,11] kR rfl ?_;refine D.econs 9 2047 rfl D.wantedN kR (fun _ _ h=>h) ?_ ?_
   ·refine Z.cl (ya0 c a e.n _ _ _ hS (by first|exact hr.app [_,_,_]|exact hr.app [_,_,_,_]|exact hr.app [_,_,_,_,_])) rfl ?_;clear hS;rintro e w ⟨y,rfl,hS⟩;refine ⟨_,rfl,?_⟩;refine HMs ?_;refine D.ef 11 4095 ?_;refine Z.al hS ?_;clear hS;intro g w hS hge;refine HMs ?_;refine D.ef 12 8191 ?_;refine Z.st hS rfl AtF rfl rfl ?_;clear hS;intro w hS;refine HMs ?_;refine D.ef 13 16383 ?_;refine Z.st hS rfl AtF rfl rfl ?_;clear hS;intro w hS;refine HMl ?_;refine D.dn ?_;refine Sh.cut [(7,_),(8,_)] ?_;exact ⟨_,_,_,rfl,hS.sb⟩
   refine D.econs 11 3583 rfl D.wantedN kR (fun _ _ h=>h) ?_ ?_
   ·refine Z.al hS ?_;clear hS;intro g w hS hge;refine HMs ?_;refine D.ef 9 4095 ?_;refine Z.cl (ya0 c a e.n _ _ _ hS (by first|exact hr.app [_,_,_]|exact hr.app [_,_,_,_]|exact hr.app [_,_,_,_,_])) rfl ?_;clear hS;rintro e w ⟨y,rfl,hS⟩;refine ⟨_,rfl,?_⟩;refine HMs ?_;refine D.ef 12 8191 ?_;refine Z.st hS rfl AtF rfl rfl ?_;clear hS;intro w hS;refine HMs ?_;refine D.ef 13 16383 ?_;refine Z.st hS rfl AtF rfl rfl ?_;clear hS;intro w hS;refine HMl ?_;refine D.dn ?_;refine Sh.cut [(7,_),(8,_)] ?_;exact ⟨_,_,_,rfl,hS.sb⟩
   exact D.enil
  refine D.econs 11 2559 rfl D.wantedN kR (fun _ _ h=>h) ?_ ?_
  ·refine Z.al hS ?_;clear hS;intro g w hS hge;refine HMs ?_;refine D.each [9,10] kR rfl ?_;refine D.econs 9 3071 rfl D.wantedN kR (fun _ _ h=>h) ?_ ?_
   ·refine Z.cl (ya0 c a e.n _ _ _ hS (by first|exact hr.app [_,_,_]|exact hr.app [_,_,_,_]|exact hr.app [_,_,_,_,_])) rfl ?_;clear hS;rintro e w ⟨y,rfl,hS⟩;refine ⟨_,rfl,?_⟩;refine HMs ?_;refine D.ef 10 4095 ?_;refine Z.al hS ?_;clear hS;intro g w hS hge;refine HMs ?_;refine D.ef 12 8191 ?_;refine Z.st hS rfl AtF rfl rfl ?_;clear hS;intro w hS;refine HMs ?_;refine D.ef 13 16383 ?_;refine Z.st hS rfl AtF rfl rfl ?_;clear hS;intro w hS;refine HMl ?_;refine D.dn ?_;refine Sh.cut [(7,_),(8,_)] ?_;exact ⟨_,_,_,rfl,hS.sb⟩
   refine D.econs 10 3583 rfl D.wantedN kR (fun _ _ h=>h) ?_ ?_
   ·refine Z.al hS ?_;clear hS;intro g w hS hge;refine HMs ?_;refine D.ef 9 4095 ?_;refine Z.cl (ya0 c a e.n _ _ _ hS (by first|exact hr.app [_,_,_]|exact hr.app [_,_,_,_]|exact hr.app [_,_,_,_,_])) rfl ?_;clear hS;rintro e w ⟨y,rfl,hS⟩;refine ⟨_,rfl,?_⟩;refine HMs ?_;refine D.ef 12 8191 ?_;refine Z.st hS rfl AtF rfl rfl ?_;clear hS;intro w hS;refine HMs ?_;refine D.ef 13 16383 ?_;refine Z.st hS rfl AtF rfl rfl ?_;clear hS;intro w hS;refine HMl ?_;refine D.dn ?_;refine Sh.cut [(7,_),(8,_)] ?_;exact ⟨_,_,_,rfl,hS.sb⟩
   exact D.enil
  exact D.enil
 clear hS;rintro f0 w _ ⟨g7,g8,y,rfl,hS⟩
 by_cases h1:x.wanted=e.n
 ·refine sQ ?_;intro w hS;refine Dnt Tryz.results172 ?_;exact ⟨_,rfl,hS.sb⟩
 by_cases h2:s.low < y.low
 ·refine sQ ?_;intro w hS;refine Dnt Tryz.results172 ?_;exact ⟨_,rfl,hS.sb⟩
 by_cases h3:y.high < s.high
 ·refine sQ ?_;intro w hS;refine Dnt Tryz.results172 ?_;exact ⟨_,rfl,hS.sb⟩
 by_cases h4:x.running=e.n
 ·refine sQ ?_;intro w hS;refine Dnt Tryz.results172 ?_;exact ⟨_,rfl,hS.sb⟩
 refine sQ ?_;intro w hS;refine cQ (yaL s.proven e.n _ _ _ hS) rfl ?_;clear hS;rintro e w ⟨rfl,hS⟩;refine ⟨_,rfl,?_⟩
 cases hasB s.proven e.n
 rotate_left
 ·refine sQ ?_;intro w hS;refine Dnt Tryz.results172 ?_;exact ⟨_,rfl,hS.sb⟩
 by_cases h5:s.evac=0
 rotate_left
 ·refine sQ ?_;intro w hS;refine Dnt Tryz.results172 ?_;exact ⟨_,rfl,hS.sb⟩
 refine sQ ?_;intro w hS;refine cQ (hun [_,_,_,_,_] _ hS) rfl ?_;clear hS;rintro e w ⟨A,cap,rfl,hul,hS⟩;refine ⟨_,rfl,?_⟩;replace hS:=hS.sub (L':=.sl 3 1 (.slice A (unpP s).length cap) ((unpP s).map ztC)::.blk ge 63 e.cells::.blk gs 69 (s.cc c ⟨sA,sc,some ⟨gk,o,none⟩,qc⟩)::.blk gc 55 (c.cl a)::F) SuF;refine sQ ?_;intro w hS;refine Z.lpS [9,11,57,58,59,60,61,62,63,64,65,66,67] (fun m w z=>∃ (i n:Nat),z=[(9,.int .i64 n),(57,.int .i64 i)]∧i≤(unpP s).length∧n≤i∧m=(unpP s).length - i∧Sep r [] (.sl 3 1 (.slice A (unpP s).length cap) ((unpP s).map ztC)::.blk ge 63 e.cells::.blk gs 69 (s.cc c ⟨sA,sc,some ⟨gk,o,none⟩,qc⟩)::.blk gc 55 (c.cl a)::F) w) _ [(9,.int .i64 (0:Nat)),(57,.int .i64 (0:Nat))] TrF ⟨0,0,rfl,oM,oM,rfl,hS⟩ ?_;clear hS;rintro m f1 w _ ⟨i,n,rfl,hi,hn,rfl,hS⟩
 by_cases hlt:i < (unpP s).length
 ·obtain ⟨gu,ou,hAe,_,hru⟩:=(hS.slrows (e:=3) (v:=.slice A (unpP s).length cap) AtF).mat oM (q:=i) (by simpa using hlt);subst hAe;have hru2:w.rangeAt gu (ou+i * 1) (ztC (unpP s)[i]):=by simpa using hru
  clear hru;generalize (unpP s)[i]=y9 at *
  by_cases h9:y9=e.cell
  ·refine sQ ?_;intro w hS;refine Sh.again ((unpP s).length - (i+1)) [(9,.int .i64 n),(57,.int .i64 (i+1:Nat))] ?_;exact ⟨i+1,n,rfl,oM,oM,rfl,hS.sb⟩
  ·refine sQ ?_;intro w hS;refine Sh.again ((unpP s).length - (i+1)) [(9,.int .i64 (n+1:Nat)),(57,.int .i64 (i+1:Nat))] ?_;exact ⟨i+1,n+1,rfl,oM,oM,rfl,hS.sb⟩
 by_cases h6:c.blast≤(n:Int)
 ·refine sQ ?_;intro w hS;refine Dnt Tryz.results172 ?_;exact ⟨_,rfl,hS.sb⟩
 ·refine sQ ?_;intro w hS;refine Dnt Tryz.results172 ?_;exact ⟨_,rfl,hS.sb⟩
theorem yhm (c:Cfg) (a:CAd) (s:Sta) (b:SAd) (e:En) (r:World) (F:List Res) (w:World) (hS:Sep r [] F w) (hr:CfR r F c a) (hv:CfgV c) (hs:s.ok c) (hq:StC r F s c b) (hk:0≤e.cell∧e.cell < c.cells.length) :
  Calls Tryz.prog 173 #[s.vc c b,e.val] w fun x w'=>∃ er:Int,x=.returned (.int .i64 er)∧Sep r [] F w':=by
 have hkn:=hv.ok.k;have hkl:=hs.kl;have htn:=hv.ok.t;have htl:=hs.tl;obtain ⟨gk,o,hA,_⟩:=yas hq hs [] hS hk;have hra:∀ L W,Sep r [] (L++F) W→W.rangeAt gk (o+e.cell.toNat * 4) (celP s e.cell).cells:=fun L W hW=>at_cp hq hs L hW hA hk
 have hrt:=fun (k:Nat) (h:k < c.tenants.length) (L:List Res) (W:World) (hW:Sep r [] (L++F) W)=>ya9 hq hs L hW (k:=(k:Nat)) oM
 generalize celP s e.cell=x at *;obtain ⟨sA,sc,qA,qc⟩:=b;simp only at hA hrt;subst hA;refine Z.enter Tryz.func173 Tryz.ntmps173 rfl rfl ?_
 repeat' (first|refine Kn ?_|(refine Sh.sa hS ?_;clear hS;intro w hS)|(refine K3 ?_;clear hS;intro g w hS hge)|(refine KB ?_ ?_<;>intro hb<;>(try simp only [JJ] at hb)<;>(try exact JX))|fail)
 refine Z.thN ?_;rename_i gs _ _;rename Nat=>ge;have hra1:=hra [_,_] _ hS
 repeat' (first|refine Kn ?_|(refine Sh.sa hS ?_;clear hS;intro w hS)|(refine K3 ?_;clear hS;intro g w hS hge)|(refine KB ?_ ?_<;>intro hb<;>(try simp only [JJ] at hb)<;>(try exact JX))|fail)
 refine Z.thN ?_;rename Nat=>g5;refine Z.seq ?_;refine Z.cut [4,14,15,16,17,18,19,20,21,22,23,24,25,26,27,28,29,30,31,32,33,34,35,36] (fun w z=>z=[]∧Sep r [] (.blk ge 63 e.cells::.blk gs 69 (s.cc c ⟨sA,sc,some ⟨gk,o,none⟩,qc⟩)::F) w) ?_ ?_
 ·by_cases h1:x.wanted=e.n
  rotate_left
  ·refine sQ ?_;intro w hS;refine Dnt Tryz.results173 ?_;exact ⟨_,rfl,hS.sb⟩
  by_cases h2:x.running=x.wanted
  ·refine sQ ?_;intro w hS;refine Dnt Tryz.results173 ?_;exact ⟨_,rfl,hS.sb⟩
  refine sQ ?_;intro w hS;refine cQ (yaL s.proven e.n _ _ _ hS) rfl ?_;clear hS;rintro e w ⟨rfl,hS⟩;refine ⟨_,rfl,?_⟩
  cases hasB s.proven e.n
  rotate_left
  ·refine sQ ?_;intro w hS;refine Sh.cut [] ?_;exact ⟨rfl,hS.sb⟩
  by_cases h3:s.evac=0
  ·refine sQ ?_;intro w hS;refine Sh.cut [] ?_;exact ⟨rfl,hS.sb⟩
  ·refine sQ ?_;intro w hS;refine Dnt Tryz.results173 ?_;exact ⟨_,rfl,hS.sb⟩
 clear hS;rintro f0 w _ ⟨rfl,hS⟩;refine sQ ?_;intro w hS;refine Z.lpS [4,7,40,41,42,43,44,45,46,47,48,49,50,51,52,53,54,55,56,57,58] (fun m w z=>∃ (i:Nat),z=[(40,.int .i64 i)]∧i≤c.tenants.length∧m=c.tenants.length - i∧Sep r [] (.blk ge 63 e.cells::.blk gs 69 (s.cc c ⟨sA,sc,some ⟨gk,o,none⟩,qc⟩)::F) w) _ [(40,.int .i64 (0:Nat))] TrF ⟨0,rfl,oM,rfl,hS.sb⟩ ?_;clear hS;rintro m f1 w _ ⟨i,rfl,hi,rfl,hS⟩
 by_cases hlt:i < c.tenants.length
 rotate_left
 ·refine sQ ?_;intro w hS;refine Dnt Tryz.results173 ?_;exact ⟨_,rfl,hS.sb⟩
 obtain ⟨gt,ot,hAt,hra4⟩:=hrt i hlt [_,_] w hS;subst hAt;rw [Int.toNat_natCast] at hra4;generalize tenP s (i:Nat)=y at *
 by_cases h3:y.w.cell=e.cell
 rotate_left
 ·repeat' first|refine K ?_|refine Sa ?_;intro w hS|refine K3 ?_;intro g w hS hge|refine KC ?_ ?_<;>intro hb<;>try exact JX|fail
  refine Sh.again (c.tenants.length - (i+1)) [(40,.int .i64 (i+1:Nat))] ?_;exact ⟨i+1,rfl,oM,rfl,hS.sb⟩
 by_cases h4:e.tick < y.w.until_
 ·repeat' first|refine K ?_|refine Sa ?_;intro w hS|refine K3 ?_;intro g w hS hge|refine KC ?_ ?_<;>intro hb<;>try exact JX|fail
  refine Dnt Tryz.results173 ?_;exact ⟨_,rfl,hS.sb⟩
 ·repeat' first|refine K ?_|refine Sa ?_;intro w hS|refine K3 ?_;intro g w hS hge|refine KC ?_ ?_<;>intro hb<;>try exact JX|fail
  refine Sh.again (c.tenants.length - (i+1)) [(40,.int .i64 (i+1:Nat))] ?_;exact ⟨i+1,rfl,oM,rfl,hS.sb⟩
theorem yga (c:Cfg) (a:CAd) (s:Sta) (b:SAd) (e:En) (r:World) (F:List Res) (w:World) (hS:Sep r [] F w) (hr:CfR r F c a) (hv:CfgV c) (hs:s.ok c) (hq:StC r F s c b) :
  Calls Tryz.prog 174 #[c.val a,s.vc c b,e.val] w fun x w'=>∃ er:Int,x=.returned (.int .i64 er)∧Sep r [] F w':=by
 have hkn:=hv.ok.k;have hkl:=hs.kl;refine Z.enter Tryz.func174 Tryz.ntmps174 rfl rfl ?_;refine aQ3 ?_;intro gc gs ge w hS;refine cQ (yaL s.proven e.n _ _ _ hS) rfl ?_;clear hS;rintro e w ⟨rfl,hS⟩;refine ⟨_,rfl,?_⟩
 cases hasB s.proven e.n
 rotate_left
 ·refine sQ ?_;intro w hS;refine Dnt Tryz.results174 ?_;exact ⟨_,rfl,hS.sb⟩
 refine sQ ?_;intro w hS;refine Z.lpS [6,8,17,18,19,20,21,22,23,24,25,26,27,28,29,30,31,32,33,34,35,36,37,38,39,40,41,42,43,44,45,46,47,48] (fun m w z=>∃ (i:Nat),z=[(17,.int .i64 i)]∧i≤c.cells.length∧m=c.cells.length - i∧Sep r [] (.blk ge 63 e.cells::.blk gs 69 (s.cc c b)::.blk gc 55 (c.cl a)::F) w) _ [(17,.int .i64 (0:Nat))] TrF ⟨0,rfl,oM,rfl,hS.sb⟩ ?_;clear hS;rintro m f1 w _ ⟨i,rfl,hi,rfl,hS⟩
 by_cases hlt:i < c.cells.length
 rotate_left
 ·refine sQ ?_;intro w hS;refine Dnt Tryz.results174 ?_;exact ⟨_,rfl,hS.sb⟩
 obtain ⟨gk,o,hA,hra⟩:=yas hq hs [_,_,_] hS (k:=(i:Nat)) oM;rw [Int.toNat_natCast] at hra;generalize celP s (i:Nat)=x at *;obtain ⟨sA,sc,qA,qc⟩:=b;simp only at hA;subst hA
 by_cases h1:x.mode=3
 ·repeat' first|refine K ?_|refine Sa ?_;intro w hS|refine K3 ?_;intro g w hS hge|refine KC ?_ ?_<;>intro hb<;>try exact JX|fail
  refine Sh.again (c.cells.length - (i+1)) [(17,.int .i64 (i+1:Nat))] ?_;exact ⟨i+1,rfl,oM,rfl,hS.sb⟩
 by_cases h2:x.running=e.n
 rotate_left
 ·repeat' first|refine K ?_|refine Sa ?_;intro w hS|refine K3 ?_;intro g w hS hge|refine KC ?_ ?_<;>intro hb<;>try exact JX|fail
  refine Sh.again (c.cells.length - (i+1)) [(17,.int .i64 (i+1:Nat))] ?_;exact ⟨i+1,rfl,oM,rfl,hS.sb⟩
 by_cases h3:x.wanted=e.n
 rotate_left
 ·repeat' first|refine K ?_|refine Sa ?_;intro w hS|refine K3 ?_;intro g w hS hge|refine KC ?_ ?_<;>intro hb<;>try exact JX|fail
  refine Sh.again (c.cells.length - (i+1)) [(17,.int .i64 (i+1:Nat))] ?_;exact ⟨i+1,rfl,oM,rfl,hS.sb⟩
 by_cases h4:c.bake≤IntKind.i64.wrap (e.tick - x.since)
 ·repeat' (first|refine Kw ?_|(refine Sh.sa hS ?_;clear hS;intro w hS)|(refine K3 ?_;clear hS;intro g w hS hge)|(refine KB ?_ ?_<;>intro hb<;>(try simp only [JJ] at hb)<;>(try exact JX))|fail)
  refine Dnt Tryz.results174 ?_;exact ⟨_,rfl,hS.sb⟩
 ·repeat' (first|refine Kw ?_|(refine Sh.sa hS ?_;clear hS;intro w hS)|(refine K3 ?_;clear hS;intro g w hS hge)|(refine KB ?_ ?_<;>intro hb<;>(try simp only [JJ] at hb)<;>(try exact JX))|fail)
  refine Sh.again (c.cells.length - (i+1)) [(17,.int .i64 (i+1:Nat))] ?_;exact ⟨i+1,rfl,oM,rfl,hS.sb⟩
end Go.Proofs.YtfmnjbhncnldmaaGreat
