import Derived.Test.YtfmnjbhncnldmaaGreatW04
set_option maxHeartbeats 4000000
set_option linter.unusedSimpArgs false
set_option linter.unusedVariables false
namespace Go.Proofs.YtfmnjbhncnldmaaGreat
open Go.RowKit
attribute [local irreducible] Res.blk Res.sl Res.all Res.ex Res.pure Res.star
structure CfgV (c:Cfg):Prop where
 ok:c.ok
 zr:∀ z,z∈c.zones→0≤z∧z < c.regions
 kc:∀ x,x∈c.cells→1≤x.cap∧x.cap≤4194304
 rl:1≤c.replicas.length∧c.replicas.length≤5∧c.replicas.length % 2=1
 ol:1≤c.observers.length∧c.observers.length≤9
 rz:∀ z,z∈c.replicas→0≤z∧z < c.zones.length
 oz:∀ z,z∈c.observers→0≤z∧z < c.zones.length
 vs:∀ i (h:i < c.versions.length),0≤c.versions[i].low∧c.versions[i].low≤c.versions[i].high∧c.versions[i].high≤30∧(i=0→c.versions[i].low=0)
 tn:∀ t,t∈c.tenants→(1≤t.load∧t.load≤65536)∧(0≤t.shadow∧t.shadow≤t.load)∧(0≤t.prio∧t.prio≤9)∧(-1≤t.lag∧t.lag≤1000)∧(1≤t.allowed∧t.allowed≤2 ^ c.regions.toNat - 1)∧(0≤t.group∧t.group≤32)
structure CfA (r:World) (F:List Res) (c:Cfg) (a:CAd):Prop where
 cf:CfR r F c a
 rp:Reads r F 1 (.slice a.rA c.replicas.length a.rc) (c.replicas.map ztC)
 ob:Reads r F 1 (.slice a.oA c.observers.length a.oc) (c.observers.map ztC)
theorem CfA.cons {r:World} {F:List Res} {c:Cfg} {a:CAd} (h:CfA r F c a) (R:Res):CfA r (R::F) c a:=⟨h.cf.cons R,h.rp.cons R,h.ob.cons R⟩
theorem CfA.app {r:World} {F:List Res} {c:Cfg} {a:CAd} (h:CfA r F c a) (L:List Res):CfA r (L++F) c a:=⟨h.cf.app L,h.rp.app L,h.ob.app L⟩
theorem within_y (k lo hi:Int) (h:lo≤k∧k≤hi) (r:World) (F:List Res) (w:World) (hS:Sep r [] F w) :
  Calls Tryz.prog 182 #[.int .i64 k,.int .i64 lo,.int .i64 hi] w fun e w'=>e=.returned (.bool true)∧Sep r [] F w':=by
 have:=yaS k lo hi r F w hS;rw [decide_eq_true h] at this;exact this
section
variable (c:Cfg) (a:CAd) (r:World) (F:List Res) (w:World) (hS:Sep r [] F w) (hr:CfA r F c a) (hv:CfgV c)
include hS hv
theorem ye3:Calls Tryz.prog 211 #[c.val a] w fun e w'=>e=.returned (.bool true)∧Sep r [] F w':=by
 have h1:=hv.ok.r;have h2:=hv.ok.z;have h3:=hv.ok.k;have h4:=hv.ok.v;have h5:=hv.rl;have h6:=hv.ol;have h7:=hv.ok.t;refine Z.enter Tryz.func211 Tryz.ntmps211 rfl rfl ?_;refine aQ1 ?_;intro g w hS;refine cQ (within_y _ 1 4 oM _ _ _ hS) rfl ?_;clear hS;rintro e w ⟨rfl,hS⟩;refine eQ ?_;intro w hS;refine cQ (within_y _ 1 8 oM _ _ _ hS) rfl ?_;clear hS;rintro e w ⟨rfl,hS⟩;refine eQ ?_;intro w hS;refine cQ (within_y _ 1 16 oM _ _ _ hS) rfl ?_;clear hS;rintro e w ⟨rfl,hS⟩;refine eQ ?_;intro w hS;refine cQ (within_y _ 1 30 oM _ _ _ hS) rfl ?_;clear hS;rintro e w ⟨rfl,hS⟩;refine eQ ?_;intro w hS;refine cQ (within_y _ 1 5 oM _ _ _ hS) rfl ?_;clear hS;rintro e w ⟨rfl,hS⟩;refine eQ ?_;intro w hS;refine cQ (within_y _ 1 9 oM _ _ _ hS) rfl ?_;clear hS;rintro e w ⟨rfl,hS⟩;refine eQ ?_;intro w hS;refine Dnt Tryz.results211 ?_;exact ⟨by simp [Z.packR];omega,hS.sb⟩
include hr
theorem ygb:Calls Tryz.prog 212 #[c.val a] w fun e w'=>e=.returned (.bool true)∧Sep r [] F w':=by
 have h1:=hv.ok.r;have h2:=hv.ok.z;have h3:=hv.ok.k;have h5:=hv.rl;have h6:=hv.ol;obtain ⟨zA,zc,kA,kc,tA,tc,vA,vc,rA,rc,oA,oc⟩:=a;have hrz:=hr.cf.z;have hrk:=hr.cf.k;have hrr:=hr.rp;have hro:=hr.ob;refine Z.enter Tryz.func212 Tryz.ntmps212 rfl rfl ?_;refine aQ1 ?_;intro g w hS;refine Z.lpS [2,4,15,16,17,18,19,20,21,22,23,24,25,26] (fun m w z=>∃ i:Nat,z=[(15,.int .i64 i)]∧i≤c.zones.length∧m=c.zones.length - i∧Sep r [] (.blk g 55 (c.cl (⟨zA,zc,kA,kc,tA,tc,vA,vc,rA,rc,oA,oc⟩:CAd))::F) w) _ [(15,.int .i64 (0:Nat))] TrF ⟨0,rfl,oM,rfl,hS⟩ ?_;clear hS;rintro m f0 w _ ⟨i,rfl,hi,rfl,hS⟩
 by_cases hlt:i < c.zones.length
 ·obtain ⟨gb,ob,hA,_,hra⟩:=(hrz [_] w hS).mat oM (q:=i) (by simpa using hlt);simp only at hA;subst hA;have hra2:w.rangeAt gb (ob+i * 1) (ztC c.zones[i]):=by simpa using hra
  have hz:=hv.zr _ (List.getElem_mem hlt);generalize c.zones[i]=y at *;clear hra
  repeat' first|refine K ?_|refine Sa ?_;clear hS;intro w hS|refine K3 ?_;clear hS;intro g w hS hge|refine KC ?_ ?_<;>intro hb<;>try exact JX|fail
  refine cQ (within_y _ 0 _ oM _ _ _ hS) rfl ?_;clear hS;rintro e w ⟨rfl,hS⟩;refine eQ ?_;intro w hS;refine Sh.again (c.zones.length - (i+1)) [(15,.int .i64 (i+1:Nat))] ?_;exact ⟨i+1,rfl,oM,rfl,hS.sb⟩
 refine sQ ?_;intro w hS;refine Z.lpS [2,7,34,35,36,37,38,39,40,41,42,43] (fun m w z=>∃ i:Nat,z=[(34,.int .i64 i)]∧i≤c.cells.length∧m=c.cells.length - i∧Sep r [] (.blk g 55 (c.cl (⟨zA,zc,kA,kc,tA,tc,vA,vc,rA,rc,oA,oc⟩:CAd))::F) w) _ [(34,.int .i64 (0:Nat))] TrF ⟨0,rfl,oM,rfl,hS⟩ ?_;clear hS;rintro m f1 w _ ⟨i,rfl,hi,rfl,hS⟩
 by_cases hlt:i < c.cells.length
 ·obtain ⟨gb,ob,hA,_,hra⟩:=(hrk [_] w hS).mat oM (q:=i) (by simpa using hlt);simp only at hA;subst hA;have hra2:w.rangeAt gb (ob+i * 2) c.cells[i].cells:=by simpa using hra
  have hz:=hv.ok.kz _ (List.getElem_mem hlt);generalize c.cells[i]=y at *;clear hra
  repeat' first|refine K ?_|refine Sa ?_;clear hS;intro w hS|refine K3 ?_;clear hS;intro g w hS hge|refine KC ?_ ?_<;>intro hb<;>try exact JX|fail
  refine cQ (within_y _ 0 _ oM _ _ _ hS) rfl ?_;clear hS;rintro e w ⟨rfl,hS⟩;refine eQ ?_;intro w hS;refine Sh.again (c.cells.length - (i+1)) [(34,.int .i64 (i+1:Nat))] ?_;exact ⟨i+1,rfl,oM,rfl,hS.sb⟩
 refine sQ ?_;intro w hS;refine Z.lpS [2,9,47,48,49,50,51,52,53,54,55] (fun m w z=>∃ i:Nat,z=[(47,.int .i64 i)]∧i≤c.replicas.length∧m=c.replicas.length - i∧Sep r [] (.blk g 55 (c.cl (⟨zA,zc,kA,kc,tA,tc,vA,vc,rA,rc,oA,oc⟩:CAd))::F) w) _ [(47,.int .i64 (0:Nat))] TrF ⟨0,rfl,oM,rfl,hS⟩ ?_;clear hS;rintro m f1 w _ ⟨i,rfl,hi,rfl,hS⟩
 by_cases hlt:i < c.replicas.length
 ·obtain ⟨gb,ob,hA,_,hra⟩:=(hrr [_] w hS).mat oM (q:=i) (by simpa using hlt);simp only at hA;subst hA;have hra2:w.rangeAt gb (ob+i * 1) (ztC c.replicas[i]):=by simpa using hra
  have hz:=hv.rz _ (List.getElem_mem hlt);generalize c.replicas[i]=y at *;clear hra;refine sQ ?_;intro w hS;refine cQ (within_y _ 0 _ oM _ _ _ hS) rfl ?_;clear hS;rintro e w ⟨rfl,hS⟩;refine eQ ?_;intro w hS;refine Sh.again (c.replicas.length - (i+1)) [(47,.int .i64 (i+1:Nat))] ?_;exact ⟨i+1,rfl,oM,rfl,hS.sb⟩
 refine sQ ?_;intro w hS;refine Z.lpS [2,11,59,60,61,62,63,64,65,66,67] (fun m w z=>∃ i:Nat,z=[(59,.int .i64 i)]∧i≤c.observers.length∧m=c.observers.length - i∧Sep r [] (.blk g 55 (c.cl (⟨zA,zc,kA,kc,tA,tc,vA,vc,rA,rc,oA,oc⟩:CAd))::F) w) _ [(59,.int .i64 (0:Nat))] TrF ⟨0,rfl,oM,rfl,hS⟩ ?_;clear hS;rintro m f1 w _ ⟨i,rfl,hi,rfl,hS⟩
 by_cases hlt:i < c.observers.length
 ·obtain ⟨gb,ob,hA,_,hra⟩:=(hro [_] w hS).mat oM (q:=i) (by simpa using hlt);simp only at hA;subst hA;have hra2:w.rangeAt gb (ob+i * 1) (ztC c.observers[i]):=by simpa using hra
  have hz:=hv.oz _ (List.getElem_mem hlt);generalize c.observers[i]=y at *;clear hra;refine sQ ?_;intro w hS;refine cQ (within_y _ 0 _ oM _ _ _ hS) rfl ?_;clear hS;rintro e w ⟨rfl,hS⟩;refine eQ ?_;intro w hS;refine Sh.again (c.observers.length - (i+1)) [(59,.int .i64 (i+1:Nat))] ?_;exact ⟨i+1,rfl,oM,rfl,hS.sb⟩
 refine sQ ?_;intro w hS;refine Dnt Tryz.results212 ?_;exact ⟨rfl,hS.sb⟩
theorem ygd:Calls Tryz.prog 213 #[c.val a] w fun e w'=>e=.returned (.bool true)∧Sep r [] F w':=by
 have h1:=hv.ok.b;have h2:=hv.ok.l;have h3:=hv.ok.e;have h4:=hv.ok.k;have h5:=hv.ok.v;obtain ⟨zA,zc,kA,kc,tA,tc,vA,vc,rA,rc,oA,oc⟩:=a;have hrk:=hr.cf.k;have hrv:=hr.cf.v;refine Z.enter Tryz.func213 Tryz.ntmps213 rfl rfl ?_;refine aQ1 ?_;intro g w hS;refine Z.lpS [2,4,10,11,12,13,14,15,16,17,18] (fun m w z=>∃ i:Nat,z=[(10,.int .i64 i)]∧i≤c.cells.length∧m=c.cells.length - i∧Sep r [] (.blk g 55 (c.cl (⟨zA,zc,kA,kc,tA,tc,vA,vc,rA,rc,oA,oc⟩:CAd))::F) w) _ [(10,.int .i64 (0:Nat))] TrF ⟨0,rfl,oM,rfl,hS⟩ ?_;clear hS;rintro m f0 w _ ⟨i,rfl,hi,rfl,hS⟩
 by_cases hlt:i < c.cells.length
 ·obtain ⟨gb,ob,hA,_,hra⟩:=(hrk [_] w hS).mat oM (q:=i) (by simpa using hlt);simp only at hA;subst hA;have hra2:w.rangeAt gb (ob+i * 2) c.cells[i].cells:=by simpa using hra
  have hz:=hv.kc _ (List.getElem_mem hlt);generalize c.cells[i]=y at *;clear hra
  repeat' first|refine K ?_|refine Sa ?_;clear hS;intro w hS|refine K3 ?_;clear hS;intro g w hS hge|refine KC ?_ ?_<;>intro hb<;>try exact JX|fail
  refine cQ (within_y _ 1 _ oM _ _ _ hS) rfl ?_;clear hS;rintro e w ⟨rfl,hS⟩;refine eQ ?_;intro w hS;refine Sh.again (c.cells.length - (i+1)) [(10,.int .i64 (i+1:Nat))] ?_;exact ⟨i+1,rfl,oM,rfl,hS.sb⟩
 refine sQ ?_;intro w hS;refine Z.lpS [2,5,6,22,23,24,25,26,27,28,29,30,31,32,33,34,35,36,37,38,39,40,41,42,43,44,45,46,47,48,49,50,51] (fun m w z=>∃ i:Nat,z=[(22,.int .i64 i)]∧i≤c.versions.length∧m=c.versions.length - i∧Sep r [] (.blk g 55 (c.cl (⟨zA,zc,kA,kc,tA,tc,vA,vc,rA,rc,oA,oc⟩:CAd))::F) w) _ [(22,.int .i64 (0:Nat))] TrF ⟨0,rfl,oM,rfl,hS⟩ ?_;clear hS;rintro m f1 w _ ⟨i,rfl,hi,rfl,hS⟩
 by_cases hlt:i < c.versions.length
 ·obtain ⟨gb,ob,hA,_,hra⟩:=(hrv [_] w hS).mat oM (q:=i) (by simpa using hlt);simp only at hA;subst hA;have hra2:w.rangeAt gb (ob+i * 2) c.versions[i].cells:=by simpa using hra
  obtain ⟨z1,z2,z3,z4⟩:=hv.vs i hlt;generalize c.versions[i]=y at *;clear hra
  repeat' first|refine K ?_|refine Sa ?_;clear hS;intro w hS|refine K3 ?_;clear hS;intro g w hS hge|refine KC ?_ ?_<;>intro hb<;>try exact JX|fail
  all_goals
   refine Sh.again (c.versions.length - (i+1)) [(22,.int .i64 (i+1:Nat))] ?_;exact ⟨i+1,rfl,oM,rfl,hS.sb⟩
 refine sQ ?_;intro w hS;refine cQ (within_y _ 1 16 oM _ _ _ hS) rfl ?_;clear hS;rintro e w ⟨rfl,hS⟩;refine eQ ?_;intro w hS;refine cQ (within_y _ 1 1000 oM _ _ _ hS) rfl ?_;clear hS;rintro e w ⟨rfl,hS⟩;refine eQ ?_;intro w hS;refine cQ (within_y _ 0 10000 oM _ _ _ hS) rfl ?_;clear hS;rintro e w ⟨rfl,hS⟩;refine eQ ?_;intro w hS;refine Dnt Tryz.results213 ?_;exact ⟨rfl,hS.sb⟩
theorem yho:Calls Tryz.prog 120 #[c.val a] w fun e w'=>e=.returned (.int .i64 0)∧Sep r [] F w':=by
 have h5:=hv.rl;refine Z.enter Tryz.func120 Tryz.ntmps120 rfl rfl ?_;refine aQ1 ?_;intro g w hS;refine cQ (ye3 c a _ _ _ hS hv) rfl ?_;clear hS;rintro e w ⟨rfl,hS⟩;refine ⟨_,rfl,?_⟩;have hmod:((c.replicas.length:Nat):Int).tmod 2=1:=by rw [Int.tmod_eq_emod_of_nonneg oM];omega
 refine sQ ?_;intro w hS;refine rQ (ygb c a _ _ _ hS (hr.cons _) hv) ?_;intro w hS;refine rQ (ygd c a _ _ _ hS (hr.cons _) hv) ?_;intro w hS;refine Dnt Tryz.results120 ?_;exact ⟨rfl,hS.sb⟩
end
theorem nwithin_y (k lo hi:Int) (h:lo≤k∧k≤hi) (r:World) (F:List Res) (w:World) (hS:Sep r [] F w) :
  Calls Tryz.prog 214 #[.int .i64 k,.int .i64 lo,.int .i64 hi] w fun e w'=>e=.returned (.bool true)∧Sep r [] F w':=by
 refine Z.enter Tryz.func214 Tryz.ntmps214 rfl rfl ?_;refine sQ ?_;intro w hS;refine Dnt Tryz.results214 ?_;exact ⟨by simp [Z.packR];omega,hS.sb⟩
theorem npermitted_y (t:Tn) (n:Int) (hn:1≤n∧n≤4) (ht:(1≤t.load∧t.load≤65536)∧(0≤t.shadow∧t.shadow≤t.load)∧(0≤t.prio∧t.prio≤9)∧(-1≤t.lag∧t.lag≤1000)∧(1≤t.allowed∧t.allowed≤2 ^ n.toNat - 1)∧(0≤t.group∧t.group≤32)) (r:World) (F:List Res) (w:World) (hS:Sep r [] F w) :
  Calls Tryz.prog 121 #[.agg t.cells.toArray,.int .i64 n] w fun e w'=>e=.returned (.bool true)∧Sep r [] F w':=by
 obtain ⟨h1,h2,h3,h4,h5,h6⟩:=ht;refine Z.enter Tryz.func121 Tryz.ntmps121 rfl rfl ?_;refine aQ1 ?_;intro g w hS;refine cQ (nwithin_y _ 1 65536 h1 _ _ _ hS) rfl ?_;clear hS;rintro e w ⟨rfl,hS⟩;refine ⟨_,rfl,?_⟩
 repeat' first|refine K ?_|refine Sa ?_;clear hS;intro w hS|refine K3 ?_;clear hS;intro g w hS hge|refine KC ?_ ?_<;>intro hb<;>try exact JX|fail
 refine cQ (nwithin_y _ 0 _ h2 _ _ _ hS) rfl ?_;clear hS;rintro e w ⟨rfl,hS⟩;refine ⟨_,rfl,?_⟩
 repeat' first|refine K ?_|refine Sa ?_;clear hS;intro w hS|refine K3 ?_;clear hS;intro g w hS hge|refine KC ?_ ?_<;>intro hb<;>try exact JX|fail
 refine cQ (nwithin_y _ 0 9 h3 _ _ _ hS) rfl ?_;clear hS;rintro e w ⟨rfl,hS⟩;refine ⟨_,rfl,?_⟩
 repeat' first|refine K ?_|refine Sa ?_;clear hS;intro w hS|refine K3 ?_;clear hS;intro g w hS hge|refine KC ?_ ?_<;>intro hb<;>try exact JX|fail
 refine cQ (nwithin_y _ (-1) 1000 h4 _ _ _ hS) rfl ?_;clear hS;rintro e w ⟨rfl,hS⟩;refine ⟨_,rfl,?_⟩
 rcases (by omega:n=1∨n=2∨n=3∨n=4) with rfl|rfl|rfl|rfl
 ·replace h5:1≤t.allowed∧t.allowed≤1:=h5;refine sQ ?_;intro w hS;refine IS (v:=.int .i64 2) ?_ (hb:=by decide);refine sQ ?_;intro w hS;refine rQ (nwithin_y t.allowed 1 1 h5 _ _ _ hS) ?_;intro w hS;refine rQ (nwithin_y _ 0 32 h6 _ _ _ hS) ?_;intro w hS;refine Dnt Tryz.results121 ?_;exact ⟨rfl,hS.sb⟩
 ·replace h5:1≤t.allowed∧t.allowed≤3:=h5;refine sQ ?_;intro w hS;refine IS (v:=.int .i64 4) ?_ (hb:=by decide);refine sQ ?_;intro w hS;refine rQ (nwithin_y t.allowed 1 3 h5 _ _ _ hS) ?_;intro w hS;refine rQ (nwithin_y _ 0 32 h6 _ _ _ hS) ?_;intro w hS;refine Dnt Tryz.results121 ?_;exact ⟨rfl,hS.sb⟩
 ·replace h5:1≤t.allowed∧t.allowed≤7:=h5;refine sQ ?_;intro w hS;refine IS (v:=.int .i64 8) ?_ (hb:=by decide);refine sQ ?_;intro w hS;refine rQ (nwithin_y t.allowed 1 7 h5 _ _ _ hS) ?_;intro w hS;refine rQ (nwithin_y _ 0 32 h6 _ _ _ hS) ?_;intro w hS;refine Dnt Tryz.results121 ?_;exact ⟨rfl,hS.sb⟩
 ·replace h5:1≤t.allowed∧t.allowed≤15:=h5;refine sQ ?_;intro w hS;refine IS (v:=.int .i64 16) ?_ (hb:=by decide);refine sQ ?_;intro w hS;refine rQ (nwithin_y t.allowed 1 15 h5 _ _ _ hS) ?_;intro w hS;refine rQ (nwithin_y _ 0 32 h6 _ _ _ hS) ?_;intro w hS;refine Dnt Tryz.results121 ?_;exact ⟨rfl,hS.sb⟩
theorem ydn (c:Cfg) (a:CAd) (r:World) (F:List Res) (w:World) (hS:Sep r [] F w) (hr:CfA r F c a) (hv:CfgV c):Calls Tryz.prog 60 #[c.val a] w fun e w'=>e=.returned (.int .i64 0)∧Sep r [] F w':=by
 have h1:=hv.ok.r;have h5:=hv.ok.t;refine Z.enter Tryz.func60 Tryz.ntmps60 rfl rfl ?_;refine aQ1 ?_;intro g w hS;refine cQ (yho c a _ _ _ hS (hr.cons _) hv) rfl ?_;clear hS;rintro e w ⟨rfl,hS⟩;refine ⟨_,rfl,?_⟩;obtain ⟨zA,zc,kA,kc,tA,tc,vA,vc,rA,rc,oA,oc⟩:=a;have hrt:=hr.cf.t;refine sQ ?_;intro w hS;refine Z.lpS [2,5,14,15,16,17,18,19,20,21,22,23] (fun m w z=>∃ i:Nat,z=[(14,.int .i64 i)]∧i≤c.tenants.length∧m=c.tenants.length - i∧Sep r [] (.blk g 55 (c.cl ⟨zA,zc,kA,kc,tA,tc,vA,vc,rA,rc,oA,oc⟩)::F) w) _ [(14,.int .i64 (0:Nat))] TrF ⟨0,rfl,oM,rfl,hS⟩ ?_;clear hS;rintro m f0 w _ ⟨i,rfl,hi,rfl,hS⟩
 by_cases hlt:i < c.tenants.length
 ·obtain ⟨gb,ob,hA,_,hra⟩:=(hrt [_] w hS).mat oM (q:=i) (by simpa using hlt);simp only at hA;subst hA;have hra2:w.rangeAt gb (ob+i * 7) c.tenants[i].cells:=by simpa using hra
  have hz:=hv.tn _ (List.getElem_mem hlt);generalize c.tenants[i]=y at *;clear hra
  repeat' first|refine K ?_|refine Sa ?_;clear hS;intro w hS|refine K3 ?_;clear hS;intro g w hS hge|refine KC ?_ ?_<;>intro hb<;>try exact JX|fail
  refine cQ (npermitted_y y c.regions h1 hz _ _ _ hS) rfl ?_;clear hS;rintro e w ⟨rfl,hS⟩;refine ⟨_,rfl,?_⟩
  repeat' first|refine K ?_|refine Sa ?_;clear hS;intro w hS|refine K3 ?_;clear hS;intro g w hS hge|refine KC ?_ ?_<;>intro hb<;>try exact JX|fail
  refine Sh.again (c.tenants.length - (i+1)) [(14,.int .i64 (i+1:Nat))] ?_;exact ⟨i+1,rfl,oM,rfl,hS.sb⟩
 refine sQ ?_;intro w hS;refine Dnt Tryz.results60 ?_;exact ⟨rfl,hS.sb⟩
end Go.Proofs.YtfmnjbhncnldmaaGreat
