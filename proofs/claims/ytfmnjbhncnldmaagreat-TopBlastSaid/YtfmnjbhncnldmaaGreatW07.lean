import Derived.Test.YtfmnjbhncnldmaaGreatW06
set_option maxHeartbeats 8000000
set_option linter.unusedSimpArgs false
set_option linter.unusedVariables false
namespace Go.Proofs.YtfmnjbhncnldmaaGreat
open Go.RowKit
attribute [local irreducible] Res.blk Res.sl Res.all Res.ex Res.pure Res.star
theorem yfF (e:En) (vn:Int) (r:World) (F:List Res) (w:World) (hS:Sep r [] F w) (hv:0≤vn∧vn≤1000) (b118:Bool) (h118:hasK e.kind 118=b118) :
  Calls Tryz.prog 289 #[e.val,.int .i64 vn] w fun ee w'=>∃ b,ee=.returned (.bool b)∧(b=true→b118=true→0≤e.n∧e.n < vn)∧Sep r [] F w':=by
 refine Z.enter Tryz.func289 Tryz.ntmps289 rfl rfl ?_
 repeat' (first|refine Kn ?_|(refine Sh.sa hS ?_;clear hS;intro w hS)|(refine K3 ?_;clear hS;intro g w hS hge)|(refine KB ?_ ?_<;>intro hb<;>(try simp only [JJ] at hb)<;>(try exact JX))|fail)
 refine Z.thN ?_
 repeat' (first|refine Kn ?_|(refine Sh.sa hS ?_;clear hS;intro w hS)|(refine K3 ?_;clear hS;intro g w hS hge)|(refine KB ?_ ?_<;>intro hb<;>(try simp only [JJ] at hb)<;>(try exact JX))|fail)
 refine Z.thN ?_;refine Z.seq ?_;refine Z.block ?_;refine Z.seq ?_;refine Z.cut [8,9,10,11,12,13,14,15,16,17,18,19,20,21,22,23,24] (fun w s=>∃ b:Bool,s=[(8,.bool b)]∧Sep r [] (.blk g 63 e.cells::F) w) ?_ ?_
 ·cases h101:hasK e.kind 101
  ·refine sQ ?_;intro w hS;refine cQ (yad e.kind 101 _ _ _ hS) rfl ?_;clear hS;rintro e w ⟨rfl,hS⟩;refine ⟨_,rfl,?_⟩;rw [h101];refine sQ ?_;intro w hS;refine cQ (yad e.kind 101 _ _ _ hS) rfl ?_;clear hS;rintro e w ⟨rfl,hS⟩;refine ⟨_,rfl,?_⟩;rw [h101];refine sQ ?_;intro w hS;refine Sh.cut [(8,_)] ?_;exact ⟨_,rfl,hS.sb⟩
  ·refine sQ ?_;intro w hS;refine cQ (yad e.kind 101 _ _ _ hS) rfl ?_;clear hS;rintro e w ⟨rfl,hS⟩;refine ⟨_,rfl,?_⟩;rw [h101];refine sQ ?_;intro w hS;refine cQ (yal e.epoch 1 1048576 _ _ _ hS) rfl ?_;clear hS;rintro e w ⟨rfl,hS⟩;refine ⟨_,rfl,?_⟩
   repeat' first|refine K ?_|refine Sa ?_;clear hS;intro w hS|refine K3 ?_;clear hS;intro g w hS hge|refine KC ?_ ?_<;>intro hb<;>try exact JX|fail
   ·refine Sh.cut [(8,_)] ?_;exact ⟨_,rfl,hS.sb⟩
   ·refine cQ (yad e.kind 101 _ _ _ hS) rfl ?_;clear hS;rintro e w ⟨rfl,hS⟩;refine ⟨_,rfl,?_⟩;rw [h101];refine sQ ?_;intro w hS;refine Sh.cut [(8,_)] ?_;exact ⟨_,rfl,hS.sb⟩
 clear hS;rintro f0 w _ ⟨b,rfl,hS⟩
 cases b
 case true=>
  refine sQ ?_;intro w hS;refine Dnt Tryz.results289 ?_;exact ⟨false,rfl,(fun h=>by cases h),hS.sb⟩
 refine Z.brF rfl ?_;refine Z.seq ?_;refine Z.cut [25,26,27,28,29,30,31,32,33,34,35,36,37,38,39,40,41,42,43,44,45,46,47,48,49,50,51,52] (fun w s=>∃ b:Bool,s=[(25,.bool b)]∧Sep r [] (.blk g 63 e.cells::F) w) ?_ ?_
 ·cases h119:hasK e.kind 119
  ·refine sQ ?_;intro w hS;refine cQ (yad e.kind 119 _ _ _ hS) rfl ?_;clear hS;rintro e w ⟨rfl,hS⟩;refine ⟨_,rfl,?_⟩;rw [h119];refine sQ ?_;intro w hS;refine cQ (yad e.kind 119 _ _ _ hS) rfl ?_;clear hS;rintro e w ⟨rfl,hS⟩;refine ⟨_,rfl,?_⟩;rw [h119]
   repeat' first|refine K ?_|refine Sa ?_;clear hS;intro w hS|refine K3 ?_;clear hS;intro g w hS hge|refine KC ?_ ?_<;>intro hb<;>try exact JX|fail
   all_goals
    refine Sh.cut [(25,_)] ?_;exact ⟨_,rfl,hS.sb⟩
  ·refine sQ ?_;intro w hS;refine cQ (yad e.kind 119 _ _ _ hS) rfl ?_;clear hS;rintro e w ⟨rfl,hS⟩;refine ⟨_,rfl,?_⟩;rw [h119];refine sQ ?_;intro w hS;refine cQ (yal e.from_ 0 1073741824 _ _ _ hS) rfl ?_;clear hS;rintro e w ⟨rfl,hS⟩;refine ⟨_,rfl,?_⟩
   repeat' first|refine K ?_|refine Sa ?_;clear hS;intro w hS|refine K3 ?_;clear hS;intro g w hS hge|refine KC ?_ ?_<;>intro hb<;>try exact JX|fail
   ·refine Sh.cut [(25,_)] ?_;exact ⟨_,rfl,hS.sb⟩
   ·refine cQ (yal e.until_ 0 1073741824 _ _ _ hS) rfl ?_;clear hS;rintro e w ⟨rfl,hS⟩;refine ⟨_,rfl,?_⟩
    repeat' first|refine K ?_|refine Sa ?_;clear hS;intro w hS|refine K3 ?_;clear hS;intro g w hS hge|refine KC ?_ ?_<;>intro hb<;>try exact JX|fail
    ·refine Sh.cut [(25,_)] ?_;exact ⟨_,rfl,hS.sb⟩
    ·refine cQ (yad e.kind 119 _ _ _ hS) rfl ?_;clear hS;rintro e w ⟨rfl,hS⟩;refine ⟨_,rfl,?_⟩;rw [h119];refine sQ ?_;intro w hS;refine Sh.cut [(25,_)] ?_;exact ⟨_,rfl,hS.sb⟩
 clear hS;rintro f0 w _ ⟨b,rfl,hS⟩
 cases b
 case true=>
  refine sQ ?_;intro w hS;refine Dnt Tryz.results289 ?_;exact ⟨false,rfl,(fun h=>by cases h),hS.sb⟩
 refine sQ ?_;intro w hS;refine cQ (yad e.kind 118 _ _ _ hS) rfl ?_;clear hS;rintro e w ⟨rfl,hS⟩;refine ⟨_,rfl,?_⟩;rw [h118]
 cases b118
 case true=>
  refine sQ ?_;intro w hS;refine rQ (yal e.n 0 _ _ _ _ hS) ?_;intro w hS;refine Dnt Tryz.results289 ?_;exact ⟨_,rfl,(fun h _=>by simp at h;omega),hS.sb⟩
 refine sQ ?_;intro w hS;refine cQ (yad e.kind 98 _ _ _ hS) rfl ?_;clear hS;rintro e w ⟨rfl,hS⟩;refine ⟨_,rfl,?_⟩
 repeat' first|refine K ?_|refine Sa ?_;clear hS;intro w hS|refine K3 ?_;clear hS;intro g w hS hge|refine KC ?_ ?_<;>intro hb<;>try exact JX|fail
 ·refine rQ (yal e.n 0 1 _ _ _ hS) ?_;intro w hS;refine Dnt Tryz.results289 ?_;exact ⟨_,rfl,(fun _ h=>by cases h),hS.sb⟩
 refine cQ (yad e.kind 109 _ _ _ hS) rfl ?_;clear hS;rintro e w ⟨rfl,hS⟩;refine ⟨_,rfl,?_⟩
 repeat' first|refine K ?_|refine Sa ?_;clear hS;intro w hS|refine K3 ?_;clear hS;intro g w hS hge|refine KC ?_ ?_<;>intro hb<;>try exact JX|fail
 ·refine rQ (yal e.n 1 3 _ _ _ hS) ?_;intro w hS;refine Dnt Tryz.results289 ?_;exact ⟨_,rfl,(fun _ h=>by cases h),hS.sb⟩
 refine cQ (yad e.kind 110 _ _ _ hS) rfl ?_;clear hS;rintro e w ⟨rfl,hS⟩;refine ⟨_,rfl,?_⟩
 repeat' first|refine K ?_|refine Sa ?_;clear hS;intro w hS|refine K3 ?_;clear hS;intro g w hS hge|refine KC ?_ ?_<;>intro hb<;>try exact JX|fail
 ·refine rQ (yal e.n 0 1073741824 _ _ _ hS) ?_;intro w hS;refine Dnt Tryz.results289 ?_;exact ⟨_,rfl,(fun _ h=>by cases h),hS.sb⟩
 refine Dnt Tryz.results289 ?_;exact ⟨_,rfl,(fun _ h=>by cases h),hS.sb⟩
theorem yih (e:En) (tn kn rn vn:Int) (r:World) (F:List Res) (w:World) (hS:Sep r [] F w) (ht:0≤tn∧tn≤1000) (hk:0≤kn∧kn≤1000) (hr:0≤rn∧rn≤1000) (hv:0≤vn∧vn≤1000) :
  Calls Tryz.prog 218 #[e.val,.int .i64 tn,.int .i64 kn,.int .i64 rn,.int .i64 vn] w fun ee w'=>∃ b,ee=.returned (.bool b)∧(b=true→(1≤e.kind∧e.kind≤16)∧PlB e tn kn rn (hasK e.kind 116) (hasK e.kind 99) (hasK e.kind 67) (hasK e.kind 111) (hasK e.kind 114)∧(hasK e.kind 118=true→0≤e.n∧e.n < vn))∧Sep r [] F w':=by
 refine Z.enter Tryz.func218 Tryz.ntmps218 rfl rfl ?_;refine aQ1 ?_;intro g w hS;refine cQ (yal e.kind 1 16 _ _ _ hS) rfl ?_;clear hS;rintro e w ⟨rfl,hS⟩;refine ⟨_,rfl,?_⟩
 repeat' first|refine K ?_|refine Sa ?_;clear hS;intro w hS|refine K3 ?_;clear hS;intro g w hS hge|refine KC ?_ ?_<;>intro hb<;>try exact JX|fail
 ·rename 1≤e.kind∧e.kind≤16=>hkind;refine cQ (yal e.tick 0 1073741824 _ _ _ hS) rfl ?_;clear hS;rintro e w ⟨rfl,hS⟩;refine ⟨_,rfl,?_⟩
  repeat' first|refine K ?_|refine Sa ?_;clear hS;intro w hS|refine K3 ?_;clear hS;intro g w hS hge|refine KC ?_ ?_<;>intro hb<;>try exact JX|fail
  ·refine cQ (ygW e tn kn rn _ _ _ hS ht hk hr _ _ _ _ _ rfl rfl rfl rfl rfl) rfl ?_;clear hS;rintro e w ⟨bp,rfl,hpl,hS⟩;refine ⟨_,rfl,?_⟩
   cases bp
   ·refine sQ ?_;intro w hS;refine Dnt Tryz.results218 ?_;exact ⟨_,rfl,(fun h=>by cases h),hS.sb⟩
   ·refine sQ ?_;intro w hS;refine cQ (yfF e vn _ _ _ hS hv _ rfl) rfl ?_;clear hS;rintro e w ⟨bn,rfl,hnu,hS⟩;refine eQ ?_;intro w hS;refine Dnt Tryz.results218 ?_;exact ⟨bn,rfl,(fun h=>⟨hkind,hpl rfl,hnu h⟩),hS.sb⟩
  ·refine Dnt Tryz.results218 ?_;exact ⟨_,rfl,(fun h=>by cases h),hS.sb⟩
 ·refine Dnt Tryz.results218 ?_;exact ⟨_,rfl,(fun h=>by cases h),hS.sb⟩
theorem yhr (c:Cfg) (a:CAd) (e:En) (r:World) (F:List Res) (w:World) (hS:Sep r [] F w) (ho:c.ok) :
  Calls Tryz.prog 133 #[c.val a,e.val] w fun ee w'=>∃ b,ee=.returned (.bool b)∧(b=true→e.right c)∧Sep r [] F w':=by
 have h1:=ho.t;have h2:=ho.k;have h3:=ho.r;have h4:=ho.v;refine Z.enter Tryz.func133 Tryz.ntmps133 rfl rfl ?_;refine aQ2 ?_;intro _ g w hS;refine cQ (yih e _ _ _ _ _ _ _ hS oM oM oM oM) rfl ?_;clear hS;rintro e w ⟨b,rfl,hb,hS⟩;refine eQ ?_;intro w hS;refine Dnt Tryz.results133 ?_;refine ⟨b,rfl,(fun h=>?_),hS.sb⟩;obtain ⟨hk,⟨p1,⟨p2,p3⟩,p4,p5⟩,p6⟩:=hb h;exact ⟨hk,fun h=>(by have:=p1 h;omega),fun h=>(by have:=p2 h;omega),fun h=>(by have:=p3 h;omega),fun h=>(by have:=p4 h;omega),fun h=>(by have:=p5 h;omega),fun h=>(by have:=p6 h;omega)⟩
theorem ybr (A:Option Addr) (l:List Int) (n c:Nat) (i z:Int) (r:World) (F:List Res) (w:World) (hS:Sep r [] (.sl 3 1 (.slice A n c) (l.map ztC)::F) w) (hn:l.length=n) :
  Calls Tryz.prog 401 #[.slice A n c,.int .i64 i,.int .i64 z] w fun e w'=>∃ (v:Value) (l':List Int),e=.returned v∧l'.length=n∧Sep r [] (.sl 3 1 (.slice A n c) (l'.map ztC)::F) w':=by
 subst hn
 by_cases h:0≤i∧i < l.length
 ·obtain ⟨q,rfl⟩:=Int.eq_ofNat_of_zero_le h.1;have hq:q < l.length:=by omega
  obtain ⟨g,rfl⟩:=Z.Sep_slform hS (e:=3) (sz:=1) (c:=c) (A:=A) (rows:=l.map ztC) (n0:=l.length) .here (by rw [List.length_map];omega);have hra:w.rangeAt g (0+q * 1) (ztC l[q]):=by
   have h3:=(hS.slrows .here).elem (q:=q) oM (by simpa using hq)
   simpa using h3
  refine Z.enter Tryz.func401 Tryz.ntmps401 rfl rfl ?_;refine sQ ?_;intro w hS;refine Z.sumW rfl ?_;refine sQ ?_;intro w hS;refine Z.eff (Z.stF (j:=0) (IntKind.i64.wrap (l[q]+z)) hS rfl .here hq rfl rfl rfl oM rfl ?_) rfl;clear hS;intro w hS;refine sQ ?_;intro w hS;refine Dn Tryz.results401 ?_;exact ⟨_,_,rfl,List.length_set ..,hS⟩
 ·refine Z.enter Tryz.func401 Tryz.ntmps401 rfl rfl ?_
  repeat' first|refine K ?_|refine Sa ?_;clear hS;intro w hS|refine K3 ?_;clear hS;intro g w hS hge|refine KC ?_ ?_<;>intro hb<;>try exact JX|fail
  all_goals
   refine Dn Tryz.results401 ?_;exact ⟨_,l,rfl,rfl,hS⟩
theorem yax {r w:World} {F:List Res} {s:Sta} {b:SAd} (hr:StR r F s b) (L:List Res) (hS:Sep r [] (L++F) w) {k:Nat} (h:k < s.tenants.length):∃ gb o,b.tA=some ⟨gb,o,none⟩∧w.rangeAt gb (o+k * 12) (s.tenants[k]).cells:=by
 obtain ⟨gb,o,hA,_,hra⟩:=(hr.t L w hS).mat oM (q:=k) (by simpa using h);exact ⟨gb,o,hA,by simpa using hra⟩
theorem ya8 {r w:World} {F:List Res} {s:Sta} {b:SAd} (hr:StR r F s b) (L:List Res) (hS:Sep r [] (L++F) w) {k:Nat} (h:k < s.cells.length):∃ gb o,b.kA=some ⟨gb,o,none⟩∧w.rangeAt gb (o+k * 4) (s.cells[k]).cells:=by
 obtain ⟨gb,o,hA,_,hra⟩:=(hr.k L w hS).mat oM (q:=k) (by simpa using h);exact ⟨gb,o,hA,by simpa using hra⟩
theorem ybS {r w:World} {F:List Res} {c:Cfg} {a:CAd} (hr:CfR r F c a) (L:List Res) (hS:Sep r [] (L++F) w) {k:Nat} (h:k < c.tenants.length):∃ gb o,a.tA=some ⟨gb,o,none⟩∧w.rangeAt gb (o+k * 7) (c.tenants[k]).cells:=by
 obtain ⟨gb,o,hA,_,hra⟩:=(hr.t L w hS).mat oM (q:=k) (by simpa using h);exact ⟨gb,o,hA,by simpa using hra⟩
theorem ybR {r w:World} {F:List Res} {c:Cfg} {a:CAd} (hr:CfR r F c a) (L:List Res) (hS:Sep r [] (L++F) w) {k:Nat} (h:k < c.cells.length):∃ gb o,a.kA=some ⟨gb,o,none⟩∧w.rangeAt gb (o+k * 2) (c.cells[k]).cells:=by
 obtain ⟨gb,o,hA,_,hra⟩:=(hr.k L w hS).mat oM (q:=k) (by simpa using h);exact ⟨gb,o,hA,by simpa using hra⟩
theorem at_ts {r w:World} {F:List Res} {s:Sta} {b:SAd} (hr:StR r F s b) (L:List Res) (hS:Sep r [] (L++F) w) {k gb o:Nat} (hA:b.tA=some ⟨gb,o,none⟩) (h:k < s.tenants.length):w.rangeAt gb (o+k * 12) (s.tenants[k]).cells:=by
 obtain ⟨gb',o',hA',hra⟩:=yax hr L hS h;rw [hA] at hA';simp only [Option.some.injEq,Addr.mk.injEq] at hA';obtain ⟨rfl,rfl,_⟩:=hA';exact hra
theorem at_ks {r w:World} {F:List Res} {s:Sta} {b:SAd} (hr:StR r F s b) (L:List Res) (hS:Sep r [] (L++F) w) {k gb o:Nat} (hA:b.kA=some ⟨gb,o,none⟩) (h:k < s.cells.length):w.rangeAt gb (o+k * 4) (s.cells[k]).cells:=by
 obtain ⟨gb',o',hA',hra⟩:=ya8 hr L hS h;rw [hA] at hA';simp only [Option.some.injEq,Addr.mk.injEq] at hA';obtain ⟨rfl,rfl,_⟩:=hA';exact hra
theorem at_tn {r w:World} {F:List Res} {c:Cfg} {a:CAd} (hr:CfR r F c a) (L:List Res) (hS:Sep r [] (L++F) w) {k gb o:Nat} (hA:a.tA=some ⟨gb,o,none⟩) (h:k < c.tenants.length):w.rangeAt gb (o+k * 7) (c.tenants[k]).cells:=by
 obtain ⟨gb',o',hA',hra⟩:=ybS hr L hS h;rw [hA] at hA';simp only [Option.some.injEq,Addr.mk.injEq] at hA';obtain ⟨rfl,rfl,_⟩:=hA';exact hra
theorem at_kn {r w:World} {F:List Res} {c:Cfg} {a:CAd} (hr:CfR r F c a) (L:List Res) (hS:Sep r [] (L++F) w) {k gb o:Nat} (hA:a.kA=some ⟨gb,o,none⟩) (h:k < c.cells.length):w.rangeAt gb (o+k * 2) (c.cells[k]).cells:=by
 obtain ⟨gb',o',hA',hra⟩:=ybR hr L hS h;rw [hA] at hA';simp only [Option.some.injEq,Addr.mk.injEq] at hA';obtain ⟨rfl,rfl,_⟩:=hA';exact hra
theorem zerosL_int (n:Nat):Z.zerosL [Value.int .i64 0] n=((List.replicate n (0:Int)).map ztC).flatten:=by
 induction n with
 | zero=>rfl
 | succ k ih=>
  rw [List.replicate_succ]
  show [Value.int .i64 0]++_=_
  rw [ih]
  rfl
theorem zt_ok (l:List Int):∀ row,row∈l.map ztC→row.length=1∧∀ u,u∈row→u.oneCell'=true:=by
 intro row hr;obtain ⟨x,_,rfl⟩:=List.mem_map.1 hr;exact ⟨rfl,by simp [ztC,Value.oneCell']⟩
theorem ygo (c:Cfg) (a:CAd) (s:Sta) (b:SAd) (r:World) (F:List Res) (w:World) (hS:Sep r [] F w) (hr:CfR r F c a) (hs:StR r F s b) (ho:c.ok) (hl:s.tenants.length=c.tenants.length) :
  Calls Tryz.prog 358 #[c.val a,s.val b] w fun e w'=>∃ (l:List Int) (A:Option Addr) (cap:Nat),e=.returned (.slice A l.length cap)∧l.length=c.cells.length∧Sep r [] (.sl 3 1 (.slice A l.length cap) (l.map ztC)::F) w':=by
 have hk:=ho.k;have htl:=ho.t;refine Z.enter Tryz.func358 Tryz.ntmps358 rfl rfl ?_
 repeat' first|refine K ?_|refine Sa ?_;clear hS;intro w hS|refine K3 ?_;clear hS;intro g w hS hge|refine KC ?_ ?_<;>intro hb<;>try exact JX|fail
 rename Nat=>g3;refine Z.eff (Z.mks (l:=c.cells.length) (c:=c.cells.length) hS rfl rfl rfl (Nat.le_refl _) (by show 8 * c.cells.length≤281474976710656;omega) (by unfold maxLen;omega) ?_) rfl;clear hS;intro g5 w hS _;replace hS:=mk_sl (n:=c.cells.length) (rows:=(List.replicate c.cells.length (0:Int)).map ztC) hS (by simp) oM (by unfold maxLen;omega) (zt_ok _) (zerosL_int _)
 repeat' first|refine K ?_|refine Sa ?_;clear hS;intro w hS|refine K3 ?_;clear hS;intro g w hS hge|refine KC ?_ ?_<;>intro hb<;>try exact JX|fail
 refine Z.lpS [6,7,8,13,14,15,16,17,18,19,20,21,22,23,24,25,26,27,28,29,30,31,32,33,34,35,36,37,38,39,40,41,42,43,44,45,46,47,48,49,50,51,52,53,54,55,56,57,58,59] (fun m w z=>∃ (i:Nat) (l:List Int),z=[(6,.int .i64 i)]∧l.length=c.cells.length∧i≤s.tenants.length∧m=s.tenants.length - i∧Sep r [] (.sl 3 1 (.slice (some ⟨g5,0,.none⟩) c.cells.length c.cells.length) (l.map ztC)::.blk g3 69 (s.cl b)::.blk g 55 (c.cl a)::F) w) _ [(6,.int .i64 (0:Nat))] TrF ⟨0,List.replicate c.cells.length 0,rfl,by simp,oM,rfl,hS⟩ ?_;clear hS;rintro m f0 w _ ⟨i,l,rfl,hl0,hi,rfl,hS⟩
 by_cases hlt:i < s.tenants.length
 ·have hlt2:i < c.tenants.length:=by omega
  obtain ⟨gb,o,hA,_⟩:=yax hs [_,_,_] hS hlt;obtain ⟨gc,o2,hA2,_⟩:=ybS hr [_,_,_] hS hlt2;have hra1:∀ W,Sep r [] (.sl 3 1 (.slice (some ⟨g5,0,.none⟩) c.cells.length c.cells.length) (l.map ztC)::.blk g3 69 (s.cl b)::.blk g 55 (c.cl a)::F) W→W.rangeAt gb (o+i * 12) (s.tenants[i]).cells:=fun W hW=>at_ts hs [_,_,_] hW hA hlt
  have hra2:∀ W,Sep r [] (.sl 3 1 (.slice (some ⟨g5,0,.none⟩) c.cells.length c.cells.length) (l.map ztC)::.blk g3 69 (s.cl b)::.blk g 55 (c.cl a)::F) W→W.rangeAt gc (o2+i * 7) (c.tenants[i]).cells:=fun W hW=>at_tn hr [_,_,_] hW hA2 hlt2
  generalize s.tenants[i]=x at *;generalize c.tenants[i]=d at *;obtain ⟨zA,zc,kA,kc,tA,tc,vA,vc,rA,rc,oA,oc⟩:=a;obtain ⟨sA,sc,qA,qc⟩:=b;simp only at hA hA2;subst hA hA2
  repeat' first|refine K ?_|refine Sa ?_;clear hS;intro w hS|refine K3 ?_;clear hS;intro g w hS hge|refine KC ?_ ?_<;>intro hb<;>try exact JX|fail
  refine Z.cut [7,8,20,21,22,23,24,25,26,27,28,29] (fun w z=>∃ g7 g8,z=[(7,.pointer (some ⟨g7,0,.none⟩)),(8,.pointer (some ⟨g8,0,.none⟩))]∧Sep r [] (.blk g7 183 x.cells::.blk g8 170 d.cells::.sl 3 1 (.slice (some ⟨g5,0,.none⟩) c.cells.length c.cells.length) (l.map ztC)::.blk g3 69 (s.cl ⟨some ⟨gb,o,none⟩,sc,qA,qc⟩)::.blk g 55 (c.cl ⟨zA,zc,kA,kc,some ⟨gc,o2,none⟩,tc,vA,vc,rA,rc,oA,oc⟩)::F) w) ?_ ?_
  ·refine D.startS hS 13 14 kR rfl ?_;replace hS:=hS.drew;refine Sh.dp 0 1 ?_;refine Sh.dp 2 5 ?_;refine Sh.dp 5 37 ?_;refine Sh.dp 7 165 ?_;refine Sh.dl 1 167 ?_
   first|refine D.ixn 3 175 rfl D.wantedN kR rfl rfl rfl oM ?_|refine D.ix 3 175 rfl D.wantedN kR rfl rfl rfl oM ?_|refine D.ia 3 175 rfl D.wantedN kR rfl rfl rfl oM ?_
   refine D.ldR 4 191 rfl D.wantedN kR rfl hra1 rfl ?_;refine Sh.dl 6 255 ?_
   first|refine D.ixn 8 511 rfl D.wantedN kR rfl rfl rfl oM ?_|refine D.ix 8 511 rfl D.wantedN kR rfl rfl rfl oM ?_|refine D.ia 8 511 rfl D.wantedN kR rfl rfl rfl oM ?_
   refine D.ldR 9 1023 rfl D.wantedN kR rfl hra2 rfl ?_;refine D.each [10,11] kR rfl ?_;refine D.econs 10 2047 rfl D.wantedN kR (fun _ _ h=>h) ?_ ?_
   ·refine Z.al hS ?_;clear hS;intro g w hS hge;refine HMs ?_;refine D.ef 11 4095 ?_;refine Z.al hS ?_;clear hS;intro g w hS hge;refine HMs ?_;refine D.ef 12 8191 ?_;refine Z.st hS rfl AtF rfl rfl ?_;clear hS;intro w hS;refine HMs ?_;refine D.ef 13 16383 ?_;refine Z.st hS rfl AtF rfl rfl ?_;clear hS;intro w hS;refine HMl ?_;refine D.dn ?_;refine Sh.cut [(7,_),(8,_)] ?_;exact ⟨_,_,rfl,hS.sb⟩
   refine D.econs 11 3071 rfl D.wantedN kR (fun _ _ h=>h) ?_ ?_
   ·refine Z.al hS ?_;clear hS;intro g w hS hge;refine HMs ?_;refine D.ef 10 4095 ?_;refine Z.al hS ?_;clear hS;intro g w hS hge;refine HMs ?_;refine D.ef 12 8191 ?_;refine Z.st hS rfl AtF rfl rfl ?_;clear hS;intro w hS;refine HMs ?_;refine D.ef 13 16383 ?_;refine Z.st hS rfl AtF rfl rfl ?_;clear hS;intro w hS;refine HMl ?_;refine D.dn ?_;refine Sh.cut [(7,_),(8,_)] ?_;exact ⟨_,_,rfl,hS.sb⟩
   exact D.enil
  clear hS;rintro f0 w _ ⟨g7,g8,rfl,hS⟩
  repeat' first|refine K ?_|refine Sa ?_;clear hS;intro w hS|refine K3 ?_;clear hS;intro g w hS hge|refine KC ?_ ?_<;>intro hb<;>try exact JX|fail
  ·refine Sh.again (s.tenants.length - (i+1)) [(6,.int .i64 (i+1:Nat))] ?_;exact ⟨i+1,l,rfl,hl0,oM,rfl,hS.sb⟩
  ·replace hS:=hS.fo (R:=.sl 3 1 (.slice (some ⟨g5,0,.none⟩) c.cells.length c.cells.length) _);refine cQ (ybr _ l _ _ _ _ _ _ _ hS hl0) rfl ?_;clear hS;rintro e w ⟨v,l,rfl,hl0,hS⟩;refine eQ ?_;intro w hS;replace hS:=hS.fo (R:=.sl 3 1 (.slice (some ⟨g5,0,.none⟩) c.cells.length c.cells.length) _);refine cQ (ybr _ l _ _ _ _ _ _ _ hS hl0) rfl ?_;clear hS;rintro e w ⟨v,l,rfl,hl0,hS⟩;refine eQ ?_;intro w hS;replace hS:=hS.fo (R:=.sl 3 1 (.slice (some ⟨g5,0,.none⟩) c.cells.length c.cells.length) _);refine cQ (ybr _ l _ _ _ _ _ _ _ hS hl0) rfl ?_;clear hS;rintro e w ⟨v,l,rfl,hl0,hS⟩;refine eQ ?_;intro w hS;replace hS:=hS.fo (R:=.sl 3 1 (.slice (some ⟨g5,0,.none⟩) c.cells.length c.cells.length) _);refine cQ (ybr _ l _ _ _ _ _ _ _ hS hl0) rfl ?_;clear hS;rintro e w ⟨v,l,rfl,hl0,hS⟩;refine eQ ?_;intro w hS;refine Sh.again (s.tenants.length - (i+1)) [(6,.int .i64 (i+1:Nat))] ?_;exact ⟨i+1,l,rfl,hl0,oM,rfl,hS.sb⟩
  ·replace hS:=hS.fo (R:=.sl 3 1 (.slice (some ⟨g5,0,.none⟩) c.cells.length c.cells.length) _);refine cQ (ybr _ l _ _ _ _ _ _ _ hS hl0) rfl ?_;clear hS;rintro e w ⟨v,l,rfl,hl0,hS⟩;refine eQ ?_;intro w hS;replace hS:=hS.fo (R:=.sl 3 1 (.slice (some ⟨g5,0,.none⟩) c.cells.length c.cells.length) _);refine cQ (ybr _ l _ _ _ _ _ _ _ hS hl0) rfl ?_;clear hS;rintro e w ⟨v,l,rfl,hl0,hS⟩;refine eQ ?_;intro w hS;refine Sh.again (s.tenants.length - (i+1)) [(6,.int .i64 (i+1:Nat))] ?_;exact ⟨i+1,l,rfl,hl0,oM,rfl,hS.sb⟩
 ·refine sQ ?_;intro w hS;refine Dnt Tryz.results358 ?_;refine ⟨l,some ⟨g5,0,.none⟩,c.cells.length,by rw [hl0];rfl,hl0,?_⟩;rw [hl0];exact hS.sb
theorem yiN (c:Cfg) (a:CAd) (s:Sta) (b:SAd) (r:World) (F:List Res) (w:World) (hS:Sep r [] F w) (hr:CfR r F c a) (hs:StR r F s b) (ho:c.ok) (hl:s.tenants.length=c.tenants.length) :
  Calls Tryz.prog 290 #[c.val a,s.val b] w fun e w'=>∃ (A:Option Addr) (n cap:Nat),e=.returned (.slice A n cap)∧Sep r [] F w':=by
 have hk:=ho.k;refine Z.enter Tryz.func290 Tryz.ntmps290 rfl rfl ?_
 repeat' first|refine K ?_|refine Sa ?_;clear hS;intro w hS|refine K3 ?_;clear hS;intro g w hS hge|refine KC ?_ ?_<;>intro hb<;>try exact JX|fail
 rename Nat=>g3;refine cQ (ygo c a s b _ _ _ hS (hr.app [_,_]) (hs.app [_,_]) ho hl) rfl ?_;clear hS;rintro e w ⟨l,A,cap,rfl,hl0,hS⟩;refine ⟨_,rfl,?_⟩
 repeat' first|refine K ?_|refine Sa ?_;clear hS;intro w hS|refine K3 ?_;clear hS;intro g w hS hge|refine KC ?_ ?_<;>intro hb<;>try exact JX|fail
 replace hS:=Z.nilsl hS 3 1 none;refine Z.lpS [5,7,11,12,13,14,15,16,17,18,19,20,21,22,23,24,25,26,27,28,29,30,31] (fun m w z=>∃ (i:Nat) (o:List Int) (Ao:Option Addr) (co:Nat),z=[(5,.slice Ao o.length co),(7,.int .i64 i)]∧o.length≤i∧i≤l.length∧m=l.length - i∧Sep r [] (.sl 3 1 (.slice Ao o.length co) (o.map ztC)::.sl 3 1 (.slice A l.length cap) (l.map ztC)::.blk g3 69 (s.cl b)::.blk g 55 (c.cl a)::F) w) _ [(5,.slice none 0 0),(7,.int .i64 (0:Nat))] TrF ⟨0,[],none,0,rfl,by simp,oM,rfl,hS⟩ ?_;clear hS;rintro m f0 w _ ⟨i,o,Ao,co,rfl,hio,hi,rfl,hS⟩
 by_cases hlt:i < l.length
 ·have hlt2:i < c.cells.length:=by omega
  obtain ⟨gb,o1,hA,_,_⟩:=(hS.slrows (e:=3) (v:=.slice A l.length cap) AtF).mat oM (q:=i) (by simpa using hlt);subst hA;obtain ⟨gc,o2,hA2,_⟩:=ybR hr [_,_,_,_] hS hlt2;have hra1:∀ W,Sep r [] (.sl 3 1 (.slice Ao o.length co) (o.map ztC)::.sl 3 1 (.slice (some ⟨gb,o1,none⟩) l.length cap) (l.map ztC)::.blk g3 69 (s.cl b)::.blk g 55 (c.cl a)::F) W→W.rangeAt gb (o1+i * 1) (ztC l[i]):=fun W hW=>by
   have h3:=(hW.slrows (e:=3) (v:=.slice (some ⟨gb,o1,none⟩) l.length cap) AtF).elem (q:=i) oM (by simpa using hlt)
   simpa using h3
  have hra2:∀ W,Sep r [] (.sl 3 1 (.slice Ao o.length co) (o.map ztC)::.sl 3 1 (.slice (some ⟨gb,o1,none⟩) l.length cap) (l.map ztC)::.blk g3 69 (s.cl b)::.blk g 55 (c.cl a)::F) W→W.rangeAt gc (o2+i * 2) (c.cells[i]).cells:=fun W hW=>at_kn hr [_,_,_,_] hW hA2 hlt2
  generalize l[i]=y at *;generalize c.cells[i]=d at *;obtain ⟨zA,zc,kA,kc,tA,tc,vA,vc,rA,rc,oA,oc⟩:=a;simp only at hA2;subst hA2
  repeat' first|refine K ?_|refine Sa ?_;clear hS;intro w hS|refine K3 ?_;clear hS;intro g w hS hge|refine KC ?_ ?_<;>intro hb<;>try exact JX|fail
  refine D.startS hS 11 11 kR rfl ?_;replace hS:=hS.drew;refine Sh.dp 0 1 ?_;refine Sh.dp 1 3 ?_
  first|refine D.ixn 2 7 rfl D.wantedN kR rfl rfl rfl oM ?_|refine D.ix 2 7 rfl D.wantedN kR rfl rfl rfl oM ?_|refine D.ia 2 7 rfl D.wantedN kR rfl rfl rfl oM ?_
  refine Sh.dp 4 23 ?_;refine Sh.dp 6 87 ?_;refine D.ldR 3 95 rfl D.wantedN kR rfl hra1 rfl ?_;refine Sh.dl 5 127 ?_
  first|refine D.ixn 7 255 rfl D.wantedN kR rfl rfl rfl oM ?_|refine D.ix 7 255 rfl D.wantedN kR rfl rfl rfl oM ?_|refine D.ia 7 255 rfl D.wantedN kR rfl rfl rfl oM ?_
  refine Sh.dp 8 511 ?_;refine D.ldE 9 1023 rfl D.wantedN kR rfl hra2 rfl ?_;refine Sh.dp 10 2047 ?_;refine D.dn ?_
  repeat' first|refine K ?_|refine Sa ?_;clear hS;intro w hS|refine K3 ?_;clear hS;intro g w hS hge|refine KC ?_ ?_<;>intro hb<;>try exact JX|fail
  ·refine Z.eff (Z.apm (l':=[(i:Int)]) hS rfl rfl rfl AtF (hS.lit1 AtF rfl rfl) LnF LnF ?_) rfl;clear hS;intro A' cap' w hS;rw [← List.length_append] at hS ⊢;refine sQ ?_;intro w hS;refine Sh.again (l.length - (i+1)) [(5,_),(7,.int .i64 (i+1:Nat))] ?_;exact ⟨i+1,o++[(i:Int)],A',cap',rfl,by simp;omega,oM,rfl,hS.sb⟩
  ·refine Sh.again (l.length - (i+1)) [(5,_),(7,.int .i64 (i+1:Nat))] ?_;exact ⟨i+1,o,Ao,co,rfl,oM,oM,rfl,hS.sb⟩
 ·refine sQ ?_;intro w hS;refine Dnt Tryz.results290 ?_;exact ⟨_,_,_,rfl,hS.sb⟩
theorem ybQ (s:Sta) (b:SAd) (v:Int) (r:World) (F:List Res) (w:World) (hS:Sep r [] F w) :
  Calls Tryz.prog 225 #[s.val b,.int .i64 v] w fun e w'=>∃ q,e=.returned (.bool q)∧Sep r [] F w':=by
 refine Z.enter Tryz.func225 Tryz.ntmps225 rfl rfl ?_;refine aQ1 ?_;intro g w hS;refine cQ (ybl _ _ _ _ _ hS) rfl ?_;clear hS;rintro e w ⟨q,rfl,hS⟩;refine eQ ?_;intro w hS;refine Dnt Tryz.results225 ?_;exact ⟨q,rfl,hS.sb⟩
theorem yiM (s:Sta) (b:SAd) (k:Nat) (r:World) (F:List Res) (w:World) (hS:Sep r [] F w) (hs:StR r F s b) (hk:k < s.cells.length) :
  Calls Tryz.prog 224 #[s.val b,.int .i64 k] w fun e w'=>∃ q,e=.returned (.bool q)∧Sep r [] F w':=by
 refine Z.enter Tryz.func224 Tryz.ntmps224 rfl rfl ?_;refine aQ1 ?_;intro g w hS;obtain ⟨gb,o,hA,_⟩:=ya8 hs [_] hS hk;have hra:∀ W,Sep r [] (.blk g 69 (s.cl b)::F) W→W.rangeAt gb (o+k * 4) (s.cells[k]).cells:=fun W hW=>at_ks hs [_] hW hA hk
 generalize s.cells[k]=y at *;obtain ⟨sA,sc,qA,qc⟩:=b;simp only at hA;subst hA;refine D.startS hS 21 21 kR rfl ?_;replace hS:=hS.drew;refine Sh.dp 1 2 ?_;refine Sh.dp 3 10 ?_;refine Sh.dl 0 11 ?_;refine Sh.dl 2 15 ?_
 first|refine D.ixn 4 31 rfl D.wantedN kR rfl rfl rfl oM ?_|refine D.ix 4 31 rfl D.wantedN kR rfl rfl rfl oM ?_|refine D.ia 4 31 rfl D.wantedN kR rfl rfl rfl oM ?_
 refine Sh.dp 5 63 ?_;refine D.ldE 6 127 rfl D.wantedN kR rfl hra rfl ?_;refine D.ef 7 255 ?_;refine Z.cl (ybQ s _ _ _ _ _ hS) rfl ?_;clear hS;rintro e w ⟨q,rfl,hS⟩;refine ⟨_,rfl,?_⟩;refine HMs ?_;refine Sh.dp 8 511 ?_;refine Sh.dp 9 1023 ?_;refine D.slot 14 rfl (fun hb=>?_) (fun hb=>?_)
 ·(try simp only [JJ] at hb)
  refine D.sk 10 2047 ?_;refine D.sk 11 4095 ?_;refine D.sk 12 8191 ?_;refine D.sk 13 16383 ?_;refine D.sk 14 32767 ?_;refine D.sk 15 65535 ?_;refine D.sk 16 131071 ?_;refine D.sk 17 262143 ?_;refine D.sk 18 524287 ?_;refine Sh.dp 19 1048575 ?_;refine Sh.dp 20 2097151 ?_;refine D.dn ?_;refine sQ ?_;intro w hS;refine Dnt Tryz.results224 ?_;exact ⟨_,rfl,hS.sb⟩
 ·(try simp only [JJ] at hb)
  refine Sh.dp 11 3071 ?_;refine Sh.dp 13 11263 ?_;refine Sh.dl 10 12287 ?_;refine Sh.dl 12 16383 ?_
  first|refine D.ixn 14 32767 rfl (D.wantedT rfl rfl) kR rfl rfl rfl oM ?_|refine D.ix 14 32767 rfl (D.wantedT rfl rfl) kR rfl rfl rfl oM ?_|refine D.ia 14 32767 rfl (D.wantedT rfl rfl) kR rfl rfl rfl oM ?_
  refine Sh.dp 15 65535 ?_;refine D.ldE 16 131071 rfl (D.wantedT rfl rfl) kR rfl hra rfl ?_;refine D.eff 17 262143 rfl (D.wantedT rfl rfl) kR kR (fun _ _ h=>h) ?_;refine WE.guard ?_;refine Z.cl (ybQ s _ _ _ _ _ hS) rfl ?_;clear hS;rintro e w ⟨q2,rfl,hS⟩;refine ⟨_,rfl,?_⟩;refine HMs ?_;refine Sh.dp 18 524287 ?_;refine Sh.dp 19 1048575 ?_;refine Sh.dp 20 2097151 ?_;refine D.dn ?_;refine sQ ?_;intro w hS;refine Dnt Tryz.results224 ?_;exact ⟨_,rfl,hS.sb⟩
theorem ygD (c:Cfg) (a:CAd) (s:Sta) (b:SAd) (k:Int) (r:World) (F:List Res) (w:World) (hS:Sep r [] F w) (hr:CfR r F c a) (ho:c.ok) :
  Calls Tryz.prog 219 #[c.val a,s.val b,.int .i64 k] w fun e w'=>∃ q,e=.returned (.bool q)∧Sep r [] F w':=by
 refine Z.enter Tryz.func219 Tryz.ntmps219 rfl rfl ?_
 repeat' first|refine K ?_|refine Sa ?_;clear hS;intro w hS|refine K3 ?_;clear hS;intro g w hS hge|refine KC ?_ ?_<;>intro hb<;>try exact JX|fail
 rename Nat=>g3;refine D.startS (Lr:=[.blk g3 69 (s.cl b),.blk g 55 (c.cl a)]) (hS.sb) 7 7 kR rfl ?_;replace hS:=hS.drew;refine Sh.dp 0 1 ?_;refine Sh.dp 3 9 ?_;refine Sh.dl 1 11 ?_;refine Sh.dl 2 15 ?_;refine D.ef 4 31 ?_;refine dQ (yaU c a k _ _ _ hS (hr.app [_,_]) ho) ?_;intro w hS;refine D.ef 5 63 ?_;refine Z.cl (ybl _ _ _ _ _ hS) rfl ?_;clear hS;rintro e w ⟨q,rfl,hS⟩;refine ⟨_,rfl,?_⟩;refine HMs ?_;refine Sh.dp 6 127 ?_;refine D.dn ?_;refine sQ ?_;intro w hS;refine Dnt Tryz.results219 ?_;exact ⟨q,rfl,hS.sb⟩
theorem yaD (c:Cfg) (a:CAd) (i k:Int) (r:World) (F:List Res) (w:World) (hS:Sep r [] F w) (hr:CfR r F c a) (ho:c.ok) :
  Calls Tryz.prog 220 #[c.val a,.int .i64 i,.int .i64 k] w fun e w'=>∃ q,e=.returned (.bool q)∧Sep r [] F w':=by
 refine Z.enter Tryz.func220 Tryz.ntmps220 rfl rfl ?_
 repeat' first|refine K ?_|refine Sa ?_;clear hS;intro w hS|refine K3 ?_;clear hS;intro g w hS hge|refine KC ?_ ?_<;>intro hb<;>try exact JX|fail
 ·refine cQ (ydS c a i k _ _ _ hS (hr.cons _) ho) rfl ?_;clear hS;rintro e w ⟨q,rfl,hS⟩;refine eQ ?_;intro w hS;refine Dnt Tryz.results220 ?_;exact ⟨_,rfl,hS.sb⟩
 ·refine Dnt Tryz.results220 ?_;exact ⟨_,rfl,hS.sb⟩
 ·refine Dnt Tryz.results220 ?_;exact ⟨_,rfl,hS.sb⟩
def Sta.zero:Sta:=⟨0,0,[],[],0,0,0,0⟩
def SAd.zero:SAd:=⟨none,0,none,0⟩
def noV (er:Int):Value:=.tuple #[Sta.zero.val SAd.zero,.int .i64 er]
def yesV (s:Sta) (b:SAd):Value:=.tuple #[s.val b,.int .i64 0]
theorem yae (er:Int) (r:World) (F:List Res) (w:World) (hS:Sep r [] F w) :
  Calls Tryz.prog 134 #[.int .i64 er] w fun e w'=>e=.returned (noV er)∧Sep r [] F w':=by
 refine Z.enter Tryz.func134 Tryz.ntmps134 rfl rfl ?_;refine aQ1 ?_;intro g w hS;refine Dct Tryz.results134 ?_;exact ⟨rfl,hS.sb⟩
theorem yjc (c:Cfg) (a:CAd) (s:Sta) (b:SAd) (r:World) (F:List Res) (w:World) (hS:Sep r [] F w) (hr:CfR r F c a) (hs:StR r F s b) (ho:c.ok) (hl:s.tenants.length=c.tenants.length) :
  Calls Tryz.prog 221 #[c.val a,s.val b] w fun e w'=>(e=.returned (noV 10)∨e=.returned (yesV s b))∧Sep r [] F w':=by
 refine Z.enter Tryz.func221 Tryz.ntmps221 rfl rfl ?_;refine aQ3 ?_;intro _ _ g w hS;refine cQ (yiN c a s b _ _ _ hS (hr.app [_,_,_]) (hs.app [_,_,_]) ho hl) rfl ?_;clear hS;rintro e w ⟨A,n,cap,rfl,hS⟩;refine ⟨_,rfl,?_⟩
 repeat' first|refine K ?_|refine Sa ?_;clear hS;intro w hS|refine K3 ?_;clear hS;intro g w hS hge|refine KC ?_ ?_<;>intro hb<;>try exact JX|fail
 ·refine Dct Tryz.results221 ?_;exact ⟨.inl rfl,hS.sb⟩
 ·refine Dct Tryz.results221 ?_;exact ⟨.inr rfl,hS.sb⟩
end Go.Proofs.YtfmnjbhncnldmaaGreat
