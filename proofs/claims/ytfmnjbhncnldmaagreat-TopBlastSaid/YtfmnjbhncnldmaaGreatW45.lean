import Derived.Test.YtfmnjbhncnldmaaGreatW44
set_option maxHeartbeats 4000000
set_option linter.unusedSimpArgs false
set_option linter.unusedVariables false
namespace Go.Proofs.YtfmnjbhncnldmaaGreat
open Go.RowKit
attribute [local irreducible] Res.blk Res.sl Res.all Res.ex Res.pure Res.star
theorem ycs {r w:World} {F:List Res} {c:Cfg} {a:CAd} (hr:CfR r F c a) (L:List Res) (hS:Sep r [] (L++F) w) {k:Nat} (h:k < c.versions.length):∃ gb o,a.vA=some ⟨gb,o,none⟩∧w.rangeAt gb (o+k * 2) (c.versions[k]).cells:=by
 obtain ⟨gb,o,hA,_,hra⟩:=(hr.v L w hS).mat oM (q:=k) (by simpa using h);exact ⟨gb,o,hA,by simpa using hra⟩
theorem ygl {r w:World} {F:List Res} {c:Cfg} {a:CAd} (hr:CfR r F c a) (L:List Res) (hS:Sep r [] (L++F) w) {k gb o:Nat} (hA:a.vA=some ⟨gb,o,none⟩) (h:k < c.versions.length):w.rangeAt gb (o+k * 2) (c.versions[k]).cells:=by
 obtain ⟨gb',o',hA',hra⟩:=ycs hr L hS h;rw [hA] at hA';simp only [Option.some.injEq,Addr.mk.injEq] at hA';obtain ⟨rfl,rfl,_⟩:=hA';exact hra
theorem yi7 (c:Cfg) (s:Sta) (tA:Option Addr) (tc gk kc:Nat) (k m:Nat) (kd tk tn ot ep fr un:Int) (r:World) (F:List Res) (w:World) (hS:Sep r [] (.sl 183 12 (.slice tA c.tenants.length tc) (s.tenants.map TS.cells)::.sl 186 4 (.slice (some ⟨gk,0,none⟩) c.cells.length kc) (s.cells.map CS.cells)::F) w) (hs:s.ok c) (ho:c.ok) (a:CAd) (hr:CfR r F c a) (hk:k < c.cells.length) (hm:m < c.versions.length) :
  Calls Tryz.prog 144 #[c.val a,s.vc c (⟨tA,tc,some ⟨gk,0,none⟩,kc⟩:SAd),((⟨kd,tk,tn,(k:Nat),ot,ep,fr,un,(m:Nat)⟩:En)).val] w fun ee w'=>(∃ er:Int,er≠0∧ee=.returned (noV er)∧Sep r [] F w')∨∃ (s':Sta) (b':SAd),ee=.returned (yesC s' c b')∧s'.ok c∧Sep r [] (.sl 183 12 (.slice b'.tA c.tenants.length b'.tc) (s'.tenants.map TS.cells)::.sl 186 4 (.slice b'.kA c.cells.length b'.kc) (s'.cells.map CS.cells)::F) w':=by
 have hk2:k < s.cells.length:=by rw [hs.kl];exact hk
 obtain ⟨y,hy⟩:∃ y,s.cells[k]'hk2=y:=⟨_,rfl⟩;have hyo:KOj c.versions.length y:=by rw [← hy];exact hs.k _ (List.getElem_mem hk2)
 have hcl:=ho.k;obtain ⟨gv,ov,hA,_⟩:=ycs hr [_,_] hS hm;obtain ⟨v,hv⟩:∃ v,c.versions[m]'hm=v:=⟨_,rfl⟩;refine Z.enter Tryz.func144 Tryz.ntmps144 rfl rfl ?_
 repeat' first|refine K ?_|refine Sa ?_;clear hS;intro w hS|refine K3 ?_;clear hS;intro g w hS hge|refine KC ?_ ?_<;>intro hb<;>try exact JX|fail
 rename_i gc _ _ gs _ _ ge _ _;rename Nat=>gr;have hrv:=ygl hr [_,_,_,_,_,_] hS hA hm;rw [hv] at hrv;obtain ⟨zA,zc,kA,kc',tA',tc',vA,vc,rA,rc,oA,oc⟩:=a;simp only at hA;subst hA
 repeat' first|refine K ?_|refine Sa ?_;clear hS;intro w hS|refine K3 ?_;clear hS;intro g w hS hge|refine KC ?_ ?_<;>intro hb<;>try exact JX|fail
 rename Nat=>g9;generalize (⟨zA,zc,kA,kc',tA',tc',some ⟨gv,ov,none⟩,vc,rA,rc,oA,oc⟩:CAd)=a at *;refine Z.lpS [10,11,23,24,25,26,27,28,29,30,31,32,33,34,35,36,37,38,39,40] (fun mm w z=>∃ (i n:Nat),z=[(10,.int .i64 n),(11,.int .i64 i)]∧n≤i∧i≤c.cells.length∧mm=c.cells.length - i∧Sep r [] (.blk g9 172 v.cells::.blk gr 69 (Sta.zero.cl SAd.zero)::.blk ge 63 ((⟨kd,tk,tn,(k:Nat),ot,ep,fr,un,(m:Nat)⟩:En)).cells::.blk gs 69 (s.cc c (⟨tA,tc,some ⟨gk,0,none⟩,kc⟩:SAd))::.blk gc 55 (c.cl a)::.sl 183 12 (.slice tA c.tenants.length tc) (s.tenants.map TS.cells)::.sl 186 4 (.slice (some ⟨gk,0,none⟩) c.cells.length kc) (s.cells.map CS.cells)::F) w) _ [(10,.int .i64 (0:Nat)),(11,.int .i64 (0:Nat))] TrF ⟨0,0,rfl,oM,oM,rfl,hS.sb⟩ ?_;clear hS;rintro mm f0 w _ ⟨i,n,rfl,hni,hi,rfl,hS⟩
 by_cases hlt:i < c.cells.length
 ·repeat' first|refine K ?_|refine Sa ?_;intro w hS|refine K3 ?_;intro g w hS hge|refine KC ?_ ?_<;>intro hb<;>try exact JX|fail
  ·refine cQ (open_c c s (⟨tA,tc,some ⟨gk,0,none⟩,kc⟩:SAd) i _ _ _ hS hs ⟨Reads.of_at (e:=183) (v:=.slice tA c.tenants.length tc) AtF,Reads.of_at (e:=186) (v:=.slice (some ⟨gk,0,none⟩) c.cells.length kc) AtF⟩ hlt) rfl ?_;clear hS;rintro e w ⟨b,rfl,hS⟩;refine ⟨_,rfl,?_⟩
   repeat' first|refine K ?_|refine Sa ?_;intro w hS|refine K3 ?_;intro g w hS hge|refine KC ?_ ?_<;>intro hb<;>try exact JX|fail
   ·refine Sh.again (c.cells.length - (i+1)) [(10,.int .i64 (n+1:Nat)),(11,.int .i64 (i+1:Nat))] ?_;exact ⟨i+1,n+1,rfl,oM,oM,rfl,hS.sb⟩
   ·refine Sh.again (c.cells.length - (i+1)) [(10,.int .i64 (n:Nat)),(11,.int .i64 (i+1:Nat))] ?_;exact ⟨i+1,n,rfl,oM,oM,rfl,hS.sb⟩
  ·refine Sh.again (c.cells.length - (i+1)) [(10,.int .i64 (n:Nat)),(11,.int .i64 (i+1:Nat))] ?_;exact ⟨i+1,n,rfl,oM,oM,rfl,hS.sb⟩
 refine sQ ?_;intro w hS;refine Z.cut [41,42,43,44,45,46,47,48] (fun w z=>∃ b:Bool,z=[(41,.bool b)]∧Sep r [] (.blk g9 172 v.cells::.blk gr 69 (Sta.zero.cl SAd.zero)::.blk ge 63 ((⟨kd,tk,tn,(k:Nat),ot,ep,fr,un,(m:Nat)⟩:En)).cells::.blk gs 69 (s.cc c (⟨tA,tc,some ⟨gk,0,none⟩,kc⟩:SAd))::.blk gc 55 (c.cl a)::.sl 183 12 (.slice tA c.tenants.length tc) (s.tenants.map TS.cells)::.sl 186 4 (.slice (some ⟨gk,0,none⟩) c.cells.length kc) (s.cells.map CS.cells)::F) w) ?_ ?_
 ·refine D.startS hS 8 8 kR rfl ?_;replace hS:=hS.drew;refine Sh.dp 0 1 ?_;refine Sh.dp 1 3 ?_;refine Sh.dp 2 7 ?_;refine Sh.dp 4 23 ?_;refine D.ldE (q:=2) 3 31 rfl D.wantedN kR rfl (fun W hW=>yaa (fc:=CS.cells) (e:=186) (sz:=4) (g:=gk) hW AtF oM hk2 hy) rfl ?_;refine Sh.dl 5 63 ?_
  first|refine D.pr 6 127 rfl D.wantedN kR rfl ?_|refine D.pl 6 127 rfl D.wantedN kR (R.eqa rfl rfl rfl rfl) ?_
  refine Sh.dp 7 255 ?_;refine D.dn ?_;refine Sh.cut [(41,_)] ?_;exact ⟨_,rfl,hS.sb⟩
 clear hS;rintro f0 w _ ⟨b,rfl,hS⟩
 cases b
 case true=>
  repeat' (first|refine K ?_|(refine Sh.sa hS ?_;clear hS;intro w hS)|(refine K3 ?_;clear hS;intro g w hS hge)|(refine KB ?_ ?_<;>intro hb<;>(try simp only [JJ] at hb)<;>(try exact JX))|fail|(refine Z.eff (Z.cl (yae _ _ _ _ hS) rfl ?_) rfl;clear hS;rintro e w ⟨rfl,hS⟩;refine ⟨_,rfl,?_⟩))
  refine Dct Tryz.results144 ?_;refine .inl ⟨_,?_,rfl,hS.sb⟩
  decide
 repeat' (first|refine K ?_|(refine Sh.sa hS ?_;clear hS;intro w hS)|(refine K3 ?_;clear hS;intro g w hS hge)|(refine KB ?_ ?_<;>intro hb<;>(try simp only [JJ] at hb)<;>(try exact JX))|fail|(refine Z.eff (Z.cl (yae _ _ _ _ hS) rfl ?_) rfl;clear hS;rintro e w ⟨rfl,hS⟩;refine ⟨_,rfl,?_⟩))
 ·refine Dct Tryz.results144 ?_;refine .inl ⟨_,?_,rfl,hS.sb⟩
  decide
 ·refine Dct Tryz.results144 ?_;refine .inl ⟨_,?_,rfl,hS.sb⟩
  decide
 refine Z.cut [68,69,70,71,72,73,74,75,76,77,78,79,80,81,82,83,84,85,86,87] (fun w z=>∃ b:Bool,z=[(68,.bool b)]∧Sep r [] (.blk g9 172 v.cells::.blk gr 69 (Sta.zero.cl SAd.zero)::.blk ge 63 ((⟨kd,tk,tn,(k:Nat),ot,ep,fr,un,(m:Nat)⟩:En)).cells::.blk gs 69 (s.cc c (⟨tA,tc,some ⟨gk,0,none⟩,kc⟩:SAd))::.blk gc 55 (c.cl a)::.sl 183 12 (.slice tA c.tenants.length tc) (s.tenants.map TS.cells)::.sl 186 4 (.slice (some ⟨gk,0,none⟩) c.cells.length kc) (s.cells.map CS.cells)::F) w) ?_ ?_
 ·refine D.startS hS 20 20 kR rfl ?_;replace hS:=hS.drew;refine Sh.dp 0 1 ?_;refine Sh.dp 2 5 ?_;refine Sh.dp 3 13 ?_;refine Sh.dp 4 29 ?_;refine Sh.dl 1 31 ?_;refine D.ldE (q:=1) 5 63 rfl D.wantedN kR rfl (fun W hW=>yaa (fc:=CS.cells) (e:=186) (sz:=4) (g:=gk) hW AtF oM hk2 hy) rfl ?_
  first|refine D.pr 6 127 rfl D.wantedN kR rfl ?_|refine D.pl 6 127 rfl D.wantedN kR (R.nea rfl rfl rfl rfl) ?_
  refine Sh.dp 7 255 ?_;refine D.slot 76 rfl (fun hb=>?_) (fun hb=>?_)
  ·(try simp only [JJ] at hb)
   refine Sh.dp 9 767 ?_;refine Sh.dl 8 1023 ?_;refine Sh.dl 10 2047 ?_;refine D.eff 11 4095 rfl (D.wantedT rfl rfl) kR kR (fun _ _ h=>h) ?_;refine WE.guard ?_;refine Z.cl (proven_c c s (⟨tA,tc,some ⟨gk,0,none⟩,kc⟩:SAd) _ _ _ _ hS hs) rfl ?_;clear hS;rintro e w ⟨b,rfl,hS⟩;refine ⟨_,rfl,?_⟩;refine HMs ?_;refine Sh.dp 12 8191 ?_;refine Sh.dp 13 16383 ?_;refine Sh.dp 14 32767 ?_;refine D.slot 83 rfl (fun hb=>?_) (fun hb=>?_)
   ·(try simp only [JJ] at hb)
    refine Sh.dp 15 65535 ?_;refine Sh.dl 16 131071 ?_
    first|refine D.pr 17 262143 rfl (D.wantedT rfl rfl) kR rfl ?_|refine D.pl 17 262143 rfl (D.wantedT rfl rfl) kR (R.nea rfl rfl rfl rfl) ?_
    refine Sh.dp 18 524287 ?_;refine Sh.dp 19 1048575 ?_;refine D.dn ?_;refine Sh.cut [(68,_)] ?_;exact ⟨_,rfl,hS.sb⟩
   ·(try simp only [JJ] at hb)
    refine D.sk 15 65535 ?_;refine D.sk 16 131071 ?_;refine D.sk 17 262143 ?_;refine Sh.dp 18 524287 ?_;refine Sh.dp 19 1048575 ?_;refine D.dn ?_;refine Sh.cut [(68,_)] ?_;exact ⟨_,rfl,hS.sb⟩
  ·(try simp only [JJ] at hb)
   refine D.sk 8 511 ?_;refine D.sk 9 1023 ?_;refine D.sk 10 2047 ?_;refine D.sk 11 4095 ?_;refine D.sk 12 8191 ?_;refine Sh.dp 13 16383 ?_;refine Sh.dp 14 32767 ?_;refine D.sk 15 65535 ?_;refine D.sk 16 131071 ?_;refine D.sk 17 262143 ?_;refine Sh.dp 18 524287 ?_;refine Sh.dp 19 1048575 ?_;refine D.dn ?_;refine Sh.cut [(68,_)] ?_;exact ⟨_,rfl,hS.sb⟩
 clear hS;rintro f0 w _ ⟨b,rfl,hS⟩
 cases b
 case true=>
  repeat' (first|refine K ?_|(refine Sh.sa hS ?_;clear hS;intro w hS)|(refine K3 ?_;clear hS;intro g w hS hge)|(refine KB ?_ ?_<;>intro hb<;>(try simp only [JJ] at hb)<;>(try exact JX))|fail|(refine Z.eff (Z.cl (yae _ _ _ _ hS) rfl ?_) rfl;clear hS;rintro e w ⟨rfl,hS⟩;refine ⟨_,rfl,?_⟩))
  refine Dct Tryz.results144 ?_;refine .inl ⟨_,?_,rfl,hS.sb⟩
  decide
 refine sQ ?_;intro w hS;refine Z.cut [91,92,93,94,95,96,97,98,99,100,101,102,103,104,105,106,107,108,109,110,111] (fun w z=>∃ b:Bool,z=[(91,.bool b)]∧Sep r [] (.blk g9 172 v.cells::.blk gr 69 (Sta.zero.cl SAd.zero)::.blk ge 63 ((⟨kd,tk,tn,(k:Nat),ot,ep,fr,un,(m:Nat)⟩:En)).cells::.blk gs 69 (s.cc c (⟨tA,tc,some ⟨gk,0,none⟩,kc⟩:SAd))::.blk gc 55 (c.cl a)::.sl 183 12 (.slice tA c.tenants.length tc) (s.tenants.map TS.cells)::.sl 186 4 (.slice (some ⟨gk,0,none⟩) c.cells.length kc) (s.cells.map CS.cells)::F) w) ?_ ?_
 ·refine D.startS hS 21 21 kR rfl ?_;replace hS:=hS.drew;refine Sh.dp 0 1 ?_;refine Sh.dp 2 5 ?_;refine Sh.dp 3 13 ?_;refine Sh.dp 4 29 ?_;refine Sh.dl 1 31 ?_;refine D.ldE (q:=1) 5 63 rfl D.wantedN kR rfl (fun W hW=>yaa (fc:=CS.cells) (e:=186) (sz:=4) (g:=gk) hW AtF oM hk2 hy) rfl ?_
  first|refine D.pr 6 127 rfl D.wantedN kR rfl ?_|refine D.pl 6 127 rfl D.wantedN kR (R.nea rfl rfl rfl rfl) ?_
  refine Sh.dp 7 255 ?_;refine D.slot 99 rfl (fun hb=>?_) (fun hb=>?_)
  ·(try simp only [JJ] at hb)
   refine Sh.dp 9 767 ?_;refine Sh.dl 8 1023 ?_;refine Sh.dl 10 2047 ?_;refine D.eff 11 4095 rfl (D.wantedT rfl rfl) kR kR (fun _ _ h=>h) ?_;refine WE.guard ?_;refine Z.cl (proven_c c s (⟨tA,tc,some ⟨gk,0,none⟩,kc⟩:SAd) _ _ _ _ hS hs) rfl ?_;clear hS;rintro e w ⟨b,rfl,hS⟩;refine ⟨_,rfl,?_⟩;refine HMs ?_;refine Sh.dp 12 8191 ?_;refine Sh.dp 13 16383 ?_;refine Sh.dp 14 32767 ?_;refine D.slot 106 rfl (fun hb=>?_) (fun hb=>?_)
   ·(try simp only [JJ] at hb)
    refine Sh.dp 15 65535 ?_;refine Sh.dp 16 131071 ?_;refine Sh.dl 17 262143 ?_;refine Sh.dp 18 524287 ?_;refine Sh.dp 19 1048575 ?_;refine Sh.dp 20 2097151 ?_;refine D.dn ?_;refine Sh.cut [(91,_)] ?_;exact ⟨_,rfl,hS.sb⟩
   ·(try simp only [JJ] at hb)
    refine D.sk 15 65535 ?_;refine D.sk 16 131071 ?_;refine D.sk 17 262143 ?_;refine D.sk 18 524287 ?_;refine Sh.dp 19 1048575 ?_;refine Sh.dp 20 2097151 ?_;refine D.dn ?_;refine Sh.cut [(91,_)] ?_;exact ⟨_,rfl,hS.sb⟩
  ·(try simp only [JJ] at hb)
   refine D.sk 8 511 ?_;refine D.sk 9 1023 ?_;refine D.sk 10 2047 ?_;refine D.sk 11 4095 ?_;refine D.sk 12 8191 ?_;refine Sh.dp 13 16383 ?_;refine Sh.dp 14 32767 ?_;refine D.sk 15 65535 ?_;refine D.sk 16 131071 ?_;refine D.sk 17 262143 ?_;refine D.sk 18 524287 ?_;refine Sh.dp 19 1048575 ?_;refine Sh.dp 20 2097151 ?_;refine D.dn ?_;refine Sh.cut [(91,_)] ?_;exact ⟨_,rfl,hS.sb⟩
 clear hS;rintro f0 w _ ⟨b,rfl,hS⟩
 cases b
 case true=>
  repeat' (first|refine K ?_|(refine Sh.sa hS ?_;clear hS;intro w hS)|(refine K3 ?_;clear hS;intro g w hS hge)|(refine KB ?_ ?_<;>intro hb<;>(try simp only [JJ] at hb)<;>(try exact JX))|fail|(refine Z.eff (Z.cl (yae _ _ _ _ hS) rfl ?_) rfl;clear hS;rintro e w ⟨rfl,hS⟩;refine ⟨_,rfl,?_⟩))
  refine Dct Tryz.results144 ?_;refine .inl ⟨_,?_,rfl,hS.sb⟩
  decide
 refine sQ ?_;intro w hS;rw [yag hk2 hy] at hS;refine Z.eff (Z.stK (y0:=y) (j:=2) ({ y with wanted:=(m:Int) }:CS) hS rfl AtF hk2 rfl rfl rfl oM rfl ?_) rfl;clear hS;intro w hS;refine sQ ?_;intro w hS;refine Dct Tryz.results144 ?_;exact .inr ⟨{ s with cells:=s.cells.set k { y with wanted:=(m:Int) } },(⟨tA,tc,some ⟨gk,0,none⟩,kc⟩:SAd),rfl,hs.setK (x:={ y with wanted:=(m:Int) }) ⟨hyo.r,by show (0:Int)≤m;omega,by show (m:Int) < _;omega⟩ k,hS.sb⟩
theorem yiZ (c:Cfg) (s:Sta) (tA:Option Addr) (tc gk kc:Nat) (k m:Nat) (kd tk tn ot ep fr un:Int) (r:World) (F:List Res) (w:World) (hS:Sep r [] (.sl 183 12 (.slice tA c.tenants.length tc) (s.tenants.map TS.cells)::.sl 186 4 (.slice (some ⟨gk,0,none⟩) c.cells.length kc) (s.cells.map CS.cells)::F) w) (hs:s.ok c) (ho:c.ok) (hk:k < c.cells.length) (hm:m < c.versions.length) :
  Calls Tryz.prog 145 #[s.vc c (⟨tA,tc,some ⟨gk,0,none⟩,kc⟩:SAd),((⟨kd,tk,tn,(k:Nat),ot,ep,fr,un,(m:Nat)⟩:En)).val] w fun ee w'=>(∃ er:Int,er≠0∧ee=.returned (noV er)∧Sep r [] F w')∨∃ (s':Sta) (b':SAd),ee=.returned (yesC s' c b')∧s'.ok c∧Sep r [] (.sl 183 12 (.slice b'.tA c.tenants.length b'.tc) (s'.tenants.map TS.cells)::.sl 186 4 (.slice b'.kA c.cells.length b'.kc) (s'.cells.map CS.cells)::F) w':=by
 have hk2:k < s.cells.length:=by rw [hs.kl];exact hk
 obtain ⟨y,hy⟩:∃ y,s.cells[k]'hk2=y:=⟨_,rfl⟩;have hyo:KOj c.versions.length y:=by rw [← hy];exact hs.k _ (List.getElem_mem hk2)
 have htl:=ho.t;refine Z.enter Tryz.func145 Tryz.ntmps145 rfl rfl ?_;refine aQ3 ?_;intro gs ge g w hS;refine Z.cut [14,15,16,17,18,19,20,21,22,23,24,25,26,27,28,29,30,31,32] (fun w z=>∃ b:Bool,z=[(14,.bool b)]∧Sep r [] (.blk g 69 (Sta.zero.cl SAd.zero)::.blk ge 63 ((⟨kd,tk,tn,(k:Nat),ot,ep,fr,un,(m:Nat)⟩:En)).cells::.blk gs 69 (s.cc c (⟨tA,tc,some ⟨gk,0,none⟩,kc⟩:SAd))::.sl 183 12 (.slice tA c.tenants.length tc) (s.tenants.map TS.cells)::.sl 186 4 (.slice (some ⟨gk,0,none⟩) c.cells.length kc) (s.cells.map CS.cells)::F) w) ?_ ?_
 ·refine D.startS hS 19 19 kR rfl ?_;replace hS:=hS.drew;refine Sh.dp 0 1 ?_;refine Sh.dp 2 5 ?_;refine Sh.dp 3 13 ?_;refine Sh.dp 4 29 ?_;refine Sh.dl 1 31 ?_;refine D.ldE (q:=2) 5 63 rfl D.wantedN kR rfl (fun W hW=>yaa (fc:=CS.cells) (e:=186) (sz:=4) (g:=gk) hW AtF oM hk2 hy) rfl ?_
  first|refine D.pr 6 127 rfl D.wantedN kR rfl ?_|refine D.pl 6 127 rfl D.wantedN kR (R.nea rfl rfl rfl rfl) ?_
  refine Sh.dp 7 255 ?_;refine D.slot 22 rfl (fun hb=>?_) (fun hb=>?_)
  ·(try simp only [JJ] at hb)
   refine D.sk 8 511 ?_;refine D.sk 9 1023 ?_;refine D.sk 10 2047 ?_;refine D.sk 11 4095 ?_;refine D.sk 12 8191 ?_;refine D.sk 13 16383 ?_;refine D.sk 14 32767 ?_;refine D.sk 15 65535 ?_;refine D.sk 16 131071 ?_;refine Sh.dp 17 262143 ?_;refine Sh.dp 18 524287 ?_;refine D.dn ?_;refine Sh.cut [(14,_)] ?_;exact ⟨_,rfl,hS.sb⟩
  ·(try simp only [JJ] at hb)
   refine Sh.dp 8 511 ?_;refine Sh.dp 9 1023 ?_;refine Sh.dp 10 2047 ?_;refine Sh.dp 12 6143 ?_;refine Sh.dp 13 14335 ?_;refine Sh.dp 14 30719 ?_;refine D.ldE (q:=1) 11 32767 rfl (D.wantedT rfl rfl) kR rfl (fun W hW=>yaa (fc:=CS.cells) (e:=186) (sz:=4) (g:=gk) hW AtF oM hk2 hy) rfl ?_;refine D.ldE (q:=2) 15 65535 rfl (D.wantedT rfl rfl) kR rfl (fun W hW=>yaa (fc:=CS.cells) (e:=186) (sz:=4) (g:=gk) hW AtF oM hk2 hy) rfl ?_
   first|refine D.pr 16 131071 rfl (D.wantedT rfl rfl) kR rfl ?_|refine D.pl 16 131071 rfl (D.wantedT rfl rfl) kR (R.eqa rfl rfl rfl rfl) ?_
   refine Sh.dp 17 262143 ?_;refine Sh.dp 18 524287 ?_;refine D.dn ?_;refine Sh.cut [(14,_)] ?_;exact ⟨_,rfl,hS.sb⟩
 clear hS;rintro f0 w _ ⟨b,rfl,hS⟩
 cases b
 case true=>
  repeat' (first|refine K ?_|(refine Sh.sa hS ?_;clear hS;intro w hS)|(refine K3 ?_;clear hS;intro g w hS hge)|(refine KB ?_ ?_<;>intro hb<;>(try simp only [JJ] at hb)<;>(try exact JX))|fail|(refine Z.eff (Z.cl (yae _ _ _ _ hS) rfl ?_) rfl;clear hS;rintro e w ⟨rfl,hS⟩;refine ⟨_,rfl,?_⟩))
  refine Dct Tryz.results145 ?_;refine .inl ⟨_,?_,rfl,hS.sb⟩
  decide
 refine Z.brF rfl ?_;refine Z.seq ?_;refine Z.cut [36,37,38,39,40,41,42,43,44,45,46] (fun w z=>∃ b:Bool,z=[(36,.bool b)]∧Sep r [] (.blk g 69 (Sta.zero.cl SAd.zero)::.blk ge 63 ((⟨kd,tk,tn,(k:Nat),ot,ep,fr,un,(m:Nat)⟩:En)).cells::.blk gs 69 (s.cc c (⟨tA,tc,some ⟨gk,0,none⟩,kc⟩:SAd))::.sl 183 12 (.slice tA c.tenants.length tc) (s.tenants.map TS.cells)::.sl 186 4 (.slice (some ⟨gk,0,none⟩) c.cells.length kc) (s.cells.map CS.cells)::F) w) ?_ ?_
 ·refine sQ ?_;intro w hS;refine cQ (proven_c c s (⟨tA,tc,some ⟨gk,0,none⟩,kc⟩:SAd) _ _ _ _ hS hs) rfl ?_;clear hS;rintro e w ⟨b,rfl,hS⟩;refine ⟨_,rfl,?_⟩
  repeat' first|refine K ?_|refine Sa ?_;intro w hS|refine K3 ?_;intro g w hS hge|refine KC ?_ ?_<;>intro hb<;>try exact JX|fail
  all_goals
   refine Sh.cut [(36,_)] ?_;exact ⟨_,rfl,hS.sb⟩
 clear hS;rintro f0 w _ ⟨b,rfl,hS⟩
 cases b
 case true=>
  repeat' (first|refine K ?_|(refine Sh.sa hS ?_;clear hS;intro w hS)|(refine K3 ?_;clear hS;intro g w hS hge)|(refine KB ?_ ?_<;>intro hb<;>(try simp only [JJ] at hb)<;>(try exact JX))|fail|(refine Z.eff (Z.cl (yae _ _ _ _ hS) rfl ?_) rfl;clear hS;rintro e w ⟨rfl,hS⟩;refine ⟨_,rfl,?_⟩))
  refine Dct Tryz.results145 ?_;refine .inl ⟨_,?_,rfl,hS.sb⟩
  decide
 refine sQ ?_;intro w hS;refine Z.lpS [5,7,8,50,51,52,53,54,55,56,57,58,59,60,61,62,63,64,65,66,67,68,69,70,71,72,73,74,75,76,77] (fun mm w z=>∃ (i:Nat),z=[(7,.int .i64 i)]∧i≤c.tenants.length∧mm=c.tenants.length - i∧Sep r [] (.blk g 69 (Sta.zero.cl SAd.zero)::.blk ge 63 ((⟨kd,tk,tn,(k:Nat),ot,ep,fr,un,(m:Nat)⟩:En)).cells::.blk gs 69 (s.cc c (⟨tA,tc,some ⟨gk,0,none⟩,kc⟩:SAd))::.sl 183 12 (.slice tA c.tenants.length tc) (s.tenants.map TS.cells)::.sl 186 4 (.slice (some ⟨gk,0,none⟩) c.cells.length kc) (s.cells.map CS.cells)::F) w) _ [(7,.int .i64 (0:Nat))] TrF ⟨0,rfl,oM,rfl,hS.sb⟩ ?_;clear hS;rintro mm f0 w _ ⟨i,rfl,hi,rfl,hS⟩
 by_cases hlt:i < c.tenants.length
 ·have hlt2:i < s.tenants.length:=by rw [hs.tl];exact hlt
  obtain ⟨gb,hA⟩:=Z.Sep_slform hS (e:=183) (sz:=12) (c:=tc) (A:=tA) (rows:=s.tenants.map TS.cells) (n0:=c.tenants.length) AtF (by rw [List.length_map];omega);subst hA;have hrt:=yaa (fc:=TS.cells) hS (e:=183) (sz:=12) (g:=gb) AtF oM hlt2 rfl;generalize s.tenants[i]=x at *
  repeat' (first|refine K ?_|(refine Sh.sa hS ?_;clear hS;intro w hS)|(refine K3 ?_;clear hS;intro g w hS hge)|(refine KB ?_ ?_<;>intro hb<;>(try simp only [JJ] at hb)<;>(try exact JX))|fail|(refine Z.eff (Z.cl (yae _ _ _ _ hS) rfl ?_) rfl;clear hS;rintro e w ⟨rfl,hS⟩;refine ⟨_,rfl,?_⟩))
  ·refine Dct Tryz.results145 ?_;refine .inl ⟨_,?_,rfl,hS.sb⟩
   decide
  all_goals
   refine Sh.again (c.tenants.length - (i+1)) [(7,.int .i64 (i+1:Nat))] ?_;exact ⟨i+1,rfl,oM,rfl,hS.sb⟩
 refine sQ ?_;intro w hS;refine D.startS (Lr:=[.blk ge 63 ((⟨kd,tk,tn,(k:Nat),ot,ep,fr,un,(m:Nat)⟩:En)).cells]) (hS.sb) 11 12 kR rfl ?_;replace hS:=hS.drew;refine Sh.dp 0 1 ?_;refine Sh.dp 1 3 ?_;refine Sh.dp 2 7 ?_;refine Sh.dp 4 23 ?_;refine Sh.dl 3 31 ?_;refine Sh.dp 6 95 ?_;refine Sh.dp 7 223 ?_;refine Sh.dl 5 255 ?_;refine D.ef 8 511 ?_;rw [yag hk2 hy] at hS;refine Z.stK (y0:=y) (j:=1) ({ y with running:=(m:Int) }:CS) hS rfl AtF hk2 rfl rfl rfl oM rfl ?_;clear hS;intro w hS;refine HMs ?_;refine Sh.dp 9 1023 ?_;refine Sh.dp 10 2047 ?_;refine D.ef 11 4095 ?_;refine Z.stK (y0:={ y with running:=(m:Int) }) (j:=3) ({ y with running:=(m:Int),since:=tk }:CS) hS rfl AtF hk2 rfl rfl rfl oM rfl ?_;clear hS;intro w hS;refine HMl ?_;refine D.dn ?_;refine sQ ?_;intro w hS;refine Dct Tryz.results145 ?_;exact .inr ⟨{ s with cells:=s.cells.set k { y with running:=(m:Int),since:=tk } },(⟨tA,tc,some ⟨gk,0,none⟩,kc⟩:SAd),rfl,hs.setK (x:={ y with running:=(m:Int),since:=tk }) ⟨⟨by show (0:Int)≤m;omega,by show (m:Int) < _;omega⟩,hyo.w⟩ k,hS.sb⟩
theorem yh4 (c:Cfg) (s:Sta) (tA:Option Addr) (tc gk kc:Nat) (m:Nat) (kd tk tn ce ot ep fr un:Int) (r:World) (F:List Res) (w:World) (hS:Sep r [] (.sl 183 12 (.slice tA c.tenants.length tc) (s.tenants.map TS.cells)::.sl 186 4 (.slice (some ⟨gk,0,none⟩) c.cells.length kc) (s.cells.map CS.cells)::F) w) (hs:s.ok c) (ho:c.ok) (a:CAd) :
  Calls Tryz.prog 146 #[c.val a,s.vc c (⟨tA,tc,some ⟨gk,0,none⟩,kc⟩:SAd),((⟨kd,tk,tn,ce,ot,ep,fr,un,(m:Nat)⟩:En)).val] w fun ee w'=>(∃ er:Int,er≠0∧ee=.returned (noV er)∧Sep r [] F w')∨∃ (s':Sta) (b':SAd),ee=.returned (yesC s' c b')∧s'.ok c∧Sep r [] (.sl 183 12 (.slice b'.tA c.tenants.length b'.tc) (s'.tenants.map TS.cells)::.sl 186 4 (.slice b'.kA c.cells.length b'.kc) (s'.cells.map CS.cells)::F) w':=by
 have hcl:=ho.k;have hu:0≤IntKind.u64.wrap (m:Int):=by
  simp [IntKind.wrap,IntKind.signed,IntKind.bits]
  omega
 refine Z.enter Tryz.func146 Tryz.ntmps146 rfl rfl ?_;refine aQ4 ?_;intro gc gs ge gr w hS;refine cQ (proven_c c s (⟨tA,tc,some ⟨gk,0,none⟩,kc⟩:SAd) _ _ _ _ hS hs) rfl ?_;clear hS;rintro e w ⟨b,rfl,hS⟩;refine ⟨_,rfl,?_⟩
 cases b
 case true=>
  repeat' (first|refine K ?_|(refine Sh.sa hS ?_;clear hS;intro w hS)|(refine K3 ?_;clear hS;intro g w hS hge)|(refine KB ?_ ?_<;>intro hb<;>(try simp only [JJ] at hb)<;>(try exact JX))|fail|(refine Z.eff (Z.cl (yae _ _ _ _ hS) rfl ?_) rfl;clear hS;rintro e w ⟨rfl,hS⟩;refine ⟨_,rfl,?_⟩))
  refine Dct Tryz.results146 ?_;refine .inl ⟨_,?_,rfl,hS.sb⟩
  decide
 refine sQ ?_;intro w hS;refine Z.lpS [7,8,9,17,18,19,20,21,22,23,24,25,26,27,28,29,30,31,32,33,34,35,36,37,38,39,40,41,42,43,44,45,46,47,48,49,50,51,52,53,54,55,56,57,58,59,60,61,62,63,64] (fun mm w z=>∃ (i:Nat),z=[(8,.int .i64 i)]∧i≤c.cells.length∧mm=c.cells.length - i∧Sep r [] (.blk gr 69 (Sta.zero.cl SAd.zero)::.blk ge 63 ((⟨kd,tk,tn,ce,ot,ep,fr,un,(m:Nat)⟩:En)).cells::.blk gs 69 (s.cc c (⟨tA,tc,some ⟨gk,0,none⟩,kc⟩:SAd))::.blk gc 55 (c.cl a)::.sl 183 12 (.slice tA c.tenants.length tc) (s.tenants.map TS.cells)::.sl 186 4 (.slice (some ⟨gk,0,none⟩) c.cells.length kc) (s.cells.map CS.cells)::F) w) _ [(8,.int .i64 (0:Nat))] TrF ⟨0,rfl,oM,rfl,hS.sb⟩ ?_;clear hS;rintro mm f0 w _ ⟨i,rfl,hi,rfl,hS⟩
 by_cases hlt:i < c.cells.length
 ·have hlt2:i < s.cells.length:=by rw [hs.kl];exact hlt
  have hrk:=yaa (fc:=CS.cells) hS (e:=186) (sz:=4) (g:=gk) AtF oM hlt2 rfl;generalize s.cells[i]=y at *
  repeat' (first|refine Kw ?_|(refine Sh.sa hS ?_;clear hS;intro w hS)|(refine K3 ?_;clear hS;intro g w hS hge)|(refine KB ?_ ?_<;>intro hb<;>(try simp only [JJ] at hb)<;>(try exact JX))|fail)
  ·refine Dct Tryz.results146 ?_;exact .inr ⟨{ s with proven:=bitZ .i64 (· ||| ·) s.proven (IntKind.i64.wrap (1 * 2 ^ min (IntKind.u64.wrap (m:Int)).toNat IntKind.i64.bits)) },(⟨tA,tc,some ⟨gk,0,none⟩,kc⟩:SAd),rfl,⟨hs.tl,hs.kl,hs.t,hs.k⟩,hS.sb⟩
  all_goals
   refine Sh.again (c.cells.length - (i+1)) [(8,.int .i64 (i+1:Nat))] ?_;exact ⟨i+1,rfl,oM,rfl,hS.sb⟩
 repeat' (first|refine K ?_|(refine Sh.sa hS ?_;clear hS;intro w hS)|(refine K3 ?_;clear hS;intro g w hS hge)|(refine KB ?_ ?_<;>intro hb<;>(try simp only [JJ] at hb)<;>(try exact JX))|fail|(refine Z.eff (Z.cl (yae _ _ _ _ hS) rfl ?_) rfl;clear hS;rintro e w ⟨rfl,hS⟩;refine ⟨_,rfl,?_⟩))
 refine Dct Tryz.results146 ?_;refine .inl ⟨_,?_,rfl,hS.sb⟩
 decide
theorem ygx (c:Cfg) (s:Sta) (tA:Option Addr) (tc gk kc:Nat) (r:World) (F:List Res) (w:World) (hS:Sep r [] (.sl 183 12 (.slice tA c.tenants.length tc) (s.tenants.map TS.cells)::.sl 186 4 (.slice (some ⟨gk,0,none⟩) c.cells.length kc) (s.cells.map CS.cells)::F) w) (hs:s.ok c) (ho:c.ok) (a:CAd) (hr:CfR r F c a) :
  Calls Tryz.prog 147 #[c.val a,s.vc c (⟨tA,tc,some ⟨gk,0,none⟩,kc⟩:SAd)] w fun ee w'=>(∃ er:Int,er≠0∧ee=.returned (noV er)∧Sep r [] F w')∨∃ (s':Sta) (b':SAd),ee=.returned (yesC s' c b')∧s'.ok c∧Sep r [] (.sl 183 12 (.slice b'.tA c.tenants.length b'.tc) (s'.tenants.map TS.cells)::.sl 186 4 (.slice b'.kA c.cells.length b'.kc) (s'.cells.map CS.cells)::F) w':=by
 have hcl:=ho.k;refine Z.enter Tryz.func147 Tryz.ntmps147 rfl rfl ?_
 repeat' (first|refine K ?_|(refine Sh.sa hS ?_;clear hS;intro w hS)|(refine K3 ?_;clear hS;intro g w hS hge)|(refine KB ?_ ?_<;>intro hb<;>(try simp only [JJ] at hb)<;>(try exact JX))|fail|(refine Z.eff (Z.cl (yae _ _ _ _ hS) rfl ?_) rfl;clear hS;rintro e w ⟨rfl,hS⟩;refine ⟨_,rfl,?_⟩))
 ·refine Dct Tryz.results147 ?_;refine .inl ⟨_,?_,rfl,hS.sb⟩
  decide
 ·refine Dct Tryz.results147 ?_;refine .inl ⟨_,?_,rfl,hS.sb⟩
  decide
 rename_i gc _ _ gs _ _ _;rename Nat=>gr;refine Z.lpS [5,6,7,24,25,26,27,28,29,30,31,32,33,34,35,36,37,38,39,40,41,42,43,44,45,46,47,48,49,50,51,52,53,54,55,56,57,58,59,60] (fun mm w z=>∃ (i:Nat),z=[(6,.int .i64 i)]∧i≤c.cells.length∧mm=c.cells.length - i∧Sep r [] (.blk gr 69 (Sta.zero.cl SAd.zero)::.blk gs 69 (s.cc c (⟨tA,tc,some ⟨gk,0,none⟩,kc⟩:SAd))::.blk gc 55 (c.cl a)::.sl 183 12 (.slice tA c.tenants.length tc) (s.tenants.map TS.cells)::.sl 186 4 (.slice (some ⟨gk,0,none⟩) c.cells.length kc) (s.cells.map CS.cells)::F) w) _ [(6,.int .i64 (0:Nat))] TrF ⟨0,rfl,oM,rfl,hS.sb⟩ ?_;clear hS;rintro mm f0 w _ ⟨i,rfl,hi,rfl,hS⟩
 by_cases hlt:i < c.cells.length
 ·have hlt2:i < s.cells.length:=by rw [hs.kl];exact hlt
  have hrk:=yaa (fc:=CS.cells) hS (e:=186) (sz:=4) (g:=gk) AtF oM hlt2 rfl;have hyo:=hs.k _ (List.getElem_mem hlt2);generalize s.cells[i]=y at *;have hv1:=hyo.r;have hv2:=hyo.w;have hi1:y.running.toNat < c.versions.length:=by omega
  have hi2:y.wanted.toNat < c.versions.length:=by omega
  obtain ⟨gv,ov,hA,_⟩:=ycs hr [_,_,_,_,_] hS hi1
  repeat' first|refine K ?_|refine Sa ?_;clear hS;intro w hS|refine K3 ?_;clear hS;intro g w hS hge|refine KC ?_ ?_<;>intro hb<;>try exact JX|fail
  rename Nat=>g7;have hva1:∀ W,Sep r [] (.blk g7 186 y.cells::.blk gr 69 (Sta.zero.cl SAd.zero)::.blk gs 69 (s.cc c (⟨tA,tc,some ⟨gk,0,none⟩,kc⟩:SAd))::.blk gc 55 (c.cl a)::.sl 183 12 (.slice tA c.tenants.length tc) (s.tenants.map TS.cells)::.sl 186 4 (.slice (some ⟨gk,0,none⟩) c.cells.length kc) (s.cells.map CS.cells)::F) W→W.rangeAt gv (ov+y.running.toNat * 2) (c.versions[y.running.toNat]).cells:=fun W hW=>ygl hr [_,_,_,_,_,_] hW hA hi1
  have hva2:∀ W,Sep r [] (.blk g7 186 y.cells::.blk gr 69 (Sta.zero.cl SAd.zero)::.blk gs 69 (s.cc c (⟨tA,tc,some ⟨gk,0,none⟩,kc⟩:SAd))::.blk gc 55 (c.cl a)::.sl 183 12 (.slice tA c.tenants.length tc) (s.tenants.map TS.cells)::.sl 186 4 (.slice (some ⟨gk,0,none⟩) c.cells.length kc) (s.cells.map CS.cells)::F) W→W.rangeAt gv (ov+y.wanted.toNat * 2) (c.versions[y.wanted.toNat]).cells:=fun W hW=>ygl hr [_,_,_,_,_,_] hW hA hi2
  generalize c.versions[y.running.toNat]=v1 at *;generalize c.versions[y.wanted.toNat]=v2 at *;refine Z.cut [36,37,38,39,40,41,42,43,44,45,46,47,48,49,50,51,52,53,54,55,56,57] (fun w z=>∃ b:Bool,z=[(57,.bool b)]∧Sep r [] (.blk gr 69 (Sta.zero.cl SAd.zero)::.blk gs 69 (s.cc c (⟨tA,tc,some ⟨gk,0,none⟩,kc⟩:SAd))::.blk gc 55 (c.cl a)::.sl 183 12 (.slice tA c.tenants.length tc) (s.tenants.map TS.cells)::.sl 186 4 (.slice (some ⟨gk,0,none⟩) c.cells.length kc) (s.cells.map CS.cells)::F) w) ?_ ?_
  ·obtain ⟨zA,zc,kA,kc',tA',tc',vA,vc,rA,rc,oA,oc⟩:=a;simp only at hA;subst hA;refine D.startS hS 22 22 kR rfl ?_;replace hS:=hS.drew;refine Sh.dp 0 1 ?_;refine Sh.dp 2 5 ?_;refine Sh.dp 7 133 ?_;refine Sh.dl 1 135 ?_;refine Sh.dl 3 143 ?_
   first|refine D.ixn 4 159 rfl D.wantedN kR rfl rfl rfl oM ?_|refine D.ix 4 159 rfl D.wantedN kR rfl rfl rfl oM ?_|refine D.ia 4 159 rfl D.wantedN kR rfl rfl rfl oM ?_
   refine Sh.dp 5 191 ?_;refine D.ldE (q:=1) 6 255 rfl D.wantedN kR rfl hva1 rfl ?_;refine Sh.dl 8 511 ?_;refine Sh.dp 9 1023 ?_;refine Sh.dp 10 2047 ?_;refine D.slot 46 rfl (fun hb=>?_) (fun hb=>?_)
   ·(try simp only [JJ] at hb)
    refine D.sk 11 4095 ?_;refine D.sk 12 8191 ?_;refine D.sk 13 16383 ?_;refine D.sk 14 32767 ?_;refine D.sk 15 65535 ?_;refine D.sk 16 131071 ?_;refine D.sk 17 262143 ?_;refine D.sk 18 524287 ?_;refine D.sk 19 1048575 ?_;refine D.sk 20 2097151 ?_;refine Sh.dp 21 4194303 ?_;refine D.dn ?_;refine Sh.cut [(57,_)] ?_;exact ⟨_,rfl,hS.sb⟩
   ·(try simp only [JJ] at hb)
    refine Sh.dp 11 4095 ?_;refine Sh.dp 13 12287 ?_;refine Sh.dp 18 274431 ?_;refine Sh.dl 12 278527 ?_;refine Sh.dl 14 294911 ?_
    first|refine D.ixn 15 327679 rfl (D.wantedT rfl rfl) kR rfl rfl rfl oM ?_|refine D.ix 15 327679 rfl (D.wantedT rfl rfl) kR rfl rfl rfl oM ?_|refine D.ia 15 327679 rfl (D.wantedT rfl rfl) kR rfl rfl rfl oM ?_
    refine Sh.dp 16 393215 ?_;refine D.ldE (q:=1) 17 524287 rfl (D.wantedT rfl rfl) kR rfl hva2 rfl ?_;refine Sh.dl 19 1048575 ?_;refine Sh.dp 20 2097151 ?_;refine Sh.dp 21 4194303 ?_;refine D.dn ?_;refine Sh.cut [(57,_)] ?_;exact ⟨_,rfl,hS.sb⟩
  clear hS hva1 hva2;rintro f0 w _ ⟨b,rfl,hS⟩
  cases b
  case true=>
   repeat' (first|refine K ?_|(refine Sh.sa hS ?_;clear hS;intro w hS)|(refine K3 ?_;clear hS;intro g w hS hge)|(refine KB ?_ ?_<;>intro hb<;>(try simp only [JJ] at hb)<;>(try exact JX))|fail|(refine Z.eff (Z.cl (yae _ _ _ _ hS) rfl ?_) rfl;clear hS;rintro e w ⟨rfl,hS⟩;refine ⟨_,rfl,?_⟩))
   refine Dct Tryz.results147 ?_;refine .inl ⟨_,?_,rfl,hS.sb⟩
   decide
  refine sQ ?_;intro w hS;refine Sh.again (c.cells.length - (i+1)) [(6,.int .i64 (i+1:Nat))] ?_;exact ⟨i+1,rfl,oM,rfl,hS.sb⟩
 repeat' (first|refine Kw ?_|(refine Sh.sa hS ?_;clear hS;intro w hS)|(refine K3 ?_;clear hS;intro g w hS hge)|(refine KB ?_ ?_<;>intro hb<;>(try simp only [JJ] at hb)<;>(try exact JX))|fail)
 refine Dct Tryz.results147 ?_;exact .inr ⟨{ s with high:=IntKind.i64.wrap (s.high+1) },(⟨tA,tc,some ⟨gk,0,none⟩,kc⟩:SAd),rfl,⟨hs.tl,hs.kl,hs.t,hs.k⟩,hS.sb⟩
end Go.Proofs.YtfmnjbhncnldmaaGreat
