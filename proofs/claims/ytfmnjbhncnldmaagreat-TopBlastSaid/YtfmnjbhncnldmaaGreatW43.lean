import Derived.Test.YtfmnjbhncnldmaaGreatW42
set_option maxHeartbeats 4000000
set_option linter.unusedSimpArgs false
set_option linter.unusedVariables false
namespace Go.Proofs.YtfmnjbhncnldmaaGreat
open Go.RowKit
attribute [local irreducible] Res.blk Res.sl Res.all Res.ex Res.pure Res.star
theorem yfC (c:Cfg) (s:Sta) (gt tc gk kc q:Nat) (k:Nat) (kd tk ot ep fr un nn:Int) (r:World) (F:List Res) (w:World) (hS:Sep r [] (.sl 183 12 (.slice (some ⟨gt,0,none⟩) c.tenants.length tc) (s.tenants.map TS.cells)::.sl 186 4 (.slice (some ⟨gk,0,none⟩) c.cells.length kc) (s.cells.map CS.cells)::F) w) (hs:s.ok c) (hq:q < c.tenants.length) (a:CAd) (hr:CfR r F c a) (ho:c.ok) (hk:k < c.cells.length) :
  Calls Tryz.prog 141 #[c.val a,s.vc c (⟨some ⟨gt,0,none⟩,tc,some ⟨gk,0,none⟩,kc⟩:SAd),((⟨kd,tk,(q:Nat),(k:Nat),ot,ep,fr,un,nn⟩:En)).val] w fun ee w'=>(∃ er:Int,er≠0∧ee=.returned (noV er)∧Sep r [] F w')∨∃ (s':Sta) (b':SAd),ee=.returned (yesC s' c b')∧s'.ok c∧Sep r [] (.sl 183 12 (.slice b'.tA c.tenants.length b'.tc) (s'.tenants.map TS.cells)::.sl 186 4 (.slice b'.kA c.cells.length b'.kc) (s'.cells.map CS.cells)::F) w':=by
 have hq2:q < s.tenants.length:=by rw [hs.tl];exact hq
 obtain ⟨x,hx⟩:∃ x,s.tenants[q]'hq2=x:=⟨_,rfl⟩;have hxo:TOk c.cells.length x:=by rw [← hx];exact hs.t _ (List.getElem_mem hq2)
 have hk2:k < s.cells.length:=by rw [hs.kl];exact hk
 obtain ⟨y,hy⟩:∃ y,s.cells[k]'hk2=y:=⟨_,rfl⟩;refine Z.enter Tryz.func141 Tryz.ntmps141 rfl rfl ?_;refine aQ4 ?_;intro gc gs ge g w hS;have hrt:=yaa (fc:=TS.cells) hS (e:=183) (sz:=12) (g:=gt) AtF oM hq2 hx
 repeat' (first|refine K ?_|(refine Sh.sa hS ?_;clear hS;intro w hS)|(refine K3 ?_;clear hS;intro g w hS hge)|(refine KB ?_ ?_<;>intro hb<;>(try simp only [JJ] at hb)<;>(try exact JX))|fail|(refine Z.eff (Z.cl (yae _ _ _ _ hS) rfl ?_) rfl;clear hS;rintro e w ⟨rfl,hS⟩;refine ⟨_,rfl,?_⟩))
 ·refine Dct Tryz.results141 ?_;refine .inl ⟨_,?_,rfl,hS.sb⟩
  decide
 ·refine Dct Tryz.results141 ?_;refine .inl ⟨_,?_,rfl,hS.sb⟩
  decide
 ·refine Dct Tryz.results141 ?_;refine .inl ⟨_,?_,rfl,hS.sb⟩
  decide
 rename x.placed=true=>hp;refine Z.cut [36,37,38,39,40,41,42,43,44,45,46,47,48,49,50,51,52,53,54,55,56,57,58,59,60,61] (fun w z=>∃ b:Bool,z=[(36,.bool b)]∧(b=false→(k:Int)≠x.home∧(k:Int)≠x.standby∧(k:Int)≠x.next)∧Sep r [] (.blk g 69 (Sta.zero.cl SAd.zero)::.blk ge 63 ((⟨kd,tk,(q:Nat),(k:Nat),ot,ep,fr,un,nn⟩:En)).cells::.blk gs 69 (s.cc c (⟨some ⟨gt,0,none⟩,tc,some ⟨gk,0,none⟩,kc⟩:SAd))::.blk gc 55 (c.cl a)::.sl 183 12 (.slice (some ⟨gt,0,none⟩) c.tenants.length tc) (s.tenants.map TS.cells)::.sl 186 4 (.slice (some ⟨gk,0,none⟩) c.cells.length kc) (s.cells.map CS.cells)::F) w) ?_ ?_
 ·refine D.startS hS 26 26 kR rfl ?_;replace hS:=hS.drew;refine Sh.dp 0 1 ?_;refine Sh.dp 2 5 ?_;refine Sh.dp 3 13 ?_;refine Sh.dp 4 29 ?_;refine Sh.dl 1 31 ?_;refine D.ldE 5 63 rfl D.wantedN kR rfl (fun W hW=>yaa (fc:=TS.cells) (e:=183) (sz:=12) (g:=gt) hW AtF oM hq2 hx) rfl ?_
  first|refine D.pr 6 127 rfl D.wantedN kR rfl ?_|refine D.pl 6 127 rfl D.wantedN kR (R.eqa rfl rfl rfl rfl) ?_
  refine Sh.dp 7 255 ?_;refine D.slot 44 rfl (fun hb=>?_) (fun hb=>?_)
  ·(try simp only [JJ] at hb)
   refine D.sk 8 511 ?_;refine D.sk 9 1023 ?_;refine D.sk 10 2047 ?_;refine D.sk 11 4095 ?_;refine D.sk 12 8191 ?_;refine D.sk 13 16383 ?_;refine D.sk 14 32767 ?_;refine Sh.dp 15 65535 ?_;refine Sh.dp 16 131071 ?_;refine D.sk 17 262143 ?_;refine D.sk 18 524287 ?_;refine D.sk 19 1048575 ?_;refine D.sk 20 2097151 ?_;refine D.sk 21 4194303 ?_;refine D.sk 22 8388607 ?_;refine D.sk 23 16777215 ?_;refine Sh.dp 24 33554431 ?_;refine Sh.dp 25 67108863 ?_;refine D.dn ?_;refine Sh.cut [(36,_)] ?_;exact ⟨_,rfl,(fun h=>(by (try simp at hb);(try simp at h);(try simp);(try omega))),hS.sb⟩
  ·(try simp only [JJ] at hb)
   refine Sh.dp 8 511 ?_;refine Sh.dp 10 1535 ?_;refine Sh.dp 11 3583 ?_;refine Sh.dp 12 7679 ?_;refine Sh.dl 9 8191 ?_;refine D.ldE 13 16383 rfl (D.wantedT rfl rfl) kR rfl (fun W hW=>yaa (fc:=TS.cells) (e:=183) (sz:=12) (g:=gt) hW AtF oM hq2 hx) rfl ?_
   first|refine D.pr 14 32767 rfl (D.wantedT rfl rfl) kR rfl ?_|refine D.pl 14 32767 rfl (D.wantedT rfl rfl) kR (R.eqa rfl rfl rfl rfl) ?_
   refine Sh.dp 15 65535 ?_;refine Sh.dp 16 131071 ?_;refine D.slot 53 rfl (fun hb=>?_) (fun hb=>?_)
   ·(try simp only [JJ] at hb)
    refine D.sk 17 262143 ?_;refine D.sk 18 524287 ?_;refine D.sk 19 1048575 ?_;refine D.sk 20 2097151 ?_;refine D.sk 21 4194303 ?_;refine D.sk 22 8388607 ?_;refine D.sk 23 16777215 ?_;refine Sh.dp 24 33554431 ?_;refine Sh.dp 25 67108863 ?_;refine D.dn ?_;refine Sh.cut [(36,_)] ?_;exact ⟨_,rfl,(fun h=>(by (try simp at hb);(try simp at h);(try simp);(try omega))),hS.sb⟩
   ·(try simp only [JJ] at hb)
    refine Sh.dp 17 262143 ?_;refine Sh.dp 19 786431 ?_;refine Sh.dp 20 1835007 ?_;refine Sh.dp 21 3932159 ?_;refine Sh.dl 18 4194303 ?_;refine D.ldE 22 8388607 rfl (D.wantedT rfl rfl) kR rfl (fun W hW=>yaa (fc:=TS.cells) (e:=183) (sz:=12) (g:=gt) hW AtF oM hq2 hx) rfl ?_
    first|refine D.pr 23 16777215 rfl (D.wantedT rfl rfl) kR rfl ?_|refine D.pl 23 16777215 rfl (D.wantedT rfl rfl) kR (R.eqa rfl rfl rfl rfl) ?_
    refine Sh.dp 24 33554431 ?_;refine Sh.dp 25 67108863 ?_;refine D.dn ?_;refine Sh.cut [(36,_)] ?_;exact ⟨_,rfl,(fun h=>(by (try simp at hb);(try simp at h);(try simp);(try omega))),hS.sb⟩
 clear hS;rintro f0 w _ ⟨b,rfl,hne,hS⟩;have hrk:=yaa (fc:=CS.cells) hS (e:=186) (sz:=4) (g:=gk) AtF oM hk2 hy
 cases b
 case true=>
  repeat' (first|refine K ?_|(refine Sh.sa hS ?_;clear hS;intro w hS)|(refine K3 ?_;clear hS;intro g w hS hge)|(refine KB ?_ ?_<;>intro hb<;>(try simp only [JJ] at hb)<;>(try exact JX))|fail|(refine Z.eff (Z.cl (yae _ _ _ _ hS) rfl ?_) rfl;clear hS;rintro e w ⟨rfl,hS⟩;refine ⟨_,rfl,?_⟩))
  refine Dct Tryz.results141 ?_;refine .inl ⟨_,?_,rfl,hS.sb⟩
  decide
 replace hne:=hne rfl
 repeat' (first|refine K ?_|(refine Sh.sa hS ?_;clear hS;intro w hS)|(refine K3 ?_;clear hS;intro g w hS hge)|(refine KB ?_ ?_<;>intro hb<;>(try simp only [JJ] at hb)<;>(try exact JX))|fail|(refine Z.eff (Z.cl (yae _ _ _ _ hS) rfl ?_) rfl;clear hS;rintro e w ⟨rfl,hS⟩;refine ⟨_,rfl,?_⟩))
 ·refine Dct Tryz.results141 ?_;refine .inl ⟨_,?_,rfl,hS.sb⟩
  decide
 refine cQ (frozen_c c a s _ _ _ _ _ hS (hr.app [_,_,_,_,_,_]) ho hs) rfl ?_;clear hS;rintro e w ⟨b1,rfl,hS⟩;refine ⟨_,rfl,?_⟩
 cases b1
 case true=>
  repeat' (first|refine K ?_|(refine Sh.sa hS ?_;clear hS;intro w hS)|(refine K3 ?_;clear hS;intro g w hS hge)|(refine KB ?_ ?_<;>intro hb<;>(try simp only [JJ] at hb)<;>(try exact JX))|fail|(refine Z.eff (Z.cl (yae _ _ _ _ hS) rfl ?_) rfl;clear hS;rintro e w ⟨rfl,hS⟩;refine ⟨_,rfl,?_⟩))
  refine Dct Tryz.results141 ?_;refine .inl ⟨_,?_,rfl,hS.sb⟩
  decide
 refine sQ ?_;intro w hS;refine Z.cut [86,87,88,89,90,91,92,93,94,95,96,97,98,99,100,101,102,103,104,105,106,107,108,109,110,111,112,113] (fun w z=>∃ b:Bool,z=[(86,.bool b)]∧Sep r [] (.blk g 69 (Sta.zero.cl SAd.zero)::.blk ge 63 ((⟨kd,tk,(q:Nat),(k:Nat),ot,ep,fr,un,nn⟩:En)).cells::.blk gs 69 (s.cc c (⟨some ⟨gt,0,none⟩,tc,some ⟨gk,0,none⟩,kc⟩:SAd))::.blk gc 55 (c.cl a)::.sl 183 12 (.slice (some ⟨gt,0,none⟩) c.tenants.length tc) (s.tenants.map TS.cells)::.sl 186 4 (.slice (some ⟨gk,0,none⟩) c.cells.length kc) (s.cells.map CS.cells)::F) w) ?_ ?_
 ·refine D.startS hS 28 28 kR rfl ?_;replace hS:=hS.drew;refine Sh.dp 1 2 ?_;refine Sh.dp 3 10 ?_;refine Sh.dl 0 11 ?_;refine Sh.dl 2 15 ?_;refine Sh.dl 4 31 ?_;refine D.ef 5 63 ?_;refine Z.cl (ya4 c a _ _ _ _ _ hS (hr.app [_,_,_,_,_,_]) ho) rfl ?_;clear hS;rintro e w ⟨b1,rfl,hS⟩;refine ⟨_,rfl,?_⟩;refine HMs ?_;refine Sh.dp 6 127 ?_;refine Sh.dp 7 255 ?_;refine D.slot 94 rfl (fun hb=>?_) (fun hb=>?_)
  ·(try simp only [JJ] at hb)
   refine D.sk 8 511 ?_;refine D.sk 9 1023 ?_;refine D.sk 10 2047 ?_;refine D.sk 11 4095 ?_;refine D.sk 12 8191 ?_;refine D.sk 13 16383 ?_;refine D.sk 14 32767 ?_;refine D.sk 15 65535 ?_;refine Sh.dp 16 131071 ?_;refine Sh.dp 17 262143 ?_;refine D.sk 18 524287 ?_;refine D.sk 19 1048575 ?_;refine D.sk 20 2097151 ?_;refine D.sk 21 4194303 ?_;refine D.sk 22 8388607 ?_;refine D.sk 23 16777215 ?_;refine D.sk 24 33554431 ?_;refine D.sk 25 67108863 ?_;refine Sh.dp 26 134217727 ?_;refine Sh.dp 27 268435455 ?_;refine D.dn ?_;refine Sh.cut [(86,_)] ?_;exact ⟨_,rfl,hS.sb⟩
  ·(try simp only [JJ] at hb)
   refine Sh.dp 9 767 ?_;refine Sh.dp 11 2815 ?_;refine Sh.dp 12 6911 ?_;refine Sh.dp 13 15103 ?_;refine Sh.dl 8 15359 ?_;refine Sh.dl 10 16383 ?_;refine D.ldE 14 32767 rfl (D.wantedT rfl rfl) kR rfl (fun W hW=>yaa (fc:=TS.cells) (e:=183) (sz:=12) (g:=gt) hW AtF oM hq2 hx) rfl ?_;refine D.eff 15 65535 rfl (D.wantedT rfl rfl) kR kR (fun _ _ h=>h) ?_;refine WE.guard ?_;refine Z.cl (yaD c a _ _ _ _ _ hS (hr.app [_,_,_,_,_,_]) ho) rfl ?_;clear hS;rintro e w ⟨b2,rfl,hS⟩;refine ⟨_,rfl,?_⟩;refine HMs ?_;refine Sh.dp 16 131071 ?_;refine Sh.dp 17 262143 ?_;refine D.slot 104 rfl (fun hb=>?_) (fun hb=>?_)
   ·(try simp only [JJ] at hb)
    refine D.sk 18 524287 ?_;refine D.sk 19 1048575 ?_;refine D.sk 20 2097151 ?_;refine D.sk 21 4194303 ?_;refine D.sk 22 8388607 ?_;refine D.sk 23 16777215 ?_;refine D.sk 24 33554431 ?_;refine D.sk 25 67108863 ?_;refine Sh.dp 26 134217727 ?_;refine Sh.dp 27 268435455 ?_;refine D.dn ?_;refine Sh.cut [(86,_)] ?_;exact ⟨_,rfl,hS.sb⟩
   ·(try simp only [JJ] at hb)
    refine Sh.dp 19 786431 ?_;refine Sh.dp 21 2883583 ?_;refine Sh.dp 22 7077887 ?_;refine Sh.dp 23 15466495 ?_;refine Sh.dl 18 15728639 ?_;refine Sh.dl 20 16777215 ?_;refine D.ldE 24 33554431 rfl (D.wantedT rfl rfl) kR rfl (fun W hW=>yaa (fc:=TS.cells) (e:=183) (sz:=12) (g:=gt) hW AtF oM hq2 hx) rfl ?_;refine D.eff 25 67108863 rfl (D.wantedT rfl rfl) kR kR (fun _ _ h=>h) ?_;refine WE.guard ?_;refine Z.cl (yaD c a _ _ _ _ _ hS (hr.app [_,_,_,_,_,_]) ho) rfl ?_;clear hS;rintro e w ⟨b3,rfl,hS⟩;refine ⟨_,rfl,?_⟩;refine HMs ?_;refine Sh.dp 26 134217727 ?_;refine Sh.dp 27 268435455 ?_;refine D.dn ?_;refine Sh.cut [(86,_)] ?_;exact ⟨_,rfl,hS.sb⟩
 clear hS;rintro f0 w _ ⟨b,rfl,hS⟩
 cases b
 case true=>
  repeat' (first|refine K ?_|(refine Sh.sa hS ?_;clear hS;intro w hS)|(refine K3 ?_;clear hS;intro g w hS hge)|(refine KB ?_ ?_<;>intro hb<;>(try simp only [JJ] at hb)<;>(try exact JX))|fail|(refine Z.eff (Z.cl (yae _ _ _ _ hS) rfl ?_) rfl;clear hS;rintro e w ⟨rfl,hS⟩;refine ⟨_,rfl,?_⟩))
  refine Dct Tryz.results141 ?_;refine .inl ⟨_,?_,rfl,hS.sb⟩
  decide
 refine sQ ?_;intro w hS;rw [yag hq2 hx] at hS;refine Z.eff (Z.stT (y0:=x) (j:=5) ({ x with target:=(k:Int) }:TS) hS rfl AtF hq2 rfl rfl rfl oM rfl ?_) rfl;clear hS;intro w hS;have hs':(({ s with tenants:=s.tenants.set q { x with target:=(k:Int) } }:Sta)).ok c:=hs.setT (hxo.migrate hp (k:=(k:Int)) ⟨oM,oM⟩ hne.2.1 hne.2.2) q;refine sQ ?_;intro w hS;refine cQ (fit_c c a (({ s with tenants:=s.tenants.set q { x with target:=(k:Int) } }:Sta)) (⟨some ⟨gt,0,none⟩,tc,some ⟨gk,0,none⟩,kc⟩:SAd) _ _ _ hS (hr.app [_,_,_,_,_,_]) ho hs' ⟨Reads.of_at (e:=183) (v:=.slice (some ⟨gt,0,none⟩) c.tenants.length tc) AtF,Reads.of_at (e:=186) (v:=.slice (some ⟨gk,0,none⟩) c.cells.length kc) AtF⟩) rfl ?_;clear hS;rintro e w ⟨v,rfl,hv,hS⟩;refine ⟨_,rfl,?_⟩
 rcases hv with rfl|rfl
 ·refine sQ ?_;intro w hS;refine Dct Tryz.results141 ?_;exact .inl ⟨10,by decide,rfl,hS.sb⟩
 ·refine sQ ?_;intro w hS;refine Dct Tryz.results141 ?_;exact .inr ⟨({ s with tenants:=s.tenants.set q { x with target:=(k:Int) } }:Sta),(⟨some ⟨gt,0,none⟩,tc,some ⟨gk,0,none⟩,kc⟩:SAd),rfl,hs',hS.sb⟩
theorem ye1 (c:Cfg) (s:Sta) (gt tc gk kc q:Nat) (kd tk ot ep fr un nn:Int) (r:World) (F:List Res) (w:World) (hS:Sep r [] (.sl 183 12 (.slice (some ⟨gt,0,none⟩) c.tenants.length tc) (s.tenants.map TS.cells)::.sl 186 4 (.slice (some ⟨gk,0,none⟩) c.cells.length kc) (s.cells.map CS.cells)::F) w) (hs:s.ok c) (hq:q < c.tenants.length) (a:CAd) (hr:CfR r F c a) (ho:c.ok) :
  Calls Tryz.prog 139 #[c.val a,s.vc c (⟨some ⟨gt,0,none⟩,tc,some ⟨gk,0,none⟩,kc⟩:SAd),((⟨kd,tk,(q:Nat),-1,ot,ep,fr,un,nn⟩:En)).val] w fun ee w'=>(∃ er:Int,er≠0∧ee=.returned (noV er)∧Sep r [] F w')∨∃ (s':Sta) (b':SAd),ee=.returned (yesC s' c b')∧s'.ok c∧Sep r [] (.sl 183 12 (.slice b'.tA c.tenants.length b'.tc) (s'.tenants.map TS.cells)::.sl 186 4 (.slice b'.kA c.cells.length b'.kc) (s'.cells.map CS.cells)::F) w':=by
 have hq2:q < s.tenants.length:=by rw [hs.tl];exact hq
 obtain ⟨x,hx⟩:∃ x,s.tenants[q]'hq2=x:=⟨_,rfl⟩;have hxo:TOk c.cells.length x:=by rw [← hx];exact hs.t _ (List.getElem_mem hq2)
 refine Z.enter Tryz.func139 Tryz.ntmps139 rfl rfl ?_;refine aQ4 ?_;intro _ _ _ g w hS;have hrt:=yaa (fc:=TS.cells) hS (e:=183) (sz:=12) (g:=gt) AtF oM hq2 hx
 repeat' (first|refine K ?_|(refine Sh.sa hS ?_;clear hS;intro w hS)|(refine K3 ?_;clear hS;intro g w hS hge)|(refine KB ?_ ?_<;>intro hb<;>(try simp only [JJ] at hb)<;>(try exact JX))|fail|(refine Z.eff (Z.cl (yae _ _ _ _ hS) rfl ?_) rfl;clear hS;rintro e w ⟨rfl,hS⟩;refine ⟨_,rfl,?_⟩))
 ·refine Dct Tryz.results139 ?_;refine .inl ⟨_,?_,rfl,hS.sb⟩
  decide
 rename x.placed=true=>hp;rw [yag hq2 hx] at hS;refine Z.eff (Z.stT (y0:=x) (j:=4) ({ x with next:=-1 }:TS) hS rfl AtF hq2 rfl rfl rfl oM rfl ?_) rfl;clear hS;intro w hS;have hs':(({ s with tenants:=s.tenants.set q { x with next:=-1 } }:Sta)).ok c:=hs.setT (hxo.standby hp (k:=-1) ⟨oM,oM⟩ fun h=>by omega) q;refine sQ ?_;intro w hS;refine cQ (fit_c c a (({ s with tenants:=s.tenants.set q { x with next:=-1 } }:Sta)) (⟨some ⟨gt,0,none⟩,tc,some ⟨gk,0,none⟩,kc⟩:SAd) _ _ _ hS (hr.app [_,_,_,_,_,_]) ho hs' ⟨Reads.of_at (e:=183) (v:=.slice (some ⟨gt,0,none⟩) c.tenants.length tc) AtF,Reads.of_at (e:=186) (v:=.slice (some ⟨gk,0,none⟩) c.cells.length kc) AtF⟩) rfl ?_;clear hS;rintro e w ⟨v,rfl,hv,hS⟩;refine ⟨_,rfl,?_⟩
 rcases hv with rfl|rfl
 ·refine sQ ?_;intro w hS;refine Dct Tryz.results139 ?_;exact .inl ⟨10,by decide,rfl,hS.sb⟩
 ·refine sQ ?_;intro w hS;refine Dct Tryz.results139 ?_;exact .inr ⟨({ s with tenants:=s.tenants.set q { x with next:=-1 } }:Sta),(⟨some ⟨gt,0,none⟩,tc,some ⟨gk,0,none⟩,kc⟩:SAd),rfl,hs',hS.sb⟩
theorem yi0 (c:Cfg) (s:Sta) (gt tc gk kc q:Nat) (kd tk ce ot ep fr un nn:Int) (r:World) (F:List Res) (w:World) (hS:Sep r [] (.sl 183 12 (.slice (some ⟨gt,0,none⟩) c.tenants.length tc) (s.tenants.map TS.cells)::.sl 186 4 (.slice (some ⟨gk,0,none⟩) c.cells.length kc) (s.cells.map CS.cells)::F) w) (hs:s.ok c) (hq:q < c.tenants.length) (a:CAd) (hr:CfR r F c a) (ho:c.ok) :
  Calls Tryz.prog 143 #[c.val a,s.vc c (⟨some ⟨gt,0,none⟩,tc,some ⟨gk,0,none⟩,kc⟩:SAd),((⟨kd,tk,(q:Nat),ce,ot,ep,fr,un,nn⟩:En)).val] w fun ee w'=>(∃ er:Int,er≠0∧ee=.returned (noV er)∧Sep r [] F w')∨∃ (s':Sta) (b':SAd),ee=.returned (yesC s' c b')∧s'.ok c∧Sep r [] (.sl 183 12 (.slice b'.tA c.tenants.length b'.tc) (s'.tenants.map TS.cells)::.sl 186 4 (.slice b'.kA c.cells.length b'.kc) (s'.cells.map CS.cells)::F) w':=by
 have hq2:q < s.tenants.length:=by rw [hs.tl];exact hq
 obtain ⟨x,hx⟩:∃ x,s.tenants[q]'hq2=x:=⟨_,rfl⟩;have hxo:TOk c.cells.length x:=by rw [← hx];exact hs.t _ (List.getElem_mem hq2)
 refine Z.enter Tryz.func143 Tryz.ntmps143 rfl rfl ?_
 repeat' first|refine K ?_|refine Sa ?_;clear hS;intro w hS|refine K3 ?_;clear hS;intro g w hS hge|refine KC ?_ ?_<;>intro hb<;>try exact JX|fail
 ·rename nn=1=>hn;have hrt:=yaa (fc:=TS.cells) hS (e:=183) (sz:=12) (g:=gt) AtF oM hq2 hx
  repeat' (first|refine K ?_|(refine Sh.sa hS ?_;clear hS;intro w hS)|(refine K3 ?_;clear hS;intro g w hS hge)|(refine KB ?_ ?_<;>intro hb<;>(try simp only [JJ] at hb)<;>(try exact JX))|fail|(refine Z.eff (Z.cl (yae _ _ _ _ hS) rfl ?_) rfl;clear hS;rintro e w ⟨rfl,hS⟩;refine ⟨_,rfl,?_⟩))
  ·refine Dct Tryz.results143 ?_;refine .inl ⟨_,?_,rfl,hS.sb⟩
   decide
  ·refine Dct Tryz.results143 ?_;refine .inl ⟨_,?_,rfl,hS.sb⟩
   decide
  rename x.placed=true=>hp;refine D.startS hS 9 9 kR rfl ?_;replace hS:=hS.drew;refine Sh.dp 0 1 ?_;refine Sh.dp 1 3 ?_;refine Sh.dp 2 7 ?_;refine Sh.dp 3 15 ?_;refine Sh.dp 5 47 ?_;refine D.ldE (q:=11) 4 63 rfl D.wantedN kR rfl (fun W hW=>yaa (fc:=TS.cells) (e:=183) (sz:=12) (g:=gt) hW AtF oM hq2 hx) rfl ?_;refine Sh.dl 6 127 ?_;refine Sh.dp 7 255 ?_;refine Sh.dp 8 511 ?_;refine D.dn ?_
  repeat' (first|refine K ?_|(refine Sh.sa hS ?_;clear hS;intro w hS)|(refine K3 ?_;clear hS;intro g w hS hge)|(refine KB ?_ ?_<;>intro hb<;>(try simp only [JJ] at hb)<;>(try exact JX))|fail|(refine Z.eff (Z.cl (yae _ _ _ _ hS) rfl ?_) rfl;clear hS;rintro e w ⟨rfl,hS⟩;refine ⟨_,rfl,?_⟩))
  ·refine Dct Tryz.results143 ?_;refine .inl ⟨_,?_,rfl,hS.sb⟩
   decide
  rw [yag hq2 hx] at hS;refine Z.eff (Z.stT (y0:=x) (j:=1) ({ x with shed:=true }:TS) hS rfl AtF hq2 rfl rfl rfl oM rfl ?_) rfl;clear hS;intro w hS;refine sQ ?_;intro w hS;refine Z.eff (Z.stT (y0:={ x with shed:=true }) (j:=5) ({ x with shed:=true,target:=-1 }:TS) hS rfl AtF hq2 rfl rfl rfl oM rfl ?_) rfl;clear hS;intro w hS;refine sQ ?_;intro w hS;refine Dct Tryz.results143 ?_;exact .inr ⟨{ s with tenants:=s.tenants.set q { x with shed:=true,target:=-1 } },(⟨some ⟨gt,0,none⟩,tc,some ⟨gk,0,none⟩,kc⟩:SAd),rfl,hs.setT (hxo.shed hp) q,hS.sb⟩
 ·have hrt:=yaa (fc:=TS.cells) hS (e:=183) (sz:=12) (g:=gt) AtF oM hq2 hx
  repeat' (first|refine K ?_|(refine Sh.sa hS ?_;clear hS;intro w hS)|(refine K3 ?_;clear hS;intro g w hS hge)|(refine KB ?_ ?_<;>intro hb<;>(try simp only [JJ] at hb)<;>(try exact JX))|fail|(refine Z.eff (Z.cl (yae _ _ _ _ hS) rfl ?_) rfl;clear hS;rintro e w ⟨rfl,hS⟩;refine ⟨_,rfl,?_⟩))
  ·refine Dct Tryz.results143 ?_;refine .inl ⟨_,?_,rfl,hS.sb⟩
   decide
  rename x.shed=true=>hsh;have hhp:=hxo.ph (hxo.sh hsh);have hhb:=hxo.h;have hk2:x.home.toNat < s.cells.length:=by rw [hs.kl];omega
  obtain ⟨y,hy⟩:∃ y,s.cells[x.home.toNat]'hk2=y:=⟨_,rfl⟩;refine D.startS hS 11 11 kR rfl ?_;replace hS:=hS.drew;refine Sh.dp 0 1 ?_;refine Sh.dp 2 5 ?_;refine Sh.dp 3 13 ?_;refine Sh.dp 4 29 ?_;refine Sh.dl 1 31 ?_;refine D.ldE 5 63 rfl D.wantedN kR rfl (fun W hW=>yaa (fc:=TS.cells) (e:=183) (sz:=12) (g:=gt) hW AtF oM hq2 hx) rfl ?_
  first|refine D.ixn 6 127 rfl D.wantedN kR rfl rfl rfl oM ?_|refine D.ix 6 127 rfl D.wantedN kR rfl rfl rfl oM ?_|refine D.ia 6 127 rfl D.wantedN kR rfl rfl rfl oM ?_
  refine Sh.dp 7 255 ?_;refine D.ldE 8 511 rfl D.wantedN kR rfl (fun W hW=>yaa (fc:=CS.cells) (e:=186) (sz:=4) (g:=gk) hW AtF oM hk2 hy) rfl ?_
  first|refine D.pr 9 1023 rfl D.wantedN kR rfl ?_|refine D.pl 9 1023 rfl D.wantedN kR (R.eqa rfl rfl rfl rfl) ?_
  refine Sh.dp 10 2047 ?_;refine D.dn ?_
  repeat' (first|refine K ?_|(refine Sh.sa hS ?_;clear hS;intro w hS)|(refine K3 ?_;clear hS;intro g w hS hge)|(refine KB ?_ ?_<;>intro hb<;>(try simp only [JJ] at hb)<;>(try exact JX))|fail|(refine Z.eff (Z.cl (yae _ _ _ _ hS) rfl ?_) rfl;clear hS;rintro e w ⟨rfl,hS⟩;refine ⟨_,rfl,?_⟩))
  ·refine Dct Tryz.results143 ?_;refine .inl ⟨_,?_,rfl,hS.sb⟩
   decide
  rw [yag hq2 hx] at hS;refine Z.eff (Z.stT (y0:=x) (j:=1) ({ x with shed:=false }:TS) hS rfl AtF hq2 rfl rfl rfl oM rfl ?_) rfl;clear hS;intro w hS;have hs':(({ s with tenants:=s.tenants.set q { x with shed:=false } }:Sta)).ok c:=hs.setT hxo.unshed q;refine sQ ?_;intro w hS;refine cQ (fit_c c a (({ s with tenants:=s.tenants.set q { x with shed:=false } }:Sta)) (⟨some ⟨gt,0,none⟩,tc,some ⟨gk,0,none⟩,kc⟩:SAd) _ _ _ hS (hr.app [_,_,_,_,_,_]) ho hs' ⟨Reads.of_at (e:=183) (v:=.slice (some ⟨gt,0,none⟩) c.tenants.length tc) AtF,Reads.of_at (e:=186) (v:=.slice (some ⟨gk,0,none⟩) c.cells.length kc) AtF⟩) rfl ?_;clear hS;rintro e w ⟨v,rfl,hv,hS⟩;refine ⟨_,rfl,?_⟩
  rcases hv with rfl|rfl
  ·refine sQ ?_;intro w hS;refine Dct Tryz.results143 ?_;exact .inl ⟨10,by decide,rfl,hS.sb⟩
  ·refine sQ ?_;intro w hS;refine Dct Tryz.results143 ?_;exact .inr ⟨({ s with tenants:=s.tenants.set q { x with shed:=false } }:Sta),(⟨some ⟨gt,0,none⟩,tc,some ⟨gk,0,none⟩,kc⟩:SAd),rfl,hs',hS.sb⟩
end Go.Proofs.YtfmnjbhncnldmaaGreat
