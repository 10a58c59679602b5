import Derived.Test.YtfmnjbhncnldmaaGreatW43
set_option maxHeartbeats 8000000
set_option linter.unusedSimpArgs false
set_option linter.unusedVariables false
namespace Go.Proofs.YtfmnjbhncnldmaaGreat
open Go.RowKit
attribute [local irreducible] Res.blk Res.sl Res.all Res.ex Res.pure Res.star
theorem yhY (c:Cfg) (s:Sta) (gt tc gk kc q:Nat) (k o:Nat) (kd tk ep fr un nn:Int) (r:World) (F:List Res) (w:World) (hS:Sep r [] (.sl 183 12 (.slice (some ⟨gt,0,none⟩) c.tenants.length tc) (s.tenants.map TS.cells)::.sl 186 4 (.slice (some ⟨gk,0,none⟩) c.cells.length kc) (s.cells.map CS.cells)::F) w) (hs:s.ok c) (hq:q < c.tenants.length) (a:CAd) (hr:CfR r F c a) (ho:c.ok) (hk:k < c.cells.length) (hok:o < c.cells.length) (hne:(o:Int)≠k) :
  Calls Tryz.prog 136 #[c.val a,s.vc c (⟨some ⟨gt,0,none⟩,tc,some ⟨gk,0,none⟩,kc⟩:SAd),((⟨kd,tk,(q:Nat),(k:Nat),(o:Nat),ep,fr,un,nn⟩:En)).val] w fun ee w'=>(∃ er:Int,er≠0∧ee=.returned (noV er)∧Sep r [] F w')∨∃ (s':Sta) (b':SAd),ee=.returned (yesC s' c b')∧s'.ok c∧Sep r [] (.sl 183 12 (.slice b'.tA c.tenants.length b'.tc) (s'.tenants.map TS.cells)::.sl 186 4 (.slice b'.kA c.cells.length b'.kc) (s'.cells.map CS.cells)::F) w':=by
 have hq2:q < s.tenants.length:=by rw [hs.tl];exact hq
 obtain ⟨x,hx⟩:∃ x,s.tenants[q]'hq2=x:=⟨_,rfl⟩;have hxo:TOk c.cells.length x:=by rw [← hx];exact hs.t _ (List.getElem_mem hq2)
 have hk2:k < s.cells.length:=by rw [hs.kl];exact hk
 obtain ⟨y,hy⟩:∃ y,s.cells[k]'hk2=y:=⟨_,rfl⟩;have ho2:o < s.cells.length:=by rw [hs.kl];exact hok
 obtain ⟨z,hz⟩:∃ z,s.cells[o]'ho2=z:=⟨_,rfl⟩;refine Z.enter Tryz.func136 Tryz.ntmps136 rfl rfl ?_;refine aQ4 ?_;intro gc gs ge g w hS;have hrt:=yaa (fc:=TS.cells) hS (e:=183) (sz:=12) (g:=gt) AtF oM hq2 hx;have hrk:=yaa (fc:=CS.cells) hS (e:=186) (sz:=4) (g:=gk) AtF oM hk2 hy;have hro:=yaa (fc:=CS.cells) hS (e:=186) (sz:=4) (g:=gk) AtF oM ho2 hz
 repeat' (first|refine K ?_|(refine Sh.sa hS ?_;clear hS;intro w hS)|(refine K3 ?_;clear hS;intro g w hS hge)|(refine KB ?_ ?_<;>intro hb<;>(try simp only [JJ] at hb)<;>(try exact JX))|fail|(refine Z.eff (Z.cl (yae _ _ _ _ hS) rfl ?_) rfl;clear hS;rintro e w ⟨rfl,hS⟩;refine ⟨_,rfl,?_⟩))
 ·refine Dct Tryz.results136 ?_;refine .inl ⟨_,?_,rfl,hS.sb⟩
  decide
 ·refine Dct Tryz.results136 ?_;refine .inl ⟨_,?_,rfl,hS.sb⟩
  decide
 ·refine Dct Tryz.results136 ?_;refine .inl ⟨_,?_,rfl,hS.sb⟩
  decide
 rename x.placed=false=>hp;refine cQ (frozen_c c a s _ _ _ _ _ hS (hr.app [_,_,_,_,_,_]) ho hs) rfl ?_;clear hS;rintro e w ⟨b1,rfl,hS⟩;refine ⟨_,rfl,?_⟩
 cases b1
 case true=>
  repeat' (first|refine K ?_|(refine Sh.sa hS ?_;clear hS;intro w hS)|(refine K3 ?_;clear hS;intro g w hS hge)|(refine KB ?_ ?_<;>intro hb<;>(try simp only [JJ] at hb)<;>(try exact JX))|fail|(refine Z.eff (Z.cl (yae _ _ _ _ hS) rfl ?_) rfl;clear hS;rintro e w ⟨rfl,hS⟩;refine ⟨_,rfl,?_⟩))
  refine Dct Tryz.results136 ?_;refine .inl ⟨_,?_,rfl,hS.sb⟩
  decide
 refine sQ ?_;intro w hS;refine cQ (frozen_c c a s _ _ _ _ _ hS (hr.app [_,_,_,_,_,_]) ho hs) rfl ?_;clear hS;rintro e w ⟨b1,rfl,hS⟩;refine ⟨_,rfl,?_⟩
 cases b1
 case true=>
  repeat' (first|refine K ?_|(refine Sh.sa hS ?_;clear hS;intro w hS)|(refine K3 ?_;clear hS;intro g w hS hge)|(refine KB ?_ ?_<;>intro hb<;>(try simp only [JJ] at hb)<;>(try exact JX))|fail|(refine Z.eff (Z.cl (yae _ _ _ _ hS) rfl ?_) rfl;clear hS;rintro e w ⟨rfl,hS⟩;refine ⟨_,rfl,?_⟩))
  refine Dct Tryz.results136 ?_;refine .inl ⟨_,?_,rfl,hS.sb⟩
  decide
 refine sQ ?_;intro w hS;refine cQ (ya4 c a _ _ _ _ _ hS (hr.app [_,_,_,_,_,_]) ho) rfl ?_;clear hS;rintro e w ⟨b1,rfl,hS⟩;refine ⟨_,rfl,?_⟩
 cases b1
 case false=>
  repeat' (first|refine K ?_|(refine Sh.sa hS ?_;clear hS;intro w hS)|(refine K3 ?_;clear hS;intro g w hS hge)|(refine KB ?_ ?_<;>intro hb<;>(try simp only [JJ] at hb)<;>(try exact JX))|fail|(refine Z.eff (Z.cl (yae _ _ _ _ hS) rfl ?_) rfl;clear hS;rintro e w ⟨rfl,hS⟩;refine ⟨_,rfl,?_⟩))
  refine Dct Tryz.results136 ?_;refine .inl ⟨_,?_,rfl,hS.sb⟩
  decide
 refine sQ ?_;intro w hS;refine cQ (ya4 c a _ _ _ _ _ hS (hr.app [_,_,_,_,_,_]) ho) rfl ?_;clear hS;rintro e w ⟨b1,rfl,hS⟩;refine ⟨_,rfl,?_⟩
 cases b1
 case false=>
  repeat' (first|refine K ?_|(refine Sh.sa hS ?_;clear hS;intro w hS)|(refine K3 ?_;clear hS;intro g w hS hge)|(refine KB ?_ ?_<;>intro hb<;>(try simp only [JJ] at hb)<;>(try exact JX))|fail|(refine Z.eff (Z.cl (yae _ _ _ _ hS) rfl ?_) rfl;clear hS;rintro e w ⟨rfl,hS⟩;refine ⟨_,rfl,?_⟩))
  refine Dct Tryz.results136 ?_;refine .inl ⟨_,?_,rfl,hS.sb⟩
  decide
 refine sQ ?_;intro w hS;refine cQ (yaD c a _ _ _ _ _ hS (hr.app [_,_,_,_,_,_]) ho) rfl ?_;clear hS;rintro e w ⟨b1,rfl,hS⟩;refine ⟨_,rfl,?_⟩
 cases b1
 case true=>
  repeat' (first|refine K ?_|(refine Sh.sa hS ?_;clear hS;intro w hS)|(refine K3 ?_;clear hS;intro g w hS hge)|(refine KB ?_ ?_<;>intro hb<;>(try simp only [JJ] at hb)<;>(try exact JX))|fail|(refine Z.eff (Z.cl (yae _ _ _ _ hS) rfl ?_) rfl;clear hS;rintro e w ⟨rfl,hS⟩;refine ⟨_,rfl,?_⟩))
  refine Dct Tryz.results136 ?_;refine .inl ⟨_,?_,rfl,hS.sb⟩
  decide
 refine sQ ?_;intro w hS;refine D.startS (Lr:=[.blk ge 63 ((⟨kd,tk,(q:Nat),(k:Nat),(o:Nat),ep,fr,un,nn⟩:En)).cells]) (hS.sb) 15 16 kR rfl ?_;replace hS:=hS.drew;refine Sh.dp 0 1 ?_;refine Sh.dp 1 3 ?_;refine Sh.dp 2 7 ?_;refine Sh.dp 3 15 ?_;refine Sh.dp 5 47 ?_;refine Sh.dp 7 175 ?_;refine Sh.dp 8 431 ?_;refine Sh.dl 4 447 ?_;refine Sh.dl 6 511 ?_;refine D.ef 9 1023 ?_;rw [yag hq2 hx] at hS;refine Z.stT (y0:=x) (j:=0) ({ x with placed:=true }:TS) hS rfl AtF hq2 rfl rfl rfl oM rfl ?_;clear hS;intro w hS;refine HMs ?_;refine Sh.dp 10 2047 ?_;refine Sh.dp 11 4095 ?_;refine D.ef 12 8191 ?_;refine Z.stT (y0:={ x with placed:=true }) (j:=2) ({ x with placed:=true,home:=(k:Int) }:TS) hS rfl AtF hq2 rfl rfl rfl oM rfl ?_;clear hS;intro w hS;refine HMs ?_;refine Sh.dp 13 16383 ?_;refine Sh.dp 14 32767 ?_;refine D.ef 15 65535 ?_;refine Z.stT (y0:={ x with placed:=true,home:=(k:Int) }) (j:=3) ({ x with placed:=true,home:=(k:Int),standby:=(o:Int) }:TS) hS rfl AtF hq2 rfl rfl rfl oM rfl ?_;clear hS;intro w hS;refine HMl ?_;refine D.dn ?_;have hs':(({ s with tenants:=s.tenants.set q { x with placed:=true,home:=(k:Int),standby:=(o:Int) } }:Sta)).ok c:=hs.setT (hxo.place hp (k:=(k:Int)) (o:=(o:Int)) ⟨oM,oM⟩ ⟨oM,oM⟩ hne) q;refine sQ ?_;intro w hS;refine cQ (fit_c c a (({ s with tenants:=s.tenants.set q { x with placed:=true,home:=(k:Int),standby:=(o:Int) } }:Sta)) (⟨some ⟨gt,0,none⟩,tc,some ⟨gk,0,none⟩,kc⟩:SAd) _ _ _ hS (hr.app [_,_,_,_,_,_]) ho hs' ⟨Reads.of_at (e:=183) (v:=.slice (some ⟨gt,0,none⟩) c.tenants.length tc) AtF,Reads.of_at (e:=186) (v:=.slice (some ⟨gk,0,none⟩) c.cells.length kc) AtF⟩) rfl ?_;clear hS;rintro e w ⟨v,rfl,hv,hS⟩;refine ⟨_,rfl,?_⟩
 rcases hv with rfl|rfl
 ·refine sQ ?_;intro w hS;refine Dct Tryz.results136 ?_;exact .inl ⟨10,by decide,rfl,hS.sb⟩
 ·refine sQ ?_;intro w hS;refine Dct Tryz.results136 ?_;exact .inr ⟨({ s with tenants:=s.tenants.set q { x with placed:=true,home:=(k:Int),standby:=(o:Int) } }:Sta),(⟨some ⟨gt,0,none⟩,tc,some ⟨gk,0,none⟩,kc⟩:SAd),rfl,hs',hS.sb⟩
theorem ygV (c:Cfg) (s:Sta) (gt tc gk kc q:Nat) (k:Nat) (kd tk ep fr un nn:Int) (r:World) (F:List Res) (w:World) (hS:Sep r [] (.sl 183 12 (.slice (some ⟨gt,0,none⟩) c.tenants.length tc) (s.tenants.map TS.cells)::.sl 186 4 (.slice (some ⟨gk,0,none⟩) c.cells.length kc) (s.cells.map CS.cells)::F) w) (hs:s.ok c) (hq:q < c.tenants.length) (a:CAd) (hr:CfR r F c a) (ho:c.ok) (hk:k < c.cells.length) :
  Calls Tryz.prog 136 #[c.val a,s.vc c (⟨some ⟨gt,0,none⟩,tc,some ⟨gk,0,none⟩,kc⟩:SAd),((⟨kd,tk,(q:Nat),(k:Nat),-1,ep,fr,un,nn⟩:En)).val] w fun ee w'=>(∃ er:Int,er≠0∧ee=.returned (noV er)∧Sep r [] F w')∨∃ (s':Sta) (b':SAd),ee=.returned (yesC s' c b')∧s'.ok c∧Sep r [] (.sl 183 12 (.slice b'.tA c.tenants.length b'.tc) (s'.tenants.map TS.cells)::.sl 186 4 (.slice b'.kA c.cells.length b'.kc) (s'.cells.map CS.cells)::F) w':=by
 have hq2:q < s.tenants.length:=by rw [hs.tl];exact hq
 obtain ⟨x,hx⟩:∃ x,s.tenants[q]'hq2=x:=⟨_,rfl⟩;have hxo:TOk c.cells.length x:=by rw [← hx];exact hs.t _ (List.getElem_mem hq2)
 have hk2:k < s.cells.length:=by rw [hs.kl];exact hk
 obtain ⟨y,hy⟩:∃ y,s.cells[k]'hk2=y:=⟨_,rfl⟩;refine Z.enter Tryz.func136 Tryz.ntmps136 rfl rfl ?_;refine aQ4 ?_;intro gc gs ge g w hS;have hrt:=yaa (fc:=TS.cells) hS (e:=183) (sz:=12) (g:=gt) AtF oM hq2 hx;have hrk:=yaa (fc:=CS.cells) hS (e:=186) (sz:=4) (g:=gk) AtF oM hk2 hy
 repeat' (first|refine K ?_|(refine Sh.sa hS ?_;clear hS;intro w hS)|(refine K3 ?_;clear hS;intro g w hS hge)|(refine KB ?_ ?_<;>intro hb<;>(try simp only [JJ] at hb)<;>(try exact JX))|fail|(refine Z.eff (Z.cl (yae _ _ _ _ hS) rfl ?_) rfl;clear hS;rintro e w ⟨rfl,hS⟩;refine ⟨_,rfl,?_⟩))
 ·refine Dct Tryz.results136 ?_;refine .inl ⟨_,?_,rfl,hS.sb⟩
  decide
 ·refine Dct Tryz.results136 ?_;refine .inl ⟨_,?_,rfl,hS.sb⟩
  decide
 rename x.placed=false=>hp;refine cQ (frozen_c c a s _ _ _ _ _ hS (hr.app [_,_,_,_,_,_]) ho hs) rfl ?_;clear hS;rintro e w ⟨b1,rfl,hS⟩;refine ⟨_,rfl,?_⟩
 cases b1
 case true=>
  repeat' (first|refine K ?_|(refine Sh.sa hS ?_;clear hS;intro w hS)|(refine K3 ?_;clear hS;intro g w hS hge)|(refine KB ?_ ?_<;>intro hb<;>(try simp only [JJ] at hb)<;>(try exact JX))|fail|(refine Z.eff (Z.cl (yae _ _ _ _ hS) rfl ?_) rfl;clear hS;rintro e w ⟨rfl,hS⟩;refine ⟨_,rfl,?_⟩))
  refine Dct Tryz.results136 ?_;refine .inl ⟨_,?_,rfl,hS.sb⟩
  decide
 refine sQ ?_;intro w hS;refine cQ (ya4 c a _ _ _ _ _ hS (hr.app [_,_,_,_,_,_]) ho) rfl ?_;clear hS;rintro e w ⟨b1,rfl,hS⟩;refine ⟨_,rfl,?_⟩
 cases b1
 case false=>
  repeat' (first|refine K ?_|(refine Sh.sa hS ?_;clear hS;intro w hS)|(refine K3 ?_;clear hS;intro g w hS hge)|(refine KB ?_ ?_<;>intro hb<;>(try simp only [JJ] at hb)<;>(try exact JX))|fail|(refine Z.eff (Z.cl (yae _ _ _ _ hS) rfl ?_) rfl;clear hS;rintro e w ⟨rfl,hS⟩;refine ⟨_,rfl,?_⟩))
  refine Dct Tryz.results136 ?_;refine .inl ⟨_,?_,rfl,hS.sb⟩
  decide
 refine sQ ?_;intro w hS;refine D.startS (Lr:=[.blk ge 63 ((⟨kd,tk,(q:Nat),(k:Nat),-1,ep,fr,un,nn⟩:En)).cells]) (hS.sb) 15 16 kR rfl ?_;replace hS:=hS.drew;refine Sh.dp 0 1 ?_;refine Sh.dp 1 3 ?_;refine Sh.dp 2 7 ?_;refine Sh.dp 3 15 ?_;refine Sh.dp 5 47 ?_;refine Sh.dp 7 175 ?_;refine Sh.dp 8 431 ?_;refine Sh.dl 4 447 ?_;refine Sh.dl 6 511 ?_;refine D.ef 9 1023 ?_;rw [yag hq2 hx] at hS;refine Z.stT (y0:=x) (j:=0) ({ x with placed:=true }:TS) hS rfl AtF hq2 rfl rfl rfl oM rfl ?_;clear hS;intro w hS;refine HMs ?_;refine Sh.dp 10 2047 ?_;refine Sh.dp 11 4095 ?_;refine D.ef 12 8191 ?_;refine Z.stT (y0:={ x with placed:=true }) (j:=2) ({ x with placed:=true,home:=(k:Int) }:TS) hS rfl AtF hq2 rfl rfl rfl oM rfl ?_;clear hS;intro w hS;refine HMs ?_;refine Sh.dp 13 16383 ?_;refine Sh.dp 14 32767 ?_;refine D.ef 15 65535 ?_;refine Z.stT (y0:={ x with placed:=true,home:=(k:Int) }) (j:=3) ({ x with placed:=true,home:=(k:Int),standby:=-1 }:TS) hS rfl AtF hq2 rfl rfl rfl oM rfl ?_;clear hS;intro w hS;refine HMl ?_;refine D.dn ?_;have hs':(({ s with tenants:=s.tenants.set q { x with placed:=true,home:=(k:Int),standby:=-1 } }:Sta)).ok c:=hs.setT (hxo.place hp (k:=(k:Int)) (o:=-1) ⟨oM,oM⟩ ⟨oM,oM⟩ oM) q;refine sQ ?_;intro w hS;refine cQ (fit_c c a (({ s with tenants:=s.tenants.set q { x with placed:=true,home:=(k:Int),standby:=-1 } }:Sta)) (⟨some ⟨gt,0,none⟩,tc,some ⟨gk,0,none⟩,kc⟩:SAd) _ _ _ hS (hr.app [_,_,_,_,_,_]) ho hs' ⟨Reads.of_at (e:=183) (v:=.slice (some ⟨gt,0,none⟩) c.tenants.length tc) AtF,Reads.of_at (e:=186) (v:=.slice (some ⟨gk,0,none⟩) c.cells.length kc) AtF⟩) rfl ?_;clear hS;rintro e w ⟨v,rfl,hv,hS⟩;refine ⟨_,rfl,?_⟩
 rcases hv with rfl|rfl
 ·refine sQ ?_;intro w hS;refine Dct Tryz.results136 ?_;exact .inl ⟨10,by decide,rfl,hS.sb⟩
 ·refine sQ ?_;intro w hS;refine Dct Tryz.results136 ?_;exact .inr ⟨({ s with tenants:=s.tenants.set q { x with placed:=true,home:=(k:Int),standby:=-1 } }:Sta),(⟨some ⟨gt,0,none⟩,tc,some ⟨gk,0,none⟩,kc⟩:SAd),rfl,hs',hS.sb⟩
theorem yfs (c:Cfg) (s:Sta) (gt tc gk kc q:Nat) (k:Nat) (kd tk ot ep fr un nn:Int) (r:World) (F:List Res) (w:World) (hS:Sep r [] (.sl 183 12 (.slice (some ⟨gt,0,none⟩) c.tenants.length tc) (s.tenants.map TS.cells)::.sl 186 4 (.slice (some ⟨gk,0,none⟩) c.cells.length kc) (s.cells.map CS.cells)::F) w) (hs:s.ok c) (hq:q < c.tenants.length) (a:CAd) (hk:k < c.cells.length) :
  Calls Tryz.prog 222 #[c.val a,s.vc c (⟨some ⟨gt,0,none⟩,tc,some ⟨gk,0,none⟩,kc⟩:SAd),((⟨kd,tk,(q:Nat),(k:Nat),ot,ep,fr,un,nn⟩:En)).val] w fun ee w'=>∃ er:Int,ee=.returned (.int .i64 er)∧Sep r [] (.sl 183 12 (.slice (some ⟨gt,0,none⟩) c.tenants.length tc) (s.tenants.map TS.cells)::.sl 186 4 (.slice (some ⟨gk,0,none⟩) c.cells.length kc) (s.cells.map CS.cells)::F) w':=by
 have hq2:q < s.tenants.length:=by rw [hs.tl];exact hq
 obtain ⟨x,hx⟩:∃ x,s.tenants[q]'hq2=x:=⟨_,rfl⟩;have hxo:TOk c.cells.length x:=by rw [← hx];exact hs.t _ (List.getElem_mem hq2)
 have hk2:k < s.cells.length:=by rw [hs.kl];exact hk
 obtain ⟨y,hy⟩:∃ y,s.cells[k]'hk2=y:=⟨_,rfl⟩;refine Z.enter Tryz.func222 Tryz.ntmps222 rfl rfl ?_
 repeat' first|refine K ?_|refine Sa ?_;clear hS;intro w hS|refine K3 ?_;clear hS;intro g w hS hge|refine KC ?_ ?_<;>intro hb<;>try exact JX|fail
 rename_i gc _ _ gs _ _;rename Nat=>ge;have hrt:=yaa (fc:=TS.cells) hS (e:=183) (sz:=12) (g:=gt) AtF oM hq2 hx
 repeat' first|refine K ?_|refine Sa ?_;clear hS;intro w hS|refine K3 ?_;clear hS;intro g w hS hge|refine KC ?_ ?_<;>intro hb<;>try exact JX|fail
 rename Nat=>g7;have hrk:=yaa (fc:=CS.cells) hS (e:=186) (sz:=4) (g:=gk) AtF oM hk2 hy
 repeat' (first|refine Kn ?_|(refine Sh.sa hS ?_;clear hS;intro w hS)|(refine K3 ?_;clear hS;intro g w hS hge)|(refine KB ?_ ?_<;>intro hb<;>(try simp only [JJ] at hb)<;>(try exact JX))|fail)
 rename Nat=>g8;refine Z.thN ?_
 repeat' (first|refine Kn ?_|(refine Sh.sa hS ?_;clear hS;intro w hS)|(refine K3 ?_;clear hS;intro g w hS hge)|(refine KB ?_ ?_<;>intro hb<;>(try simp only [JJ] at hb)<;>(try exact JX))|fail)
 refine Z.thN ?_;refine Z.seq ?_;refine Z.block ?_;refine Z.seq ?_;refine Z.cut [27,28,29,30,31,32,33,34,35,36,37,38,39] (fun w z=>∃ b:Bool,z=[(27,.bool b)]∧Sep r [] (.blk g8 186 y.cells::.blk g7 183 x.cells::.blk ge 63 ((⟨kd,tk,(q:Nat),(k:Nat),ot,ep,fr,un,nn⟩:En)).cells::.blk gs 69 (s.cc c (⟨some ⟨gt,0,none⟩,tc,some ⟨gk,0,none⟩,kc⟩:SAd))::.blk gc 55 (c.cl a)::.sl 183 12 (.slice (some ⟨gt,0,none⟩) c.tenants.length tc) (s.tenants.map TS.cells)::.sl 186 4 (.slice (some ⟨gk,0,none⟩) c.cells.length kc) (s.cells.map CS.cells)::F) w) ?_ ?_
 ·repeat' (first|refine Kw ?_|(refine Sh.sa hS ?_;clear hS;intro w hS)|(refine K3 ?_;clear hS;intro g w hS hge)|(refine KB ?_ ?_<;>intro hb<;>(try simp only [JJ] at hb)<;>(try exact JX))|fail)
  all_goals
   refine Sh.cut [(27,_)] ?_;exact ⟨_,rfl,hS.sb⟩
 clear hS;rintro f0 w _ ⟨b,rfl,hS⟩
 cases b
 case true=>
  refine sQ ?_;intro w hS;refine Dnt Tryz.results222 ?_;exact ⟨_,rfl,hS.sb⟩
 refine Z.brF rfl ?_;refine Z.seq ?_;refine Z.cut [40,41,42,43,44,45,46,47,48,49,50,51,52,53,54,55,56,57,58,59,60,61,62,63,64,65,66,67,68] (fun w z=>∃ b:Bool,z=[(40,.bool b)]∧Sep r [] (.blk g8 186 y.cells::.blk g7 183 x.cells::.blk ge 63 ((⟨kd,tk,(q:Nat),(k:Nat),ot,ep,fr,un,nn⟩:En)).cells::.blk gs 69 (s.cc c (⟨some ⟨gt,0,none⟩,tc,some ⟨gk,0,none⟩,kc⟩:SAd))::.blk gc 55 (c.cl a)::.sl 183 12 (.slice (some ⟨gt,0,none⟩) c.tenants.length tc) (s.tenants.map TS.cells)::.sl 186 4 (.slice (some ⟨gk,0,none⟩) c.cells.length kc) (s.cells.map CS.cells)::F) w) ?_ ?_
 ·repeat' (first|refine Kw ?_|(refine Sh.sa hS ?_;clear hS;intro w hS)|(refine K3 ?_;clear hS;intro g w hS hge)|(refine KB ?_ ?_<;>intro hb<;>(try simp only [JJ] at hb)<;>(try exact JX))|fail)
  all_goals
   refine Sh.cut [(40,_)] ?_;exact ⟨_,rfl,hS.sb⟩
 clear hS;rintro f0 w _ ⟨b,rfl,hS⟩
 cases b
 case true=>
  refine sQ ?_;intro w hS;refine Dnt Tryz.results222 ?_;exact ⟨_,rfl,hS.sb⟩
 refine Z.brF rfl ?_;refine Z.seq ?_;refine Z.cut [69,70,71,72,73,74,75,76,77,78,79,80,81] (fun w z=>∃ b:Bool,z=[(69,.bool b)]∧Sep r [] (.blk g8 186 y.cells::.blk g7 183 x.cells::.blk ge 63 ((⟨kd,tk,(q:Nat),(k:Nat),ot,ep,fr,un,nn⟩:En)).cells::.blk gs 69 (s.cc c (⟨some ⟨gt,0,none⟩,tc,some ⟨gk,0,none⟩,kc⟩:SAd))::.blk gc 55 (c.cl a)::.sl 183 12 (.slice (some ⟨gt,0,none⟩) c.tenants.length tc) (s.tenants.map TS.cells)::.sl 186 4 (.slice (some ⟨gk,0,none⟩) c.cells.length kc) (s.cells.map CS.cells)::F) w) ?_ ?_
 ·repeat' (first|refine Kw ?_|(refine Sh.sa hS ?_;clear hS;intro w hS)|(refine K3 ?_;clear hS;intro g w hS hge)|(refine KB ?_ ?_<;>intro hb<;>(try simp only [JJ] at hb)<;>(try exact JX))|fail)
  all_goals
   refine Sh.cut [(69,_)] ?_;exact ⟨_,rfl,hS.sb⟩
 clear hS;rintro f0 w _ ⟨b,rfl,hS⟩
 cases b
 case true=>
  refine sQ ?_;intro w hS;refine Dnt Tryz.results222 ?_;exact ⟨_,rfl,hS.sb⟩
 refine Z.brF rfl ?_;refine Z.seq ?_;refine Z.cut [82,83,84,85,86,87,88,89,90,91,92,93,94,95,96,97,98,99,100,101,102,103,104,105,106,107,108,109,110,111,112,113,114,115,116,117,118,119,120,121,122] (fun w z=>∃ b:Bool,z=[(82,.bool b)]∧Sep r [] (.blk g8 186 y.cells::.blk g7 183 x.cells::.blk ge 63 ((⟨kd,tk,(q:Nat),(k:Nat),ot,ep,fr,un,nn⟩:En)).cells::.blk gs 69 (s.cc c (⟨some ⟨gt,0,none⟩,tc,some ⟨gk,0,none⟩,kc⟩:SAd))::.blk gc 55 (c.cl a)::.sl 183 12 (.slice (some ⟨gt,0,none⟩) c.tenants.length tc) (s.tenants.map TS.cells)::.sl 186 4 (.slice (some ⟨gk,0,none⟩) c.cells.length kc) (s.cells.map CS.cells)::F) w) ?_ ?_
 ·repeat' (first|refine Kw ?_|(refine Sh.sa hS ?_;clear hS;intro w hS)|(refine K3 ?_;clear hS;intro g w hS hge)|(refine KB ?_ ?_<;>intro hb<;>(try simp only [JJ] at hb)<;>(try exact JX))|fail)
  all_goals
   refine Sh.cut [(82,_)] ?_;exact ⟨_,rfl,hS.sb⟩
 clear hS;rintro f0 w _ ⟨b,rfl,hS⟩
 cases b
 case true=>
  refine sQ ?_;intro w hS;refine Dnt Tryz.results222 ?_;exact ⟨_,rfl,hS.sb⟩
 refine Z.brF rfl ?_;refine Z.seq ?_;refine Z.cut [123,124,125,126,127,128,129,130,131,132,133] (fun w z=>∃ b:Bool,z=[(123,.bool b)]∧Sep r [] (.blk g8 186 y.cells::.blk g7 183 x.cells::.blk ge 63 ((⟨kd,tk,(q:Nat),(k:Nat),ot,ep,fr,un,nn⟩:En)).cells::.blk gs 69 (s.cc c (⟨some ⟨gt,0,none⟩,tc,some ⟨gk,0,none⟩,kc⟩:SAd))::.blk gc 55 (c.cl a)::.sl 183 12 (.slice (some ⟨gt,0,none⟩) c.tenants.length tc) (s.tenants.map TS.cells)::.sl 186 4 (.slice (some ⟨gk,0,none⟩) c.cells.length kc) (s.cells.map CS.cells)::F) w) ?_ ?_
 ·repeat' (first|refine Kw ?_|(refine Sh.sa hS ?_;clear hS;intro w hS)|(refine K3 ?_;clear hS;intro g w hS hge)|(refine KB ?_ ?_<;>intro hb<;>(try simp only [JJ] at hb)<;>(try exact JX))|fail)
  all_goals
   refine Sh.cut [(123,_)] ?_;exact ⟨_,rfl,hS.sb⟩
 clear hS;rintro f0 w _ ⟨b,rfl,hS⟩
 cases b
 case true=>
  refine sQ ?_;intro w hS;refine Dnt Tryz.results222 ?_;exact ⟨_,rfl,hS.sb⟩
 refine sQ ?_;intro w hS;refine Dnt Tryz.results222 ?_;exact ⟨_,rfl,hS.sb⟩
theorem yhJ (c:Cfg) (s:Sta) (gt tc gk kc q:Nat) (k:Nat) (kd tk ot ep fr un nn:Int) (r:World) (F:List Res) (w:World) (hS:Sep r [] (.sl 183 12 (.slice (some ⟨gt,0,none⟩) c.tenants.length tc) (s.tenants.map TS.cells)::.sl 186 4 (.slice (some ⟨gk,0,none⟩) c.cells.length kc) (s.cells.map CS.cells)::F) w) (hs:s.ok c) (hq:q < c.tenants.length) (a:CAd) (hr:CfR r F c a) (ho:c.ok) (hk:k < c.cells.length) :
  Calls Tryz.prog 137 #[c.val a,s.vc c (⟨some ⟨gt,0,none⟩,tc,some ⟨gk,0,none⟩,kc⟩:SAd),((⟨kd,tk,(q:Nat),(k:Nat),ot,ep,fr,un,nn⟩:En)).val] w fun ee w'=>(∃ er:Int,er≠0∧ee=.returned (noV er)∧Sep r [] F w')∨∃ (s':Sta) (b':SAd),ee=.returned (yesC s' c b')∧s'.ok c∧Sep r [] (.sl 183 12 (.slice b'.tA c.tenants.length b'.tc) (s'.tenants.map TS.cells)::.sl 186 4 (.slice b'.kA c.cells.length b'.kc) (s'.cells.map CS.cells)::F) w':=by
 have hq2:q < s.tenants.length:=by rw [hs.tl];exact hq
 obtain ⟨x,hx⟩:∃ x,s.tenants[q]'hq2=x:=⟨_,rfl⟩;have hxo:TOk c.cells.length x:=by rw [← hx];exact hs.t _ (List.getElem_mem hq2)
 have hk2:k < s.cells.length:=by rw [hs.kl];exact hk
 obtain ⟨y,hy⟩:∃ y,s.cells[k]'hk2=y:=⟨_,rfl⟩;refine Z.enter Tryz.func137 Tryz.ntmps137 rfl rfl ?_;refine aQ4 ?_;intro gc gs ge g w hS;refine Z.cut [15,16,17,18,19,20,21,22,23,24,25,26,27,28,29,30,31,32,33,34,35] (fun w z=>∃ b:Bool,z=[(15,.bool b)]∧(b=false→x.placed=true)∧Sep r [] (.blk g 69 (Sta.zero.cl SAd.zero)::.blk ge 63 ((⟨kd,tk,(q:Nat),(k:Nat),ot,ep,fr,un,nn⟩:En)).cells::.blk gs 69 (s.cc c (⟨some ⟨gt,0,none⟩,tc,some ⟨gk,0,none⟩,kc⟩:SAd))::.blk gc 55 (c.cl a)::.sl 183 12 (.slice (some ⟨gt,0,none⟩) c.tenants.length tc) (s.tenants.map TS.cells)::.sl 186 4 (.slice (some ⟨gk,0,none⟩) c.cells.length kc) (s.cells.map CS.cells)::F) w) ?_ ?_
 ·refine D.startS hS 21 21 kR rfl ?_;replace hS:=hS.drew;refine Sh.dp 0 1 ?_;refine Sh.dp 1 3 ?_;refine Sh.dp 2 7 ?_;refine D.ldE (q:=0) 3 15 rfl D.wantedN kR rfl (fun W hW=>yaa (fc:=TS.cells) (e:=183) (sz:=12) (g:=gt) hW AtF oM hq2 hx) rfl ?_;refine Sh.dp 4 31 ?_;refine Sh.dp 5 63 ?_;refine D.slot 21 rfl (fun hb=>?_) (fun hb=>?_)
  ·(try simp only [JJ] at hb)
   refine D.sk 6 127 ?_;refine D.sk 7 255 ?_;refine D.sk 8 511 ?_;refine D.sk 9 1023 ?_;refine D.sk 10 2047 ?_;refine D.skU 11 4095 rfl kR rfl rfl ?_;refine D.skU 12 8191 rfl kR rfl rfl ?_;refine D.skU 13 16383 rfl kR rfl rfl ?_;refine D.skU 14 32767 rfl kR rfl rfl ?_;refine D.skU 15 65535 rfl kR rfl rfl ?_;refine D.skU 16 131071 rfl kR rfl rfl ?_;refine D.skU 17 262143 rfl kR rfl rfl ?_;refine D.sk 18 524287 ?_;refine Sh.dp 19 1048575 ?_;refine Sh.dp 20 2097151 ?_;refine D.dn ?_;refine Sh.cut [(15,_)] ?_;refine ⟨_,rfl,(fun h=>?_),hS.sb⟩
   first|assumption|(exfalso;simp at h;done)
  ·(try simp only [JJ] at hb)
   refine Sh.dp 6 127 ?_;refine Sh.dp 7 255 ?_;refine Sh.dp 8 511 ?_;refine D.ldE (q:=1) 9 1023 rfl (D.wantedT rfl rfl) kR rfl (fun W hW=>yaa (fc:=TS.cells) (e:=183) (sz:=12) (g:=gt) hW AtF oM hq2 hx) rfl ?_;refine Sh.dp 10 2047 ?_;refine D.slot 26 rfl (fun hb=>?_) (fun hb=>?_)
   ·(try simp only [JJ] at hb)
    refine Sh.dp 11 4095 ?_;refine Sh.dp 13 12287 ?_;refine Sh.dp 14 28671 ?_;refine Sh.dp 15 61439 ?_;refine Sh.dl 12 65535 ?_;refine D.ldE (q:=3) 16 131071 rfl (D.wantedT rfl rfl) kR rfl (fun W hW=>yaa (fc:=TS.cells) (e:=183) (sz:=12) (g:=gt) hW AtF oM hq2 hx) rfl ?_
    first|refine D.pr 17 262143 rfl (D.wantedT rfl rfl) kR rfl ?_|refine D.pl 17 262143 rfl (D.wantedT rfl rfl) kR (R.nea rfl rfl rfl rfl) ?_
    refine Sh.dp 18 524287 ?_;refine Sh.dp 19 1048575 ?_;refine Sh.dp 20 2097151 ?_;refine D.dn ?_;refine Sh.cut [(15,_)] ?_;refine ⟨_,rfl,(fun h=>?_),hS.sb⟩
    first|assumption|(exfalso;simp at h;done)
   ·(try simp only [JJ] at hb)
    refine D.sk 11 4095 ?_;refine D.sk 12 8191 ?_;refine D.sk 13 16383 ?_;refine D.sk 14 32767 ?_;refine D.sk 15 65535 ?_;refine D.sk 16 131071 ?_;refine D.sk 17 262143 ?_;refine Sh.dp 18 524287 ?_;refine Sh.dp 19 1048575 ?_;refine Sh.dp 20 2097151 ?_;refine D.dn ?_;refine Sh.cut [(15,_)] ?_;refine ⟨_,rfl,(fun h=>?_),hS.sb⟩
    first|assumption|(exfalso;simp at h;done)
 clear hS;rintro f0 w _ ⟨b,rfl,hp,hS⟩
 cases b
 case true=>
  repeat' (first|refine K ?_|(refine Sh.sa hS ?_;clear hS;intro w hS)|(refine K3 ?_;clear hS;intro g w hS hge)|(refine KB ?_ ?_<;>intro hb<;>(try simp only [JJ] at hb)<;>(try exact JX))|fail|(refine Z.eff (Z.cl (yae _ _ _ _ hS) rfl ?_) rfl;clear hS;rintro e w ⟨rfl,hS⟩;refine ⟨_,rfl,?_⟩))
  refine Dct Tryz.results137 ?_;refine .inl ⟨_,?_,rfl,hS.sb⟩
  decide
 replace hp:=hp rfl;refine sQ ?_;intro w hS;refine Z.cut [39,40,41,42,43,44,45,46,47,48,49,50,51,52,53,54,55,56,57,58,59,60,61,62,63,64] (fun w z=>∃ b:Bool,z=[(39,.bool b)]∧(b=false→(k:Int)=x.home∨(k:Int)=x.standby∨(k:Int)=x.target)∧Sep r [] (.blk g 69 (Sta.zero.cl SAd.zero)::.blk ge 63 ((⟨kd,tk,(q:Nat),(k:Nat),ot,ep,fr,un,nn⟩:En)).cells::.blk gs 69 (s.cc c (⟨some ⟨gt,0,none⟩,tc,some ⟨gk,0,none⟩,kc⟩:SAd))::.blk gc 55 (c.cl a)::.sl 183 12 (.slice (some ⟨gt,0,none⟩) c.tenants.length tc) (s.tenants.map TS.cells)::.sl 186 4 (.slice (some ⟨gk,0,none⟩) c.cells.length kc) (s.cells.map CS.cells)::F) w) ?_ ?_
 ·refine D.startS hS 26 26 kR rfl ?_;replace hS:=hS.drew;refine Sh.dp 0 1 ?_;refine Sh.dp 2 5 ?_;refine Sh.dp 3 13 ?_;refine Sh.dp 4 29 ?_;refine Sh.dl 1 31 ?_;refine D.ldE (q:=2) 5 63 rfl D.wantedN kR rfl (fun W hW=>yaa (fc:=TS.cells) (e:=183) (sz:=12) (g:=gt) hW AtF oM hq2 hx) rfl ?_
  first|refine D.pr 6 127 rfl D.wantedN kR rfl ?_|refine D.pl 6 127 rfl D.wantedN kR (R.nea rfl rfl rfl rfl) ?_
  refine Sh.dp 7 255 ?_;refine D.slot 47 rfl (fun hb=>?_) (fun hb=>?_)
  ·(try simp only [JJ] at hb)
   refine Sh.dp 8 511 ?_;refine Sh.dp 10 1535 ?_;refine Sh.dp 11 3583 ?_;refine Sh.dp 12 7679 ?_;refine Sh.dl 9 8191 ?_;refine D.ldE (q:=3) 13 16383 rfl (D.wantedT rfl rfl) kR rfl (fun W hW=>yaa (fc:=TS.cells) (e:=183) (sz:=12) (g:=gt) hW AtF oM hq2 hx) rfl ?_
   first|refine D.pr 14 32767 rfl (D.wantedT rfl rfl) kR rfl ?_|refine D.pl 14 32767 rfl (D.wantedT rfl rfl) kR (R.nea rfl rfl rfl rfl) ?_
   refine Sh.dp 15 65535 ?_;refine Sh.dp 16 131071 ?_;refine D.slot 56 rfl (fun hb=>?_) (fun hb=>?_)
   ·(try simp only [JJ] at hb)
    refine Sh.dp 17 262143 ?_;refine Sh.dp 19 786431 ?_;refine Sh.dp 20 1835007 ?_;refine Sh.dp 21 3932159 ?_;refine Sh.dl 18 4194303 ?_;refine D.ldE (q:=5) 22 8388607 rfl (D.wantedT rfl rfl) kR rfl (fun W hW=>yaa (fc:=TS.cells) (e:=183) (sz:=12) (g:=gt) hW AtF oM hq2 hx) rfl ?_
    first|refine D.pr 23 16777215 rfl (D.wantedT rfl rfl) kR rfl ?_|refine D.pl 23 16777215 rfl (D.wantedT rfl rfl) kR (R.nea rfl rfl rfl rfl) ?_
    refine Sh.dp 24 33554431 ?_;refine Sh.dp 25 67108863 ?_;refine D.dn ?_;refine Sh.cut [(39,_)] ?_;exact ⟨_,rfl,(fun h=>(by (try simp at h);omega)),hS.sb⟩
   ·(try simp only [JJ] at hb)
    refine D.sk 17 262143 ?_;refine D.sk 18 524287 ?_;refine D.sk 19 1048575 ?_;refine D.sk 20 2097151 ?_;refine D.sk 21 4194303 ?_;refine D.sk 22 8388607 ?_;refine D.sk 23 16777215 ?_;refine Sh.dp 24 33554431 ?_;refine Sh.dp 25 67108863 ?_;refine D.dn ?_;refine Sh.cut [(39,_)] ?_;exact ⟨_,rfl,(fun h=>(by (try simp at h);omega)),hS.sb⟩
  ·(try simp only [JJ] at hb)
   refine D.sk 8 511 ?_;refine D.sk 9 1023 ?_;refine D.sk 10 2047 ?_;refine D.sk 11 4095 ?_;refine D.sk 12 8191 ?_;refine D.sk 13 16383 ?_;refine D.sk 14 32767 ?_;refine Sh.dp 15 65535 ?_;refine Sh.dp 16 131071 ?_;refine D.sk 17 262143 ?_;refine D.sk 18 524287 ?_;refine D.sk 19 1048575 ?_;refine D.sk 20 2097151 ?_;refine D.sk 21 4194303 ?_;refine D.sk 22 8388607 ?_;refine D.sk 23 16777215 ?_;refine Sh.dp 24 33554431 ?_;refine Sh.dp 25 67108863 ?_;refine D.dn ?_;refine Sh.cut [(39,_)] ?_;exact ⟨_,rfl,(fun h=>(by (try simp at h);omega)),hS.sb⟩
 clear hS;rintro f0 w _ ⟨b,rfl,hor,hS⟩
 cases b
 case true=>
  repeat' (first|refine K ?_|(refine Sh.sa hS ?_;clear hS;intro w hS)|(refine K3 ?_;clear hS;intro g w hS hge)|(refine KB ?_ ?_<;>intro hb<;>(try simp only [JJ] at hb)<;>(try exact JX))|fail|(refine Z.eff (Z.cl (yae _ _ _ _ hS) rfl ?_) rfl;clear hS;rintro e w ⟨rfl,hS⟩;refine ⟨_,rfl,?_⟩))
  refine Dct Tryz.results137 ?_;refine .inl ⟨_,?_,rfl,hS.sb⟩
  decide
 replace hor:=hor rfl;refine sQ ?_;intro w hS;replace hS:=hS.sub (L':=.sl 183 12 (.slice (some ⟨gt,0,none⟩) c.tenants.length tc) (s.tenants.map TS.cells)::.sl 186 4 (.slice (some ⟨gk,0,none⟩) c.cells.length kc) (s.cells.map CS.cells)::.blk g 69 (Sta.zero.cl SAd.zero)::.blk ge 63 ((⟨kd,tk,(q:Nat),(k:Nat),ot,ep,fr,un,nn⟩:En)).cells::.blk gs 69 (s.cc c (⟨some ⟨gt,0,none⟩,tc,some ⟨gk,0,none⟩,kc⟩:SAd))::.blk gc 55 (c.cl a)::F) SuF;refine cQ (yfs c s gt tc gk kc q k _ _ _ _ _ _ _ _ _ _ hS hs hq a hk) rfl ?_;clear hS;rintro e w ⟨er,rfl,hS⟩;refine ⟨_,rfl,?_⟩;replace hS:Sep r [] (.blk g 69 (Sta.zero.cl SAd.zero)::.blk ge 63 ((⟨kd,tk,(q:Nat),(k:Nat),ot,ep,fr,un,nn⟩:En)).cells::.blk gs 69 (s.cc c (⟨some ⟨gt,0,none⟩,tc,some ⟨gk,0,none⟩,kc⟩:SAd))::.blk gc 55 (c.cl a)::.sl 183 12 (.slice (some ⟨gt,0,none⟩) c.tenants.length tc) (s.tenants.map TS.cells)::.sl 186 4 (.slice (some ⟨gk,0,none⟩) c.cells.length kc) (s.cells.map CS.cells)::F) _:=hS.sb
 repeat' (first|refine K ?_|(refine Sh.sa hS ?_;clear hS;intro w hS)|(refine K3 ?_;clear hS;intro g w hS hge)|(refine KB ?_ ?_<;>intro hb<;>(try simp only [JJ] at hb)<;>(try exact JX))|fail|(refine Z.eff (Z.cl (yae _ _ _ _ hS) rfl ?_) rfl;clear hS;rintro e w ⟨rfl,hS⟩;refine ⟨_,rfl,?_⟩))
 ·refine Dct Tryz.results137 ?_;exact .inl ⟨er,hb,rfl,hS.sb⟩
 rw [yag hq2 hx] at hS;refine Z.eff (Z.stTw (y0:=x) ({ x with w:=(⟨(k:Int),ep,nn,fr,un⟩:Wj) }:TS) hS rfl AtF hq2 rfl rfl rfl rfl rfl ?_) rfl;clear hS;intro w hS;refine sQ ?_;intro w hS;refine Z.eff (Z.stT (y0:={ x with w:=(⟨(k:Int),ep,nn,fr,un⟩:Wj) }) (j:=6) ({ x with epoch:=ep,w:=(⟨(k:Int),ep,nn,fr,un⟩:Wj) }:TS) hS rfl AtF hq2 rfl rfl rfl oM rfl ?_) rfl;clear hS;intro w hS;have hxw:=hxo.window (⟨(k:Int),ep,nn,fr,un⟩:Wj) ep;refine sQ ?_;intro w hS;have hrt:=yaa (fc:=TS.cells) hS (e:=183) (sz:=12) (g:=gt) (l:=s.tenants.set q { x with epoch:=ep,w:=(⟨(k:Int),ep,nn,fr,un⟩:Wj) }) AtF oM (by simpa using hq2) (List.getElem_set_self _)
 repeat' first|refine K ?_|refine Sa ?_;intro w hS|refine K3 ?_;intro g w hS hge|refine KC ?_ ?_<;>intro hb<;>try exact JX|fail
 ·have hs':({ s with tenants:=s.tenants.set q { x with epoch:=ep,w:=(⟨(k:Int),ep,nn,fr,un⟩:Wj) } }:Sta).ok c:=hs.setT hxw q;refine sQ ?_;intro w hS;refine cQ (fit_c c a (({ s with tenants:=s.tenants.set q { x with epoch:=ep,w:=(⟨(k:Int),ep,nn,fr,un⟩:Wj) } }:Sta)) (⟨some ⟨gt,0,none⟩,tc,some ⟨gk,0,none⟩,kc⟩:SAd) _ _ _ hS (hr.app [_,_,_,_,_,_]) ho hs' ⟨Reads.of_at (e:=183) (v:=.slice (some ⟨gt,0,none⟩) c.tenants.length tc) AtF,Reads.of_at (e:=186) (v:=.slice (some ⟨gk,0,none⟩) c.cells.length kc) AtF⟩) rfl ?_;clear hS;rintro e w ⟨v,rfl,hv,hS⟩;refine ⟨_,rfl,?_⟩
  rcases hv with rfl|rfl
  ·refine sQ ?_;intro w hS;refine Dct Tryz.results137 ?_;exact .inl ⟨10,by decide,rfl,hS.sb⟩
  ·refine sQ ?_;intro w hS;refine Dct Tryz.results137 ?_;exact .inr ⟨({ s with tenants:=s.tenants.set q { x with epoch:=ep,w:=(⟨(k:Int),ep,nn,fr,un⟩:Wj) } }:Sta),(⟨some ⟨gt,0,none⟩,tc,some ⟨gk,0,none⟩,kc⟩:SAd),rfl,hs',hS.sb⟩
 ·refine Z.eff (Z.stT (y0:={ x with epoch:=ep,w:=(⟨(k:Int),ep,nn,fr,un⟩:Wj) }) (j:=2) ({ x with epoch:=ep,w:=(⟨(k:Int),ep,nn,fr,un⟩:Wj),home:=(k:Int) }:TS) hS rfl AtF hq2 rfl rfl rfl oM rfl ?_) rfl;clear hS;intro w hS;refine sQ ?_;intro w hS;refine Z.eff (Z.stT (y0:={ x with epoch:=ep,w:=(⟨(k:Int),ep,nn,fr,un⟩:Wj),home:=(k:Int) }) (j:=3) ({ x with epoch:=ep,w:=(⟨(k:Int),ep,nn,fr,un⟩:Wj),home:=(k:Int),standby:=-1 }:TS) hS rfl AtF hq2 rfl rfl rfl oM rfl ?_) rfl;clear hS;intro w hS;refine sQ ?_;intro w hS;refine Z.eff (Z.stT (y0:={ x with epoch:=ep,w:=(⟨(k:Int),ep,nn,fr,un⟩:Wj),home:=(k:Int),standby:=-1 }) (j:=4) ({ x with epoch:=ep,w:=(⟨(k:Int),ep,nn,fr,un⟩:Wj),home:=(k:Int),standby:=-1,next:=-1 }:TS) hS rfl AtF hq2 rfl rfl rfl oM rfl ?_) rfl;clear hS;intro w hS;refine sQ ?_;intro w hS;refine Z.eff (Z.stT (y0:={ x with epoch:=ep,w:=(⟨(k:Int),ep,nn,fr,un⟩:Wj),home:=(k:Int),standby:=-1,next:=-1 }) (j:=5) ({ x with epoch:=ep,w:=(⟨(k:Int),ep,nn,fr,un⟩:Wj),home:=(k:Int),standby:=-1,next:=-1,target:=-1 }:TS) hS rfl AtF hq2 rfl rfl rfl oM rfl ?_) rfl;clear hS;intro w hS;refine sQ ?_;intro w hS;refine Z.eff (Z.stT (y0:={ x with epoch:=ep,w:=(⟨(k:Int),ep,nn,fr,un⟩:Wj),home:=(k:Int),standby:=-1,next:=-1,target:=-1 }) (j:=1) ({ x with epoch:=ep,w:=(⟨(k:Int),ep,nn,fr,un⟩:Wj),home:=(k:Int),standby:=-1,next:=-1,target:=-1,shed:=false }:TS) hS rfl AtF hq2 rfl rfl rfl oM rfl ?_) rfl;clear hS;intro w hS;have hs':({ s with tenants:=s.tenants.set q { x with epoch:=ep,w:=(⟨(k:Int),ep,nn,fr,un⟩:Wj),home:=(k:Int),standby:=-1,next:=-1,target:=-1,shed:=false } }:Sta).ok c:=hs.setT (hxw.over hp (k:=(k:Int)) ⟨oM,oM⟩) q;refine sQ ?_;intro w hS;refine cQ (fit_c c a (({ s with tenants:=s.tenants.set q { x with epoch:=ep,w:=(⟨(k:Int),ep,nn,fr,un⟩:Wj),home:=(k:Int),standby:=-1,next:=-1,target:=-1,shed:=false } }:Sta)) (⟨some ⟨gt,0,none⟩,tc,some ⟨gk,0,none⟩,kc⟩:SAd) _ _ _ hS (hr.app [_,_,_,_,_,_]) ho hs' ⟨Reads.of_at (e:=183) (v:=.slice (some ⟨gt,0,none⟩) c.tenants.length tc) AtF,Reads.of_at (e:=186) (v:=.slice (some ⟨gk,0,none⟩) c.cells.length kc) AtF⟩) rfl ?_
  clear hS;rintro e w ⟨v,rfl,hv,hS⟩;refine ⟨_,rfl,?_⟩
  rcases hv with rfl|rfl
  ·refine sQ ?_;intro w hS;refine Dct Tryz.results137 ?_;exact .inl ⟨10,by decide,rfl,hS.sb⟩
  ·refine sQ ?_;intro w hS;refine Dct Tryz.results137 ?_;exact .inr ⟨({ s with tenants:=s.tenants.set q { x with epoch:=ep,w:=(⟨(k:Int),ep,nn,fr,un⟩:Wj),home:=(k:Int),standby:=-1,next:=-1,target:=-1,shed:=false } }:Sta),(⟨some ⟨gt,0,none⟩,tc,some ⟨gk,0,none⟩,kc⟩:SAd),rfl,hs',hS.sb⟩
 ·have hkt:(k:Int)=x.target:=by omega
  refine Z.eff (Z.stT (y0:={ x with epoch:=ep,w:=(⟨(k:Int),ep,nn,fr,un⟩:Wj) }) (j:=2) ({ x with epoch:=ep,w:=(⟨(k:Int),ep,nn,fr,un⟩:Wj),home:=(k:Int) }:TS) hS rfl AtF hq2 rfl rfl rfl oM rfl ?_) rfl;clear hS;intro w hS;refine sQ ?_;intro w hS;refine Z.eff (Z.stT (y0:={ x with epoch:=ep,w:=(⟨(k:Int),ep,nn,fr,un⟩:Wj),home:=(k:Int) }) (j:=5) ({ x with epoch:=ep,w:=(⟨(k:Int),ep,nn,fr,un⟩:Wj),home:=(k:Int),target:=-1 }:TS) hS rfl AtF hq2 rfl rfl rfl oM rfl ?_) rfl;clear hS;intro w hS;have hs':({ s with tenants:=s.tenants.set q { x with epoch:=ep,w:=(⟨(k:Int),ep,nn,fr,un⟩:Wj),home:=(k:Int),target:=-1 } }:Sta).ok c:=hs.setT (by have h:=hxw.moved hp (show 0≤x.target by omega);simp only [← hkt] at h;exact h) q;refine sQ ?_;intro w hS;refine cQ (fit_c c a (({ s with tenants:=s.tenants.set q { x with epoch:=ep,w:=(⟨(k:Int),ep,nn,fr,un⟩:Wj),home:=(k:Int),target:=-1 } }:Sta)) (⟨some ⟨gt,0,none⟩,tc,some ⟨gk,0,none⟩,kc⟩:SAd) _ _ _ hS (hr.app [_,_,_,_,_,_]) ho hs' ⟨Reads.of_at (e:=183) (v:=.slice (some ⟨gt,0,none⟩) c.tenants.length tc) AtF,Reads.of_at (e:=186) (v:=.slice (some ⟨gk,0,none⟩) c.cells.length kc) AtF⟩) rfl ?_;clear hS;rintro e w ⟨v,rfl,hv,hS⟩;refine ⟨_,rfl,?_⟩
  rcases hv with rfl|rfl
  ·refine sQ ?_;intro w hS;refine Dct Tryz.results137 ?_;exact .inl ⟨10,by decide,rfl,hS.sb⟩
  ·refine sQ ?_;intro w hS;refine Dct Tryz.results137 ?_;exact .inr ⟨({ s with tenants:=s.tenants.set q { x with epoch:=ep,w:=(⟨(k:Int),ep,nn,fr,un⟩:Wj),home:=(k:Int),target:=-1 } }:Sta),(⟨some ⟨gt,0,none⟩,tc,some ⟨gk,0,none⟩,kc⟩:SAd),rfl,hs',hS.sb⟩
end Go.Proofs.YtfmnjbhncnldmaaGreat
