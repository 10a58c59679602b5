import Derived.Test.YtfmnjbhncnldmaaGreatW45
set_option maxHeartbeats 8000000
set_option linter.unusedSimpArgs false
set_option linter.unusedVariables false
namespace Go.Proofs.YtfmnjbhncnldmaaGreat
open Go.RowKit
attribute [local irreducible] Res.blk Res.sl Res.all Res.ex Res.pure Res.star
def HP (r:World) (F:List Res) (c:Cfg) (v:Value) (w':World):Prop:=(∃ er:Int,er≠0∧v=noV er∧Sep r [] F w')∨∃ (s':Sta) (b':SAd),v=yesC s' c b'∧s'.ok c∧Sep r [] (.sl 183 12 (.slice b'.tA c.tenants.length b'.tc) (s'.tenants.map TS.cells)::.sl 186 4 (.slice b'.kA c.cells.length b'.kc) (s'.cells.map CS.cells)::F) w'
theorem hp {P:Program} {f:FuncId} {args:Array Value} {r w:World} {F:List Res} {c:Cfg} (h:Calls P f args w fun ee w'=>(∃ er:Int,er≠0∧ee=.returned (noV er)∧Sep r [] F w')∨∃ (s':Sta) (b':SAd),ee=.returned (yesC s' c b')∧s'.ok c∧Sep r [] (.sl 183 12 (.slice b'.tA c.tenants.length b'.tc) (s'.tenants.map TS.cells)::.sl 186 4 (.slice b'.kA c.cells.length b'.kc) (s'.cells.map CS.cells)::F) w'):Calls P f args w fun ee w'=>∃ v,ee=.returned v∧HP r F c v w':=
 h.mono fun ee w' h=>by
  rcases h with ⟨er,h1,h2,h3⟩|⟨s',b',h1,h2,h3⟩
  ·exact ⟨_,h2,.inl ⟨er,h1,rfl,h3⟩⟩
  ·exact ⟨_,h1,.inr ⟨s',b',rfl,h2,h3⟩⟩
theorem copied_c (c:Cfg) (s:Sta) (b:SAd) (r:World) (F:List Res) (w:World) (hS:Sep r [] F w) (hs:s.ok c) (hr:StC r F s c b) (ho:c.ok) :
  Calls Tryz.prog 135 #[s.vc c b] w fun e w'=>∃ (tA:Option Addr) (tc:Nat) (kA:Option Addr) (kc:Nat),e=.returned (s.vc c ⟨tA,tc,kA,kc⟩)∧Sep r [] (.sl 183 12 (.slice tA c.tenants.length tc) (s.tenants.map TS.cells)::.sl 186 4 (.slice kA c.cells.length kc) (s.cells.map CS.cells)::F) w':=by
 have h1:=ho.t;have h2:=ho.k;rw [← hs.vc];refine (ygu s b r F w hS (hr.str hs) (by rw [hs.tl];exact h1) (by rw [hs.kl];omega)).mono ?_;rintro e w' ⟨b',he,h⟩;refine ⟨b'.tA,b'.tc,b'.kA,b'.kc,by rw [he,hs.vc],?_⟩;rw [hs.tl,hs.kl] at h;exact h
theorem yhu (c:Cfg) (a:CAd) (s:Sta) (b:SAd) (e:En) (r:World) (F:List Res) (w:World) (hS:Sep r [] F w) (hr:CfR r F c a) (hs0:s.ok c) (hq:StC r F s c b) (ho:c.ok) :
  Calls Tryz.prog 66 #[c.val a,s.vc c b,e.val] w fun ee w'=>(∃ er:Int,er≠0∧ee=.returned (noV er)∧Sep r [] F w')∨∃ (s':Sta) (b':SAd),ee=.returned (yesC s' c b')∧s'.ok c∧Sep r [] (.sl 183 12 (.slice b'.tA c.tenants.length b'.tc) (s'.tenants.map TS.cells)::.sl 186 4 (.slice b'.kA c.cells.length b'.kc) (s'.cells.map CS.cells)::F) w':=by
 have hcl:=ho.k;obtain ⟨kd,tk,tn,ce,ot,ep,fr,un,nn⟩:=e;refine Z.enter Tryz.func66 Tryz.ntmps66 rfl rfl ?_;refine aQ4 ?_;intro gc gs ge gr w hS;refine cQ (yhr c a (⟨kd,tk,tn,ce,ot,ep,fr,un,nn⟩:En) _ _ _ hS ho) rfl ?_;clear hS;rintro e w ⟨v,rfl,hv,hS⟩;refine ⟨_,rfl,?_⟩
 cases v
 case false=>
  repeat' (first|refine K ?_|(refine Sh.sa hS ?_;clear hS;intro w hS)|(refine K3 ?_;clear hS;intro g w hS hge)|(refine KB ?_ ?_<;>intro hb<;>(try simp only [JJ] at hb)<;>(try exact JX))|fail|(refine Z.eff (Z.cl (yae _ _ _ _ hS) rfl ?_) rfl;clear hS;rintro e w ⟨rfl,hS⟩;refine ⟨_,rfl,?_⟩))
  refine Dct Tryz.results66 ?_;refine .inl ⟨_,?_,rfl,hS.sb⟩
  decide
 have hv:=hv rfl
 repeat' (first|refine K ?_|(refine Sh.sa hS ?_;clear hS;intro w hS)|(refine K3 ?_;clear hS;intro g w hS hge)|(refine KB ?_ ?_<;>intro hb<;>(try simp only [JJ] at hb)<;>(try exact JX))|fail|(refine Z.eff (Z.cl (yae _ _ _ _ hS) rfl ?_) rfl;clear hS;rintro e w ⟨rfl,hS⟩;refine ⟨_,rfl,?_⟩))
 ·refine Dct Tryz.results66 ?_;refine .inl ⟨_,?_,rfl,hS.sb⟩
  decide
 ·refine Dct Tryz.results66 ?_;refine .inl ⟨_,?_,rfl,hS.sb⟩
  decide
 refine cQ (copied_c c s b _ _ _ hS hs0 ⟨hq.t.app [_,_,_,_],hq.k.app [_,_,_,_]⟩ ho) rfl ?_;clear hS;rintro e w ⟨tA,tc,kA,kc,rfl,hS⟩;refine ⟨_,rfl,?_⟩;obtain ⟨gk,rfl⟩:=Z.Sep_slform hS (e:=186) (sz:=4) (c:=kc) (A:=kA) (rows:=s.cells.map CS.cells) (n0:=c.cells.length) AtF (by rw [List.length_map,hs0.kl];omega);have hs1:((⟨tk,IntKind.i64.wrap (s.count+1),s.tenants,s.cells,s.proven,s.evac,s.low,s.high⟩:Sta)).ok c:=⟨hs0.tl,hs0.kl,hs0.t,hs0.k⟩
 repeat' (first|refine Kw ?_|(refine Sh.sa hS ?_;clear hS;intro w hS)|(refine K3 ?_;clear hS;intro g w hS hge)|(refine KB ?_ ?_<;>intro hb<;>(try simp only [JJ] at hb)<;>(try exact JX))|fail)
 ·subst hb;obtain ⟨ht0,ht1⟩:=hv.t rfl;obtain ⟨q,rfl⟩:=Int.eq_ofNat_of_zero_le ht0;have hq1:q < c.tenants.length:=by simp only at ht1;omega
  obtain ⟨gt,rfl⟩:=Z.Sep_slform hS (e:=183) (sz:=12) (c:=tc) (A:=tA) (rows:=s.tenants.map TS.cells) (n0:=c.tenants.length) AtF (by rw [List.length_map,hs0.tl];omega);obtain ⟨hc0,hc1⟩:=hv.k rfl;obtain ⟨k,rfl⟩:=Int.eq_ofNat_of_zero_le hc0;have hk1:k < c.cells.length:=by simp only at hc1;omega
  obtain ⟨ho0,ho1,ho2⟩:=hv.o rfl;simp only at ho0 ho1 ho2;replace hS:Sep r [] (.sl 183 12 (.slice (some ⟨gt,0,none⟩) c.tenants.length tc) (((⟨tk,IntKind.i64.wrap (s.count+1),s.tenants,s.cells,s.proven,s.evac,s.low,s.high⟩:Sta)).tenants.map TS.cells)::.sl 186 4 (.slice (some ⟨gk,0,none⟩) c.cells.length kc) (((⟨tk,IntKind.i64.wrap (s.count+1),s.tenants,s.cells,s.proven,s.evac,s.low,s.high⟩:Sta)).cells.map CS.cells)::.blk gr 69 (Sta.zero.cl SAd.zero)::_::_::.blk gc 55 (c.cl a)::F) _:=hS.sb
  by_cases hoo:0≤ot
  ·obtain ⟨o,rfl⟩:=Int.eq_ofNat_of_zero_le hoo;refine cQ (hp (yhY c (⟨tk,IntKind.i64.wrap (s.count+1),s.tenants,s.cells,s.proven,s.evac,s.low,s.high⟩:Sta) gt tc gk kc q k o _ _ _ _ _ _ _ _ _ hS hs1 hq1 a (hr.app [_,_,_,_]) ho hk1 oM ho2)) rfl ?_;clear hS;rintro e w ⟨v,rfl,hv⟩;refine ⟨_,rfl,?_⟩
   rcases hv with ⟨er,he,rfl,hS⟩|⟨s2,b3,rfl,hs2,hS⟩
   ·refine sQ ?_;intro w hS;refine Dct Tryz.results66 ?_;exact .inl ⟨er,he,rfl,hS.sb⟩
   ·refine sQ ?_;intro w hS;refine Dct Tryz.results66 ?_;exact .inr ⟨s2,b3,rfl,hs2,hS.sb⟩
  ·have hm:ot = -1:=by omega
   subst hm;refine cQ (hp (ygV c (⟨tk,IntKind.i64.wrap (s.count+1),s.tenants,s.cells,s.proven,s.evac,s.low,s.high⟩:Sta) gt tc gk kc q k _ _ _ _ _ _ _ _ _ hS hs1 hq1 a (hr.app [_,_,_,_]) ho hk1)) rfl ?_;clear hS;rintro e w ⟨v,rfl,hv⟩;refine ⟨_,rfl,?_⟩
   rcases hv with ⟨er,he,rfl,hS⟩|⟨s2,b3,rfl,hs2,hS⟩
   ·refine sQ ?_;intro w hS;refine Dct Tryz.results66 ?_;exact .inl ⟨er,he,rfl,hS.sb⟩
   ·refine sQ ?_;intro w hS;refine Dct Tryz.results66 ?_;exact .inr ⟨s2,b3,rfl,hs2,hS.sb⟩
 ·subst hb;obtain ⟨ht0,ht1⟩:=hv.t rfl;obtain ⟨q,rfl⟩:=Int.eq_ofNat_of_zero_le ht0;have hq1:q < c.tenants.length:=by simp only at ht1;omega
  obtain ⟨gt,rfl⟩:=Z.Sep_slform hS (e:=183) (sz:=12) (c:=tc) (A:=tA) (rows:=s.tenants.map TS.cells) (n0:=c.tenants.length) AtF (by rw [List.length_map,hs0.tl];omega);obtain ⟨hc0,hc1⟩:=hv.k rfl;obtain ⟨k,rfl⟩:=Int.eq_ofNat_of_zero_le hc0;have hk1:k < c.cells.length:=by simp only at hc1;omega
  replace hS:Sep r [] (.sl 183 12 (.slice (some ⟨gt,0,none⟩) c.tenants.length tc) (((⟨tk,IntKind.i64.wrap (s.count+1),s.tenants,s.cells,s.proven,s.evac,s.low,s.high⟩:Sta)).tenants.map TS.cells)::.sl 186 4 (.slice (some ⟨gk,0,none⟩) c.cells.length kc) (((⟨tk,IntKind.i64.wrap (s.count+1),s.tenants,s.cells,s.proven,s.evac,s.low,s.high⟩:Sta)).cells.map CS.cells)::.blk gr 69 (Sta.zero.cl SAd.zero)::_::_::.blk gc 55 (c.cl a)::F) _:=hS.sb;refine cQ (hp (yhJ c (⟨tk,IntKind.i64.wrap (s.count+1),s.tenants,s.cells,s.proven,s.evac,s.low,s.high⟩:Sta) gt tc gk kc q k _ _ _ _ _ _ _ _ _ _ hS hs1 hq1 a (hr.app [_,_,_,_]) ho hk1)) rfl ?_;clear hS;rintro e w ⟨v,rfl,hv⟩;refine ⟨_,rfl,?_⟩
  rcases hv with ⟨er,he,rfl,hS⟩|⟨s2,b3,rfl,hs2,hS⟩
  ·refine sQ ?_;intro w hS;refine Dct Tryz.results66 ?_;exact .inl ⟨er,he,rfl,hS.sb⟩
  ·refine sQ ?_;intro w hS;refine Dct Tryz.results66 ?_;exact .inr ⟨s2,b3,rfl,hs2,hS.sb⟩
 ·subst hb;obtain ⟨ht0,ht1⟩:=hv.t rfl;obtain ⟨q,rfl⟩:=Int.eq_ofNat_of_zero_le ht0;have hq1:q < c.tenants.length:=by simp only at ht1;omega
  obtain ⟨gt,rfl⟩:=Z.Sep_slform hS (e:=183) (sz:=12) (c:=tc) (A:=tA) (rows:=s.tenants.map TS.cells) (n0:=c.tenants.length) AtF (by rw [List.length_map,hs0.tl];omega);replace hS:Sep r [] (.sl 183 12 (.slice (some ⟨gt,0,none⟩) c.tenants.length tc) (((⟨tk,IntKind.i64.wrap (s.count+1),s.tenants,s.cells,s.proven,s.evac,s.low,s.high⟩:Sta)).tenants.map TS.cells)::.sl 186 4 (.slice (some ⟨gk,0,none⟩) c.cells.length kc) (((⟨tk,IntKind.i64.wrap (s.count+1),s.tenants,s.cells,s.proven,s.evac,s.low,s.high⟩:Sta)).cells.map CS.cells)::.blk gr 69 (Sta.zero.cl SAd.zero)::_::_::.blk gc 55 (c.cl a)::F) _:=hS.sb;refine cQ (hp (yjb c (⟨tk,IntKind.i64.wrap (s.count+1),s.tenants,s.cells,s.proven,s.evac,s.low,s.high⟩:Sta) gt tc gk kc q _ _ _ _ _ _ _ _ _ _ _ hS hs1 hq1)) rfl ?_;clear hS;rintro e w ⟨v,rfl,hv⟩;refine ⟨_,rfl,?_⟩
  rcases hv with ⟨er,he,rfl,hS⟩|⟨s2,b3,rfl,hs2,hS⟩
  ·refine sQ ?_;intro w hS;refine Dct Tryz.results66 ?_;exact .inl ⟨er,he,rfl,hS.sb⟩
  ·refine sQ ?_;intro w hS;refine Dct Tryz.results66 ?_;exact .inr ⟨s2,b3,rfl,hs2,hS.sb⟩
 ·subst hb;obtain ⟨ht0,ht1⟩:=hv.t rfl;obtain ⟨q,rfl⟩:=Int.eq_ofNat_of_zero_le ht0;have hq1:q < c.tenants.length:=by simp only at ht1;omega
  obtain ⟨gt,rfl⟩:=Z.Sep_slform hS (e:=183) (sz:=12) (c:=tc) (A:=tA) (rows:=s.tenants.map TS.cells) (n0:=c.tenants.length) AtF (by rw [List.length_map,hs0.tl];omega);obtain ⟨ho0,ho1⟩:=hv.kk rfl;simp only at ho0 ho1;replace hS:Sep r [] (.sl 183 12 (.slice (some ⟨gt,0,none⟩) c.tenants.length tc) (((⟨tk,IntKind.i64.wrap (s.count+1),s.tenants,s.cells,s.proven,s.evac,s.low,s.high⟩:Sta)).tenants.map TS.cells)::.sl 186 4 (.slice (some ⟨gk,0,none⟩) c.cells.length kc) (((⟨tk,IntKind.i64.wrap (s.count+1),s.tenants,s.cells,s.proven,s.evac,s.low,s.high⟩:Sta)).cells.map CS.cells)::.blk gr 69 (Sta.zero.cl SAd.zero)::_::_::.blk gc 55 (c.cl a)::F) _:=hS.sb
  by_cases hoo:0≤ce
  ·obtain ⟨k,rfl⟩:=Int.eq_ofNat_of_zero_le hoo;refine cQ (hp (yf6 c (⟨tk,IntKind.i64.wrap (s.count+1),s.tenants,s.cells,s.proven,s.evac,s.low,s.high⟩:Sta) gt tc gk kc q k _ _ _ _ _ _ _ _ _ _ hS hs1 hq1 a (hr.app [_,_,_,_]) ho oM)) rfl ?_;clear hS;rintro e w ⟨v,rfl,hv⟩;refine ⟨_,rfl,?_⟩
   rcases hv with ⟨er,he,rfl,hS⟩|⟨s2,b3,rfl,hs2,hS⟩
   ·refine sQ ?_;intro w hS;refine Dct Tryz.results66 ?_;exact .inl ⟨er,he,rfl,hS.sb⟩
   ·refine sQ ?_;intro w hS;refine Dct Tryz.results66 ?_;exact .inr ⟨s2,b3,rfl,hs2,hS.sb⟩
  ·have hm:ce = -1:=by omega
   subst hm;refine cQ (hp (ye1 c (⟨tk,IntKind.i64.wrap (s.count+1),s.tenants,s.cells,s.proven,s.evac,s.low,s.high⟩:Sta) gt tc gk kc q _ _ _ _ _ _ _ _ _ _ hS hs1 hq1 a (hr.app [_,_,_,_]) ho)) rfl ?_;clear hS;rintro e w ⟨v,rfl,hv⟩;refine ⟨_,rfl,?_⟩
   rcases hv with ⟨er,he,rfl,hS⟩|⟨s2,b3,rfl,hs2,hS⟩
   ·refine sQ ?_;intro w hS;refine Dct Tryz.results66 ?_;exact .inl ⟨er,he,rfl,hS.sb⟩
   ·refine sQ ?_;intro w hS;refine Dct Tryz.results66 ?_;exact .inr ⟨s2,b3,rfl,hs2,hS.sb⟩
 ·subst hb;obtain ⟨ht0,ht1⟩:=hv.t rfl;obtain ⟨q,rfl⟩:=Int.eq_ofNat_of_zero_le ht0;have hq1:q < c.tenants.length:=by simp only at ht1;omega
  obtain ⟨gt,rfl⟩:=Z.Sep_slform hS (e:=183) (sz:=12) (c:=tc) (A:=tA) (rows:=s.tenants.map TS.cells) (n0:=c.tenants.length) AtF (by rw [List.length_map,hs0.tl];omega);obtain ⟨hc0,hc1⟩:=hv.k rfl;obtain ⟨k,rfl⟩:=Int.eq_ofNat_of_zero_le hc0;have hk1:k < c.cells.length:=by simp only at hc1;omega
  replace hS:Sep r [] (.sl 183 12 (.slice (some ⟨gt,0,none⟩) c.tenants.length tc) (((⟨tk,IntKind.i64.wrap (s.count+1),s.tenants,s.cells,s.proven,s.evac,s.low,s.high⟩:Sta)).tenants.map TS.cells)::.sl 186 4 (.slice (some ⟨gk,0,none⟩) c.cells.length kc) (((⟨tk,IntKind.i64.wrap (s.count+1),s.tenants,s.cells,s.proven,s.evac,s.low,s.high⟩:Sta)).cells.map CS.cells)::.blk gr 69 (Sta.zero.cl SAd.zero)::_::_::.blk gc 55 (c.cl a)::F) _:=hS.sb;refine cQ (hp (yie c (⟨tk,IntKind.i64.wrap (s.count+1),s.tenants,s.cells,s.proven,s.evac,s.low,s.high⟩:Sta) gt tc gk kc q k _ _ _ _ _ _ _ _ _ _ hS hs1 hq1 hk1)) rfl ?_;clear hS;rintro e w ⟨v,rfl,hv⟩;refine ⟨_,rfl,?_⟩
  rcases hv with ⟨er,he,rfl,hS⟩|⟨s2,b3,rfl,hs2,hS⟩
  ·refine sQ ?_;intro w hS;refine Dct Tryz.results66 ?_;exact .inl ⟨er,he,rfl,hS.sb⟩
  ·refine sQ ?_;intro w hS;refine Dct Tryz.results66 ?_;exact .inr ⟨s2,b3,rfl,hs2,hS.sb⟩
 ·subst hb;obtain ⟨ht0,ht1⟩:=hv.t rfl;obtain ⟨q,rfl⟩:=Int.eq_ofNat_of_zero_le ht0;have hq1:q < c.tenants.length:=by simp only at ht1;omega
  obtain ⟨gt,rfl⟩:=Z.Sep_slform hS (e:=183) (sz:=12) (c:=tc) (A:=tA) (rows:=s.tenants.map TS.cells) (n0:=c.tenants.length) AtF (by rw [List.length_map,hs0.tl];omega);obtain ⟨hc0,hc1⟩:=hv.k rfl;obtain ⟨k,rfl⟩:=Int.eq_ofNat_of_zero_le hc0;have hk1:k < c.cells.length:=by simp only at hc1;omega
  replace hS:Sep r [] (.sl 183 12 (.slice (some ⟨gt,0,none⟩) c.tenants.length tc) (((⟨tk,IntKind.i64.wrap (s.count+1),s.tenants,s.cells,s.proven,s.evac,s.low,s.high⟩:Sta)).tenants.map TS.cells)::.sl 186 4 (.slice (some ⟨gk,0,none⟩) c.cells.length kc) (((⟨tk,IntKind.i64.wrap (s.count+1),s.tenants,s.cells,s.proven,s.evac,s.low,s.high⟩:Sta)).cells.map CS.cells)::.blk gr 69 (Sta.zero.cl SAd.zero)::_::_::.blk gc 55 (c.cl a)::F) _:=hS.sb;refine cQ (hp (yfC c (⟨tk,IntKind.i64.wrap (s.count+1),s.tenants,s.cells,s.proven,s.evac,s.low,s.high⟩:Sta) gt tc gk kc q k _ _ _ _ _ _ _ _ _ _ hS hs1 hq1 a (hr.app [_,_,_,_]) ho hk1)) rfl ?_;clear hS;rintro e w ⟨v,rfl,hv⟩;refine ⟨_,rfl,?_⟩
  rcases hv with ⟨er,he,rfl,hS⟩|⟨s2,b3,rfl,hs2,hS⟩
  ·refine sQ ?_;intro w hS;refine Dct Tryz.results66 ?_;exact .inl ⟨er,he,rfl,hS.sb⟩
  ·refine sQ ?_;intro w hS;refine Dct Tryz.results66 ?_;exact .inr ⟨s2,b3,rfl,hs2,hS.sb⟩
 ·subst hb;obtain ⟨ht0,ht1⟩:=hv.t rfl;obtain ⟨q,rfl⟩:=Int.eq_ofNat_of_zero_le ht0;have hq1:q < c.tenants.length:=by simp only at ht1;omega
  obtain ⟨gt,rfl⟩:=Z.Sep_slform hS (e:=183) (sz:=12) (c:=tc) (A:=tA) (rows:=s.tenants.map TS.cells) (n0:=c.tenants.length) AtF (by rw [List.length_map,hs0.tl];omega);replace hS:Sep r [] (.sl 183 12 (.slice (some ⟨gt,0,none⟩) c.tenants.length tc) (((⟨tk,IntKind.i64.wrap (s.count+1),s.tenants,s.cells,s.proven,s.evac,s.low,s.high⟩:Sta)).tenants.map TS.cells)::.sl 186 4 (.slice (some ⟨gk,0,none⟩) c.cells.length kc) (((⟨tk,IntKind.i64.wrap (s.count+1),s.tenants,s.cells,s.proven,s.evac,s.low,s.high⟩:Sta)).cells.map CS.cells)::.blk gr 69 (Sta.zero.cl SAd.zero)::_::_::.blk gc 55 (c.cl a)::F) _:=hS.sb;refine cQ (hp (ye5 c (⟨tk,IntKind.i64.wrap (s.count+1),s.tenants,s.cells,s.proven,s.evac,s.low,s.high⟩:Sta) gt tc gk kc q _ _ _ _ _ _ _ _ _ _ _ hS hs1 hq1)) rfl ?_;clear hS;rintro e w ⟨v,rfl,hv⟩;refine ⟨_,rfl,?_⟩
  rcases hv with ⟨er,he,rfl,hS⟩|⟨s2,b3,rfl,hs2,hS⟩
  ·refine sQ ?_;intro w hS;refine Dct Tryz.results66 ?_;exact .inl ⟨er,he,rfl,hS.sb⟩
  ·refine sQ ?_;intro w hS;refine Dct Tryz.results66 ?_;exact .inr ⟨s2,b3,rfl,hs2,hS.sb⟩
 ·subst hb;obtain ⟨ht0,ht1⟩:=hv.t rfl;obtain ⟨q,rfl⟩:=Int.eq_ofNat_of_zero_le ht0;have hq1:q < c.tenants.length:=by simp only at ht1;omega
  obtain ⟨gt,rfl⟩:=Z.Sep_slform hS (e:=183) (sz:=12) (c:=tc) (A:=tA) (rows:=s.tenants.map TS.cells) (n0:=c.tenants.length) AtF (by rw [List.length_map,hs0.tl];omega);replace hS:Sep r [] (.sl 183 12 (.slice (some ⟨gt,0,none⟩) c.tenants.length tc) (((⟨tk,IntKind.i64.wrap (s.count+1),s.tenants,s.cells,s.proven,s.evac,s.low,s.high⟩:Sta)).tenants.map TS.cells)::.sl 186 4 (.slice (some ⟨gk,0,none⟩) c.cells.length kc) (((⟨tk,IntKind.i64.wrap (s.count+1),s.tenants,s.cells,s.proven,s.evac,s.low,s.high⟩:Sta)).cells.map CS.cells)::.blk gr 69 (Sta.zero.cl SAd.zero)::_::_::.blk gc 55 (c.cl a)::F) _:=hS.sb;refine cQ (hp (yi0 c (⟨tk,IntKind.i64.wrap (s.count+1),s.tenants,s.cells,s.proven,s.evac,s.low,s.high⟩:Sta) gt tc gk kc q _ _ _ _ _ _ _ _ _ _ _ hS hs1 hq1 a (hr.app [_,_,_,_]) ho)) rfl ?_;clear hS;rintro e w ⟨v,rfl,hv⟩;refine ⟨_,rfl,?_⟩
  rcases hv with ⟨er,he,rfl,hS⟩|⟨s2,b3,rfl,hs2,hS⟩
  ·refine sQ ?_;intro w hS;refine Dct Tryz.results66 ?_;exact .inl ⟨er,he,rfl,hS.sb⟩
  ·refine sQ ?_;intro w hS;refine Dct Tryz.results66 ?_;exact .inr ⟨s2,b3,rfl,hs2,hS.sb⟩
 ·subst hb;obtain ⟨hc0,hc1⟩:=hv.k rfl;obtain ⟨k,rfl⟩:=Int.eq_ofNat_of_zero_le hc0;have hk1:k < c.cells.length:=by simp only at hc1;omega
  have hk2:k < s.cells.length:=by rw [hs0.kl];exact hk1
  obtain ⟨y,hy⟩:∃ y,s.cells[k]'hk2=y:=⟨_,rfl⟩;have hyo:KOj c.versions.length y:=by rw [← hy];exact hs0.k _ (List.getElem_mem hk2)
  refine D.startS hS 10 10 kR rfl ?_;replace hS:=hS.drew;refine Sh.dp 0 1 ?_;refine Sh.dp 2 5 ?_;refine Sh.dp 7 133 ?_;refine Sh.dl 1 135 ?_;refine Sh.dl 3 143 ?_
  first|refine D.ixn 4 159 rfl D.wantedN kR rfl rfl rfl oM ?_|refine D.ix 4 159 rfl D.wantedN kR rfl rfl rfl oM ?_|refine D.ia 4 159 rfl D.wantedN kR rfl rfl rfl oM ?_
  refine Sh.dp 5 191 ?_;refine D.ldE (q:=0) 6 255 rfl D.wantedN kR rfl (fun W hW=>yaa (fc:=CS.cells) (e:=186) (sz:=4) (g:=gk) hW AtF oM hk2 hy) rfl ?_;refine Sh.dl 8 511 ?_
  first|refine D.pr 9 1023 rfl D.wantedN kR rfl ?_|refine D.pl 9 1023 rfl D.wantedN kR (R.eqa rfl rfl rfl rfl) ?_
  refine D.dn ?_
  repeat' (first|refine K ?_|(refine Sh.sa hS ?_;clear hS;intro w hS)|(refine K3 ?_;clear hS;intro g w hS hge)|(refine KB ?_ ?_<;>intro hb<;>(try simp only [JJ] at hb)<;>(try exact JX))|fail|(refine Z.eff (Z.cl (yae _ _ _ _ hS) rfl ?_) rfl;clear hS;rintro e w ⟨rfl,hS⟩;refine ⟨_,rfl,?_⟩))
  ·refine Dct Tryz.results66 ?_;refine .inl ⟨_,?_,rfl,hS.sb⟩
   decide
  refine D.startS (Lr:=[.blk ge 63 (⟨9,tk,tn,(k:Int),ot,ep,fr,un,nn⟩:En).cells,.blk gs 69 (((⟨tk,IntKind.i64.wrap (s.count+1),s.tenants,s.cells,s.proven,s.evac,s.low,s.high⟩:Sta)).cc c (⟨tA,tc,some ⟨gk,0,none⟩,kc⟩:SAd))]) (hS.sb) 17 18 kR rfl ?_;replace hS:=hS.drew;refine Sh.dp 0 1 ?_;refine Sh.dp 2 5 ?_;refine Sh.dp 4 21 ?_;refine Sh.dp 6 85 ?_;refine Sh.dp 8 341 ?_;refine Sh.dp 10 1365 ?_;refine Sh.dl 1 1367 ?_;refine Sh.dl 3 1375 ?_;refine Sh.dl 5 1407 ?_;refine Sh.dl 7 1535 ?_;refine Sh.dl 9 2047 ?_
  first|refine D.ixn 12 6143 rfl D.wantedN kR rfl rfl rfl oM ?_|refine D.ix 12 6143 rfl D.wantedN kR rfl rfl rfl oM ?_|refine D.ia 12 6143 rfl D.wantedN kR rfl rfl rfl oM ?_
  refine Sh.dp 13 14335 ?_;refine Sh.dl 11 16383 ?_;refine D.ef 14 32767 ?_;rw [yag hk2 hy] at hS;refine Z.stK (y0:=y) (j:=0) ({ y with mode:=nn }:CS) hS rfl AtF hk2 rfl rfl rfl oM rfl ?_;clear hS;intro w hS;refine HMs ?_
  first|refine D.ixn 15 65535 rfl D.wantedN kR rfl rfl rfl oM ?_|refine D.ix 15 65535 rfl D.wantedN kR rfl rfl rfl oM ?_|refine D.ia 15 65535 rfl D.wantedN kR rfl rfl rfl oM ?_
  refine Sh.dp 16 131071 ?_;refine D.ef 17 262143 ?_;refine Z.stK (y0:={ y with mode:=nn }) (j:=3) ({ y with mode:=nn,since:=tk }:CS) hS rfl AtF hk2 rfl rfl rfl oM rfl ?_;clear hS;intro w hS;refine HMl ?_;refine D.dn ?_;refine sQ ?_;intro w hS;refine Dct Tryz.results66 ?_;exact .inr ⟨{ (⟨tk,IntKind.i64.wrap (s.count+1),s.tenants,s.cells,s.proven,s.evac,s.low,s.high⟩:Sta) with cells:=s.cells.set k { y with mode:=nn,since:=tk } },(⟨tA,tc,some ⟨gk,0,none⟩,kc⟩:SAd),rfl,hs1.setK (x:={ y with mode:=nn,since:=tk }) ⟨hyo.r,hyo.w⟩ k,hS.sb⟩
 ·subst hb;obtain ⟨hc0,hc1⟩:=hv.k rfl;obtain ⟨k,rfl⟩:=Int.eq_ofNat_of_zero_le hc0;have hk1:k < c.cells.length:=by simp only at hc1;omega
  obtain ⟨hn0,hn1⟩:=hv.v rfl;obtain ⟨m,rfl⟩:=Int.eq_ofNat_of_zero_le hn0;have hm1:m < c.versions.length:=by simp only at hn1;omega
  replace hS:Sep r [] (.sl 183 12 (.slice tA c.tenants.length tc) (((⟨tk,IntKind.i64.wrap (s.count+1),s.tenants,s.cells,s.proven,s.evac,s.low,s.high⟩:Sta)).tenants.map TS.cells)::.sl 186 4 (.slice (some ⟨gk,0,none⟩) c.cells.length kc) (((⟨tk,IntKind.i64.wrap (s.count+1),s.tenants,s.cells,s.proven,s.evac,s.low,s.high⟩:Sta)).cells.map CS.cells)::.blk gr 69 (Sta.zero.cl SAd.zero)::_::_::.blk gc 55 (c.cl a)::F) _:=hS.sb;refine cQ (hp (yi7 c (⟨tk,IntKind.i64.wrap (s.count+1),s.tenants,s.cells,s.proven,s.evac,s.low,s.high⟩:Sta) tA tc gk kc k m _ _ _ _ _ _ _ _ _ _ hS hs1 ho a (hr.app [_,_,_,_]) hk1 hm1)) rfl ?_;clear hS;rintro e w ⟨v,rfl,hv⟩;refine ⟨_,rfl,?_⟩
  rcases hv with ⟨er,he,rfl,hS⟩|⟨s2,b3,rfl,hs2,hS⟩
  ·refine sQ ?_;intro w hS;refine Dct Tryz.results66 ?_;exact .inl ⟨er,he,rfl,hS.sb⟩
  ·refine sQ ?_;intro w hS;refine Dct Tryz.results66 ?_;exact .inr ⟨s2,b3,rfl,hs2,hS.sb⟩
 ·subst hb;obtain ⟨hc0,hc1⟩:=hv.k rfl;obtain ⟨k,rfl⟩:=Int.eq_ofNat_of_zero_le hc0;have hk1:k < c.cells.length:=by simp only at hc1;omega
  obtain ⟨hn0,hn1⟩:=hv.v rfl;obtain ⟨m,rfl⟩:=Int.eq_ofNat_of_zero_le hn0;have hm1:m < c.versions.length:=by simp only at hn1;omega
  replace hS:Sep r [] (.sl 183 12 (.slice tA c.tenants.length tc) (((⟨tk,IntKind.i64.wrap (s.count+1),s.tenants,s.cells,s.proven,s.evac,s.low,s.high⟩:Sta)).tenants.map TS.cells)::.sl 186 4 (.slice (some ⟨gk,0,none⟩) c.cells.length kc) (((⟨tk,IntKind.i64.wrap (s.count+1),s.tenants,s.cells,s.proven,s.evac,s.low,s.high⟩:Sta)).cells.map CS.cells)::.blk gr 69 (Sta.zero.cl SAd.zero)::_::_::.blk gc 55 (c.cl a)::F) _:=hS.sb;refine cQ (hp (yiZ c (⟨tk,IntKind.i64.wrap (s.count+1),s.tenants,s.cells,s.proven,s.evac,s.low,s.high⟩:Sta) tA tc gk kc k m _ _ _ _ _ _ _ _ _ _ hS hs1 ho hk1 hm1)) rfl ?_;clear hS;rintro e w ⟨v,rfl,hv⟩;refine ⟨_,rfl,?_⟩
  rcases hv with ⟨er,he,rfl,hS⟩|⟨s2,b3,rfl,hs2,hS⟩
  ·refine sQ ?_;intro w hS;refine Dct Tryz.results66 ?_;exact .inl ⟨er,he,rfl,hS.sb⟩
  ·refine sQ ?_;intro w hS;refine Dct Tryz.results66 ?_;exact .inr ⟨s2,b3,rfl,hs2,hS.sb⟩
 ·subst hb;obtain ⟨hn0,hn1⟩:=hv.v rfl;obtain ⟨m,rfl⟩:=Int.eq_ofNat_of_zero_le hn0;have hm1:m < c.versions.length:=by simp only at hn1;omega
  replace hS:Sep r [] (.sl 183 12 (.slice tA c.tenants.length tc) (((⟨tk,IntKind.i64.wrap (s.count+1),s.tenants,s.cells,s.proven,s.evac,s.low,s.high⟩:Sta)).tenants.map TS.cells)::.sl 186 4 (.slice (some ⟨gk,0,none⟩) c.cells.length kc) (((⟨tk,IntKind.i64.wrap (s.count+1),s.tenants,s.cells,s.proven,s.evac,s.low,s.high⟩:Sta)).cells.map CS.cells)::.blk gr 69 (Sta.zero.cl SAd.zero)::_::_::.blk gc 55 (c.cl a)::F) _:=hS.sb;refine cQ (hp (yh4 c (⟨tk,IntKind.i64.wrap (s.count+1),s.tenants,s.cells,s.proven,s.evac,s.low,s.high⟩:Sta) tA tc gk kc m _ _ _ _ _ _ _ _ _ _ _ hS hs1 ho a)) rfl ?_;clear hS;rintro e w ⟨v,rfl,hv⟩;refine ⟨_,rfl,?_⟩
  rcases hv with ⟨er,he,rfl,hS⟩|⟨s2,b3,rfl,hs2,hS⟩
  ·refine sQ ?_;intro w hS;refine Dct Tryz.results66 ?_;exact .inl ⟨er,he,rfl,hS.sb⟩
  ·refine sQ ?_;intro w hS;refine Dct Tryz.results66 ?_;exact .inr ⟨s2,b3,rfl,hs2,hS.sb⟩
 ·subst hb;have hu:0≤IntKind.u64.wrap ot:=by
   simp [IntKind.wrap,IntKind.signed,IntKind.bits]
   omega
  refine D.startS hS 9 9 kR rfl ?_;replace hS:=hS.drew;refine Sh.dp 0 1 ?_;refine Sh.dp 2 5 ?_;refine Sh.dp 5 37 ?_;refine Sh.dl 1 39 ?_;refine Sh.dl 3 47 ?_;refine Sh.dl 6 111 ?_
  first|refine D.pr 7 239 rfl D.wantedN kR rfl ?_|refine D.pl 7 239 rfl D.wantedN kR (R.eqa rfl rfl rfl rfl) ?_
  refine D.ef 4 255 ?_;refine Z.cl (ybl _ _ _ _ _ hS) rfl ?_;clear hS;rintro e w ⟨b4,rfl,hS⟩;refine ⟨_,rfl,?_⟩;refine HMs ?_
  first|refine D.pr 8 511 rfl D.wantedN kR rfl ?_|refine D.pl 8 511 rfl D.wantedN kR (R.eqa rfl rfl rfl rfl) ?_
  refine D.dn ?_
  repeat' (first|refine K ?_|(refine Sh.sa hS ?_;clear hS;intro w hS)|(refine K3 ?_;clear hS;intro g w hS hge)|(refine KB ?_ ?_<;>intro hb<;>(try simp only [JJ] at hb)<;>(try exact JX))|fail|(refine Z.eff (Z.cl (yae _ _ _ _ hS) rfl ?_) rfl;clear hS;rintro e w ⟨rfl,hS⟩;refine ⟨_,rfl,?_⟩))
  ·refine Dct Tryz.results66 ?_;refine .inl ⟨_,?_,rfl,hS.sb⟩
   decide
  refine Dct Tryz.results66 ?_;exact .inr ⟨{ (⟨tk,IntKind.i64.wrap (s.count+1),s.tenants,s.cells,s.proven,s.evac,s.low,s.high⟩:Sta) with evac:=bitZ .i64 (· ^^^ ·) s.evac (IntKind.i64.wrap (1 * 2 ^ min (IntKind.u64.wrap ot).toNat IntKind.i64.bits)) },(⟨tA,tc,some ⟨gk,0,none⟩,kc⟩:SAd),rfl,⟨hs1.tl,hs1.kl,hs1.t,hs1.k⟩,hS.sb⟩
 ·subst hb;replace hS:Sep r [] (.sl 183 12 (.slice tA c.tenants.length tc) (((⟨tk,IntKind.i64.wrap (s.count+1),s.tenants,s.cells,s.proven,s.evac,s.low,s.high⟩:Sta)).tenants.map TS.cells)::.sl 186 4 (.slice (some ⟨gk,0,none⟩) c.cells.length kc) (((⟨tk,IntKind.i64.wrap (s.count+1),s.tenants,s.cells,s.proven,s.evac,s.low,s.high⟩:Sta)).cells.map CS.cells)::.blk gr 69 (Sta.zero.cl SAd.zero)::_::_::.blk gc 55 (c.cl a)::F) _:=hS.sb;refine cQ (hp (ygx c (⟨tk,IntKind.i64.wrap (s.count+1),s.tenants,s.cells,s.proven,s.evac,s.low,s.high⟩:Sta) tA tc gk kc _ _ _ hS hs1 ho a (hr.app [_,_,_,_]))) rfl ?_;clear hS;rintro e w ⟨v,rfl,hv⟩;refine ⟨_,rfl,?_⟩
  rcases hv with ⟨er,he,rfl,hS⟩|⟨s2,b3,rfl,hs2,hS⟩
  ·refine sQ ?_;intro w hS;refine Dct Tryz.results66 ?_;exact .inl ⟨er,he,rfl,hS.sb⟩
  ·refine sQ ?_;intro w hS;refine Dct Tryz.results66 ?_;exact .inr ⟨s2,b3,rfl,hs2,hS.sb⟩
 ·repeat' (first|refine K ?_|(refine Sh.sa hS ?_;clear hS;intro w hS)|(refine K3 ?_;clear hS;intro g w hS hge)|(refine KB ?_ ?_<;>intro hb<;>(try simp only [JJ] at hb)<;>(try exact JX))|fail|(refine Z.eff (Z.cl (yae _ _ _ _ hS) rfl ?_) rfl;clear hS;rintro e w ⟨rfl,hS⟩;refine ⟨_,rfl,?_⟩))
  refine Dct Tryz.results66 ?_;refine .inl ⟨_,?_,rfl,hS.sb⟩
  decide
 ·refine Dct Tryz.results66 ?_;exact .inr ⟨{ (⟨tk,IntKind.i64.wrap (s.count+1),s.tenants,s.cells,s.proven,s.evac,s.low,s.high⟩:Sta) with low:=s.high },(⟨tA,tc,some ⟨gk,0,none⟩,kc⟩:SAd),rfl,⟨hs1.tl,hs1.kl,hs1.t,hs1.k⟩,hS.sb⟩
 ·refine Dct Tryz.results66 ?_;exact .inr ⟨(⟨tk,IntKind.i64.wrap (s.count+1),s.tenants,s.cells,s.proven,s.evac,s.low,s.high⟩:Sta),(⟨tA,tc,some ⟨gk,0,none⟩,kc⟩:SAd),rfl,hs1,hS.sb⟩
end Go.Proofs.YtfmnjbhncnldmaaGreat
