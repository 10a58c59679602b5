import Derived.Test.YtfmnjbhncnldmaaGreatW08
import Derived.Test.YtfmnjbhncnldmaaGreatW11
set_option maxHeartbeats 4000000
set_option linter.unusedSimpArgs false
set_option linter.unusedVariables false
namespace Go.Proofs.YtfmnjbhncnldmaaGreat
open Go.RowKit
attribute [local irreducible] Res.blk Res.sl Res.all Res.ex Res.pure Res.star
def SO (c:Cfg) (s:Sta) (b:SAd):Res:=.all [.sl 183 12 (.slice b.tA c.tenants.length b.tc) (s.tenants.map TS.cells),.sl 186 4 (.slice b.kA c.cells.length b.kc) (s.cells.map CS.cells)]
theorem StC.of_so {r:World} {F k:List Res} {c:Cfg} {s:Sta} {b:SAd} (h:At F k (SO c s b)):StC r F s c b:=
 ⟨fun L _ hW=>(Sep.all_open.1 (hW.focus (at_app L h))).slrows .here,fun L _ hW=>(Sep.all_open.1 (hW.focus (at_app L h))).slrows (.next .here)⟩
theorem tsq_clone (l:List TS) (v:Value) (r:World) (F:List Res) (w:World) (hS:Sep r [] F w) (hrd:Reads r F 12 v (l.map TS.cells)) (hl:l.length≤100000) :
  Calls Tryz.prog 69 #[v] w fun e w'=>∃ A c,e=.returned (.slice A l.length c)∧Sep r [] (.sl 183 12 (.slice A l.length c) (l.map TS.cells)::F) w':=by
 obtain ⟨_,A,c,hv,hnil,hc,_⟩:=hrd [] w hS;simp only [List.length_map] at hv hc;subst hv
 cases A with
 | none=>
  have hl0:l=[]:=by have:=hnil rfl;exact List.eq_nil_of_length_eq_zero oM
  subst hl0;refine Z.enter Tryz.func69 Tryz.ntmps69 rfl rfl ?_;refine sQ ?_;intro w hS;refine Dnt Tryz.results69 ?_;exact ⟨none,0,rfl,Z.nilsl hS _ _ none⟩
 | some a=>
  refine Z.enter Tryz.func69 Tryz.ntmps69 rfl rfl ?_
  repeat' first|refine K ?_|refine Sa ?_;intro w hS|refine K3 ?_;intro g w hS hge|refine KC ?_ ?_<;>intro hb<;>try exact JX|fail
  refine Z.eff (Z.ap0m hS rfl rfl rfl (hrd [_] _ hS) LnF LnF ?_) rfl;clear hS;intro A' c' w hS;refine sQ ?_;intro w hS;refine Dnt Tryz.results69 ?_;exact ⟨_,_,rfl,hS.sb⟩
theorem csq_clone (l:List CS) (v:Value) (r:World) (F:List Res) (w:World) (hS:Sep r [] F w) (hrd:Reads r F 4 v (l.map CS.cells)) (hl:l.length≤100000) :
  Calls Tryz.prog 70 #[v] w fun e w'=>∃ A c,e=.returned (.slice A l.length c)∧Sep r [] (.sl 186 4 (.slice A l.length c) (l.map CS.cells)::F) w':=by
 obtain ⟨_,A,c,hv,hnil,hc,_⟩:=hrd [] w hS;simp only [List.length_map] at hv hc;subst hv
 cases A with
 | none=>
  have hl0:l=[]:=by have:=hnil rfl;exact List.eq_nil_of_length_eq_zero oM
  subst hl0;refine Z.enter Tryz.func70 Tryz.ntmps70 rfl rfl ?_;refine sQ ?_;intro w hS;refine Dnt Tryz.results70 ?_;exact ⟨none,0,rfl,Z.nilsl hS _ _ none⟩
 | some a=>
  refine Z.enter Tryz.func70 Tryz.ntmps70 rfl rfl ?_
  repeat' first|refine K ?_|refine Sa ?_;intro w hS|refine K3 ?_;intro g w hS hge|refine KC ?_ ?_<;>intro hb<;>try exact JX|fail
  refine Z.eff (Z.ap0m hS rfl rfl rfl (hrd [_] _ hS) LnF LnF ?_) rfl;clear hS;intro A' c' w hS;refine sQ ?_;intro w hS;refine Dnt Tryz.results70 ?_;exact ⟨_,_,rfl,hS.sb⟩
theorem ybT {α:Type} {r w:World} {M:List Nat} {F:List Res} {e sz:Nat} {v:Value} {fc:α→List Value} {l:List α} {q:Nat} {x:α} (hS:Sep r M (.sl e sz v (l.map fc)::F) w) (hq:q < l.length) (hx:l[q]'hq=x):Sep r M (.sl e sz v ((l.set q x).map fc)::F) w:=by
 rw [← yag hq hx];exact hS
set_option maxRecDepth 10000 in
theorem yhh (ts:List TS) (gt tc n0 q:Nat) (x:TS) (e:En) (r:World) (F:List Res) (w:World) (hS:Sep r [] (.sl 183 12 (.slice (some ⟨gt,0,none⟩) n0 tc) (ts.map TS.cells)::F) w) (hq:q < ts.length) (hx:ts[q]'hq=x) (hk:e.kind=1):Calls Tryz.prog 179 #[.pointer (some ⟨gt,0+q * 12,none⟩),e.val] w fun y w'=>y=.returned (.tuple #[])∧Sep r [] (.sl 183 12 (.slice (some ⟨gt,0,none⟩) n0 tc) ((ts.set q (onT x e)).map TS.cells)::F) w':=by
 have hon:onT x e={ x with placed:=true,home:=e.cell,standby:=e.other }:=by unfold onT;rw [if_pos hk]
 rw [hon];replace hS:=ybT hS hq hx;refine Z.enter Tryz.func179 Tryz.ntmps179 rfl rfl ?_;refine aQ1 ?_;intro ge w hS;refine D.startS (Lr:=[.blk ge 63 e.cells]) (hS.sb) 15 16 kR rfl ?_;replace hS:=hS.drew;refine Sh.dp 0 1 ?_;refine Sh.dp 1 3 ?_;refine Sh.dp 2 7 ?_;refine Sh.dp 3 15 ?_;refine Sh.dp 5 47 ?_;refine Sh.dp 7 175 ?_;refine Sh.dp 8 431 ?_;refine Sh.dl 4 447 ?_;refine Sh.dl 6 511 ?_;refine D.ef 9 1023 ?_;refine Z.stT (y0:=x) (j:=0) ({ x with placed:=true }:TS) hS rfl AtF hq rfl rfl rfl oM rfl ?_;clear hS;intro w hS;refine HMs ?_;refine Sh.dp 10 2047 ?_;refine Sh.dp 11 4095 ?_;refine D.ef 12 8191 ?_;refine Z.stT (y0:={ x with placed:=true }) (j:=2) ({ x with placed:=true,home:=e.cell }:TS) hS rfl AtF hq rfl rfl rfl oM rfl ?_;clear hS;intro w hS;refine HMs ?_;refine Sh.dp 13 16383 ?_;refine Sh.dp 14 32767 ?_;refine D.ef 15 65535 ?_;refine Z.stT (y0:={ x with placed:=true,home:=e.cell }) (j:=3) ({ x with placed:=true,home:=e.cell,standby:=e.other }:TS) hS rfl AtF hq rfl rfl rfl oM rfl ?_;clear hS;intro w hS;refine HMl ?_;refine D.dn ?_;refine sQ ?_;intro w hS;refine Dn Tryz.results179 ?_;exact ⟨rfl,hS.sb⟩
set_option maxRecDepth 10000 in
theorem ydR (ts:List TS) (gt tc n0 q:Nat) (x:TS) (e:En) (r:World) (F:List Res) (w:World) (hS:Sep r [] (.sl 183 12 (.slice (some ⟨gt,0,none⟩) n0 tc) (ts.map TS.cells)::F) w) (hq:q < ts.length) (hx:ts[q]'hq=x) (hk:e.cell=x.home) :
  Calls Tryz.prog 264 #[.pointer (some ⟨gt,0+q * 12,none⟩),e.val] w fun y w'=>y=.returned (.tuple #[])∧Sep r [] (.sl 183 12 (.slice (some ⟨gt,0,none⟩) n0 tc) ((ts.set q (grantedP x e)).map TS.cells)::F) w':=by
 have hon:grantedP x e={ x with w:=⟨e.cell,e.epoch,e.n,e.from_,e.until_⟩,epoch:=e.epoch }:=by unfold grantedP;rw [if_pos hk]
 rw [hon];replace hS:=ybT hS hq hx;refine Z.enter Tryz.func264 Tryz.ntmps264 rfl rfl ?_;refine aQ1 ?_;intro ge w hS;refine Z.eff (Z.stTw (y0:=x) (xs:=[.int .i64 e.cell,.int .i64 e.epoch,.int .i64 e.n,.int .i64 e.from_,.int .i64 e.until_]) ({ x with w:=⟨e.cell,e.epoch,e.n,e.from_,e.until_⟩ }:TS) hS rfl AtF hq rfl rfl rfl rfl rfl ?_) rfl;clear hS;intro w hS;refine sQ ?_;intro w hS;refine Z.eff (Z.stT (y0:={ x with w:=⟨e.cell,e.epoch,e.n,e.from_,e.until_⟩ }) (j:=6) ({ x with w:=⟨e.cell,e.epoch,e.n,e.from_,e.until_⟩,epoch:=e.epoch }:TS) hS rfl AtF hq rfl rfl rfl oM rfl ?_) rfl;clear hS;intro w hS;have hrt:=yaa (fc:=TS.cells) (x:={ x with w:=⟨e.cell,e.epoch,e.n,e.from_,e.until_⟩,epoch:=e.epoch }) hS (e:=183) (sz:=12) (g:=gt) AtF oM (by simpa using hq) (by simp);have hcl:({ x with w:=⟨e.cell,e.epoch,e.n,e.from_,e.until_⟩,epoch:=e.epoch }:TS).cells=[.bool x.placed,.bool x.shed,.int .i64 x.home,.int .i64 x.standby,.int .i64 x.next,.int .i64 x.target,.int .i64 e.epoch,.int .i64 e.cell,.int .i64 e.epoch,.int .i64 e.n,.int .i64 e.from_,.int .i64 e.until_]:=rfl;rw [hcl] at hrt;refine sQ ?_;intro w hS;refine Dn Tryz.results264 ?_;exact ⟨rfl,hS.sb⟩
set_option maxRecDepth 10000 in
theorem yhi (ts:List TS) (gt tc n0 q:Nat) (x:TS) (e:En) (r:World) (F:List Res) (w:World) (hS:Sep r [] (.sl 183 12 (.slice (some ⟨gt,0,none⟩) n0 tc) (ts.map TS.cells)::F) w) (hq:q < ts.length) (hx:ts[q]'hq=x) (hk:e.kind=2) (hh:e.cell=x.home):Calls Tryz.prog 179 #[.pointer (some ⟨gt,0+q * 12,none⟩),e.val] w fun y w'=>y=.returned (.tuple #[])∧Sep r [] (.sl 183 12 (.slice (some ⟨gt,0,none⟩) n0 tc) ((ts.set q (onT x e)).map TS.cells)::F) w':=by
 have hon:onT x e=grantedP x e:=by unfold onT;simp [hk]
 rw [hon];refine Z.enter Tryz.func179 Tryz.ntmps179 rfl rfl ?_;refine aQ1 ?_;intro g w hS;replace hS:=hS.fo (R:=.sl 183 12 (.slice (some ⟨gt,0,none⟩) n0 tc) (ts.map TS.cells));refine rQ (ydR ts gt tc n0 q x e _ _ _ hS hq hx hh) ?_;intro w hS;refine Dn Tryz.results179 ?_;exact ⟨rfl,hS.sb⟩
theorem ybj {s:Sta} {e:En} (hk:e.kind=1∨e.kind=2):effP s e={ s with tick:=e.tick,count:=s.count+1,tenants:=s.tenants.set e.tenant.toNat (onT (tenP s e.tenant) e) }:=by
 unfold effP;simp only;rw [if_neg oM,if_neg oM,if_neg oM,if_neg oM,if_neg oM,if_neg oM]
set_option maxRecDepth 10000 in
theorem steff_t (c:Cfg) (s:Sta) (b:SAd) (e:En) (r:World) (F:List Res) (w:World) (hS:Sep r [] F w) (hs:s.ok c) (hq:StC r F s c b) (hv:CfgV c) (ht:0≤e.tenant∧e.tenant < c.tenants.length) (hc:0≤s.count∧s.count≤5000) (hk:e.kind=1∨(e.kind=2∧e.cell=(tenP s e.tenant).home)) :
  Calls Tryz.prog 86 #[s.vc c b,e.val] w fun y w'=>∃ b',y=.returned ((effP s e).vc c b')∧Sep r [] (SO c (effP s e) b'::F) w':=by
 have htl:=hv.ok.t;have hkl:=hv.ok.k;have h1:=hs.tl;have h2:=hs.kl;rw [ybj oM];refine Z.enter Tryz.func86 Tryz.ntmps86 rfl rfl ?_;refine aQ3 ?_;intro gs ge gr w hS;refine Z.cut [5,6,7,8,9,10,11,12] (fun w z=>∃ (tA:Option Addr) (tc:Nat) (kA:Option Addr) (kc:Nat),z=[]∧Sep r [] (.sl 183 12 (.slice tA c.tenants.length tc) (s.tenants.map TS.cells)::.sl 186 4 (.slice kA c.cells.length kc) (s.cells.map CS.cells)::.blk gr 69 (Sta.zero.cl SAd.zero)::.blk ge 63 e.cells::.blk gs 69 (s.cc c ⟨tA,tc,kA,kc⟩)::F) w) ?_ ?_
 ·refine D.startS (Lr:=[]) (hS.sb) 9 10 kR rfl ?_;replace hS:=hS.drew;refine Sh.dp 0 1 ?_;refine Sh.dp 3 9 ?_;refine D.each [1,4] kR rfl ?_;refine D.econs 1 11 rfl D.wantedN kR (fun _ _ h=>h) ?_ ?_
  ·refine Z.ld hS rfl AtF rfl ?_;refine HMs ?_;refine D.each [2,4] kR rfl ?_;refine D.econs 2 15 rfl D.wantedN kR (fun _ _ h=>h) ?_ ?_
   ·refine Z.cl (tsq_clone s.tenants _ _ _ _ hS (hq.t.app [_,_,_]) oM) rfl ?_;clear hS;rintro e w ⟨tA,tc,rfl,hS⟩;refine ⟨_,rfl,?_⟩;rw [h1] at hS ⊢;refine HMs ?_;refine D.ef 4 31 ?_;refine Z.ld hS rfl AtF rfl ?_;refine HMs ?_;refine Sh.dp 6 95 ?_;refine D.ef 5 127 ?_;refine Z.cl (csq_clone s.cells _ _ _ _ hS (hq.k.app [_,_,_,_]) oM) rfl ?_;clear hS;rintro e w ⟨kA,kc,rfl,hS⟩;refine ⟨_,rfl,?_⟩;rw [h2] at hS ⊢;refine HMs ?_;refine D.ef 7 255 ?_;refine Z.st hS rfl AtF rfl rfl ?_;clear hS;intro w hS;refine HMs ?_;refine Sh.dp 8 511 ?_;refine D.ef 9 1023 ?_;refine Z.st hS rfl AtF rfl rfl ?_;clear hS;intro w hS;refine HMl ?_;refine D.dn ?_;refine Sh.cut [] ?_;exact ⟨_,_,_,_,rfl,hS.sb⟩
   refine D.econs 4 27 rfl D.wantedN kR (fun _ _ h=>h) ?_ ?_
   ·refine Z.ld hS rfl AtF rfl ?_;refine HMs ?_;refine D.ef 2 31 ?_;refine Z.cl (tsq_clone s.tenants _ _ _ _ hS (hq.t.app [_,_,_]) oM) rfl ?_;clear hS;rintro e w ⟨tA,tc,rfl,hS⟩;refine ⟨_,rfl,?_⟩;rw [h1] at hS ⊢;refine HMs ?_;refine Sh.dp 6 95 ?_;refine D.ef 5 127 ?_;refine Z.cl (csq_clone s.cells _ _ _ _ hS (hq.k.app [_,_,_,_]) oM) rfl ?_;clear hS;rintro e w ⟨kA,kc,rfl,hS⟩;refine ⟨_,rfl,?_⟩;rw [h2] at hS ⊢;refine HMs ?_;refine D.ef 7 255 ?_;refine Z.st hS rfl AtF rfl rfl ?_;clear hS;intro w hS;refine HMs ?_;refine Sh.dp 8 511 ?_;refine D.ef 9 1023 ?_;refine Z.st hS rfl AtF rfl rfl ?_;clear hS;intro w hS;refine HMl ?_;refine D.dn ?_;refine Sh.cut [] ?_;exact ⟨_,_,_,_,rfl,hS.sb⟩
   exact D.enil
  refine D.econs 4 25 rfl D.wantedN kR (fun _ _ h=>h) ?_ ?_
  ·refine Z.ld hS rfl AtF rfl ?_;refine HMs ?_;refine D.ef 1 27 ?_;refine Z.ld hS rfl AtF rfl ?_;refine HMs ?_;refine D.ef 2 31 ?_;refine Z.cl (tsq_clone s.tenants _ _ _ _ hS (hq.t.app [_,_,_]) oM) rfl ?_;clear hS;rintro e w ⟨tA,tc,rfl,hS⟩;refine ⟨_,rfl,?_⟩;rw [h1] at hS ⊢;refine HMs ?_;refine Sh.dp 6 95 ?_;refine D.ef 5 127 ?_;refine Z.cl (csq_clone s.cells _ _ _ _ hS (hq.k.app [_,_,_,_]) oM) rfl ?_;clear hS;rintro e w ⟨kA,kc,rfl,hS⟩;refine ⟨_,rfl,?_⟩;rw [h2] at hS ⊢;refine HMs ?_;refine D.ef 7 255 ?_;refine Z.st hS rfl AtF rfl rfl ?_;clear hS;intro w hS;refine HMs ?_;refine Sh.dp 8 511 ?_;refine D.ef 9 1023 ?_;refine Z.st hS rfl AtF rfl rfl ?_;clear hS;intro w hS;refine HMl ?_;refine D.dn ?_;refine Sh.cut [] ?_;exact ⟨_,_,_,_,rfl,hS.sb⟩
  exact D.enil
 clear hS;rintro f0 w _ ⟨tA,tc,kA,kc,rfl,hS⟩;obtain ⟨gt,rfl⟩:=Z.Sep_slform hS (rows:=s.tenants.map TS.cells) .here (by rw [List.length_map];omega);have hk12:e.kind=1∨e.kind=2:=by omega
 have hqt:e.tenant.toNat < s.tenants.length:=by omega
 have hxt:s.tenants[e.tenant.toNat]=tenP s e.tenant:=by simp [tenP,List.getD_eq_getElem?_getD,hqt]
 refine sQ ?_;intro w hS
 rcases hk with hk|⟨hk,hh⟩
 ·refine D.startS (Lr:=[.blk gs 69 (({ s with tick:=e.tick,count:=s.count+1 }:Sta).cc c ⟨some ⟨gt,0,none⟩,tc,kA,kc⟩),.blk ge 63 e.cells]) (hS.sb) 7 7 kR rfl ?_;replace hS:=hS.drew;refine Sh.dp 0 1 ?_;refine Sh.dp 2 5 ?_;refine Sh.dl 1 7 ?_;refine Sh.dl 3 15 ?_
  first|refine D.ixn 4 31 rfl D.wantedN kR rfl rfl rfl oM ?_|refine D.ix 4 31 rfl D.wantedN kR rfl rfl rfl oM ?_|refine D.ia 4 31 rfl D.wantedN kR rfl rfl rfl oM ?_
  refine Sh.dl 5 63 ?_;refine D.ef 6 127 ?_;replace hS:=hS.fo (R:=.sl 183 12 (.slice (some ⟨gt,0,none⟩) c.tenants.length tc) (s.tenants.map TS.cells));refine dQ (yhh s.tenants gt tc c.tenants.length e.tenant.toNat _ e _ _ _ hS hqt hxt hk) ?_;intro w hS;refine D.dn ?_;refine sQ ?_;intro w hS;refine Dnc Tryz.results86 ?_;exact ⟨⟨some ⟨gt,0,none⟩,tc,kA,kc⟩,rfl,(Sep.all_open (Ls:=[_,_])).2 (hS.sb)⟩
 ·refine D.startS (Lr:=[.blk gs 69 (({ s with tick:=e.tick,count:=s.count+1 }:Sta).cc c ⟨some ⟨gt,0,none⟩,tc,kA,kc⟩),.blk ge 63 e.cells]) (hS.sb) 7 7 kR rfl ?_;replace hS:=hS.drew;refine Sh.dp 0 1 ?_;refine Sh.dp 2 5 ?_;refine Sh.dl 1 7 ?_;refine Sh.dl 3 15 ?_
  first|refine D.ixn 4 31 rfl D.wantedN kR rfl rfl rfl oM ?_|refine D.ix 4 31 rfl D.wantedN kR rfl rfl rfl oM ?_|refine D.ia 4 31 rfl D.wantedN kR rfl rfl rfl oM ?_
  refine Sh.dl 5 63 ?_;refine D.ef 6 127 ?_;replace hS:=hS.fo (R:=.sl 183 12 (.slice (some ⟨gt,0,none⟩) c.tenants.length tc) (s.tenants.map TS.cells));refine dQ (yhi s.tenants gt tc c.tenants.length e.tenant.toNat _ e _ _ _ hS hqt hxt hk hh) ?_;intro w hS;refine D.dn ?_;refine sQ ?_;intro w hS;refine Dnc Tryz.results86 ?_;exact ⟨⟨some ⟨gt,0,none⟩,tc,kA,kc⟩,rfl,(Sep.all_open (Ls:=[_,_])).2 (hS.sb)⟩
theorem valid1 {c:Cfg} {e:En} (h:validP c e=true) (hk:e.kind=1):(0≤e.tenant∧e.tenant < c.tenants.length)∧(0≤e.cell∧e.cell < c.cells.length)∧(-1≤e.other∧e.other < c.cells.length)∧e.other≠e.cell∧(0≤e.tick∧e.tick≤1073741824):=by
 unfold validP at h;rw [Bool.and_eq_true] at h;have h2:=h.2;unfold fitsP formP at h2;rw [if_pos hk] at h2;simp only [fitF,inSp,Bool.and_eq_true,decide_eq_true_eq,Bool.not_eq_true',decide_eq_false_iff_not,noSp,zSp] at h2;omega
theorem valid2 {c:Cfg} {e:En} (h:validP c e=true) (hk:e.kind=2):(0≤e.tenant∧e.tenant < c.tenants.length)∧(0≤e.cell∧e.cell < c.cells.length):=by
 unfold validP at h;rw [Bool.and_eq_true] at h;have h2:=h.2;unfold fitsP formP at h2;rw [if_neg oM,if_pos hk] at h2;simp only [fitF,inSp,Bool.and_eq_true,decide_eq_true_eq,Bool.not_eq_true',decide_eq_false_iff_not,noSp,zSp] at h2;omega
theorem yfy {c:Cfg} {s:Sta} {e:En} (hk:e.kind=1):kindP c s e=placeP c s e:=by unfold kindP;rw [if_pos hk]
theorem yiE {c:Cfg} {s:Sta} {e:En} (hk:e.kind=2):kindP c s e=grantP c s e:=by
 unfold kindP;rw [if_neg oM,if_neg oM,if_neg oM,if_neg oM,if_neg oM,if_neg oM,if_pos hk]
theorem yet {c:Cfg} {s:Sta} (hs:s.ok c) {t:Int} (ht:0≤t∧t < c.tenants.length):TOk c.cells.length (tenP s t):=by
 have hq:t.toNat < s.tenants.length:=by rw [hs.tl];omega
 have hx:s.tenants[t.toNat]=tenP s t:=by simp [tenP,List.getD_eq_getElem?_getD,hq]
 rw [← hx];exact hs.t _ (List.getElem_mem hq)
theorem ybJ {c:Cfg} {s:Sta} {e:En} (hs:s.ok c) (hk:e.kind=1) (h:validP c e=true) (hp:placeP c s e=true):(effP s e).ok c:=by
 obtain ⟨ht,hc,ho,hne,_⟩:=valid1 h hk;have hx:=yet hs ht;have hpl:(tenP s e.tenant).placed=false:=by
  unfold placeP at hp
  cases h0:(tenP s e.tenant).placed
  ·rfl
  ·simp [h0] at hp
 rw [ybj (.inl hk)];have hon:onT (tenP s e.tenant) e={ tenP s e.tenant with placed:=true,home:=e.cell,standby:=e.other }:=by unfold onT;rw [if_pos hk]
 rw [hon];have:=hs.setT (hx.place hpl (k:=e.cell) (o:=e.other) ⟨oM,oM⟩ ⟨oM,oM⟩ hne) e.tenant.toNat
 exact ⟨this.tl,this.kl,this.t,this.k⟩
theorem ygw {c:Cfg} {s:Sta} {e:En} (hs:s.ok c) (hk:e.kind=2) (h:validP c e=true) (hh:e.cell=(tenP s e.tenant).home):(effP s e).ok c:=by
 obtain ⟨ht,_⟩:=valid2 h hk;have hx:=yet hs ht;rw [ybj (.inr hk)];have hon:onT (tenP s e.tenant) e={ tenP s e.tenant with epoch:=e.epoch,w:=⟨e.cell,e.epoch,e.n,e.from_,e.until_⟩ }:=by
  unfold onT grantedP
  simp [hk,hh]
 rw [hon];have:=hs.setT (hx.window ⟨e.cell,e.epoch,e.n,e.from_,e.until_⟩ e.epoch) e.tenant.toNat
 exact ⟨this.tl,this.kl,this.t,this.k⟩
set_option maxRecDepth 10000 in
theorem yhj (c:Cfg) (a:CAd) (s:Sta) (b:SAd) (e:En) (r:World) (F:List Res) (w:World) (hS:Sep r [] F w) (hr:CfR r F c a) (hv:CfgV c) (hs:s.ok c) (hq:StC r F s c b) (hk:e.kind=1) :
  Calls Tryz.prog 85 #[c.val a,s.vc c b,e.val] w fun x w'=>∃ er:Int,x=.returned (.int .i64 er)∧(er=0↔refP c s e=true)∧Sep r [] F w':=by
 have h1:=hv.ok.t;have h2:=hv.ok.k;have h3:=hv.ok.r;have h4:=hv.ok.v;unfold refP;rw [yfy hk];refine Z.enter Tryz.func85 Tryz.ntmps85 rfl rfl ?_;refine aQ3 ?_;intro _ _ g w hS;refine cQ (ybL c a e _ _ _ hS oM oM oM oM) rfl ?_;clear hS;rintro e w ⟨rfl,hS⟩;refine ⟨_,rfl,?_⟩
 cases hval:validP c e
 ·refine sQ ?_;intro w hS;refine Dnt Tryz.results85 ?_;exact ⟨_,rfl,by simp,hS.sb⟩
 obtain ⟨ht,_⟩:=valid1 hval hk
 by_cases hcn:s.count < 4096
 rotate_left
 ·refine sQ ?_;intro w hS;refine Dnt Tryz.results85 ?_;exact ⟨_,rfl,by simp [hcn],hS.sb⟩
 by_cases htk:s.tick≤e.tick
 rotate_left
 ·refine sQ ?_;intro w hS;refine Dnt Tryz.results85 ?_;exact ⟨_,rfl,by simp [htk],hS.sb⟩
 refine sQ ?_;intro w hS;refine cQ (yf9 c a s b e _ _ _ hS (hr.app [_,_,_]) hv hs (hq.ap [_,_,_]) ht) rfl ?_;clear hS;rintro e w ⟨er,rfl,her,hS⟩;refine eQ ?_;intro w hS;refine Dnt Tryz.results85 ?_;exact ⟨_,rfl,by simp [hcn,htk,her],hS.sb⟩
set_option maxRecDepth 10000 in
theorem yhk (c:Cfg) (a:CAd) (s:Sta) (b:SAd) (e:En) (r:World) (F:List Res) (w:World) (hS:Sep r [] F w) (hr:CfR r F c a) (hv:CfgV c) (hs:s.ok c) (hq:StC r F s c b) (hk:e.kind=2) (hval:validP c e=true) (hcn:s.count < 4096) (htk:s.tick≤e.tick) (hg:GrOk c s e) :
  Calls Tryz.prog 85 #[c.val a,s.vc c b,e.val] w fun x w'=>x=.returned (.int .i64 0)∧Sep r [] F w':=by
 have h1:=hv.ok.t;have h2:=hv.ok.k;have h3:=hv.ok.r;have h4:=hv.ok.v;obtain ⟨ht,hc⟩:=valid2 hval hk;refine Z.enter Tryz.func85 Tryz.ntmps85 rfl rfl ?_;refine aQ3 ?_;intro _ _ g w hS;refine cQ (ybL c a e _ _ _ hS oM oM oM oM) rfl ?_;clear hS;rintro e w ⟨rfl,hS⟩;refine ⟨_,rfl,?_⟩;rw [hval];refine sQ ?_;intro w hS;refine rQ (yf8 c a s b e _ _ _ hS (hr.app [_,_,_]) hv hs (hq.ap [_,_,_]) ht hc hg) ?_;intro w hS;refine Dnt Tryz.results85 ?_;exact ⟨rfl,hS.sb⟩
theorem yil (c:Cfg) (a:CAd) (s:Sta) (b:SAd) (e:En) (r:World) (F:List Res) (w:World) (hS:Sep r [] F w) (hr:CfR r F c a) (hv:CfgV c) (hs:s.ok c) (hq:StC r F s c b) (hk:e.kind=1∨(e.kind=2∧validP c e=true∧s.count < 4096∧s.tick≤e.tick∧GrOk c s e)) :
  Calls Tryz.prog 85 #[c.val a,s.vc c b,e.val] w fun x w'=>∃ er:Int,x=.returned (.int .i64 er)∧(er=0↔refP c s e=true)∧Sep r [] F w':=by
 rcases hk with hk|⟨hk,h1,h2,h3,h4⟩
 ·exact yhj c a s b e r F w hS hr hv hs hq hk
 ·refine (yhk c a s b e r F w hS hr hv hs hq hk h1 h2 h3 h4).mono fun x w' ⟨hx,hS⟩=>⟨0,hx,?_,hS⟩
  unfold refP;rw [yiE hk,h4.grantP,h1,decide_eq_true h2,decide_eq_true h3]
  simp
theorem yf7 (e:En) (r:World) (F:List Res) (w:World) (hS:Sep r [] F w) (hk:e.kind=1∨e.kind=2) :
  Calls Tryz.prog 87 #[e.val] w fun x w'=>x=.returned (.bool true)∧Sep r [] F w':=by
 refine Z.enter Tryz.func87 Tryz.ntmps87 rfl rfl ?_
 repeat' first|refine K ?_|refine Sa ?_;intro w hS|refine K3 ?_;intro g w hS hge|refine KC ?_ ?_<;>intro hb<;>try exact JX|fail
 all_goals
  refine Dnt Tryz.results87 ?_;exact ⟨rfl,hS.sb⟩
def ApR (c:Cfg) (s:Sta) (e:En) (x:Ending) (cz:Cfg) (s':Sta) (b':SAd) (er:Int) (X:Res):Prop:=
 x=.returned (.tuple #[s'.vc cz b',.int .i64 er])∧(er=0↔accP c s e=true)∧(er=0→cz=c∧s'=effP s e∧X=SO c (effP s e) b')
theorem booksP_t {e:En} (hk:e.kind=1∨e.kind=2):booksP e=true:=by
 unfold booksP;rw [decide_eq_true (by omega:e.kind=1∨e.kind=6∨e.kind=2)]
 rfl
def Cfg.zero:Cfg:=⟨0,[],[],[],[],[],[],0,0,0⟩
theorem yaV (c:Cfg) (a:CAd) (s:Sta) (b:SAd) (e:En) (r:World) (F:List Res) (w:World) (hS:Sep r [] F w) (hr:CfR r F c a) (hv:CfgV c) (hs:s.ok c) (hq:StC r F s c b) (hc:0≤s.count∧s.count≤5000) (hk:e.kind=1∨(e.kind=2∧validP c e=true∧s.count < 4096∧s.tick≤e.tick∧GrOk c s e)) :
  Calls Tryz.prog 30 #[c.val a,s.vc c b,e.val] w fun x w'=>∃ (cz:Cfg) (s':Sta) (b':SAd) (er:Int) (X:Res),ApR c s e x cz s' b' er X∧Sep r [] (X::F) w':=by
 have hk12:e.kind=1∨e.kind=2:=hk.imp id (·.1);have hkh:e.kind=1∨(e.kind=2∧e.cell=(tenP s e.tenant).home):=hk.imp id fun h=>⟨h.1,h.2.2.2.2.h⟩
 refine Z.enter Tryz.func30 Tryz.ntmps30 rfl rfl ?_;refine aQ4 ?_;intro gc gs ge gr w hS;refine cQ (yil c a s b e _ _ _ hS (hr.app [_,_,_,_]) hv hs (hq.ap [_,_,_,_]) hk) rfl ?_;clear hS;rintro e w ⟨er,rfl,her,hS⟩;refine ⟨_,rfl,?_⟩
 by_cases h0:er=0
 rotate_left
 ·have hno:accP c s e=false:=by
   unfold accP
   cases h:refP c s e
   ·rfl
   ·exact absurd (her.2 h) h0
  refine sQ ?_;intro w hS;refine Dct Tryz.results30 ?_;exact ⟨Cfg.zero,Sta.zero,SAd.zero,er,.pure True,⟨rfl,by simp [h0,hno],fun h=>absurd h h0⟩,Sep.pure_open.2 ⟨trivial,hS.sb⟩⟩
 have href:=her.1 h0;have hval:validP c e=true:=by
  unfold refP at href;simp only [Bool.and_eq_true] at href;exact href.1.1.1
 have ht:0≤e.tenant∧e.tenant < c.tenants.length:=by
  rcases hk12 with hk'|hk'
  ·exact (valid1 hval hk').1
  ·exact (valid2 hval hk').1
 have hok:(effP s e).ok c:=by
  rcases hkh with hk'|⟨hk',hh⟩
  ·refine ybJ hs hk' hval ?_;unfold refP at href;simp only [Bool.and_eq_true] at href;rw [← yfy (c:=c) (s:=s) hk'];exact href.2
  ·exact ygw hs hk' hval hh
 refine sQ ?_;intro w hS;refine cQ (steff_t c s b e _ _ _ hS hs (hq.ap [_,_,_,_]) hv ht hc hkh) rfl ?_;clear hS;rintro e w ⟨b',rfl,hS⟩;refine ⟨_,rfl,?_⟩
 repeat' first|refine K ?_|refine Sa ?_;clear hS;intro w hS|refine K3 ?_;clear hS;intro g w hS hge|refine KC ?_ ?_<;>intro hb<;>try exact JX|fail
 refine cQ (yf7 e _ _ _ hS hk12) rfl ?_;clear hS;rintro e w ⟨rfl,hS⟩;refine ⟨_,rfl,?_⟩
 repeat' first|refine K ?_|refine Sa ?_;clear hS;intro w hS|refine K3 ?_;clear hS;intro g w hS hge|refine KC ?_ ?_<;>intro hb<;>try exact JX|fail
 refine cQ (ygM c a (effP s e) b' _ _ _ hS (hr.app [_,_,_,_,_,_]) (StC.of_so AtF) hv hok) rfl ?_;clear hS;rintro e w ⟨Ao,no,co,rfl,hov,hS⟩;refine ⟨_,rfl,?_⟩;have hacc:accP c s e = !decide (0 < no):=by
  unfold accP;rw [href,booksP_t hk12,hov]
  rfl
 by_cases hn:0 < no
 ·refine sQ ?_;intro w hS;refine Dct Tryz.results30 ?_;exact ⟨Cfg.zero,Sta.zero,SAd.zero,10,.pure True,⟨rfl,by simp [hacc,hn],fun h=>absurd h (by decide)⟩,Sep.pure_open.2 ⟨trivial,hS.sb⟩⟩
 ·refine sQ ?_;intro w hS;refine Dct Tryz.results30 ?_;exact ⟨c,effP s e,b',0,SO c (effP s e) b',⟨rfl,by simp [hacc,hn],fun _=>⟨rfl,rfl,rfl⟩⟩,hS.sb⟩
end Go.Proofs.YtfmnjbhncnldmaaGreat
