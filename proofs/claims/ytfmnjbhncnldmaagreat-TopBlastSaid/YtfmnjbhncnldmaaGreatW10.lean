import Derived.Test.YtfmnjbhncnldmaaGreatW05
import Derived.Test.YtfmnjbhncnldmaaGreatW08
import Derived.Test.YtfmnjbhncnldmaaGreatW09
set_option maxHeartbeats 8000000
set_option linter.unusedSimpArgs false
set_option linter.unusedVariables false
namespace Go.Proofs.YtfmnjbhncnldmaaGreat
open Go.RowKit
attribute [local irreducible] Res.blk Res.sl Res.all Res.ex Res.pure Res.star
theorem yfn (e:En) (nt nc nr nv:Int) (r:World) (F:List Res) (w:World) (hS:Sep r [] F w) (h1:0≤nt∧nt≤1000) (h2:0≤nc∧nc≤1000) (h3:0≤nr∧nr≤1000) (h4:0≤nv∧nv≤1000) :
  Calls Tryz.prog 258 #[e.val,.agg #[.int .i64 nt,.int .i64 nc,.int .i64 nr,.int .i64 nv]] w fun x w'=>x=.returned (.bool (fitsP e nt nc nr nv))∧Sep r [] F w':=by
 refine Z.enter Tryz.func258 Tryz.ntmps258 rfl rfl ?_;refine aQ2 ?_;intro _ g w hS;refine cQ (yiy e.kind nt nc nr nv _ _ _ hS h1 h2 h3 h4) rfl ?_;clear hS;rintro e w ⟨rfl,hS⟩;refine ⟨_,rfl,?_⟩;unfold fitsP
 cases hf:formP e.kind nt nc nr nv with
 | none=>
  repeat' first|refine K ?_|refine Sa ?_;intro w hS|refine K3 ?_;intro g w hS hge|refine KC ?_ ?_<;>intro hb<;>try exact JX|fail
  refine Dnt Tryz.results258 ?_;exact ⟨rfl,hS.sb⟩
 | some f=>
  by_cases ht:0≤e.tick∧e.tick≤1073741824
  ·have hq0:inSp 0 1073741824 e.tick=true:=decide_eq_true ht
   by_cases hk1:e.kind=1
   ·by_cases hk2:e.other=e.cell
    ·repeat' first|refine K ?_|refine Sa ?_;intro w hS|refine K3 ?_;intro g w hS hge|refine KC ?_ ?_<;>intro hb<;>try exact JX|fail
     refine Dnt Tryz.results258 ?_;exact ⟨by simp [Z.packR,hk1,hk2],hS.sb⟩
    ·have hd:decide (e.kind=1∧e.other=e.cell)=false:=decide_eq_false fun h=>hk2 h.2
     repeat' first|refine K ?_|refine Sa ?_;intro w hS|refine K3 ?_;intro g w hS hge|refine KC ?_ ?_<;>intro hb<;>try exact JX|fail
     refine cQ (yaq f.t e.tenant _ _ _ hS) rfl ?_;clear hS;rintro e w ⟨rfl,hS⟩;refine ⟨_,rfl,?_⟩
     cases q1:inSp f.t.1 f.t.2 e.tenant
     ·refine sQ ?_;intro w hS;refine Dnt Tryz.results258 ?_;exact ⟨by simp [Z.packR,fitF,hd,hq0,q1],hS.sb⟩
     refine sQ ?_;intro w hS;refine cQ (yaq f.k e.cell _ _ _ hS) rfl ?_;clear hS;rintro e w ⟨rfl,hS⟩;refine ⟨_,rfl,?_⟩
     cases q2:inSp f.k.1 f.k.2 e.cell
     ·refine sQ ?_;intro w hS;refine Dnt Tryz.results258 ?_;exact ⟨by simp [Z.packR,fitF,hd,hq0,q1,q2],hS.sb⟩
     refine sQ ?_;intro w hS;refine cQ (yaq f.o e.other _ _ _ hS) rfl ?_;clear hS;rintro e w ⟨rfl,hS⟩;refine ⟨_,rfl,?_⟩
     cases q3:inSp f.o.1 f.o.2 e.other
     ·refine sQ ?_;intro w hS;refine Dnt Tryz.results258 ?_;exact ⟨by simp [Z.packR,fitF,hd,hq0,q1,q2,q3],hS.sb⟩
     refine sQ ?_;intro w hS;refine cQ (yaq f.e e.epoch _ _ _ hS) rfl ?_;clear hS;rintro e w ⟨rfl,hS⟩;refine ⟨_,rfl,?_⟩
     cases q4:inSp f.e.1 f.e.2 e.epoch
     ·refine sQ ?_;intro w hS;refine Dnt Tryz.results258 ?_;exact ⟨by simp [Z.packR,fitF,hd,hq0,q1,q2,q3,q4],hS.sb⟩
     refine sQ ?_;intro w hS;refine cQ (yaq f.x e.from_ _ _ _ hS) rfl ?_;clear hS;rintro e w ⟨rfl,hS⟩;refine ⟨_,rfl,?_⟩
     cases q5:inSp f.x.1 f.x.2 e.from_
     ·refine sQ ?_;intro w hS;refine Dnt Tryz.results258 ?_;exact ⟨by simp [Z.packR,fitF,hd,hq0,q1,q2,q3,q4,q5],hS.sb⟩
     refine sQ ?_;intro w hS;refine cQ (yaq f.x e.until_ _ _ _ hS) rfl ?_;clear hS;rintro e w ⟨rfl,hS⟩;refine ⟨_,rfl,?_⟩
     cases q6:inSp f.x.1 f.x.2 e.until_
     ·refine sQ ?_;intro w hS;refine Dnt Tryz.results258 ?_;exact ⟨by simp [Z.packR,fitF,hd,hq0,q1,q2,q3,q4,q5,q6],hS.sb⟩
     refine sQ ?_;intro w hS;refine rQ (yaq f.n e.n _ _ _ hS) ?_;intro w hS;refine Dnt Tryz.results258 ?_;exact ⟨by simp [Z.packR,fitF,hd,hq0,q1,q2,q3,q4,q5,q6],hS.sb⟩
   ·have hd:decide (e.kind=1∧e.other=e.cell)=false:=decide_eq_false fun h=>hk1 h.1
    repeat' first|refine K ?_|refine Sa ?_;intro w hS|refine K3 ?_;intro g w hS hge|refine KC ?_ ?_<;>intro hb<;>try exact JX|fail
    refine cQ (yaq f.t e.tenant _ _ _ hS) rfl ?_;clear hS;rintro e w ⟨rfl,hS⟩;refine ⟨_,rfl,?_⟩
    cases q1:inSp f.t.1 f.t.2 e.tenant
    ·refine sQ ?_;intro w hS;refine Dnt Tryz.results258 ?_;exact ⟨by simp [Z.packR,fitF,hd,hq0,q1],hS.sb⟩
    refine sQ ?_;intro w hS;refine cQ (yaq f.k e.cell _ _ _ hS) rfl ?_;clear hS;rintro e w ⟨rfl,hS⟩;refine ⟨_,rfl,?_⟩
    cases q2:inSp f.k.1 f.k.2 e.cell
    ·refine sQ ?_;intro w hS;refine Dnt Tryz.results258 ?_;exact ⟨by simp [Z.packR,fitF,hd,hq0,q1,q2],hS.sb⟩
    refine sQ ?_;intro w hS;refine cQ (yaq f.o e.other _ _ _ hS) rfl ?_;clear hS;rintro e w ⟨rfl,hS⟩;refine ⟨_,rfl,?_⟩
    cases q3:inSp f.o.1 f.o.2 e.other
    ·refine sQ ?_;intro w hS;refine Dnt Tryz.results258 ?_;exact ⟨by simp [Z.packR,fitF,hd,hq0,q1,q2,q3],hS.sb⟩
    refine sQ ?_;intro w hS;refine cQ (yaq f.e e.epoch _ _ _ hS) rfl ?_;clear hS;rintro e w ⟨rfl,hS⟩;refine ⟨_,rfl,?_⟩
    cases q4:inSp f.e.1 f.e.2 e.epoch
    ·refine sQ ?_;intro w hS;refine Dnt Tryz.results258 ?_;exact ⟨by simp [Z.packR,fitF,hd,hq0,q1,q2,q3,q4],hS.sb⟩
    refine sQ ?_;intro w hS;refine cQ (yaq f.x e.from_ _ _ _ hS) rfl ?_;clear hS;rintro e w ⟨rfl,hS⟩;refine ⟨_,rfl,?_⟩
    cases q5:inSp f.x.1 f.x.2 e.from_
    ·refine sQ ?_;intro w hS;refine Dnt Tryz.results258 ?_;exact ⟨by simp [Z.packR,fitF,hd,hq0,q1,q2,q3,q4,q5],hS.sb⟩
    refine sQ ?_;intro w hS;refine cQ (yaq f.x e.until_ _ _ _ hS) rfl ?_;clear hS;rintro e w ⟨rfl,hS⟩;refine ⟨_,rfl,?_⟩
    cases q6:inSp f.x.1 f.x.2 e.until_
    ·refine sQ ?_;intro w hS;refine Dnt Tryz.results258 ?_;exact ⟨by simp [Z.packR,fitF,hd,hq0,q1,q2,q3,q4,q5,q6],hS.sb⟩
    refine sQ ?_;intro w hS;refine rQ (yaq f.n e.n _ _ _ hS) ?_;intro w hS;refine Dnt Tryz.results258 ?_;exact ⟨by simp [Z.packR,fitF,hd,hq0,q1,q2,q3,q4,q5,q6],hS.sb⟩
  ·have hq0:inSp 0 1073741824 e.tick=false:=decide_eq_false ht
   by_cases hk1:e.kind=1
   ·by_cases hk2:e.other=e.cell
    ·repeat' first|refine K ?_|refine Sa ?_;intro w hS|refine K3 ?_;intro g w hS hge|refine KC ?_ ?_<;>intro hb<;>try exact JX|fail
     refine Dnt Tryz.results258 ?_;exact ⟨by simp [Z.packR,hk1,hk2],hS.sb⟩
    ·repeat' first|refine K ?_|refine Sa ?_;intro w hS|refine K3 ?_;intro g w hS hge|refine KC ?_ ?_<;>intro hb<;>try exact JX|fail
     all_goals
      refine Dnt Tryz.results258 ?_;exact ⟨by simp [Z.packR,fitF,hq0],hS.sb⟩
   ·repeat' first|refine K ?_|refine Sa ?_;intro w hS|refine K3 ?_;intro g w hS hge|refine KC ?_ ?_<;>intro hb<;>try exact JX|fail
    all_goals
     refine Dnt Tryz.results258 ?_;exact ⟨by simp [Z.packR,fitF,hq0],hS.sb⟩
theorem ybK (e:En) (r:World) (F:List Res) (w:World) (hS:Sep r [] F w) :
  Calls Tryz.prog 257 #[e.val] w fun x w'=>x=.returned (.bool (shapeP e))∧Sep r [] F w':=by
 refine Z.enter Tryz.func257 Tryz.ntmps257 rfl rfl ?_;refine aQ1 ?_;intro g w hS;refine cQ (yfn e 32 16 4 30 _ _ _ hS oM oM oM oM) rfl ?_;clear hS;rintro e w ⟨rfl,hS⟩;refine eQ ?_;intro w hS;refine Dnt Tryz.results257 ?_;exact ⟨rfl,hS.sb⟩
theorem ybL (c:Cfg) (a:CAd) (e:En) (r:World) (F:List Res) (w:World) (hS:Sep r [] F w) (h1:c.tenants.length≤1000) (h2:c.cells.length≤1000) (h3:0≤c.regions∧c.regions≤1000) (h4:c.versions.length≤1000) :
  Calls Tryz.prog 162 #[c.val a,e.val] w fun x w'=>x=.returned (.bool (validP c e))∧Sep r [] F w':=by
 refine Z.enter Tryz.func162 Tryz.ntmps162 rfl rfl ?_;refine aQ2 ?_;intro _ g w hS;refine cQ (ybK e _ _ _ hS) rfl ?_;clear hS;rintro e w ⟨rfl,hS⟩;refine ⟨_,rfl,?_⟩;unfold validP
 cases hs:shapeP e
 ·refine sQ ?_;intro w hS;refine Dnt Tryz.results162 ?_;exact ⟨rfl,hS.sb⟩
 refine sQ ?_;intro w hS;refine cQ (yfn e c.tenants.length c.cells.length c.regions c.versions.length _ _ _ hS oM oM oM oM) rfl ?_;clear hS;rintro e w ⟨rfl,hS⟩;refine eQ ?_;intro w hS;refine Dnt Tryz.results162 ?_;exact ⟨rfl,hS.sb⟩
theorem yi3 {x:Int} (h0:0≤x) (h1:x < 18446744073709551616):IntKind.u64.wrap x=x:=by
 simp [IntKind.wrap,IntKind.signed,IntKind.bits]
 omega
theorem ya2 (a:Int):bitZ .i64 (· &&& ·) a 1=a % 2:=by
 have e:((BitVec.ofInt 64 a &&& BitVec.ofInt 64 1).toNat:Int)=a % 2:=by
  rw [BitVec.toNat_and,show (BitVec.ofInt 64 1).toNat=1 from rfl,Nat.and_one_is_mod,BitVec.toNat_ofInt];omega
 unfold bitZ
 show IntKind.i64.wrap ((BitVec.ofInt 64 a &&& BitVec.ofInt 64 1).toNat:Int)=_
 rw [e];exact Z.wrap_in oM oM
theorem shr_min {i:Int} (h1:i < 64):min i.toNat IntKind.i64.bits=i.toNat:=by
 show min i.toNat 64=_
 omega
theorem yg5 {c:Cfg} (hv:CfgV c) (k:Int) : -1≤regOf c k∧regOf c k < c.regions:=by
 have h1:=hv.ok.r;rw [ybb]
 split
 ·rename_i h;have hz:=(zoneOf_bd hv.ok k).1 h;generalize zoneOf c k=z at *;have hl:z.toNat < c.zones.length:=by omega
  have e:c.zones.getD z.toNat 0=c.zones[z.toNat]:=by simp [List.getD_eq_getElem?_getD,hl]
  rw [e];have:=hv.zr _ (List.getElem_mem hl);omega
 ·omega
theorem ya9 {r w:World} {F:List Res} {c:Cfg} {s:Sta} {b:SAd} (hr:StC r F s c b) (hs:s.ok c) (L:List Res) (hS:Sep r [] (L++F) w) {k:Int} (h:0≤k∧k < c.tenants.length):∃ gb o,b.tA=some ⟨gb,o,none⟩∧w.rangeAt gb (o+k.toNat * 12) (tenP s k).cells:=by
 have hk:k.toNat < s.tenants.length:=by rw [hs.tl];omega
 have e:tenP s k=s.tenants[k.toNat]:=by simp [tenP,List.getD_eq_getElem?_getD,hk]
 obtain ⟨gb,o,hA,_,hra⟩:=(hr.t L w hS).mat oM (q:=k.toNat) (by simpa using hk);exact ⟨gb,o,hA,by rw [e];simpa using hra⟩
theorem yas {r w:World} {F:List Res} {c:Cfg} {s:Sta} {b:SAd} (hr:StC r F s c b) (hs:s.ok c) (L:List Res) (hS:Sep r [] (L++F) w) {k:Int} (h:0≤k∧k < c.cells.length):∃ gb o,b.kA=some ⟨gb,o,none⟩∧w.rangeAt gb (o+k.toNat * 4) (celP s k).cells:=by
 have hk:k.toNat < s.cells.length:=by rw [hs.kl];omega
 have e:celP s k=s.cells[k.toNat]:=by simp [celP,List.getD_eq_getElem?_getD,hk]
 obtain ⟨gb,o,hA,_,hra⟩:=(hr.k L w hS).mat oM (q:=k.toNat) (by simpa using hk);exact ⟨gb,o,hA,by rw [e];simpa using hra⟩
theorem at_tp {r w:World} {F:List Res} {c:Cfg} {s:Sta} {b:SAd} (hr:StC r F s c b) (hs:s.ok c) (L:List Res) (hS:Sep r [] (L++F) w) {k:Int} {gb o:Nat} (hA:b.tA=some ⟨gb,o,none⟩) (h:0≤k∧k < c.tenants.length):w.rangeAt gb (o+k.toNat * 12) (tenP s k).cells:=by
 obtain ⟨gb',o',hA',hra⟩:=ya9 hr hs L hS h;rw [hA] at hA';simp only [Option.some.injEq,Addr.mk.injEq] at hA';obtain ⟨rfl,rfl,_⟩:=hA';exact hra
theorem at_cp {r w:World} {F:List Res} {c:Cfg} {s:Sta} {b:SAd} (hr:StC r F s c b) (hs:s.ok c) (L:List Res) (hS:Sep r [] (L++F) w) {k:Int} {gb o:Nat} (hA:b.kA=some ⟨gb,o,none⟩) (h:0≤k∧k < c.cells.length):w.rangeAt gb (o+k.toNat * 4) (celP s k).cells:=by
 obtain ⟨gb',o',hA',hra⟩:=yas hr hs L hS h;rw [hA] at hA';simp only [Option.some.injEq,Addr.mk.injEq] at hA';obtain ⟨rfl,rfl,_⟩:=hA';exact hra
theorem yaL (s i:Int) (r:World) (F:List Res) (w:World) (hS:Sep r [] F w) :
  Calls Tryz.prog 82 #[.int .i64 s,.int .i64 i] w fun e w'=>e=.returned (.bool (hasB s i))∧Sep r [] F w':=by
 by_cases h:0≤i∧i < 64
 ·refine Z.enter Tryz.func82 Tryz.ntmps82 rfl rfl ?_;refine sQ ?_;intro w hS;refine Dnt Tryz.results82 ?_;refine ⟨?_,hS⟩
  show Ending.returned (.bool (decide (bitZ .i64 (· &&& ·) (s.fdiv (2 ^ min i.toNat IntKind.i64.bits)) 1=1)))=_
  rw [ya2,shr_min h.2]
  simp [hasB,bitB,h]
 ·have e:hasB s i=false:=by unfold hasB;rw [decide_eq_false h];rfl
  rw [e];refine Z.enter Tryz.func82 Tryz.ntmps82 rfl rfl ?_
  repeat' first|refine K ?_|refine Sa ?_;intro w hS|refine K3 ?_;intro g w hS hge|refine KC ?_ ?_<;>intro hb<;>try exact JX|fail
  all_goals
   refine Dnt Tryz.results82 ?_;exact ⟨rfl,hS⟩
theorem ydx (c:Cfg) (s:Sta) (b:SAd) (k:Int) (r:World) (F:List Res) (w:World) (hS:Sep r [] F w) (hs:s.ok c) (hq:StC r F s c b) (hk0:c.cells.length≤100) :
  Calls Tryz.prog 259 #[s.vc c b,.int .i64 k] w fun e w'=>e=.returned (.int .i64 (modeP s k))∧Sep r [] F w':=by
 have hkl:=hs.kl
 by_cases h:0≤k∧k < c.cells.length
 ·have e:modeP s k=(celP s k).mode:=by unfold modeP;rw [if_pos (by rw [hkl];exact h)]
  rw [e];obtain ⟨gb,o,hA,_⟩:=yas hq hs [] hS h;refine Z.enter Tryz.func259 Tryz.ntmps259 rfl rfl ?_
  repeat' first|refine K ?_|refine Sa ?_;intro w hS|refine K3 ?_;intro g w hS hge|refine KC ?_ ?_<;>intro hb<;>try exact JX|fail
  have hra:=at_cp hq hs [_] hS hA h;generalize celP s k=y at *;obtain ⟨sA,sc,qA,qc⟩:=b;simp only at hA;subst hA;refine sQ ?_;intro w hS;refine Dnt Tryz.results259 ?_;exact ⟨rfl,hS.sb⟩
 ·have e:modeP s k=0:=by unfold modeP;rw [if_neg (by rw [hkl];exact h)]
  rw [e];refine Z.enter Tryz.func259 Tryz.ntmps259 rfl rfl ?_
  repeat' first|refine K ?_|refine Sa ?_;intro w hS|refine K3 ?_;intro g w hS hge|refine KC ?_ ?_<;>intro hb<;>try exact JX|fail
  all_goals
   refine Dnt Tryz.results259 ?_;exact ⟨rfl,hS.sb⟩
theorem ybf (c:Cfg) (a:CAd) (s:Sta) (b:SAd) (k:Int) (r:World) (F:List Res) (w:World) (hS:Sep r [] F w) (hr:CfR r F c a) (ho:c.ok) :
  Calls Tryz.prog 260 #[c.val a,s.vc c b,.int .i64 k] w fun e w'=>e=.returned (.bool (frozenP c s k))∧Sep r [] F w':=by
 refine Z.enter Tryz.func260 Tryz.ntmps260 rfl rfl ?_
 repeat' first|refine K ?_|refine Sa ?_;clear hS;intro w hS|refine K3 ?_;clear hS;intro g w hS hge|refine KC ?_ ?_<;>intro hb<;>try exact JX|fail
 rename Nat=>g3;refine D.startS (Lr:=[.blk g3 69 (s.cc c b),.blk g 55 (c.cl a)]) (hS.sb) 7 7 kR rfl ?_;replace hS:=hS.drew;refine Sh.dp 0 1 ?_;refine Sh.dp 3 9 ?_;refine Sh.dl 1 11 ?_;refine Sh.dl 2 15 ?_;refine D.ef 4 31 ?_;refine dQ (yam c a k _ _ _ hS (hr.app [_,_]) ho) ?_;intro w hS;refine D.ef 5 63 ?_;refine dQ (yaL _ _ _ _ _ hS) ?_;intro w hS;refine Sh.dp 6 127 ?_;refine D.dn ?_;refine sQ ?_;intro w hS;refine Dnt Tryz.results260 ?_;exact ⟨rfl,hS.sb⟩
theorem yfG (k lo hi:Int) (r:World) (F:List Res) (w:World) (hS:Sep r [] F w) :
  Calls Tryz.prog 214 #[.int .i64 k,.int .i64 lo,.int .i64 hi] w fun e w'=>e=.returned (.bool (decide (lo≤k∧k≤hi)))∧Sep r [] F w':=by
 refine Z.enter Tryz.func214 Tryz.ntmps214 rfl rfl ?_
 repeat' first|refine K ?_|refine Sa ?_;intro w hS|refine K3 ?_;intro g w hS hge|refine KC ?_ ?_<;>intro hb<;>try exact JX|fail
 all_goals
  refine Dnt Tryz.results214 ?_;exact ⟨by (simp [Z.packR, *];try (intros;omega)),hS⟩
theorem ydl (c:Cfg) (a:CAd) (t k:Int) (r:World) (F:List Res) (w:World) (hS:Sep r [] F w) (hr:CfR r F c a) (hv:CfgV c) :
  Calls Tryz.prog 261 #[c.val a,.int .i64 t,.int .i64 k] w fun e w'=>e=.returned (.bool (mayP c t k))∧Sep r [] F w':=by
 have hrb:=yg5 hv k;have hr4:=hv.ok.r;have ht32:=hv.ok.t;refine Z.enter Tryz.func261 Tryz.ntmps261 rfl rfl ?_;refine aQ1 ?_;intro g w hS;refine rQ (yam c a k _ _ _ hS (hr.cons _) hv.ok) ?_;intro w hS;refine cQ (yfG _ _ _ _ _ _ hS) rfl ?_;clear hS;rintro e w ⟨rfl,hS⟩;refine ⟨_,rfl,?_⟩;unfold mayP;generalize regOf c k=p at *
 by_cases h:0≤t∧t < c.tenants.length
 ·rw [decide_eq_true (by omega:0≤t∧t≤(c.tenants.length:Int) - 1),decide_eq_true h]
  by_cases hp:0≤p
  ·obtain ⟨gb,o,hA,hra⟩:=ycr hr [_] hS h;generalize c.tenants.getD t.toNat ⟨0,0,0,0,0,0,false⟩=x at *;obtain ⟨zA,zc,kA,kc,tA,tc,vA,vc,rA,rc,oA,oc⟩:=a;simp only at hA;subst hA;have hw:=yi3 hp (by omega:p < 18446744073709551616);have hw2:0≤IntKind.u64.wrap p:=by omega
   refine sQ ?_;intro w hS;refine Dnt Tryz.results261 ?_;refine ⟨?_,hS.sb⟩
   show Ending.returned (.bool (decide (bitZ .i64 (· &&& ·) (x.allowed.fdiv (2 ^ min (IntKind.u64.wrap p).toNat IntKind.i64.bits)) 1=1)))=_
   rw [ya2,hw,shr_min oM]
   simp [bitB,hp]
  ·refine sQ ?_;intro w hS;refine Dnt Tryz.results261 ?_;exact ⟨by simp [Z.packR,hp],hS.sb⟩
 ·rw [decide_eq_false (by omega:¬ (0≤t∧t≤(c.tenants.length:Int) - 1)),decide_eq_false h];refine sQ ?_;intro w hS;refine Dnt Tryz.results261 ?_;exact ⟨by simp [Z.packR],hS.sb⟩
theorem ygQ (c:Cfg) (a:CAd) (i k:Int) (r:World) (F:List Res) (w:World) (hS:Sep r [] F w) (hr:CfR r F c a) (ho:c.ok) :
  Calls Tryz.prog 185 #[c.val a,.int .i64 i,.int .i64 k] w fun e w'=>e=.returned (.bool (apartP c i k))∧Sep r [] F w':=by
 refine Z.enter Tryz.func185 Tryz.ntmps185 rfl rfl ?_;refine aQ1 ?_;intro g w hS;refine Z.cut [7,8,9,10,11,12,13,14] (fun w s=>s=[(7,.int .i64 (regOf c i)),(8,.int .i64 (regOf c k))]∧Sep r [] (.blk g 55 (c.cl a)::F) w) ?_ ?_
 ·refine D.startS (Lr:=[.blk g 55 (c.cl a)]) (hS.sb) 8 8 kR rfl ?_;replace hS:=hS.drew;refine Sh.dp 1 2 ?_;refine Sh.dp 4 18 ?_;refine Sh.dl 0 19 ?_;refine Sh.dl 3 27 ?_;refine D.ef 2 31 ?_;refine dQ (yam c a i _ _ _ hS (hr.cons _) ho) ?_;intro w hS;refine D.ef 5 63 ?_;refine dQ (yam c a k _ _ _ hS (hr.cons _) ho) ?_;intro w hS;refine Sh.dp 6 127 ?_;refine Sh.dp 7 255 ?_;refine D.dn ?_;refine Sh.cut [(7,_),(8,_)] ?_;exact ⟨rfl,hS.sb⟩
 clear hS;rintro f0 w _ ⟨rfl,hS⟩;unfold apartP;generalize regOf c i=p at *;generalize regOf c k=q at *
 repeat' first|refine K ?_|refine Sa ?_;intro w hS|refine K3 ?_;intro g w hS hge|refine KC ?_ ?_<;>intro hb<;>try exact JX|fail
 all_goals
  refine Dnt Tryz.results185 ?_;exact ⟨by (simp [Z.packR, *];try (intros;omega)),hS.sb⟩
theorem ydy (c:Cfg) (a:CAd) (i k:Int) (r:World) (F:List Res) (w:World) (hS:Sep r [] F w) (hr:CfR r F c a) (ho:c.ok) :
  Calls Tryz.prog 262 #[c.val a,.int .i64 i,.int .i64 k] w fun e w'=>e=.returned (.bool (nearP c i k))∧Sep r [] F w':=by
 refine Z.enter Tryz.func262 Tryz.ntmps262 rfl rfl ?_
 repeat' first|refine K ?_|refine Sa ?_;intro w hS|refine K3 ?_;intro g w hS hge|refine KC ?_ ?_<;>intro hb<;>try exact JX|fail
 ·refine rQ (ygQ c a i k _ _ _ hS (hr.cons _) ho) ?_;intro w hS;refine Dnt Tryz.results262 ?_;exact ⟨by simp [Z.packR,nearP, *],hS.sb⟩
 ·refine Dnt Tryz.results262 ?_;exact ⟨by simp [Z.packR,nearP, *],hS.sb⟩
theorem StC.ap {r:World} {F:List Res} {s:Sta} {c:Cfg} {b:SAd} (h:StC r F s c b) (L:List Res):StC r (L++F) s c b:=⟨h.t.app L,h.k.app L⟩
theorem yf9 (c:Cfg) (a:CAd) (s:Sta) (b:SAd) (e:En) (r:World) (F:List Res) (w:World) (hS:Sep r [] F w) (hr:CfR r F c a) (hv:CfgV c) (hs:s.ok c) (hq:StC r F s c b) (ht:0≤e.tenant∧e.tenant < c.tenants.length) :
  Calls Tryz.prog 163 #[c.val a,s.vc c b,e.val] w fun x w'=>∃ er:Int,x=.returned (.int .i64 er)∧(er=0↔placeP c s e=true)∧Sep r [] F w':=by
 have hk:=hv.ok.k;obtain ⟨gb,o,hA,_⟩:=ya9 hq hs [] hS ht;refine Z.enter Tryz.func163 Tryz.ntmps163 rfl rfl ?_;refine aQ3 ?_;intro _ _ g w hS;have hra:=at_tp hq hs [_,_,_] hS hA ht;unfold placeP;generalize tenP s e.tenant=x at *;obtain ⟨sA,sc,qA,qc⟩:=b;simp only at hA;subst hA;obtain ⟨xp,xsh,xh,xst,xnx,xtg,xep,xw⟩:=x
 cases xp
 case true=>
  refine sQ ?_;intro w hS;refine Dnt Tryz.results163 ?_;exact ⟨_,rfl,by simp,hS.sb⟩
 refine sQ ?_;intro w hS;refine cQ (ydx c s _ _ _ _ _ hS hs (hq.ap [_,_,_]) oM) rfl ?_;clear hS;rintro e w ⟨rfl,hS⟩;refine ⟨_,rfl,?_⟩
 by_cases hm:modeP s e.cell=1
 rotate_left
 ·refine sQ ?_;intro w hS;refine Dnt Tryz.results163 ?_;exact ⟨_,rfl,by simp [hm],hS.sb⟩
 by_cases hso:e.other = -1
 ·refine sQ ?_;intro w hS;refine cQ (ybf c a s _ _ _ _ _ hS (hr.app [_,_,_]) hv.ok) rfl ?_;clear hS;rintro e w ⟨rfl,hS⟩;refine ⟨_,rfl,?_⟩
  cases hf:frozenP c s e.cell
  case true=>
   refine sQ ?_;intro w hS;refine Dnt Tryz.results163 ?_;exact ⟨_,rfl,by simp,hS.sb⟩
  refine sQ ?_;intro w hS;refine cQ (ydl c a _ _ _ _ _ hS (hr.app [_,_,_]) hv) rfl ?_;clear hS;rintro e w ⟨rfl,hS⟩;refine ⟨_,rfl,?_⟩
  cases hy:mayP c e.tenant e.cell
  case false=>
   refine sQ ?_;intro w hS;refine Dnt Tryz.results163 ?_;exact ⟨_,rfl,by simp,hS.sb⟩
  refine sQ ?_;intro w hS;refine cQ (ydy c a _ _ _ _ _ hS (hr.app [_,_,_]) hv.ok) rfl ?_;clear hS;rintro e w ⟨rfl,hS⟩;refine ⟨_,rfl,?_⟩;have hn:nearP c e.cell e.other=false:=by simp [nearP,hso]
  rw [hn];refine sQ ?_;intro w hS;refine Dnt Tryz.results163 ?_;exact ⟨_,rfl,by simp [hm,hso],hS.sb⟩
 refine sQ ?_;intro w hS;refine cQ (ydx c s _ _ _ _ _ hS hs (hq.ap [_,_,_]) oM) rfl ?_;clear hS;rintro e w ⟨rfl,hS⟩;refine ⟨_,rfl,?_⟩
 by_cases hmo:modeP s e.other=1
 rotate_left
 ·refine sQ ?_;intro w hS;refine Dnt Tryz.results163 ?_;exact ⟨_,rfl,by simp [hmo,hso],hS.sb⟩
 refine sQ ?_;intro w hS;refine cQ (ybf c a s _ _ _ _ _ hS (hr.app [_,_,_]) hv.ok) rfl ?_;clear hS;rintro e w ⟨rfl,hS⟩;refine ⟨_,rfl,?_⟩
 cases hf:frozenP c s e.cell
 case true=>
  refine sQ ?_;intro w hS;refine Dnt Tryz.results163 ?_;exact ⟨_,rfl,by simp,hS.sb⟩
 refine sQ ?_;intro w hS;refine cQ (ybf c a s _ _ _ _ _ hS (hr.app [_,_,_]) hv.ok) rfl ?_;clear hS;rintro e w ⟨rfl,hS⟩;refine ⟨_,rfl,?_⟩
 cases hfo:frozenP c s e.other
 case true=>
  refine sQ ?_;intro w hS;refine Dnt Tryz.results163 ?_;exact ⟨_,rfl,by simp [hso],hS.sb⟩
 refine sQ ?_;intro w hS;refine cQ (ydl c a _ _ _ _ _ hS (hr.app [_,_,_]) hv) rfl ?_;clear hS;rintro e w ⟨rfl,hS⟩;refine ⟨_,rfl,?_⟩
 cases hy:mayP c e.tenant e.cell
 case false=>
  refine sQ ?_;intro w hS;refine Dnt Tryz.results163 ?_;exact ⟨_,rfl,by simp,hS.sb⟩
 refine sQ ?_;intro w hS;refine cQ (ydl c a _ _ _ _ _ hS (hr.app [_,_,_]) hv) rfl ?_;clear hS;rintro e w ⟨rfl,hS⟩;refine ⟨_,rfl,?_⟩
 cases hyo:mayP c e.tenant e.other
 case false=>
  refine sQ ?_;intro w hS;refine Dnt Tryz.results163 ?_;exact ⟨_,rfl,by simp [hso],hS.sb⟩
 refine sQ ?_;intro w hS;refine cQ (ydy c a _ _ _ _ _ hS (hr.app [_,_,_]) hv.ok) rfl ?_;clear hS;rintro e w ⟨rfl,hS⟩;refine ⟨_,rfl,?_⟩
 cases hn:nearP c e.cell e.other
 case true=>
  refine sQ ?_;intro w hS;refine Dnt Tryz.results163 ?_;exact ⟨_,rfl,by simp,hS.sb⟩
 refine sQ ?_;intro w hS;refine Dnt Tryz.results163 ?_;exact ⟨_,rfl,by simp [hm,hmo],hS.sb⟩
structure GrOk (c:Cfg) (s:Sta) (e:En):Prop where
 p:(tenP s e.tenant).placed=true
 sh:(tenP s e.tenant).shed=false
 h:e.cell=(tenP s e.tenant).home
 m:(celP s e.cell).mode=1
 ep:e.epoch=(tenP s e.tenant).epoch+1
 n:e.n=(celP s e.cell).running
 rw':(celP s e.cell).running=(celP s e.cell).wanted
 f1:e.tick≤e.from_
 f2:e.from_≤e.tick+c.lease
 u1:e.from_ < e.until_
 u2:e.until_ - e.from_≤c.lease
 w:(tenP s e.tenant).w.until_≤e.from_
 tb:0≤e.tick∧e.tick≤1073741824
 eb:e.epoch≤1073741824∧-1073741824≤e.epoch
theorem GrOk.grantP {c:Cfg} {s:Sta} {e:En} (h:GrOk c s e):grantP c s e=true:=by
 obtain ⟨h1,h2,h3,h4,h5,h6,h7,h8,h9,h10,h11,h12,_,_⟩:=h;simp only [Go.Proofs.YtfmnjbhncnldmaaGreat.grantP];generalize tenP s e.tenant=x at *;generalize celP s e.cell=y at *
 simp [h1,h2,h3,h4,h5,← h6,← h7,h8,h9,h10,h11,h12]
theorem yf8 (c:Cfg) (a:CAd) (s:Sta) (b:SAd) (e:En) (r:World) (F:List Res) (w:World) (hS:Sep r [] F w) (hr:CfR r F c a) (hv:CfgV c) (hs:s.ok c) (hq:StC r F s c b) (ht:0≤e.tenant∧e.tenant < c.tenants.length) (hk:0≤e.cell∧e.cell < c.cells.length) (hg:GrOk c s e) :
  Calls Tryz.prog 169 #[c.val a,s.vc c b,e.val] w fun x w'=>x=.returned (.int .i64 0)∧Sep r [] F w':=by
 have hlb:=hv.ok.l;have hcl:=hv.ok.k;obtain ⟨gb,o,hA,_⟩:=ya9 hq hs [] hS ht;obtain ⟨gd,od,hB,_⟩:=yas hq hs [] hS hk;obtain ⟨h1,h2,h3,h4,h5,h6,h7,h8,h9,h10,h11,h12,h13,h14⟩:=hg;refine Z.enter Tryz.func169 Tryz.ntmps169 rfl rfl ?_
 repeat' first|refine K ?_|refine Sa ?_;clear hS;intro w hS|refine K3 ?_;clear hS;intro g w hS hge|refine KC ?_ ?_<;>intro hb<;>try exact JX|fail
 rename_i gc _ _ gs _ _;rename Nat=>ge;have hra:∀ W,Sep r [] (.blk ge 63 e.cells::.blk gs 69 (s.cc c b)::.blk gc 55 (c.cl a)::F) W→W.rangeAt gb (o+e.tenant.toNat * 12) (tenP s e.tenant).cells:=fun W hW=>at_tp hq hs [_,_,_] hW hA ht
 have hrb:∀ W,Sep r [] (.blk ge 63 e.cells::.blk gs 69 (s.cc c b)::.blk gc 55 (c.cl a)::F) W→W.rangeAt gd (od+e.cell.toNat * 4) (celP s e.cell).cells:=fun W hW=>at_cp hq hs [_,_,_] hW hB hk
 generalize tenP s e.tenant=x at *;generalize celP s e.cell=y at *;obtain ⟨sA,sc,qA,qc⟩:=b;simp only at hA hB;subst hA hB;refine Z.cut [7,8,10,11,12,13,14,15,16,17,18,19,20,21] (fun w z=>∃ g7 g8,z=[(7,.pointer (some ⟨g7,0,.none⟩)),(8,.pointer (some ⟨g8,0,.none⟩))]∧Sep r [] (.blk g7 183 x.cells::.blk g8 186 y.cells::.blk ge 63 e.cells::.blk gs 69 (s.cc c ⟨some ⟨gb,o,none⟩,sc,some ⟨gd,od,none⟩,qc⟩)::.blk gc 55 (c.cl a)::F) w) ?_ ?_
 ·refine D.startS hS 15 16 kR rfl ?_;replace hS:=hS.drew;refine Sh.dp 0 1 ?_;refine Sh.dp 2 5 ?_;refine Sh.dp 6 69 ?_;refine Sh.dp 8 325 ?_;refine Sh.dl 1 327 ?_;refine Sh.dl 3 335 ?_
  first|refine D.ixn 4 351 rfl D.wantedN kR rfl rfl rfl oM ?_|refine D.ix 4 351 rfl D.wantedN kR rfl rfl rfl oM ?_|refine D.ia 4 351 rfl D.wantedN kR rfl rfl rfl oM ?_
  refine D.ldR 5 383 rfl D.wantedN kR rfl hra rfl ?_;refine Sh.dl 7 511 ?_;refine Sh.dl 9 1023 ?_
  first|refine D.ixn 10 2047 rfl D.wantedN kR rfl rfl rfl oM ?_|refine D.ix 10 2047 rfl D.wantedN kR rfl rfl rfl oM ?_|refine D.ia 10 2047 rfl D.wantedN kR rfl rfl rfl oM ?_
  refine D.ldR 11 4095 rfl D.wantedN kR rfl hrb rfl ?_;refine D.each [12,13] kR rfl ?_;refine D.econs 12 8191 rfl D.wantedN kR (fun _ _ h=>h) ?_ ?_
  ·refine Z.al hS ?_;clear hS;intro g w hS hge;refine HMs ?_;refine D.ef 13 16383 ?_;refine Z.al hS ?_;clear hS;intro g w hS hge;refine HMs ?_;refine D.ef 14 32767 ?_;refine Z.st hS rfl AtF rfl rfl ?_;clear hS;intro w hS;refine HMs ?_;refine D.ef 15 65535 ?_;refine Z.st hS rfl AtF rfl rfl ?_;clear hS;intro w hS;refine HMl ?_;refine D.dn ?_;refine Sh.cut [(7,_),(8,_)] ?_;exact ⟨_,_,rfl,hS.sb⟩
  refine D.econs 13 12287 rfl D.wantedN kR (fun _ _ h=>h) ?_ ?_
  ·refine Z.al hS ?_;clear hS;intro g w hS hge;refine HMs ?_;refine D.ef 12 16383 ?_;refine Z.al hS ?_;clear hS;intro g w hS hge;refine HMs ?_;refine D.ef 14 32767 ?_;refine Z.st hS rfl AtF rfl rfl ?_;clear hS;intro w hS;refine HMs ?_;refine D.ef 15 65535 ?_;refine Z.st hS rfl AtF rfl rfl ?_;clear hS;intro w hS;refine HMl ?_;refine D.dn ?_;refine Sh.cut [(7,_),(8,_)] ?_;exact ⟨_,_,rfl,hS.sb⟩
  exact D.enil
 clear hS;rintro f0 w _ ⟨g7,g8,rfl,hS⟩;have hxc:x.cells=[.bool true,.bool false,.int .i64 x.home,.int .i64 x.standby,.int .i64 x.next,.int .i64 x.target,.int .i64 x.epoch,.int .i64 x.w.cell,.int .i64 x.w.epoch,.int .i64 x.w.version,.int .i64 x.w.from_,.int .i64 x.w.until_]:=by rw [TS.cells,h1,h2]
 rw [hxc] at hS;refine sQ ?_;intro w hS;refine Dnt Tryz.results169 ?_;exact ⟨rfl,hS.sb⟩
end Go.Proofs.YtfmnjbhncnldmaaGreat
