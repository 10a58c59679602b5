import Derived.Test.YtfmnjbhncnldmaaGreatW03
set_option maxHeartbeats 1000000
set_option linter.unusedSimpArgs false
set_option linter.unusedVariables false
namespace Go.Proofs.YtfmnjbhncnldmaaGreat
open Go.RowKit
attribute [local irreducible] Res.blk Res.sl Res.all Res.ex Res.pure Res.star
def zoneOf (c:Cfg) (k:Int):Int:=if 0≤k∧k < c.cells.length then (c.cells.getD k.toNat ⟨0,0⟩).zone else -1
theorem zoneOf_bd {c:Cfg} (ho:c.ok) (k:Int):(0≤k∧k < c.cells.length→0≤zoneOf c k∧zoneOf c k < c.zones.length)∧(¬ (0≤k∧k < c.cells.length)→zoneOf c k = -1):=by
 unfold zoneOf;refine ⟨fun h=>?_,fun h=>by rw [if_neg h]⟩;rw [if_pos h];have hk:k.toNat < c.cells.length:=by omega
 have e:c.cells.getD k.toNat ⟨0,0⟩=c.cells[k.toNat]:=by simp [List.getD_eq_getElem?_getD,hk]
 rw [e];exact ho.kz _ (List.getElem_mem hk)
theorem ybb (c:Cfg) (k:Int):regOf c k=if 0≤k∧k < c.cells.length then c.zones.getD (zoneOf c k).toNat 0 else -1:=by
 unfold regOf zoneOf
 split<;>rfl
theorem ybv {r w:World} {F:List Res} {c:Cfg} {a:CAd} (hr:CfR r F c a) (L:List Res) (hS:Sep r [] (L++F) w) {k:Int} (h:0≤k∧k < c.cells.length):∃ gb o,a.kA=some ⟨gb,o,none⟩∧w.rangeAt gb (o+k.toNat * 2) (c.cells.getD k.toNat ⟨0,0⟩).cells:=by
 have hk:k.toNat < c.cells.length:=by omega
 have e:c.cells.getD k.toNat ⟨0,0⟩=c.cells[k.toNat]:=by simp [List.getD_eq_getElem?_getD,hk]
 obtain ⟨gb,o,hA,_,hra⟩:=(hr.k L w hS).mat oM (q:=k.toNat) (by simpa using hk);exact ⟨gb,o,hA,by rw [e];simpa using hra⟩
theorem yba {r w:World} {F:List Res} {c:Cfg} {a:CAd} (hr:CfR r F c a) (L:List Res) (hS:Sep r [] (L++F) w) {k:Int} (h:0≤k∧k < c.zones.length):∃ gb o,a.zA=some ⟨gb,o,none⟩∧w.rangeAt gb (o+k.toNat * 1) (ztC (c.zones.getD k.toNat 0)):=by
 have hk:k.toNat < c.zones.length:=by omega
 have e:c.zones.getD k.toNat 0=c.zones[k.toNat]:=by simp [List.getD_eq_getElem?_getD,hk]
 obtain ⟨gb,o,hA,_,hra⟩:=(hr.z L w hS).mat oM (q:=k.toNat) (by simpa using hk);exact ⟨gb,o,hA,by rw [e];simpa using hra⟩
theorem ycr {r w:World} {F:List Res} {c:Cfg} {a:CAd} (hr:CfR r F c a) (L:List Res) (hS:Sep r [] (L++F) w) {k:Int} (h:0≤k∧k < c.tenants.length):∃ gb o,a.tA=some ⟨gb,o,none⟩∧w.rangeAt gb (o+k.toNat * 7) (c.tenants.getD k.toNat ⟨0,0,0,0,0,0,false⟩).cells:=by
 have hk:k.toNat < c.tenants.length:=by omega
 have e:c.tenants.getD k.toNat ⟨0,0,0,0,0,0,false⟩=c.tenants[k.toNat]:=by simp [List.getD_eq_getElem?_getD,hk]
 obtain ⟨gb,o,hA,_,hra⟩:=(hr.t L w hS).mat oM (q:=k.toNat) (by simpa using hk);exact ⟨gb,o,hA,by rw [e];simpa using hra⟩
theorem yer (c:Cfg) (a:CAd) (k:Int) (r:World) (F:List Res) (w:World) (hS:Sep r [] F w) (hr:CfR r F c a) :
  Calls Tryz.prog 356 #[c.val a,.int .i64 k] w fun e w'=>e=.returned (.int .i64 (zoneOf c k))∧Sep r [] F w':=by
 unfold zoneOf
 by_cases h:0≤k∧k < c.cells.length
 ·obtain ⟨gb,o,hA,_⟩:=ybv hr [] hS h;obtain ⟨zA,zc,kA,kc,tA,tc,vA,vc,rA,rc,oA,oc⟩:=a;simp only at hA;subst hA;rw [if_pos h];refine Z.enter Tryz.func356 Tryz.ntmps356 rfl rfl ?_
  repeat' first|refine K ?_|refine Sa ?_;intro w hS|refine K3 ?_;intro g w hS hge|refine KC ?_ ?_<;>intro hb<;>try exact JX|fail
  obtain ⟨gb',o',hA,hra⟩:=ybv hr [_] hS h;simp only [Option.some.injEq,Addr.mk.injEq] at hA;obtain ⟨rfl,rfl,_⟩:=hA
  repeat' first|refine K ?_|refine Sa ?_;intro w hS|refine K3 ?_;intro g w hS hge|refine KC ?_ ?_<;>intro hb<;>try exact JX|fail
  refine Dnt Tryz.results356 ?_;exact ⟨rfl,hS.sb⟩
 ·rw [if_neg h];refine Z.enter Tryz.func356 Tryz.ntmps356 rfl rfl ?_
  repeat' first|refine K ?_|refine Sa ?_;intro w hS|refine K3 ?_;intro g w hS hge|refine KC ?_ ?_<;>intro hb<;>try exact JX|fail
  all_goals
   refine Dnt Tryz.results356 ?_;exact ⟨rfl,hS.sb⟩
theorem yaU (c:Cfg) (a:CAd) (k:Int) (r:World) (F:List Res) (w:World) (hS:Sep r [] F w) (hr:CfR r F c a) (ho:c.ok) :
  Calls Tryz.prog 286 #[c.val a,.int .i64 k] w fun e w'=>e=.returned (.int .i64 (regOf c k))∧Sep r [] F w':=by
 obtain ⟨hb1,hb2⟩:=zoneOf_bd ho k;rw [ybb]
 by_cases h:0≤k∧k < c.cells.length
 ·have hz:=hb1 h;obtain ⟨gb,o,hA,_⟩:=yba hr [] hS hz;rw [if_pos h];refine Z.enter Tryz.func286 Tryz.ntmps286 rfl rfl ?_;refine aQ1 ?_;intro g w hS;refine cQ (yer c a k _ _ _ hS (hr.cons _)) rfl ?_;clear hS;rintro e w ⟨rfl,hS⟩;refine ⟨_,rfl,?_⟩;generalize zoneOf c k=z at *;obtain ⟨zA,zc,kA,kc,tA,tc,vA,vc,rA,rc,oA,oc⟩:=a;simp only at hA;subst hA;refine sQ ?_;intro w hS;obtain ⟨gb',o',hA,hra⟩:=yba hr [_] hS hz;simp only [Option.some.injEq,Addr.mk.injEq] at hA;obtain ⟨rfl,rfl,_⟩:=hA;refine sQ ?_;intro w hS;refine Dnt Tryz.results286 ?_;exact ⟨rfl,hS.sb⟩
 ·have hz:=hb2 h;rw [if_neg h];refine Z.enter Tryz.func286 Tryz.ntmps286 rfl rfl ?_;refine aQ1 ?_;intro g w hS;refine cQ (yer c a k _ _ _ hS (hr.cons _)) rfl ?_;clear hS;rintro e w ⟨rfl,hS⟩;refine ⟨_,rfl,?_⟩;rw [hz];refine sQ ?_;intro w hS;refine Dnt Tryz.results286 ?_;exact ⟨rfl,hS.sb⟩
theorem yaS (k lo hi:Int) (r:World) (F:List Res) (w:World) (hS:Sep r [] F w) :
  Calls Tryz.prog 182 #[.int .i64 k,.int .i64 lo,.int .i64 hi] w fun e w'=>e=.returned (.bool (decide (lo≤k∧k≤hi)))∧Sep r [] F w':=by
 refine Z.enter Tryz.func182 Tryz.ntmps182 rfl rfl ?_
 repeat' first|refine K ?_|refine Sa ?_;intro w hS|refine K3 ?_;intro g w hS hge|refine KC ?_ ?_<;>intro hb<;>try exact JX|fail
 all_goals
  refine Dnt Tryz.results182 ?_;exact ⟨by (simp [Z.packR, *];try (intros;omega)),hS⟩
theorem yh6 (c:Cfg) (a:CAd) (k:Int) (r:World) (F:List Res) (w:World) (hS:Sep r [] F w) (hr:CfR r F c a) (ho:c.ok) :
  Calls Tryz.prog 91 #[c.val a,.int .i64 k] w fun e w'=>e=.returned (.int .i64 (zoneOf c k))∧Sep r [] F w':=by
 have hl:=ho.k;unfold zoneOf
 by_cases h:0≤k∧k < c.cells.length
 ·have h':0≤k∧k≤(c.cells.length:Int) - 1:=by omega
  obtain ⟨gb,o,hA,_⟩:=ybv hr [] hS h;rw [if_pos h];refine Z.enter Tryz.func91 Tryz.ntmps91 rfl rfl ?_;refine aQ1 ?_;intro g w hS;refine cQ (yaS k 0 _ _ _ _ hS) rfl ?_;clear hS;rintro e w ⟨rfl,hS⟩;refine ⟨_,rfl,?_⟩;rw [decide_eq_true h'];obtain ⟨zA,zc,kA,kc,tA,tc,vA,vc,rA,rc,oA,oc⟩:=a;simp only at hA;subst hA;refine sQ ?_;intro w hS;obtain ⟨gb',o',hA,hra⟩:=ybv hr [_] hS h;simp only [Option.some.injEq,Addr.mk.injEq] at hA;obtain ⟨rfl,rfl,_⟩:=hA;refine sQ ?_;intro w hS;refine Dnt Tryz.results91 ?_;exact ⟨rfl,hS.sb⟩
 ·have h':¬ (0≤k∧k≤(c.cells.length:Int) - 1):=by omega
  rw [if_neg h];refine Z.enter Tryz.func91 Tryz.ntmps91 rfl rfl ?_;refine aQ1 ?_;intro g w hS;refine cQ (yaS k 0 _ _ _ _ hS) rfl ?_;clear hS;rintro e w ⟨rfl,hS⟩;refine ⟨_,rfl,?_⟩;rw [decide_eq_false h'];refine sQ ?_;intro w hS;refine Dnt Tryz.results91 ?_;exact ⟨rfl,hS.sb⟩
theorem yh7 (c:Cfg) (a:CAd) (k:Int) (r:World) (F:List Res) (w:World) (hS:Sep r [] F w) (hr:CfR r F c a) (ho:c.ok) :
  Calls Tryz.prog 90 #[c.val a,.int .i64 k] w fun e w'=>e=.returned (.int .i64 (if 0≤k∧k < c.zones.length then c.zones.getD k.toNat 0 else -1))∧Sep r [] F w':=by
 have hl:=ho.z
 by_cases h:0≤k∧k < c.zones.length
 ·have h':0≤k∧k≤(c.zones.length:Int) - 1:=by omega
  obtain ⟨gb,o,hA,_⟩:=yba hr [] hS h;rw [if_pos h];refine Z.enter Tryz.func90 Tryz.ntmps90 rfl rfl ?_;refine aQ1 ?_;intro g w hS;refine cQ (yaS k 0 _ _ _ _ hS) rfl ?_;clear hS;rintro e w ⟨rfl,hS⟩;refine ⟨_,rfl,?_⟩;rw [decide_eq_true h'];obtain ⟨zA,zc,kA,kc,tA,tc,vA,vc,rA,rc,oA,oc⟩:=a;simp only at hA;subst hA;refine sQ ?_;intro w hS;obtain ⟨gb',o',hA,hra⟩:=yba hr [_] hS h;simp only [Option.some.injEq,Addr.mk.injEq] at hA;obtain ⟨rfl,rfl,_⟩:=hA;refine sQ ?_;intro w hS;refine Dnt Tryz.results90 ?_;exact ⟨rfl,hS.sb⟩
 ·have h':¬ (0≤k∧k≤(c.zones.length:Int) - 1):=by omega
  rw [if_neg h];refine Z.enter Tryz.func90 Tryz.ntmps90 rfl rfl ?_;refine aQ1 ?_;intro g w hS;refine cQ (yaS k 0 _ _ _ _ hS) rfl ?_;clear hS;rintro e w ⟨rfl,hS⟩;refine ⟨_,rfl,?_⟩;rw [decide_eq_false h'];refine sQ ?_;intro w hS;refine Dnt Tryz.results90 ?_;exact ⟨rfl,hS.sb⟩
theorem yam (c:Cfg) (a:CAd) (k:Int) (r:World) (F:List Res) (w:World) (hS:Sep r [] F w) (hr:CfR r F c a) (ho:c.ok) :
  Calls Tryz.prog 32 #[c.val a,.int .i64 k] w fun e w'=>e=.returned (.int .i64 (regOf c k))∧Sep r [] F w':=by
 obtain ⟨hb1,hb2⟩:=zoneOf_bd ho k;have hreg:regOf c k=if 0≤zoneOf c k∧zoneOf c k < c.zones.length then c.zones.getD (zoneOf c k).toNat 0 else -1:=by
  rw [ybb]
  by_cases h:0≤k∧k < c.cells.length
  ·rw [if_pos h,if_pos (hb1 h)]
  ·rw [if_neg h,if_neg (by rw [hb2 h];omega)]
 rw [hreg];refine Z.enter Tryz.func32 Tryz.ntmps32 rfl rfl ?_;refine aQ1 ?_;intro g w hS;refine D.startS (Lr:=[.blk g 55 (c.cl a)]) (hS.sb) 6 6 kR rfl ?_;replace hS:=hS.drew;refine Sh.dp 2 4 ?_;refine Sh.dl 0 5 ?_;refine Sh.dl 1 7 ?_;refine D.ef 3 15 ?_;refine dQ (yh6 c a k _ _ _ hS (hr.cons _) ho) ?_;intro w hS;refine D.ef 4 31 ?_;refine dQ (yh7 c a _ _ _ _ hS (hr.cons _) ho) ?_;intro w hS;refine Sh.dp 5 63 ?_;refine D.dn ?_;refine sQ ?_;intro w hS;refine Dnt Tryz.results32 ?_;exact ⟨rfl,hS.sb⟩
theorem ybl (s i:Int) (r:World) (F:List Res) (w:World) (hS:Sep r [] F w) :
  Calls Tryz.prog 83 #[.int .i64 s,.int .i64 i] w fun e w'=>∃ b,e=.returned (.bool b)∧Sep r [] F w':=by
 have hu:∀ x:Int,0≤x→x < 62→0≤IntKind.u64.wrap x:=fun x h0 h1=>by
  simp [IntKind.wrap,IntKind.signed,IntKind.bits]
  omega
 refine Z.enter Tryz.func83 Tryz.ntmps83 rfl rfl ?_
 repeat' first|refine K ?_|refine Sa ?_;intro w hS|refine K3 ?_;intro g w hS hge|refine KC ?_ ?_<;>intro hb<;>try exact JX|fail
 ·have:=hu i oM oM;refine sQ ?_;intro w hS;refine Dnt Tryz.results83 ?_;exact ⟨_,rfl,hS⟩
 ·refine Dnt Tryz.results83 ?_;exact ⟨_,rfl,hS⟩
 ·refine Dnt Tryz.results83 ?_;exact ⟨_,rfl,hS⟩
theorem ya4 (c:Cfg) (a:CAd) (t k:Int) (r:World) (F:List Res) (w:World) (hS:Sep r [] F w) (hr:CfR r F c a) (ho:c.ok) :
  Calls Tryz.prog 216 #[c.val a,.int .i64 t,.int .i64 k] w fun e w'=>∃ b,e=.returned (.bool b)∧Sep r [] F w':=by
 refine Z.enter Tryz.func216 Tryz.ntmps216 rfl rfl ?_;refine aQ1 ?_;intro g w hS
 by_cases h:0≤t∧t < c.tenants.length
 ·obtain ⟨gb,o,hA,_⟩:=ycr hr [_] hS h;have hra:∀ W,Sep r [] (.blk g 55 (c.cl a)::F) W→W.rangeAt gb (o+t.toNat * 7) (c.tenants.getD t.toNat ⟨0,0,0,0,0,0,false⟩).cells:=fun W hW=>by
   obtain ⟨gb',o',hA',h2⟩:=ycr hr [_] hW h;rw [hA] at hA';simp only [Option.some.injEq,Addr.mk.injEq] at hA';obtain ⟨rfl,rfl,_⟩:=hA';exact h2
  generalize c.tenants.getD t.toNat ⟨0,0,0,0,0,0,false⟩=x at *;obtain ⟨zA,zc,kA,kc,tA,tc,vA,vc,rA,rc,oA,oc⟩:=a;simp only at hA;subst hA;refine D.startS hS 22 22 kR rfl ?_;replace hS:=hS.drew;refine Sh.dp 0 1 ?_;refine Sh.dp 1 3 ?_;refine Sh.dp 2 7 ?_;refine D.slot 9 rfl (fun hb=>?_) NoF
  (try simp only [JJ] at hb)
  refine Sh.dp 3 15 ?_;refine Sh.dp 4 31 ?_;refine Sh.dl 5 63 ?_;refine Sh.dp 6 127 ?_;refine Sh.dp 7 255 ?_;refine Sh.dp 8 511 ?_;refine Sh.dp 9 1023 ?_;refine D.slot 16 rfl (fun hb=>?_) NoF
  (try simp only [JJ] at hb)
  refine Sh.dp 10 2047 ?_;refine Sh.dp 12 6143 ?_;refine Sh.dp 17 137215 ?_;refine Sh.dl 11 139263 ?_
  first|refine D.ixn 13 147455 rfl (D.wantedT rfl rfl) kR rfl rfl rfl oM ?_|refine D.ix 13 147455 rfl (D.wantedT rfl rfl) kR rfl rfl rfl oM ?_|refine D.ia 13 147455 rfl (D.wantedT rfl rfl) kR rfl rfl rfl oM ?_
  refine Sh.dp 14 163839 ?_;refine D.ldE 15 196607 rfl (D.wantedT rfl rfl) kR rfl hra rfl ?_;refine Sh.dl 16 262143 ?_;refine D.eff 18 524287 rfl (D.wantedT rfl rfl) kR kR (fun _ _ h=>h) ?_;refine WE.guard ?_;refine dQ (yaU c _ k _ _ _ hS (hr.cons _) ho) ?_;intro w hS;refine D.eff 19 1048575 rfl (D.wantedT rfl rfl) kR kR (fun _ _ h=>h) ?_;refine WE.guard ?_;refine Z.cl (ybl _ _ _ _ _ hS) rfl ?_;clear hS;rintro e w ⟨b,rfl,hS⟩;refine ⟨_,rfl,?_⟩;refine HMs ?_;refine Sh.dp 20 2097151 ?_;refine Sh.dp 21 4194303 ?_;refine D.dn ?_
  repeat' first|refine K ?_|refine Sa ?_;intro w hS|refine K3 ?_;intro g w hS hge|refine KC ?_ ?_<;>intro hb<;>try exact JX|fail
  refine Dnt Tryz.results216 ?_;exact ⟨_,rfl,hS.sb⟩
 ·refine D.startS (Lr:=[.blk g 55 (c.cl a)]) (hS.sb) 22 22 kR rfl ?_;replace hS:=hS.drew;refine Sh.dp 0 1 ?_;refine Sh.dp 1 3 ?_;refine Sh.dp 2 7 ?_;refine D.slot 9 rfl (fun hb=>?_) (fun hb=>?_)
  ·(try simp only [JJ] at hb)
   refine Sh.dp 3 15 ?_;refine Sh.dp 4 31 ?_;refine Sh.dl 5 63 ?_;refine Sh.dp 6 127 ?_;refine Sh.dp 7 255 ?_;refine Sh.dp 8 511 ?_;refine Sh.dp 9 1023 ?_;refine D.slot 16 rfl NoF (fun hb=>?_)
   (try simp only [JJ] at hb)
   refine D.sk 10 2047 ?_;refine D.sk 11 4095 ?_;refine D.sk 12 8191 ?_;refine D.sk 13 16383 ?_;refine D.sk 14 32767 ?_;refine D.sk 15 65535 ?_;refine D.sk 16 131071 ?_;refine D.sk 17 262143 ?_;refine D.sk 18 524287 ?_;refine D.sk 19 1048575 ?_;refine Sh.dp 20 2097151 ?_;refine Sh.dp 21 4194303 ?_;refine D.dn ?_
   repeat' first|refine K ?_|refine Sa ?_;intro w hS|refine K3 ?_;intro g w hS hge|refine KC ?_ ?_<;>intro hb<;>try exact JX|fail
   refine Dnt Tryz.results216 ?_;exact ⟨_,rfl,hS.sb⟩
  ·(try simp only [JJ] at hb)
   refine D.sk 3 15 ?_;refine D.sk 4 31 ?_;refine D.sk 5 63 ?_;refine D.sk 6 127 ?_;refine D.sk 7 255 ?_;refine Sh.dp 8 511 ?_;refine Sh.dp 9 1023 ?_;refine D.slot 16 rfl NoF (fun hb=>?_)
   (try simp only [JJ] at hb)
   refine D.sk 10 2047 ?_;refine D.sk 11 4095 ?_;refine D.sk 12 8191 ?_;refine D.sk 13 16383 ?_;refine D.sk 14 32767 ?_;refine D.sk 15 65535 ?_;refine D.sk 16 131071 ?_;refine D.sk 17 262143 ?_;refine D.sk 18 524287 ?_;refine D.sk 19 1048575 ?_;refine Sh.dp 20 2097151 ?_;refine Sh.dp 21 4194303 ?_;refine D.dn ?_
   repeat' first|refine K ?_|refine Sa ?_;intro w hS|refine K3 ?_;intro g w hS hge|refine KC ?_ ?_<;>intro hb<;>try exact JX|fail
   refine Dnt Tryz.results216 ?_;exact ⟨_,rfl,hS.sb⟩
theorem ydS (c:Cfg) (a:CAd) (i k:Int) (r:World) (F:List Res) (w:World) (hS:Sep r [] F w) (hr:CfR r F c a) (ho:c.ok) :
  Calls Tryz.prog 217 #[c.val a,.int .i64 i,.int .i64 k] w fun e w'=>∃ b,e=.returned (.bool b)∧Sep r [] F w':=by
 refine Z.enter Tryz.func217 Tryz.ntmps217 rfl rfl ?_;refine aQ1 ?_;intro g w hS;refine Z.cut [7,8,9,10,11,12,13,14] (fun w s=>s=[(7,.int .i64 (regOf c i)),(8,.int .i64 (regOf c k))]∧Sep r [] (.blk g 55 (c.cl a)::F) w) ?_ ?_
 ·refine D.startS (Lr:=[.blk g 55 (c.cl a)]) (hS.sb) 8 8 kR rfl ?_;replace hS:=hS.drew;refine Sh.dp 1 2 ?_;refine Sh.dp 4 18 ?_;refine Sh.dl 0 19 ?_;refine Sh.dl 3 27 ?_;refine D.ef 2 31 ?_;refine dQ (yaU c a i _ _ _ hS (hr.cons _) ho) ?_;intro w hS;refine D.ef 5 63 ?_;refine dQ (yaU c a k _ _ _ hS (hr.cons _) ho) ?_;intro w hS;refine Sh.dp 6 127 ?_;refine Sh.dp 7 255 ?_;refine D.dn ?_;refine Sh.cut [(7,_),(8,_)] ?_;exact ⟨rfl,hS.sb⟩
 clear hS;rintro f0 w _ ⟨rfl,hS⟩
 repeat' first|refine K ?_|refine Sa ?_;intro w hS|refine K3 ?_;intro g w hS hge|refine KC ?_ ?_<;>intro hb<;>try exact JX|fail
 all_goals
  refine Dnt Tryz.results217 ?_;exact ⟨_,rfl,hS.sb⟩
theorem cellsIn {n i:Nat} {l:List Int} (h:l.length≤i∧∀ x,x∈l→0≤x∧x < n) (hi:i < n):(l++[(i:Int)]).length≤i+1∧∀ x,x∈l++[(i:Int)]→0≤x∧x < n:=by
 refine ⟨by rw [List.length_append,List.length_singleton];omega,fun x hx=>?_⟩
 rcases List.mem_append.1 hx with hx|hx
 ·exact h.2 x hx
 ·rw [List.mem_singleton] at hx;omega
theorem yd1 (c:Cfg) (a:CAd) (t:Int) (r:World) (F:List Res) (w:World) (hS:Sep r [] F w) (hr:CfR r F c a) (ho:c.ok) :
  Calls Tryz.prog 130 #[c.val a,.int .i64 t] w fun e w'=>∃ (l:List Int) (A:Option Addr) (cap:Nat),e=.returned (.slice A l.length cap)∧(l.length≤16∧∀ x,x∈l→0≤x∧x < c.cells.length)∧Sep r [] (.sl 3 1 (.slice A l.length cap) (l.map ztC)::F) w':=by
 have hl:=ho.k;refine Z.enter Tryz.func130 Tryz.ntmps130 rfl rfl ?_;refine aQ1 ?_;intro g w hS;replace hS:=Z.nilsl hS 3 1 none;refine Z.lpS [5,6,7,8,9,10,11,12,13,14,15,16,17,18,19,20,21] (fun m w s=>∃ (i:Nat) (l:List Int) (A:Option Addr) (cap:Nat),s=[(5,.slice A l.length cap),(6,.int .i64 i)]∧(l.length≤i∧∀ x,x∈l→0≤x∧x < c.cells.length)∧i≤c.cells.length∧m=c.cells.length - i∧Sep r [] (.sl 3 1 (.slice A l.length cap) (l.map ztC)::.blk g 55 (c.cl a)::F) w) _ [(5,.slice none 0 0),(6,.int .i64 (0:Nat))] TrF ⟨0,[],none,0,rfl,⟨by simp,by simp⟩,oM,rfl,hS⟩ ?_;clear hS;rintro m f0 w _ ⟨i,l,A,cap,rfl,hli,hi,rfl,hS⟩;have hll:=hli.1
 by_cases hlt:i < c.cells.length
 ·refine sQ ?_;intro w hS;refine cQ (ya4 c a t i _ _ _ hS (hr.app [_,_]) ho) rfl ?_;clear hS;rintro e w ⟨b,rfl,hS⟩;refine ⟨_,rfl,?_⟩
  repeat' first|refine K ?_|refine Sa ?_;intro w hS|refine K3 ?_;intro g w hS hge|refine KC ?_ ?_<;>intro hb<;>try exact JX|fail
  ·refine Z.eff (Z.apm (l':=[(i:Int)]) hS rfl rfl rfl AtF (hS.lit1 AtF rfl rfl) LnF LnF ?_) rfl;clear hS;intro A' cap' w hS;rw [← List.length_append] at hS ⊢;refine sQ ?_;intro w hS;refine Sh.again (c.cells.length - (i+1)) [(5,_),(6,.int .i64 (i+1:Nat))] ?_;exact ⟨i+1,l++[(i:Int)],A',cap',rfl,cellsIn hli hlt,oM,rfl,hS.sb⟩
  ·refine Sh.again (c.cells.length - (i+1)) [(5,_),(6,.int .i64 (i+1:Nat))] ?_;exact ⟨i+1,l,A,cap,rfl,⟨oM,hli.2⟩,oM,rfl,hS.sb⟩
 ·refine sQ ?_;intro w hS;refine Dnt Tryz.results130 ?_;exact ⟨l,A,cap,rfl,⟨oM,hli.2⟩,hS.sb⟩
theorem ycc (c:Cfg) (a:CAd) (t h:Int) (r:World) (F:List Res) (w:World) (hS:Sep r [] F w) (hr:CfR r F c a) (ho:c.ok) :
  Calls Tryz.prog 131 #[c.val a,.int .i64 t,.int .i64 h] w fun e w'=>∃ (l:List Int) (A:Option Addr) (cap:Nat),e=.returned (.slice A l.length cap)∧(l.length≤16∧∀ x,x∈l→0≤x∧x < c.cells.length)∧Sep r [] (.sl 3 1 (.slice A l.length cap) (l.map ztC)::F) w':=by
 have hl:=ho.k;refine Z.enter Tryz.func131 Tryz.ntmps131 rfl rfl ?_;refine aQ1 ?_;intro g w hS;replace hS:=Z.nilsl hS 3 1 none;refine Z.lpS [7,8,9,10,11,12,13,14,15,16,17,18,19,20,21,22,23,24,25,26,27,28,29] (fun m w s=>∃ (i:Nat) (l:List Int) (A:Option Addr) (cap:Nat),s=[(7,.slice A l.length cap),(8,.int .i64 i)]∧(l.length≤i∧∀ x,x∈l→0≤x∧x < c.cells.length)∧i≤c.cells.length∧m=c.cells.length - i∧Sep r [] (.sl 3 1 (.slice A l.length cap) (l.map ztC)::.blk g 55 (c.cl a)::F) w) _ [(7,.slice none 0 0),(8,.int .i64 (0:Nat))] TrF ⟨0,[],none,0,rfl,⟨by simp,by simp⟩,oM,rfl,hS⟩ ?_;clear hS;rintro m f0 w _ ⟨i,l,A,cap,rfl,hli,hi,rfl,hS⟩;have hll:=hli.1
 by_cases hlt:i < c.cells.length
 ·refine sQ ?_;intro w hS;refine cQ (ya4 c a t i _ _ _ hS (hr.app [_,_]) ho) rfl ?_;clear hS;rintro e w ⟨b,rfl,hS⟩;refine ⟨_,rfl,?_⟩
  repeat' first|refine K ?_|refine Sa ?_;intro w hS|refine K3 ?_;intro g w hS hge|refine KC ?_ ?_<;>intro hb<;>try exact JX|fail
  ·refine cQ (ydS c a h i _ _ _ hS (hr.app [_,_]) ho) rfl ?_;clear hS;rintro e w ⟨b,rfl,hS⟩;refine ⟨_,rfl,?_⟩
   repeat' first|refine K ?_|refine Sa ?_;intro w hS|refine K3 ?_;intro g w hS hge|refine KC ?_ ?_<;>intro hb<;>try exact JX|fail
   ·refine Z.eff (Z.apm (l':=[(i:Int)]) hS rfl rfl rfl AtF (hS.lit1 AtF rfl rfl) LnF LnF ?_) rfl;clear hS;intro A' cap' w hS;rw [← List.length_append] at hS ⊢;refine sQ ?_;intro w hS;refine Sh.again (c.cells.length - (i+1)) [(7,_),(8,.int .i64 (i+1:Nat))] ?_;exact ⟨i+1,l++[(i:Int)],A',cap',rfl,cellsIn hli hlt,oM,rfl,hS.sb⟩
   ·refine Sh.again (c.cells.length - (i+1)) [(7,_),(8,.int .i64 (i+1:Nat))] ?_;exact ⟨i+1,l,A,cap,rfl,⟨oM,hli.2⟩,oM,rfl,hS.sb⟩
  ·refine Sh.again (c.cells.length - (i+1)) [(7,_),(8,.int .i64 (i+1:Nat))] ?_;exact ⟨i+1,l,A,cap,rfl,⟨oM,hli.2⟩,oM,rfl,hS.sb⟩
 ·refine sQ ?_;intro w hS;refine Dnt Tryz.results131 ?_;exact ⟨l,A,cap,rfl,⟨oM,hli.2⟩,hS.sb⟩
end Go.Proofs.YtfmnjbhncnldmaaGreat
