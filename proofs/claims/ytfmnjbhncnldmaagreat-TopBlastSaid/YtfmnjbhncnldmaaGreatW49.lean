/-
  The statement TopBlast: at no time more cells than the bound run or want an unproven version, and no tenant that stays where it is has both copies at such cells, while a version is rolled out in waves, stopped and rolled back at any moment; at most 60 steps. No conditions.
-/
import Derived.ChangeSame
import Derived.JoinedOf
import Derived.JoinedAt
import Derived.Carry
import Derived.ReadAgain
import Derived.RowKit3
import Derived.Laws.IdiomElems
import Derived.Laws.IdiomAt
import Derived.RowKit2
import Derived.ChangeSlices
import Derived.Deep.Slices
import Derived.Test.YtfmnjbhncnldmaaGreatRows
import Derived.Test.YtfmnjbhncnldmaaGreatW00
import Derived.Test.YtfmnjbhncnldmaaGreatW01
import Derived.Test.YtfmnjbhncnldmaaGreatW23
import Derived.Test.YtfmnjbhncnldmaaGreatW33
import Derived.Test.YtfmnjbhncnldmaaGreatW40
import Derived.Test.YtfmnjbhncnldmaaGreatW41
import Derived.Test.YtfmnjbhncnldmaaGreatW48
set_option maxHeartbeats 16000000
set_option linter.unusedSimpArgs false
set_option linter.unusedVariables false
namespace Go.Proofs.YtfmnjbhncnldmaaGreat
open Go.RowKit
attribute [local irreducible] Res.blk Res.sl Res.all Res.ex Res.pure Res.star
theorem Sep.PX_le {r w:World} {F:List Res} {k3:Bool} {gp gq:Nat} {c:Cfg} {s:Sta} {m m':Nat} (hm:m≤m') (h:Sep r [] (PX k3 gp gq c s m::F) w):Sep r [] (PX k3 gp gq c s m'::F) w:=by
 obtain ⟨st,L,N,hx,hS⟩:=Sep.PX_open.1 h;exact Sep.PX_open.2 ⟨st,L,N,⟨hx.1,oM,oM⟩,hS⟩
theorem Sep.PX_cnt {r w:World} {F:List Res} {k3:Bool} {gp gq:Nat} {c:Cfg} {s:Sta} {m:Nat} (h:Sep r [] (PX k3 gp gq c s m::F) w):0≤s.count∧s.count≤m:=by
 obtain ⟨st,L,N,hx,hS⟩:=Sep.PX_open.1 h;have h1:=hx.1;have h2:=hx.2.1;omega
theorem NxOk.kd {V k0:Int} {s:Sta} {e:En} (h:NxOk V k0 s e):e.kind=1∨e.kind=0∨e.kind=10∨e.kind=11∨e.kind=12:=by
 rcases h with h|⟨h|h,_⟩|h
 ·exact .inr (.inl h)
 ·exact .inr (.inr (.inl h))
 ·exact .inr (.inr (.inr (.inl h)))
 ·exact .inr (.inr (.inr (.inr h)))
theorem Inv.blast {V k0:Int} {c:Cfg} {s:Sta} (h:Inv V k0 c s) (hb:1≤c.blast):((unpP s).length:Int)≤c.blast:=by
 rcases h.unp2 with h|h
 ·rw [h]
  show (0:Int)≤c.blast
  omega
 ·rw [h];exact hb
theorem ycN (A:Option Addr) (n cap:Nat) (r:World) (F:List Res) (w:World) (hS:Sep r [] F w) :
  Calls Tryz.prog 17 #[.slice A n cap] w fun e w'=>e=.returned (.bool (decide ((n:Int)≤200)))∧Sep r [] F w':=by
 refine Z.enter Tryz.func17 Tryz.ntmps17 rfl rfl ?_;refine sQ ?_;intro w hS;refine Dnt Tryz.results17 ?_;exact ⟨rfl,hS⟩
theorem topBlast_z (l:List Int) (A:Option Addr) (cap:Nat) (l2:List Int) (A2:Option Addr) (cap2:Nat) (vs stp:Int) (l3:List Int) (A3:Option Addr) (cap3:Nat) (r:World) (hr:Rows' r 1 (.slice A l.length cap) (l.map ztC)) (hr2:Rows' r 1 (.slice A2 l2.length cap2) (l2.map ztC)) (_ : -9223372036854775808≤vs∧vs≤9223372036854775807) (_ : -9223372036854775808≤stp∧stp≤9223372036854775807) (hr3:Rows' r 1 (.slice A3 l3.length cap3) (l3.map ztC)) :
  Calls Tryz.prog 5 #[.slice A l.length cap,.slice A2 l2.length cap2,.int .i64 vs,.int .i64 stp,.slice A3 l3.length cap3] r fun e w'=>e=.returned (.bool true)∧Chg [] r w':=by
 have hS:=Sep.root r;have hrd:Reads r [] 1 (.slice A l.length cap) (l.map ztC):=Reads.root hr;have hrd2:Reads r [] 1 (.slice A2 l2.length cap2) (l2.map ztC):=Reads.root hr2;have hrd3:Reads r [] 1 (.slice A3 l3.length cap3) (l3.map ztC):=Reads.root hr3;refine Z.enter Tryz.func5 Tryz.ntmps5 rfl rfl ?_
 repeat' first|refine K ?_|refine Sa ?_;clear hS;intro w hS|refine K3 ?_;clear hS;intro g w hS hge|refine KC ?_ ?_<;>intro hb<;>try exact JX|fail
 refine cQ (ybs _ _ _ hS) rfl ?_;clear hS;rintro e w ⟨rfl,hS⟩;refine ⟨_,rfl,?_⟩
 repeat' first|refine K ?_|refine Sa ?_;clear hS;intro w hS|refine K3 ?_;clear hS;intro g w hS hge|refine KC ?_ ?_<;>intro hb<;>try exact JX|fail
 refine cQ (ycN A l.length cap _ _ _ hS) rfl ?_;clear hS;rintro e w ⟨rfl,hS⟩;refine ⟨_,rfl,?_⟩
 by_cases hl1:(l.length:Int)≤200
 rotate_left
 ·rw [decide_eq_false hl1];refine sQ ?_;intro w hS;refine rQ (ybs _ _ _ hS) ?_;intro w hS;refine Dnt Tryz.results5 ?_;exact ⟨rfl,hS.chg⟩
 rw [decide_eq_true hl1];refine sQ ?_;intro w hS;refine cQ (ycN A2 l2.length cap2 _ _ _ hS) rfl ?_;clear hS;rintro e w ⟨rfl,hS⟩;refine ⟨_,rfl,?_⟩
 by_cases hl2:(l2.length:Int)≤200
 rotate_left
 ·rw [decide_eq_false hl2];refine sQ ?_;intro w hS;refine rQ (ybs _ _ _ hS) ?_;intro w hS;refine Dnt Tryz.results5 ?_;exact ⟨rfl,hS.chg⟩
 rw [decide_eq_true hl2]
 by_cases hl3:l3.length≤60
 rotate_left
 ·refine sQ ?_;intro w hS;refine rQ (ybs _ _ _ hS) ?_;intro w hS;refine Dnt Tryz.results5 ?_;exact ⟨rfl,hS.chg⟩
 refine sQ ?_;intro w hS;refine cQ (yeK A l cap _ _ _ hS hrd oM) rfl ?_;clear hS;rintro e w ⟨c,a,rfl,hM,hS⟩;refine ⟨_,rfl,?_⟩;have hv:=hM.v;have hk7:=hM.k;have hb1:=hM.b1;have hvl:=hv.ok.v;obtain ⟨k3,hn⟩:∃ k3,c.replicas.length=nrK k3:=by
  rcases hM.rn with h|h
  ·exact ⟨false,h⟩
  ·exact ⟨true,h⟩
 repeat' first|refine K ?_|refine Sa ?_;clear hS;intro w hS|refine K3 ?_;clear hS;intro g w hS hge|refine KC ?_ ?_<;>intro hb<;>try exact JX|fail
 rename Nat=>gc;refine cQ (ygZ k3 c a _ _ _ hS (CfA.of_co AtF) hv hn) rfl ?_;clear hS;rintro e w ⟨gp,gq,rfl,hS⟩;refine ⟨_,rfl,?_⟩
 by_cases hv2:2≤c.versions.length
 rotate_left
 ·refine sQ ?_;intro w hS;refine Dnt Tryz.results5 ?_;exact ⟨rfl,hS.chg⟩
 refine sQ ?_;intro w hS;refine cQ (yjd A2 l2 cap2 c a 20 _ _ _ hS (hrd2.app [_,_,_]) oM (CfA.of_co AtF).cf hv.ok oM) rfl ?_;clear hS;rintro e w ⟨out,oA,oc,rfl,hol,hS⟩;refine eQ ?_;intro w hS;refine Z.lpS [15,16,69,70,71,72,73,74,75,76,77,78,79,80,81,82,83,84,85,86,87,88] (fun m w z=>∃ (i:Nat) (s:Sta),z=[(15,.int .i64 i)]∧i≤out.length∧InvA c s∧m=out.length - i∧Sep r [] (PX k3 gp gq c s i::.sl 63 9 (.slice oA out.length oc) (out.map En.cells)::.blk gc 55 (c.cl a)::CfO c a::[]) w) _ [(15,.int .i64 (0:Nat))] TrF ⟨0,newS c,rfl,oM,InvA.new hvl.1,rfl,hS.sb⟩ ?_;clear hS;rintro m f0 w _ ⟨i,s,rfl,hi,hI,rfl,hS⟩
 by_cases hlt:i < out.length
 ·obtain ⟨gb,o,hOe,_,hrx⟩:=(hS.slrows (e:=63) (v:=.slice oA out.length oc) AtF).mat oM (q:=i) (by simpa using hlt);subst hOe;have hra2:w.rangeAt gb (o+i * 9) (out[i]).cells:=by simpa using hrx
  clear hrx;generalize out[i]=e at *
  by_cases hk1:e.kind=1
  ·repeat' first|refine K ?_|refine Sa ?_;clear hS;intro w hS|refine K3 ?_;clear hS;intro g w hS hge|refine KC ?_ ?_<;>intro hb<;>try exact JX|fail
   replace hS:=hS.fo (R:=PX k3 gp gq c s i);refine cQ (ycE k3 gp gq c s (⟨e.kind,0,e.tenant,e.cell,e.other,e.epoch,e.from_,e.until_,e.n⟩:En) i _ _ _ hS hn oM hv hI.ok (.inl hk1)) rfl ?_;clear hS;rintro e w ⟨a1,er,s',rfl,hR,hS⟩;refine eQ ?_;intro w hS;refine Sh.again (out.length - (i+1)) [(15,.int .i64 (i+1:Nat))] ?_;exact ⟨i+1,s',rfl,oM,hI.place (e:=(⟨e.kind,0,e.tenant,e.cell,e.other,e.epoch,e.from_,e.until_,e.n⟩:En)) hk1 hR,rfl,hS.sb⟩
  ·refine sQ ?_;intro w hS;refine Sh.again (out.length - (i+1)) [(15,.int .i64 (i+1:Nat))] ?_;exact ⟨i+1,s,rfl,oM,hI,rfl,Sep.PX_le (Nat.le_succ i) hS⟩
 obtain ⟨M0,hM0⟩:∃ q,q=i:=⟨i,rfl⟩;rw [← hM0] at hS hi;refine sQ ?_;intro w hS;replace hS:=hS.fo (R:=PX k3 gp gq c s M0);refine cQ (yaH k3 gp gq c s M0 _ _ _ hS hv hI.ok) rfl ?_;clear hS;rintro e w ⟨b,rfl,hS⟩;refine ⟨_,rfl,?_⟩
 repeat' first|refine K ?_|refine Sa ?_;clear hS;intro w hS|refine K3 ?_;clear hS;intro g w hS hge|refine KC ?_ ?_<;>intro hb<;>try exact JX|fail
 rename Nat=>gs;replace hS:=Z.nilsl hS 3 1 none;refine Z.lpS [18,19,91,92,93,94,95,96,97,98,99,100,101] (fun m w z=>∃ (i:Nat) (A4:Option Addr) (c4:Nat),z=[(18,.slice A4 (upI i).length c4),(19,.int .i64 i)]∧i≤c.cells.length∧m=c.cells.length - i∧Sep r [] (.sl 3 1 (.slice A4 (upI i).length c4) ((upI i).map ztC)::.blk gs 69 (s.cc c b)::SO c s b::PX k3 gp gq c s M0::.blk gc 55 (c.cl a)::CfO c a::[]) w) _ [(18,.slice none 0 0),(19,.int .i64 (0:Nat))] TrF ⟨0,none,0,rfl,oM,rfl,hS.sb⟩ ?_;clear hS hlt;rintro m f1 w _ ⟨i,A4,c4,rfl,hi4,rfl,hS⟩;have hul:=yev i;have hus:=yhq i
 by_cases hlt:i < c.cells.length
 ·repeat' first|refine K ?_|refine Sa ?_;clear hS;intro w hS|refine K3 ?_;clear hS;intro g w hS hge|refine KC ?_ ?_<;>intro hb<;>try exact JX|fail
  refine Z.eff (Z.apm (fc:=ztC) (l:=upI i) (l':=[(i:Int)]) hS rfl rfl rfl AtF (hS.lit1 AtF rfl rfl) LnF LnF ?_) rfl;clear hS;intro A5 c5 w hS;rw [← List.length_append,← hus] at hS ⊢;refine sQ ?_;intro w hS;refine Sh.again (c.cells.length - (i+1)) [(18,_),(19,.int .i64 (i+1:Nat))] ?_;exact ⟨i+1,A5,c5,rfl,oM,rfl,hS.sb⟩
 obtain rfl:i=c.cells.length:=by omega
 refine sQ ?_;intro w hS;have hm2:(mkR c s (allC c)).2=0:=by rw [ydj (allC_ok c)]
 refine cQ (yhZ c a s b A4 (allC c) c4 _ _ _ hS (CfA.of_co AtF).cf hv.ok hI.ok (StC.of_so AtF) (Reads.of_at (e:=3) (v:=.slice A4 (upI c.cells.length).length c4) AtF) (by show (upI c.cells.length).length≤1000;omega)) rfl ?_;clear hS;rintro e w ⟨W,B,C,rfl,hWm,hS⟩;refine ⟨_,rfl,?_⟩;rw [hm2];obtain ⟨k0,hR⟩:=yg7 hM hWm;have hk0:=hR.k;have hI0:=fun V=>hI V k0 hk0.1
 refine sQ ?_;intro w hS;refine cQ (yau vs ((c.versions.length:Int) - 1) _ _ _ hS oM oM) rfl ?_;clear hS;rintro e w ⟨rfl,hS⟩;refine ⟨_,rfl,?_⟩;have hvb:=modM_bd vs ((c.versions.length:Int) - 1) oM;generalize modM vs ((c.versions.length:Int) - 1)=v0 at *
 repeat' first|refine K ?_|refine Sa ?_;clear hS;intro w hS|refine K3 ?_;clear hS;intro g w hS hge|refine KC ?_ ?_<;>intro hb<;>try exact JX|fail
 rename Nat=>gr;obtain ⟨V,hV⟩:∃ V,V=1+v0:=⟨_,rfl⟩;rw [← hV] at hS ⊢;refine cQ (yfZ c a V B C W _ _ _ hS hv (WvR.of_at AtF) hR.w oM hR.ne hR.nd) rfl ?_;clear hS;rintro e w ⟨rfl,hS⟩;refine eQ ?_;intro w hS;refine Z.lpS [10,23,24,25,26,126,127,128,129,130,131,132,133,134,135,136,137,138,139,140,141,142,143,144,145,146,147,148,149,150,151,152,153,154,155,156,157,158,159,160,161,162,163,164,165,166,167,168,169,170,171,172,173,174,175,176,177,178,179,180,181,182,183,184,185] (fun m w z=>∃ (i:Nat) (tk:Int) (s s0:Sta) (b0:SAd),z=[(23,.int .i64 tk),(24,.int .i64 i)]∧i≤l3.length∧(0≤tk∧tk≤6 * i)∧Inv V k0 c s∧m=l3.length - i∧Sep r [] (PX k3 gp gq c s (M0+i)::.blk gs 69 (s0.cc c b0)::.blk gr 75 [.int .i64 V,.int .i64 0,.slice B W.length C]::WO B C W::.blk gc 55 (c.cl a)::CfO c a::[]) w) _ [(23,.int .i64 0),(24,.int .i64 (0:Nat))] TrF ⟨0,0,s,s,b,rfl,oM,oM,hI0 V,rfl,hS.sb⟩ ?_;clear hS hI0;rintro m f2 w _ ⟨i,tk,s,s0,b0,rfl,hi3,htk,hI,rfl,hS⟩
 by_cases hlt:i < l3.length
 rotate_left
 ·refine sQ ?_;intro w hS;refine Dnt Tryz.results5 ?_;exact ⟨rfl,hS.chg⟩
 have hcn:=Sep.PX_cnt (hS.fo (R:=PX k3 gp gq c s (M0+i)));have hcn2:0≤s.count∧s.count≤5000:=by omega
 obtain ⟨gb,o,hA3,_,hra⟩:=(hrd3 [_,_,_,_,_,_] w hS).mat oM (q:=i) (by simpa using hlt);subst hA3;have hra2:w.rangeAt gb (o+i * 1) (ztC l3[i]):=by simpa using hra
 clear hra;generalize l3[i]=y at *;refine sQ ?_;intro w hS;refine cQ (yau y 6 _ _ _ hS oM oM) rfl ?_;clear hS;rintro e w ⟨rfl,hS⟩;refine ⟨_,rfl,?_⟩;have hyb:=modM_bd y 6 oM;generalize modM y 6=y6 at *;refine sQ ?_;intro w hS;refine Z.cut [25,26,139,140,141,142,143,144,145,146,147,148,149,150,151] (fun w z=>∃ (ge:Nat) (e:En) (er:Int),z=[(25,.pointer (some ⟨ge,0,none⟩)),(26,.int .i64 er)]∧NxOk V k0 s e∧Sep r [] (.blk ge 63 e.cells::PX k3 gp gq c s (M0+i)::.blk gs 69 (s0.cc c b0)::.blk gr 75 [.int .i64 V,.int .i64 0,.slice B W.length C]::WO B C W::.blk gc 55 (c.cl a)::CfO c a::[]) w) ?_ ?_
 ·refine D.startS (Lr:=[.blk gc 55 (c.cl a),.blk gr 75 [.int .i64 V,.int .i64 0,.slice B W.length C]]) (hS.sb) 14 16 kR rfl ?_;replace hS:=hS.drew;refine Sh.dp 1 2 ?_;refine Sh.dp 4 18 ?_;refine Sh.dp 5 50 ?_;refine Sh.dp 8 306 ?_;refine Sh.dl 0 307 ?_;refine Sh.dl 3 315 ?_;refine D.each [2,13] kR rfl ?_;refine D.econs 2 319 rfl D.wantedN kR (fun _ _ h=>h) ?_ ?_
  ·refine Z.cl (yaH k3 gp gq c s (M0+i) _ _ _ (hS.fo (R:=PX k3 gp gq c s (M0+i))) hv hI.ok) rfl ?_;clear hS;rintro e w ⟨b2,rfl,hS⟩;refine ⟨_,rfl,?_⟩;refine HMs ?_;refine D.each [6,13] kR rfl ?_;refine D.econs 6 383 rfl D.wantedN kR (fun _ _ h=>h) ?_ ?_
   ·refine Z.cl (yau stp 80 _ _ _ hS oM oM) rfl ?_;clear hS;rintro e w ⟨rfl,hS⟩;refine ⟨_,rfl,?_⟩;refine HMs ?_;refine Sh.dp 7 511 ?_;refine D.each [9,13] kR rfl ?_;refine D.econs 9 1023 rfl D.wantedN kR (fun _ _ h=>h) ?_ ?_
    ·refine Z.cl (ybc c a s b2 V k0 _ _ B C W _ _ _ hS (CfA.of_co AtF).cf hv hI (StC.of_so AtF) (WvR.of_at AtF) hR hcn2 oM) rfl ?_;clear hS;rintro e w ⟨e,er,rfl,hx,hS⟩;refine ⟨_,rfl,?_⟩;refine HMs ?_;refine Sh.dp 10 2047 ?_;refine Sh.dp 11 4095 ?_;refine Sh.dp 12 8191 ?_;refine D.ef 13 16383 ?_;refine Z.al hS ?_;clear hS;intro g w hS hge;refine HMs ?_;refine D.ef 14 32767 ?_;refine Z.st hS rfl AtF rfl rfl ?_;clear hS;intro w hS;refine HMl ?_;refine Sh.dp 15 65535 ?_;refine D.dn ?_;refine Sh.cut [(25,_),(26,_)] ?_;exact ⟨_,e,er,rfl,hx,hS.sb⟩
    refine D.econs 13 8703 rfl D.wantedN kR (fun _ _ h=>h) ?_ ?_
    ·refine Z.al hS ?_;clear hS;intro g w hS hge;refine HMs ?_;refine D.ef 9 9215 ?_;refine Z.cl (ybc c a s b2 V k0 _ _ B C W _ _ _ hS (CfA.of_co AtF).cf hv hI (StC.of_so AtF) (WvR.of_at AtF) hR hcn2 oM) rfl ?_;clear hS;rintro e w ⟨e,er,rfl,hx,hS⟩;refine ⟨_,rfl,?_⟩;refine HMs ?_;refine Sh.dp 10 10239 ?_;refine Sh.dp 11 12287 ?_;refine Sh.dp 12 16383 ?_;refine D.ef 14 32767 ?_;refine Z.st hS rfl AtF rfl rfl ?_;clear hS;intro w hS;refine HMl ?_;refine Sh.dp 15 65535 ?_;refine D.dn ?_;refine Sh.cut [(25,_),(26,_)] ?_;exact ⟨_,e,er,rfl,hx,hS.sb⟩
    exact D.enil
   refine D.econs 13 8511 rfl D.wantedN kR (fun _ _ h=>h) ?_ ?_
   ·refine Z.al hS ?_;clear hS;intro g w hS hge;refine HMs ?_;refine D.ef 6 8575 ?_;refine Z.cl (yau stp 80 _ _ _ hS oM oM) rfl ?_;clear hS;rintro e w ⟨rfl,hS⟩;refine ⟨_,rfl,?_⟩;refine HMs ?_;refine Sh.dp 7 8703 ?_;refine D.ef 9 9215 ?_;refine Z.cl (ybc c a s b2 V k0 _ _ B C W _ _ _ hS (CfA.of_co AtF).cf hv hI (StC.of_so AtF) (WvR.of_at AtF) hR hcn2 oM) rfl ?_;clear hS;rintro e w ⟨e,er,rfl,hx,hS⟩;refine ⟨_,rfl,?_⟩;refine HMs ?_;refine Sh.dp 10 10239 ?_;refine Sh.dp 11 12287 ?_;refine Sh.dp 12 16383 ?_;refine D.ef 14 32767 ?_;refine Z.st hS rfl AtF rfl rfl ?_;clear hS;intro w hS;refine HMl ?_;refine Sh.dp 15 65535 ?_;refine D.dn ?_;refine Sh.cut [(25,_),(26,_)] ?_;exact ⟨_,e,er,rfl,hx,hS.sb⟩
   exact D.enil
  refine D.econs 13 8507 rfl D.wantedN kR (fun _ _ h=>h) ?_ ?_
  ·refine Z.al hS ?_;clear hS;intro g w hS hge;refine HMs ?_;refine D.ef 2 8511 ?_;refine Z.cl (yaH k3 gp gq c s (M0+i) _ _ _ (hS.fo (R:=PX k3 gp gq c s (M0+i))) hv hI.ok) rfl ?_;clear hS;rintro e w ⟨b2,rfl,hS⟩;refine ⟨_,rfl,?_⟩;refine HMs ?_;refine D.ef 6 8575 ?_;refine Z.cl (yau stp 80 _ _ _ hS oM oM) rfl ?_;clear hS;rintro e w ⟨rfl,hS⟩;refine ⟨_,rfl,?_⟩;refine HMs ?_;refine Sh.dp 7 8703 ?_;refine D.ef 9 9215 ?_;refine Z.cl (ybc c a s b2 V k0 _ _ B C W _ _ _ hS (CfA.of_co AtF).cf hv hI (StC.of_so AtF) (WvR.of_at AtF) hR hcn2 oM) rfl ?_;clear hS;rintro e w ⟨e,er,rfl,hx,hS⟩;refine ⟨_,rfl,?_⟩;refine HMs ?_;refine Sh.dp 10 10239 ?_;refine Sh.dp 11 12287 ?_;refine Sh.dp 12 16383 ?_;refine D.ef 14 32767 ?_;refine Z.st hS rfl AtF rfl rfl ?_;clear hS;intro w hS;refine HMl ?_;refine Sh.dp 15 65535 ?_;refine D.dn ?_;refine Sh.cut [(25,_),(26,_)] ?_;exact ⟨_,e,er,rfl,hx,hS.sb⟩
  exact D.enil
 clear hS hra2;rintro f3 w _ ⟨ge,e,er,rfl,hx,hS⟩;refine sQ ?_;intro w hS;replace hS:=hS.fo (R:=PX k3 gp gq c s (M0+i));refine cQ (ycE k3 gp gq c s e (M0+i) _ _ _ hS hn oM hv hI.ok hx.kd) rfl ?_;clear hS;rintro e w ⟨a1,er2,s',rfl,hR2,hS⟩;refine ⟨_,rfl,?_⟩;have hI2:=hI.prop hx hR2;rw [Nat.add_assoc] at hS;refine sQ ?_;intro w hS;replace hS:=hS.fo (R:=PX k3 gp gq c s' (M0+(i+1)));refine cQ (yaH k3 gp gq c s' (M0+(i+1)) _ _ _ hS hv hI2.ok) rfl ?_;clear hS;rintro e w ⟨b',rfl,hS⟩;refine ⟨_,rfl,?_⟩;have hun:=hI2.blast hb1;have hkl:=hI2.ok.kl;have htl:=hI2.ok.tl;refine sQ ?_;intro w hS;refine D.startS (Lr:=[.blk gs 69 (s'.cc c b'),.blk gc 55 (c.cl a)]) (hS.sb) 29 29 kR rfl ?_;replace hS:=hS.drew;refine Sh.dp 0 1 ?_;refine Sh.dp 3 9 ?_;refine Sh.dl 1 11 ?_;refine Sh.dp 2 15 ?_;refine Sh.dl 4 31 ?_;refine Sh.dp 5 63 ?_
 first|refine D.pr 6 127 rfl D.wantedN kR rfl ?_|refine D.pl 6 127 rfl D.wantedN kR (R.nea rfl rfl rfl rfl) ?_
 refine Sh.dp 7 255 ?_;refine D.slot 164 rfl NoF (fun hb=>?_)
 (try simp only [JJ] at hb)
 refine Sh.dp 8 511 ?_;refine Sh.dp 11 2559 ?_;refine Sh.dl 9 3071 ?_;refine Sh.dp 10 4095 ?_;refine Sh.dl 12 8191 ?_;refine Sh.dp 13 16383 ?_
 first|refine D.pr 14 32767 rfl (D.wantedT rfl rfl) kR rfl ?_|refine D.pl 14 32767 rfl (D.wantedT rfl rfl) kR (R.nea rfl rfl rfl rfl) ?_
 refine Sh.dp 15 65535 ?_;refine Sh.dp 16 131071 ?_;refine D.slot 173 rfl NoF (fun hb=>?_)
 (try simp only [JJ] at hb)
 refine Sh.dp 20 1179647 ?_;refine Sh.dl 17 1310719 ?_;refine Sh.dl 21 3407871 ?_;refine D.eff 18 3670015 rfl (D.wantedT rfl rfl) kR kR (fun _ _ h=>h) ?_;refine WE.guard ?_;refine Z.cl (ycv c s' b' _ _ _ hS (StC.of_so AtF) hv hI2.ok) rfl ?_;clear hS;rintro e w ⟨A6,c6,rfl,_,hS⟩;refine ⟨_,rfl,?_⟩;refine HMs ?_;refine Sh.dp 19 4194303 ?_;refine Sh.dp 22 8388607 ?_;refine Sh.dp 23 16777215 ?_;refine Sh.dp 24 33554431 ?_;refine D.slot 181 rfl NoF (fun hb=>?_)
 (try simp only [JJ] at hb)
 refine Sh.dl 25 67108863 ?_;refine D.eff 26 134217727 rfl (D.wantedT rfl rfl) kR kR (fun _ _ h=>h) ?_;refine WE.guard ?_;refine dQ (ygc V k0 c s' b' _ _ _ hS hv hI2 hk0 (StC.of_so AtF)) ?_;intro w hS;refine Sh.dp 27 268435455 ?_;refine Sh.dp 28 536870911 ?_;refine D.dn ?_;refine sQ ?_;intro w hS;refine Sh.again (l3.length - (i+1)) [(23,.int .i64 (tk+y6)),(24,.int .i64 (i+1:Nat))] ?_;exact ⟨i+1,tk+y6,s',s',b',rfl,oM,oM,hI2,rfl,hS.sb⟩
end Go.Proofs.YtfmnjbhncnldmaaGreat
namespace Go.Proofs.YtfmnjbhncnldmaaGreat
open Go.RowKit Go.ChangeShapes Go.WideShapes Go.ChangeAt
theorem Tryz.own:ownKnob Tryz.prog.godebug=none:=by kernel_rfl
theorem Tryz.laidOut:laidOutB Tryz.prog=true:=by kernel_rfl
section
variable {H:Type} {enc:TypeId×Value→H} {P:Program}
theorem trodAll_stays (hl:laidOutB P=true) {W W':World} {sp:Nat→Bool} (hb:Below W.heap.size W W') :
  ∀ {ts:List TypeId} {vs:List Value} {ds:List (DataW H)} {ps:List MemPlace},(∀ t∈ts,P.readableRec t=true∧t < P.types.size)→(∀ x∈ps,x.block < W.heap.size)→(∀ x∈ps,sp x.block=true)→
   DataW.TrodAll enc P W 0 (fun _=>true) true ts vs ds ps→DataW.TrodAll enc P W' 0 sp true ts vs ds ps:=by
 intro ts
 induction ts with
 | nil=>intro vs ds ps _ _ _ h;cases vs<;>cases ds<;>first|exact h|exact h.elim
 | cons t ts ih=>
  intro vs ds ps hts hlt hsp h
  cases vs with
  | nil=>exact h.elim
  | cons v vs=>
   cases ds with
   | nil=>exact h.elim
   | cons d ds=>
    obtain ⟨p,q,h1,h2,rfl⟩:=h;have hlp:∀ x∈p,x.block < W.heap.size:=fun x hx=>hlt x (List.mem_append_left _ hx)
    refine ⟨p,q,WideElems.Trod_stays hl (hts t (by simp)).1 (hts t (by simp)).2 h1 (fun x hx=>hb.same (hlp x hx)) (fun x hx=>hsp x (List.mem_append_left _ hx)),
     ih (fun t ht=>hts t (by simp [ht])) (fun x hx=>hlt x (List.mem_append_right _ hx)) (fun x hx=>hsp x (List.mem_append_right _ hx)) h2,rfl⟩
theorem ygL {f:Func} {s:ChangeSpec} {W W':World} {args:Array Value} {ds gs:List (DataW H)} {before:List MemPlace} {tb:TypeId} (hl:laidOutB P=true) (hts:∀ t∈f.params.toList,P.readableRec t=true∧t < P.types.size)
  (hv:s.vars=[]) (hr:f.resultTypes=#[tb]) (hu:P.underlying tb=some .bool) (hfn:s.fn H ds={ results:=[.lit (.bool true)],args:=ds })
  (hW:DataW.Whole enc P f.params.toList s.vars false W args.toList ds gs before) (hb:Below W.heap.size W W') {fresh handsOn again:Bool} :
  s.post enc P f false fresh handsOn again W args (.bool true) W':=by
 have hlt:∀ p∈before,p.block < W.heap.size:=fun p hp=>hW.lt p hp
 obtain ⟨pa,pv,hA,hV,hps,hz,hn⟩:=id hW;rw [hv] at hV;obtain ⟨rfl,rfl⟩:=trodVars_none hV;simp only [List.append_nil] at hps;subst hps;have hold:∀ p∈before,(fun b=>decide (b < W.heap.size)) p.block=true:=fun p hp=>by simpa using hlt p hp
 have hfn':s.fn H (ds++[])={ results:=[.lit (.bool true)],args:=ds }:=by rw [List.append_nil];exact hfn
 have hres:∀ (b:Nat) (sp:Nat→Bool) (hd:Bool),DataW.TrodAll enc P W' b sp hd f.resultTypes.toList ((Value.bool true).resultList f.resultTypes.size) [.lit (.bool true)] []:=by
  intro b sp hd;rw [hr];exact ⟨[],[],shut_bool hu true,rfl,rfl⟩
 refine ⟨ds,[],before,[],before,[],hW,?_,?_,?_,World.keptBut_mono (fun p hp=>⟨hp,.inr (.inl hp)⟩) (hb.frame (·∈before)),fun _=>⟨?_,.lit (.bool true)::ds,[],before,⟨before,[],?_,?_,by simp,?_,?_⟩,fun p hp _=>hp⟩⟩
 ·rw [hfn'];exact hres _ _ _
 ·rw [hfn'];exact trodAll_stays hl hb hts hlt hold hA
 ·rw [hfn',hv];rfl
 ·intro j t r hj hr';rw [hr] at hj hr'
  match j with
  | 0=>simp at hj;subst hj;simp [Value.resultList] at hr';subst hr';exact okWide_bool_mk hu true
  | j+1=>simp at hj
 ·rw [hr];exact ⟨[],before,shut_bool hu true,trodAll_stays hl hb hts hlt (fun _ _=>rfl) hA,rfl⟩
 ·rw [hv];rfl
 ·intro b off hp;rw [hb.frozen (hlt _ hp)];exact hz b off hp
 ·intro ha;cases ha
end
end Go.Proofs.YtfmnjbhncnldmaaGreat
namespace Go.Proofs.YtfmnjbhncnldmaaGreat
open Go.RowKit Go.ChangeShapes Go.WideShapes Go.ChangeAt Go.Deep
section
variable {H:Type} {enc:TypeId×Value→H} {P:Program} {w:World} {base:Nat} {spare:Nat→Bool} {held:Bool}
theorem ybx {α:Type} (f:α→List Value) {t e:TypeId} {fuel sz:Nat} {A:Option Addr} {len cap:Nat} {x:DataW H×List MemPlace} (ht:P.underlying t=some (.slice e)) (hsz:P.cellsOf e=sz) (h0:0 < sz)
  (hf:∀ x,(f x).length=sz∧∀ u,u∈f x→u.oneCell'=true) (hel:∀ n cs y,DataW.trod enc P w base spare held n e cs=some y→∃ x,cs=f x)
  (h:DataW.trod enc P w base spare held fuel t (Value.slice A len cap).cells.toList=some x):∃ l:List α,l.length=len∧Rows' w sz (.slice A len cap) (l.map f):=by
 rcases open_slice ht h with ⟨hcs,_⟩|⟨a,len',cap',m,n,D,Pl,hcs,_,hl,hm,hmm,_,hi⟩
 ·simp [Value.cells] at hcs
  obtain ⟨rfl,rfl,rfl⟩:=hcs;exact ⟨[],rfl,by simp,none,0,rfl,fun _=>rfl,Nat.le_refl _,by simp,by simp⟩
 ·simp [Value.cells] at hcs
  obtain ⟨rfl,rfl,rfl⟩:=hcs;have hlm:len≤m:=by rw [hmm];split<;>omega
  have key:∀ i:Fin len,∃ x:α,∀ j,j < sz→w.cell? (a.add (i.val * sz+j))=(f x)[j]?:=by
   intro i;obtain ⟨cs',hc,ht'⟩:=hi i.val oM;obtain ⟨x,rfl⟩:=hel _ _ _ ht';obtain ⟨_,hcl,hat⟩:=World.cells?_some hc;rw [hsz] at hat
   exact ⟨x,fun j hj=>by rw [← add_add',hat j hj]⟩
  obtain ⟨g,hg⟩:=Classical.axiomOfChoice key;have hrow:∀ row,row∈(List.ofFn g).map f→row.length=sz:=fun row hr=>by
   obtain ⟨x,_,rfl⟩:=List.mem_map.1 hr;exact (hf x).1
  refine ⟨List.ofFn g,by simp,fun row hr=>?_,some a,cap,by simp,by simp,by simpa using hl,by rw [flatten_length hrow],fun hpos=>⟨a,rfl,fun j u hu=>?_⟩⟩
  ·obtain ⟨x,_,rfl⟩:=List.mem_map.1 hr;exact hf x
  ·have hj:j < len * sz:=by
    have:=(List.getElem?_eq_some_iff.1 hu).1;rw [flatten_length hrow] at this
    simpa using this
   have hq:j / sz < len:=(Nat.div_lt_iff_lt_mul h0).2 hj;have hr:j % sz < sz:=Nat.mod_lt _ h0;have he:j / sz * sz+j % sz=j:=Nat.div_add_mod' j sz;have:=flatten_at hrow (q:=j / sz) (by simpa using hq) hr;rw [he,hu] at this;have h2:=hg ⟨j / sz,hq⟩ _ hr;simp only [he] at h2;rw [h2,this]
   simp
theorem yah {t:TypeId} {cs:List Value} {xs:List (DataW H×List MemPlace)} {i k n:Nat} (ht:P.underlying t=some (.int .i64)) (h1:P.cellsOf t=1) (hl:xs.length=n) (hi:i < n)
  (h:DataW.trod enc P w base spare held k t (cs.take (P.cellsOf t))=xs[i]?):∃ z,cs.take 1=[.int .i64 z]:=by
 rw [h1,List.getElem?_eq_getElem oM] at h;obtain ⟨z,hz,_⟩:=DataW.trod_int ht h;exact ⟨z,hz⟩
theorem ycA {t:TypeId} {cs:List Value} {xs:List (DataW H×List MemPlace)} {i k n:Nat} (ht:P.underlying t=some .string) (h1:P.cellsOf t=1) (hl:xs.length=n) (hi:i < n)
  (h:DataW.trod enc P w base spare held k t (cs.take (P.cellsOf t))=xs[i]?):∃ z,cs.take 1=[.string z]:=by
 rw [h1,List.getElem?_eq_getElem oM] at h;obtain ⟨z,hz,_⟩:=DataW.trod_string ht h;exact ⟨z,hz⟩
end
theorem Tryz.cellsI:Tryz.prog.cellsOf 3=1:=by kernel_rfl
theorem Tryz.cellsS:Tryz.prog.cellsOf 9=1:=by kernel_rfl
theorem rd_ints {W:World} {a:Addr} {len:Nat} {zs:List Int} (hz:len≤zs.length) (hc:∀ j,j < zs.length→W.cell? (a.add j)=some (.int .i64 (zs.getD j 0))):Rd W 1 (some a) (zs.take len).length ((zs.take len).map (Value.int .i64)):=by
 refine ⟨by simp,fun _=>⟨a,rfl,fun j u hu=>?_⟩⟩;rw [List.getElem?_map,List.getElem?_take] at hu
 split at hu
 ·rename_i hj;rw [List.getElem?_eq_getElem oM] at hu
  simp at hu
  rw [hc j oM,← hu]
  simp [List.getD,List.getElem?_eq_getElem (show j < zs.length by omega)]
 ·simp at hu
section
variable {H:Type} {enc:TypeId×Value→H} {w:World} {base:Nat} {spare:Nat→Bool} {held:Bool}
set_option maxRecDepth 100000 in
theorem ydT {v:Value} {d:DataW H} {p:List MemPlace} {b0:Nat} (hv:Value.okWide Tryz.prog w .any b0 3 v) (h:DataW.Trod enc Tryz.prog w base spare held 3 v d p):∃ z,v=.int .i64 z∧-9223372036854775808≤z∧z≤9223372036854775807:=by
 obtain ⟨fuel,hf⟩:=h;obtain ⟨z,hz,_,hw⟩:=DataW.trod_int Tryz.underlying3 hf;have:v=.int .i64 z:=by
  unfold Value.okWide at hv;rw [Tryz.underlying3] at hv;simp only [Cell.okWide,Cell.ok,Tryz.underlying3] at hv
  cases v<;>simp_all [Value.cells]
 refine ⟨z,this,?_⟩;have e1:IntKind.i64.min = -9223372036854775808:=rfl;have e2:IntKind.i64.max=9223372036854775807:=rfl;simp only [Lit.wf,IntKind.has,e1,e2,Bool.and_eq_true,decide_eq_true_eq] at hw;exact hw
set_option maxRecDepth 100000 in
set_option maxRecDepth 100000 in
theorem yjl {v:Value} {d:DataW H} {p:List MemPlace} {b0:Nat} (hv:Value.okWide Tryz.prog w .any b0 48 v) (h:DataW.Trod enc Tryz.prog w base (fun _=>true) held 48 v d p) :
  ∃ (l:List Int) (A:Option Addr) (cap:Nat),v=.slice A l.length cap∧Rd w 1 A l.length (l.map (Value.int .i64)):=by
 obtain ⟨a0,len,cap,rfl⟩:=okWide_slice Tryz.underlying48 hv;obtain ⟨fuel,hf⟩:=h
 rcases open_ints Tryz.underlying48 Tryz.underlying3 Tryz.cellsI hf with ⟨hcs,hx⟩|⟨a,len',cap',zs,hcs,_,hl,hm,hz,hx,hcell,hwz⟩
 ·simp [Value.cells] at hcs
  obtain ⟨rfl,rfl,rfl⟩:=hcs;exact ⟨[],none,0,rfl,Rd.zero _ _ _⟩
 ·simp [Value.cells] at hcs
  obtain ⟨rfl,rfl,rfl⟩:=hcs;simp only [if_true] at hz;have hlt:(zs.take len).length=len:=by simp;omega
  exact ⟨zs.take len,some a,cap,by rw [hlt],rd_ints oM hcell⟩
set_option maxRecDepth 100000 in
theorem ybA {n:Nat} {cs:List Value} {y:DataW H×List MemPlace} (h:DataW.trod enc Tryz.prog w base spare held n 149 cs=some y):∃ x:Ch,cs=x.cells:=by
 obtain ⟨xs,k,_,_,hlen,hxl,hf⟩:=DataW.trod_struct Tryz.underlying149 h;rw [show Tryz.prog.cellsOf 149=8 by kernel_rfl] at hlen
 match cs,hlen with
 | [c0,c1,c2,c3,c4,c5,c6,c7],_=>
  obtain ⟨z0,e0⟩:=yah (cs:=[c0,c1,c2,c3,c4,c5,c6,c7]) Tryz.underlying3 Tryz.cellsI hxl (by decide) (hf 0 _ rfl);obtain ⟨z1,e1⟩:=yah (cs:=[c1,c2,c3,c4,c5,c6,c7]) Tryz.underlying3 Tryz.cellsI hxl (by decide) (hf 1 _ rfl);obtain ⟨z2,e2⟩:=yah (cs:=[c2,c3,c4,c5,c6,c7]) Tryz.underlying3 Tryz.cellsI hxl (by decide) (hf 2 _ rfl);obtain ⟨z3,e3⟩:=yah (cs:=[c3,c4,c5,c6,c7]) Tryz.underlying3 Tryz.cellsI hxl (by decide) (hf 3 _ rfl);obtain ⟨z4,e4⟩:=yah (cs:=[c4,c5,c6,c7]) Tryz.underlying3 Tryz.cellsI hxl (by decide) (hf 4 _ rfl);obtain ⟨z5,e5⟩:=yah (cs:=[c5,c6,c7]) Tryz.underlying3 Tryz.cellsI hxl (by decide) (hf 5 _ rfl);obtain ⟨z6,e6⟩:=ycA (cs:=[c6,c7]) Tryz.underlying9 Tryz.cellsS hxl (by decide) (hf 6 _ rfl);obtain ⟨z7,e7⟩:=ycA (cs:=[c7]) Tryz.underlying9 Tryz.cellsS hxl (by decide) (hf 7 _ rfl)
  simp at e0 e1 e2 e3 e4 e5 e6 e7
  exact ⟨⟨z0,z1,z2,z3,z4,z5,z6,z7⟩,by simp [Ch.cells, *]⟩
set_option maxRecDepth 100000 in
set_option maxRecDepth 100000 in
theorem yi9 {v:Value} {d:DataW H} {p:List MemPlace} {b0:Nat} (hv:Value.okWide Tryz.prog w .any b0 129 v) (h:DataW.Trod enc Tryz.prog w base spare held 129 v d p) :
  ∃ (l:List Ch) (A:Option Addr) (cap:Nat),v=.slice A l.length cap∧Rows' w 8 v (l.map Ch.cells):=by
 obtain ⟨a0,len,cap,rfl⟩:=okWide_slice Tryz.underlying129 hv;obtain ⟨fuel,hf⟩:=h;obtain ⟨l,hl,hr⟩:=ybx Ch.cells Tryz.underlying129 (show Tryz.prog.cellsOf 149=8 by kernel_rfl) oM (fun x=>⟨rfl,by simp [Ch.cells,Value.oneCell']⟩) (fun n cs y h=>ybA h) hf;subst hl;exact ⟨l,a0,cap,rfl,hr⟩
end
structure St3 where
 wh:Int
 a:Int
 b:Int
def St3.cells (x:St3):List Value:=[.int .i64 x.wh,.int .i64 x.a,.int .i64 x.b]
section
variable {H:Type} {enc:TypeId×Value→H} {w:World} {base:Nat} {spare:Nat→Bool} {held:Bool}
set_option maxRecDepth 100000 in
theorem yfI {n:Nat} {cs:List Value} {y:DataW H×List MemPlace} (h:DataW.trod enc Tryz.prog w base spare held n 29 cs=some y):∃ x:St3,cs=x.cells:=by
 obtain ⟨xs,k,_,_,hlen,hxl,hf⟩:=DataW.trod_struct Tryz.underlying29 h;rw [show Tryz.prog.cellsOf 29=3 by kernel_rfl] at hlen
 match cs,hlen with
 | [c0,c1,c2],_=>
  obtain ⟨z0,e0⟩:=yah (cs:=[c0,c1,c2]) Tryz.underlying3 Tryz.cellsI hxl (by decide) (hf 0 _ rfl);obtain ⟨z1,e1⟩:=yah (cs:=[c1,c2]) Tryz.underlying3 Tryz.cellsI hxl (by decide) (hf 1 _ rfl);obtain ⟨z2,e2⟩:=yah (cs:=[c2]) Tryz.underlying3 Tryz.cellsI hxl (by decide) (hf 2 _ rfl)
  simp at e0 e1 e2
  exact ⟨⟨z0,z1,z2⟩,by simp [St3.cells, *]⟩
set_option maxRecDepth 100000 in
theorem yjk {v:Value} {d:DataW H} {p:List MemPlace} {b0:Nat} (hv:Value.okWide Tryz.prog w .any b0 22 v) (h:DataW.Trod enc Tryz.prog w base spare held 22 v d p) :
  ∃ (l:List St3) (A:Option Addr) (cap:Nat),v=.slice A l.length cap∧Rows' w 3 v (l.map St3.cells):=by
 obtain ⟨a0,len,cap,rfl⟩:=okWide_slice Tryz.underlying22 hv;obtain ⟨fuel,hf⟩:=h;obtain ⟨l,hl,hr⟩:=ybx St3.cells Tryz.underlying22 (show Tryz.prog.cellsOf 29=3 by kernel_rfl) oM (fun x=>⟨rfl,by simp [St3.cells,Value.oneCell']⟩) (fun n cs y h=>yfI h) hf;subst hl;exact ⟨l,a0,cap,rfl,hr⟩
end
end Go.Proofs.YtfmnjbhncnldmaaGreat
namespace Go.Proofs.YtfmnjbhncnldmaaGreat
open Go.RowKit
attribute [local irreducible] Res.blk Res.sl Res.all Res.ex Res.pure Res.star
theorem andT {a b:Bool} (h:a=true) (k:b=true):(a && b)=true:=by rw [h,k];rfl
theorem ycj:mapsRowed Tryz.prog=true:=by kernel_rfl
theorem yck:(Rows.topKeptRow.plainKeys == Tryz.prog.plainKeys)=true:=by kernel_rfl
theorem ybW:Tryz.prog.stopsHeard=true:=by kernel_rfl
theorem yeA:(Tryz.prog.stops == [])=true:=by kernel_rfl
theorem yez:(Tryz.prog.stopKnobs == [])=true:=by kernel_rfl
theorem ycQ:Tryz.prog.mayEnter=true:=by kernel_rfl
theorem ydC:(Rows.topKeptRow.lifted == Tryz.prog.liftsFinal)=true:=by kernel_rfl
theorem yfm:(Tryz.prog.make == some Rows.topKeptRow.make)=true:=by kernel_rfl
def Shp.val (m:Shp) (v:Value):Value:=.agg #[.int .i64 m.ep,.int .i64 m.seq,.int .i64 m.before,v]
end Go.Proofs.YtfmnjbhncnldmaaGreat
namespace Go.Proofs.YtfmnjbhncnldmaaGreat
open Go.RowKit Go.ChangeShapes Go.WideShapes Go.ChangeAt Go.Deep
structure ShV where
 m:Shp
 A:Option Addr
 c:Nat
def ShV.v (x:ShV):Value:=.slice x.A x.m.ch.length x.c
def ShV.cells (x:ShV):List Value:=[.int .i64 x.m.ep,.int .i64 x.m.seq,.int .i64 x.m.before,x.v]
theorem ShV.one (x:ShV):x.cells.length=4∧∀ u,u∈x.cells→u.oneCell'=true:=⟨rfl,by simp [ShV.cells,ShV.v,Value.oneCell']⟩
section
variable {H:Type} {enc:TypeId×Value→H} {w:World} {base:Nat} {spare:Nat→Bool} {held:Bool}
set_option maxRecDepth 100000 in
theorem ydo {n:Nat} {cs:List Value} {y:DataW H×List MemPlace} (h:DataW.trod enc Tryz.prog w base spare held n 129 cs=some y) :
  ∃ (l:List Ch) (A:Option Addr) (cap:Nat),cs=[.slice A l.length cap]∧Rows' w 8 (.slice A l.length cap) (l.map Ch.cells):=by
 have key:∃ (a0:Option Addr) (len cap:Nat),cs=[.slice a0 len cap]:=by
  rcases open_slice Tryz.underlying129 h with ⟨hcs,_⟩|⟨a,len',cap',m,n,D,Pl,hcs,_⟩
  ·exact ⟨_,_,_,hcs⟩
  ·exact ⟨_,_,_,hcs⟩
 obtain ⟨a0,len,cap,rfl⟩:=key;obtain ⟨l,hl,hr⟩:=ybx Ch.cells Tryz.underlying129 (show Tryz.prog.cellsOf 149=8 by kernel_rfl) oM (fun x=>⟨rfl,by simp [Ch.cells,Value.oneCell']⟩) (fun n cs y h=>ybA h) h;subst hl;exact ⟨l,a0,cap,rfl,hr⟩
theorem ycR {cs:List Value} {xs:List (DataW H×List MemPlace)} {i k n:Nat} (hl:xs.length=n) (hi:i < n)
  (h:DataW.trod enc Tryz.prog w base spare held k 129 (cs.take (Tryz.prog.cellsOf 129))=xs[i]?):∃ (l:List Ch) (A:Option Addr) (cap:Nat),cs.take 1=[.slice A l.length cap]∧Rows' w 8 (.slice A l.length cap) (l.map Ch.cells):=by
 rw [show Tryz.prog.cellsOf 129=1 by kernel_rfl,List.getElem?_eq_getElem oM] at h;exact ydo h
set_option maxRecDepth 100000 in
theorem yfH {n:Nat} {cs:List Value} {y:DataW H×List MemPlace} (h:DataW.trod enc Tryz.prog w base spare held n 131 cs=some y) :
  ∃ x:ShV,cs=x.cells∧Rows' w 8 x.v (x.m.ch.map Ch.cells):=by
 obtain ⟨xs,k,_,_,hlen,hxl,hf⟩:=DataW.trod_struct Tryz.underlying131 h;rw [show Tryz.prog.cellsOf 131=4 by kernel_rfl] at hlen
 match cs,hlen with
 | [c0,c1,c2,c3],_=>
  obtain ⟨z0,e0⟩:=yah (cs:=[c0,c1,c2,c3]) Tryz.underlying3 Tryz.cellsI hxl (by decide) (hf 0 _ rfl);obtain ⟨z1,e1⟩:=yah (cs:=[c1,c2,c3]) Tryz.underlying3 Tryz.cellsI hxl (by decide) (hf 1 _ rfl);obtain ⟨z2,e2⟩:=yah (cs:=[c2,c3]) Tryz.underlying3 Tryz.cellsI hxl (by decide) (hf 2 _ rfl);obtain ⟨l,A,cap,e3,hr⟩:=ycR (cs:=[c3]) hxl (by decide) (hf 3 _ rfl)
  simp at e0 e1 e2 e3
  exact ⟨⟨⟨z0,z1,z2,l⟩,A,cap⟩,by simp [ShV.cells,ShV.v, *],hr⟩
set_option maxRecDepth 100000 in
theorem ybh {v:Value} {d:DataW H} {p:List MemPlace} {b0:Nat} (hv:Value.okWide Tryz.prog w .any b0 48 v) (h:DataW.Trod enc Tryz.prog w base (fun _=>true) held 48 v d p) :
  ∃ (l:List Int) (A:Option Addr) (cap:Nat),v=.slice A l.length cap∧Rd w 1 A l.length (l.map (Value.int .i64))∧Rows' w 1 v (l.map intC):=by
 obtain ⟨a0,len,cap,rfl⟩:=okWide_slice Tryz.underlying48 hv;obtain ⟨fuel,hf⟩:=h
 rcases open_ints Tryz.underlying48 Tryz.underlying3 Tryz.cellsI hf with ⟨hcs,hx⟩|⟨a,len',cap',zs,hcs,_,hl,hm,hz,hx,hcell,hwz⟩
 ·simp [Value.cells] at hcs
  obtain ⟨rfl,rfl,rfl⟩:=hcs;exact ⟨[],none,0,rfl,Rd.zero _ _ _,rows_ints (l:=[]) (fun _=>rfl) (by simp) (Rd.zero _ _ _)⟩
 ·simp [Value.cells] at hcs
  obtain ⟨rfl,rfl,rfl⟩:=hcs;simp only [if_true] at hz;have hlt:(zs.take len).length=len:=by simp;omega
  have hr:=rd_ints (W:=w) (a:=a) (len:=len) (zs:=zs) oM hcell;refine ⟨zs.take len,some a,cap,by rw [hlt],hr,?_⟩;have h2:=rows_ints (c:=cap) (fun h=>by cases h) (by rw [hlt];omega) hr;rw [hlt] at h2;exact h2
set_option maxRecDepth 100000 in
set_option maxRecDepth 100000 in
theorem yjj {v:Value} {d:DataW H} {p:List MemPlace} {b0:Nat} (hv:Value.okWide Tryz.prog w .any b0 135 v) (h:DataW.Trod enc Tryz.prog w base spare held 135 v d p) :
  ∃ (l:List ShV) (A:Option Addr) (cap:Nat),v=.slice A l.length cap∧Rows' w 4 v (l.map ShV.cells)∧∀ x,x∈l→Rows' w 8 x.v (x.m.ch.map Ch.cells):=by
 obtain ⟨a0,len,cap,rfl⟩:=okWide_slice Tryz.underlying135 hv;obtain ⟨fuel,hf⟩:=h;obtain ⟨l,hl,hr⟩:=ybx (fun x:{x:ShV // Rows' w 8 x.v (x.m.ch.map Ch.cells)}=>x.1.cells) Tryz.underlying135 (show Tryz.prog.cellsOf 131=4 by kernel_rfl) oM (fun x=>x.1.one)
  (fun n cs y h=>by obtain ⟨x,hx,hr⟩:=yfH h;exact ⟨⟨x,hr⟩,hx⟩) hf
 subst hl;refine ⟨l.map Subtype.val,a0,cap,by simp,?_,fun x hx=>?_⟩
 ·rw [List.map_map];exact hr
 ·obtain ⟨y,_,rfl⟩:=List.mem_map.1 hx;exact y.2
end
end Go.Proofs.YtfmnjbhncnldmaaGreat
namespace Go.Proofs.YtfmnjbhncnldmaaGreat
open Go.RowKit
attribute [local irreducible] Res.blk Res.sl Res.all Res.ex Res.pure Res.star
open Go.ChangeShapes Go.WideShapes Go.ChangeAt
set_option maxRecDepth 100000 in
theorem topBlast_lifted (os:Os) (started:os.Started) (H:Type) (enc:TypeId×Value→H) :
  ReturnsInHanded {} Tryz.checked os 5 .any (Rows.topBlastSpec.pre6 enc Tryz.prog Tryz.f5 Rows.topBlastRow.domain false) (Rows.topBlastSpec.post enc Tryz.prog Tryz.f5 false Rows.topBlastRow.fresh Rows.topBlastRow.handsOn Rows.topBlastRow.again):=by
 refine returnsInHanded_of_change (C:=Tryz.checked) Tryz.own started kR Tryz.func5
  (ChangeSpec.witness6 (enc:=enc) (C:=Tryz.checked) false ⟨#[],#[.slice none 0 0,.slice none 0 0,.int .i64 0,.int .i64 0,.slice none 0 0],[]⟩ 8 kR kR kR kR) ?_
 intro W base args ds gs before hval0 hW _ _;have hval:∀ (j:Nat) t v,Tryz.f5.params[j]?=some t→args[j]?=some v→Value.okWide Tryz.prog W .any base t v:=hval0;have hW0:=hW;obtain ⟨p,q,hA0,hV,hpq,_,_⟩:=hW;obtain ⟨la⟩:=args;have hA:DataW.TrodAll enc Tryz.prog W 0 (fun _=>true) true [48,48,3,3,48] la ds p:=by have:=hA0;rw [Tryz.params5] at this;exact this
 rw [Tryz.params5] at hval;obtain ⟨v0,la0,d0,ds0,p0,q0,rfl,rfl,rfl,h0,hA⟩:=trodAll_cons hA;obtain ⟨v1,la1,d1,ds1,p1,q1,rfl,rfl,rfl,h1,hA⟩:=trodAll_cons hA;obtain ⟨v2,la2,d2,ds2,p2,q2,rfl,rfl,rfl,h2,hA⟩:=trodAll_cons hA;obtain ⟨v3,la3,d3,ds3,p3,q3,rfl,rfl,rfl,h3,hA⟩:=trodAll_cons hA;obtain ⟨v4,la4,d4,ds4,p4,q4,rfl,rfl,rfl,h4,hA⟩:=trodAll_cons hA;obtain ⟨rfl,rfl,rfl⟩:=trodAll_nil hA;obtain ⟨l0,A0,cap0,rfl,_,hr0⟩:=ybh (hval 0 _ _ rfl rfl) h0;obtain ⟨l1,A1,cap1,rfl,_,hr1⟩:=ybh (hval 1 _ _ rfl rfl) h1;obtain ⟨z2,rfl,hr2⟩:=ydT (hval 2 _ _ rfl rfl) h2;obtain ⟨z3,rfl,hr3⟩:=ydT (hval 3 _ _ rfl rfl) h3;obtain ⟨l4,A4,cap4,rfl,_,hr4⟩:=ybh (hval 4 _ _ rfl rfl) h4;have fin:Calls Tryz.prog 5 _ W fun e W'=>e=.returned (.bool true)∧Chg [] W W':=topBlast_z l0 A0 cap0 l1 A1 cap1 z2 z3 l4 A4 cap4 W hr0 hr1 hr2 hr3 hr4
 refine fin.mono fun e W' ⟨he,hc⟩=>⟨_,he,?_⟩
 exact ygL Tryz.laidOut (by rw [Tryz.params5];intro t ht;simp only [List.mem_cons,List.not_mem_nil,or_false] at ht;rcases ht with rfl|rfl|rfl|rfl|rfl<;>exact ⟨kR,of_decide_eq_true kR⟩) rfl rfl Tryz.underlying4 rfl hW0 hc.below
theorem topBlast_f0:Tryz.prog.funcNamed Rows.topBlastRow.func=some 5:=by kernel_rfl
theorem topBlast_f1:(Rows.topBlastRow.inPlace == Tryz.prog.inPlace 5)=true:=by kernel_rfl
theorem topBlast_f2:(Rows.topBlastRow.unfollowed == Tryz.prog.unfollowed 5)=true:=by kernel_rfl
theorem topBlast_f3:(Rows.topBlastRow.recurses == Tryz.prog.recurses 5)=true:=by kernel_rfl
theorem topBlast_f4:(Rows.topBlastRow.named == Tryz.prog.varsNamed 5)=true:=by kernel_rfl
theorem topBlast_closed:joinedFacts Tryz.prog 5 Tryz.f5 Rows.topBlastSpec Rows.topBlastRow=true:=by
 unfold joinedFacts;exact (andT (andT (andT (andT (andT (andT (andT (andT (andT (andT (andT (andT (andT (andT (andT (andT (andT (andT (andT (andT (andT (andT (andT (andT (andT (andT (andT (andT (andT (andT (andT kR Tryz.laidOut) ycj) kR) kR) kR) yeA) kR) yez) topBlast_f1) topBlast_f2) topBlast_f3) topBlast_f4) kR) kR) kR) kR) kR) kR) kR) kR) kR) yck) kR) ybW) ycQ) ydC) yfm) kR) kR) kR) kR)
theorem topBlast_holds:Rows.TopBlastSaid:=
 OpenClaim.holds_of_wide 5 Tryz.f5 rfl rfl rfl rfl rfl rfl rfl ⟨rfl,rfl,rfl,rfl,rfl⟩ rfl rfl rfl rfl rfl topBlast_f0 Tryz.func5 topBlast_closed
  (of_decide_eq_true kR) (by unfold Func.isWrapper;rw [if_neg (of_decide_eq_false kR)];exact ⟨rfl,rfl⟩)
  (fun os started H enc _=>topBlast_lifted os started H enc)
end Go.Proofs.YtfmnjbhncnldmaaGreat
