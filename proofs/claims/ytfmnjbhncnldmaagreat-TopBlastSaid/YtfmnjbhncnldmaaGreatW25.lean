import Derived.Test.YtfmnjbhncnldmaaGreatW03
import Derived.Test.YtfmnjbhncnldmaaGreatW19
import Derived.Test.YtfmnjbhncnldmaaGreatW22
import Derived.Test.YtfmnjbhncnldmaaGreatW23
import Derived.Test.YtfmnjbhncnldmaaGreatW24
set_option maxHeartbeats 8000000
set_option linter.unusedSimpArgs false
set_option linter.unusedVariables false
namespace Go.Proofs.YtfmnjbhncnldmaaGreat
open Go.RowKit
attribute [local irreducible] Res.blk Res.sl Res.all Res.ex Res.pure Res.star
def reqB (x:Rq):Bool:=
 if x.tenant < 0∨32≤x.tenant∨x.client < 1∨8 < x.client then false
 else if x.op=1 then decide (x.number=0) && decide (x.item=0) && decide (keyOk x.key) && decide (x.value=⟨#[]⟩)
 else if x.op=2 then decide (numOk x) && decide (x.item=0) && decide (keyOk x.key) && decide (x.value.size≤64)
 else if x.op=3 then decide (numOk x) && decide (x.item=0) && decide (keyOk x.key) && decide (x.value=⟨#[]⟩)
 else if x.op=4 then decide (numOk x) && decide (x.item=0) && decide (x.key=⟨#[]⟩) && decide (x.value.size≤64)
 else if x.op=5 then decide (x.number=0) && decide (x.item=0) && decide (x.key=⟨#[]⟩) && decide (x.value=⟨#[]⟩)
 else if x.op=6 then decide (numOk x) && decide (1≤x.item) && decide (x.item≤4096) && decide (x.key=⟨#[]⟩) && decide (x.value=⟨#[]⟩)
 else false
theorem yif (x:Rq):reqB x=decide (reqOk x):=by
 rw [Bool.eq_iff_iff,decide_eq_true_eq];unfold reqB reqOk
 by_cases h0:x.tenant < 0∨32≤x.tenant∨x.client < 1∨8 < x.client
 ·rw [if_pos h0];constructor
  ·intro h;cases h
  ·rintro ⟨h1,h2,h3,h4,_⟩
   exfalso
   omega
 ·rw [if_neg h0];have h1:0≤x.tenant∧x.tenant < 32∧1≤x.client∧x.client≤8:=by omega
  simp only [h1,true_and]
  by_cases o1:x.op=1
  ·simp [o1,and_assoc]
  by_cases o2:x.op=2
  ·simp [o2,and_assoc]
  by_cases o3:x.op=3
  ·simp [o3,and_assoc]
  by_cases o4:x.op=4
  ·simp [o4,and_assoc]
  by_cases o5:x.op=5
  ·simp [o5,and_assoc]
  by_cases o6:x.op=6
  ·simp [o6,and_assoc]
  simp [o1,o2,o3,o4,o5,o6]
theorem yhL (k:ByteArray) (r:World) (F:List Res) (w:World) (hS:Sep r [] F w):Calls Tryz.prog 193 #[.string k] w fun e w'=>e=.returned (.bool (decide (keyOk k)))∧Sep r [] F w':=by
 refine Z.enter Tryz.func193 Tryz.ntmps193 rfl rfl ?_
 repeat' first|refine K ?_|refine Sa ?_;intro w hS|refine K3 ?_;intro g w hS hge|refine KC ?_ ?_<;>intro hb<;>try exact JX|fail
 all_goals
  refine Dnt Tryz.results193 ?_;refine ⟨?_,hS⟩;simp only [Z.packR]
  congr 2
  first
   | exact decide_eq_decide.2 (by unfold keyOk;omega)
   | exact (decide_eq_false (by unfold keyOk;omega)).symm
   | exact (decide_eq_true (by unfold keyOk;omega)).symm
theorem yhM (k:ByteArray) (r:World) (F:List Res) (w:World) (hS:Sep r [] F w):Calls Tryz.prog 194 #[.string k] w fun e w'=>e=.returned (.bool (decide (k.size≤64)))∧Sep r [] F w':=by
 refine Z.enter Tryz.func194 Tryz.ntmps194 rfl rfl ?_
 repeat' first|refine K ?_|refine Sa ?_;intro w hS|refine K3 ?_;intro g w hS hge|refine KC ?_ ?_<;>intro hb<;>try exact JX|fail
 all_goals
  refine Dnt Tryz.results194 ?_;refine ⟨?_,hS⟩;simp only [Z.packR]
  congr 2
  rw [decide_eq_decide];omega
theorem yfQ (x:Rq) (r:World) (F:List Res) (w:World) (hS:Sep r [] F w):Calls Tryz.prog 103 #[x.val] w fun e w'=>e=.returned (.bool (reqB x))∧Sep r [] F w':=by
 refine Z.enter Tryz.func103 Tryz.ntmps103 rfl rfl ?_
 repeat' (first|refine K ?_|(refine Sh.sa hS ?_;clear hS;intro w hS)|(refine K3 ?_;clear hS;intro g w hS hge)|(refine KB ?_ ?_<;>intro hb<;>(try simp only [JJ] at hb)<;>(try exact JX))|fail|(refine Z.eff (Z.cl (yhL _ _ _ _ hS) rfl ?_) rfl;clear hS;rintro e w ⟨rfl,hS⟩;refine ⟨_,rfl,?_⟩)|(refine Z.eff (Z.cl (yhM _ _ _ _ hS) rfl ?_) rfl;clear hS;rintro e w ⟨rfl,hS⟩;refine ⟨_,rfl,?_⟩))
 all_goals
  refine Dnt Tryz.results103 ?_;refine ⟨?_,hS.sb⟩;clear hS;simp only [Z.packR]
  congr 2
  rw [eq_comm];unfold reqB
  first
   | (rw [if_pos oM];done)
   | (have hn:numOk x:=⟨oM,oM⟩;rw [if_neg oM];simp_all;done)
   | (have hn:¬ numOk x:=(by unfold numOk;omega);rw [if_neg oM];simp_all;done)
   | (rw [if_neg oM];simp_all;done)
   | (rw [if_neg oM];simp_all;omega)
theorem ygt (gx:Nat) (t:It) (x:Rq) (r:World) (F:List Res) (w:World) (hS:Sep r [] F w) {k:List Res} (ha:At F k (.blk gx 122 x.cells)):Calls Tryz.prog 273 #[t.val,.pointer (some ⟨gx,0,none⟩)] w fun e w'=>e=.returned (.bool (decide (t.number=x.item)))∧Sep r [] F w':=by
 refine Z.enter Tryz.func273 Tryz.ntmps273 rfl rfl ?_;refine aQ1 ?_;intro g w hS;refine Z.eff (Z.ld hS rfl (At.next ha) rfl ?_) rfl;refine sQ ?_;intro w hS;refine Dnt Tryz.results273 ?_;exact ⟨rfl,hS.sb⟩
theorem it_contains (p:It→Bool) (FC:FuncId) [HasF Tryz.prog FC] (caps:List Value) (l:List It) (v:Value) (r:World) (F:List Res) (w:World) (hS:Sep r [] F w) (hrd:Reads r F 2 v (l.map It.cells)) (hl:l.length≤100000)
  (hp:∀ (L:List Res) (w:World) (x:It),Sep r [] (L++F) w→Calls Tryz.prog FC (x.val::caps).toArray w fun e w'=>e=.returned (.bool (p x))∧Sep r [] (L++F) w') :
  Calls Tryz.prog 272 #[v,.func (.func FC) #[] caps.toArray] w fun e w'=>e=.returned (.bool (l.any p))∧Sep r [] F w':=by
 obtain ⟨A,c,rfl,hc⟩:=(hrd [] w hS).mform;refine Z.enter Tryz.func272 Tryz.ntmps272 rfl rfl ?_;refine sQ ?_;intro w hS;refine cQ (it_index p FC caps l _ _ _ _ hS hrd hl hp) rfl ?_;clear hS;rintro e w ⟨k,rfl,hS,hk⟩;refine eQ ?_;intro w hS;refine Dnt Tryz.results272 ?_;refine ⟨?_,hS⟩
 rcases hk with ⟨rfl,hno⟩|⟨q,hq,rfl,hyes,_⟩
 ·have:l.any p=false:=by rw [List.any_eq_false];intro x hx;rw [hno x hx];simp
  rw [this]
  rfl
 ·have:l.any p=true:=List.any_eq_true.2 ⟨l[q],by simp,hyes⟩;rw [this]
  simp [Z.packR]
def gvV (o:Option Ce):ByteArray:=match o with|some c=>c.value|none=>⟨#[]⟩
def gvS (o:Option Ce):Int:=match o with|some c=>c.seq|none=>0
theorem ycm (o:Option Ce):getV o=.tuple #[.string (gvV o),.int .i64 (gvS o),.bool o.isSome]:=by cases o<;>rfl
theorem yh1 (g:Nat) (cell ten:Int) (vg:Value) (c:Cp) (ep tk:Int) (x:Rq) (r:World) (F:List Res) (w:World) (hS:Sep r [] (PC g cell ten vg c::F) w) (hc:CG c) (hss:SSort c.s) (hx:reqOk x) (h1:x.op≠1) (h5:x.op≠5) :
  Calls Tryz.prog 198 #[.pointer (some ⟨g,0,.none⟩),.int .i64 ep,.int .i64 tk,x.val] w fun e w'=>e=.returned (.tuple #[.int .i64 (if refuse c x (holdsP c.q.r x.client ep x.item tk)=0 then kindOp x.op else 0),.int .i64 (refuse c x (holdsP c.q.r x.client ep x.item tk))])∧Sep r [] (PC g cell ten vg c::F) w':=by
 obtain ⟨A,cap,gs,gq,gt,hS⟩:=Sep.PC_open.1 hS;have hok:=hc.ok;have hks:x.key.size≤maxLen:=by
  obtain ⟨_,_,_,_,ho⟩:=hx;unfold maxLen
  rcases ho with ⟨_,_,_,⟨_,_⟩,_⟩|⟨_,_,_,⟨_,_⟩,_⟩|⟨_,_,_,⟨_,_⟩,_⟩|⟨_,_,_,e,_⟩|⟨_,_,_,e,_⟩|⟨_,_,_,e,_⟩
  all_goals first|omega|(rw [e];decide)
 have hop:x.op=2∨x.op=3∨x.op=4∨x.op=6:=by
  obtain ⟨_,_,_,_,ho⟩:=hx
  rcases ho with ho|ho|ho|ho|ho|ho
  all_goals have:=ho.1;omega
 refine Z.enter Tryz.func198 Tryz.ntmps198 rfl rfl ?_;refine aQ1 ?_;intro gx w hS;refine D.startS (Lr:=[.blk g 162 _,.blk gx 122 x.cells]) (hS.sb) 15 15 kR rfl ?_;replace hS:=hS.drew;refine Sh.dp 0 1 ?_;refine Sh.dp 1 3 ?_;refine Sh.dp 2 7 ?_;refine Sh.dp 3 15 ?_;refine Sh.dp 5 47 ?_;refine Sh.dl 4 63 ?_;refine Sh.dl 6 127 ?_;refine D.ef 7 255 ?_;replace hS:=hS.fo (R:=PS gs c.s);refine Z.cl (ycq gs c.s x.key _ _ _ hS hss hks) rfl ?_;clear hS;rintro e w ⟨rfl,hS⟩;refine ⟨_,rfl,?_⟩;rw [ycm];refine HMs ?_;refine Sh.dp 8 511 ?_;refine Sh.dp 9 1023 ?_;refine Sh.dp 10 2047 ?_;refine Sh.dp 11 4095 ?_;refine Sh.dp 12 8191 ?_;refine Sh.dp 13 16383 ?_;refine Sh.dp 14 32767 ?_;refine D.dn ?_;generalize hhd:holdsP c.q.r x.client ep x.item tk=hold at *
 rcases hop with o|o|o|o
 ·repeat' first|refine K ?_|refine Sa ?_;intro w hS|refine K3 ?_;intro g w hS hge|refine KC ?_ ?_<;>intro hb<;>try exact JX|fail
  ·replace hS:=hS.fo (R:=PS gs c.s);refine cQ (yg2 gs c.s _ _ _ hS hss oM) rfl ?_;clear hS;rintro e w ⟨Ak,ck,rfl,hS⟩;refine ⟨_,rfl,?_⟩
   repeat' first|refine K ?_|refine Sa ?_;intro w hS|refine K3 ?_;intro g w hS hge|refine KC ?_ ?_<;>intro hb<;>try exact JX|fail
   ·refine Dntt Tryz.results198 ?_;have hr:refuse c x hold=33:=by unfold refuse;rw [if_pos o,if_pos ⟨by assumption,oM⟩]
    rw [hr];exact ⟨rfl,Sep.PC_open.2 ⟨_,_,_,_,_,hS.sb⟩⟩
   ·refine Dntt Tryz.results198 ?_;have hr:refuse c x hold=0:=by unfold refuse;rw [if_pos o,if_neg oM]
    rw [hr,o];exact ⟨rfl,Sep.PC_open.2 ⟨_,_,_,_,_,hS.sb⟩⟩
  ·refine Dntt Tryz.results198 ?_;have hr:refuse c x hold=0:=by unfold refuse;rw [if_pos o,if_neg (by rintro ⟨h,_⟩;simp_all)]
   rw [hr,o];exact ⟨rfl,Sep.PC_open.2 ⟨_,_,_,_,_,hS.sb⟩⟩
 ·repeat' first|refine K ?_|refine Sa ?_;intro w hS|refine K3 ?_;intro g w hS hge|refine KC ?_ ?_<;>intro hb<;>try exact JX|fail
  ·refine Dntt Tryz.results198 ?_;have hr:refuse c x hold=34:=by unfold refuse;rw [if_neg oM,if_pos o,if_pos (by assumption)]
   rw [hr];exact ⟨rfl,Sep.PC_open.2 ⟨_,_,_,_,_,hS.sb⟩⟩
  ·refine Dntt Tryz.results198 ?_;have hr:refuse c x hold=0:=by unfold refuse;rw [if_neg oM,if_pos o,if_neg (by simp_all)]
   rw [hr,o];exact ⟨rfl,Sep.PC_open.2 ⟨_,_,_,_,_,hS.sb⟩⟩
 ·refine sQ ?_;intro w hS;replace hS:=hS.fo (R:=PQ gq c.q);refine cQ (ycG gq c.q _ _ _ hS oM) rfl ?_;clear hS;rintro e w ⟨Ak,ck,rfl,hS⟩;refine ⟨_,rfl,?_⟩
  repeat' first|refine K ?_|refine Sa ?_;intro w hS|refine K3 ?_;intro g w hS hge|refine KC ?_ ?_<;>intro hb<;>try exact JX|fail
  ·refine Dntt Tryz.results198 ?_;have hr:refuse c x hold=33:=by unfold refuse;rw [if_neg oM,if_neg oM,if_pos o,if_pos oM]
   rw [hr];exact ⟨rfl,Sep.PC_open.2 ⟨_,_,_,_,_,hS.sb⟩⟩
  ·refine Dntt Tryz.results198 ?_;have hr:refuse c x hold=0:=by unfold refuse;rw [if_neg oM,if_neg oM,if_pos o,if_neg oM]
   rw [hr,o];exact ⟨rfl,Sep.PC_open.2 ⟨_,_,_,_,_,hS.sb⟩⟩
 ·refine sQ ?_;intro w hS;replace hS:=hS.fo (R:=PQ gq c.q);refine cQ (ycG gq c.q _ _ _ hS oM) rfl ?_;clear hS;rintro e w ⟨Ak,ck,rfl,hS⟩;refine eQ ?_;intro w hS;refine cQ (it_contains (fun t=>decide (t.number=x.item)) 273 [.pointer (some ⟨gx,0,none⟩)] c.q.l _ _ _ _ hS (Reads.of_at (e:=228) (v:=.slice Ak c.q.l.length ck) AtF) oM (fun L w t h=>ygt gx t x r _ w h (at_app L AtF))) rfl ?_;clear hS;rintro e w ⟨rfl,hS⟩;refine ⟨_,rfl,?_⟩;rw [show (c.q.l.any fun t=>decide (t.number=x.item))=waitsB c.q.l x.item from rfl];have hr0:refuse c x hold=if waitsB c.q.l x.item then (if hold then 0 else 35) else 34:=by unfold refuse;rw [if_neg oM,if_neg oM,if_neg oM]
  rw [hr0,o]
  repeat' first|refine K ?_|refine Sa ?_;clear hS;intro w hS|refine K3 ?_;clear hS;intro g w hS hge|refine KC ?_ ?_<;>intro hb<;>try exact JX|fail
  ·refine Dntt Tryz.results198 ?_;rename waitsB c.q.l x.item=false=>hw;rw [hw];exact ⟨rfl,Sep.PC_open.2 ⟨_,_,_,_,_,hS.sb⟩⟩
  ·rename waitsB c.q.l x.item=true=>hw;rw [hw];refine D.startS (Lr:=[.blk g 162 _,.blk gx 122 x.cells]) (hS.sb) 13 13 kR rfl ?_;replace hS:=hS.drew;refine Sh.dp 0 1 ?_;refine Sh.dp 1 3 ?_;refine Sh.dp 2 7 ?_;refine Sh.dp 3 15 ?_;refine Sh.dp 5 47 ?_;refine Sh.dp 7 175 ?_;refine Sh.dp 8 431 ?_;refine Sh.dp 10 1455 ?_;refine Sh.dl 4 1471 ?_;refine Sh.dl 6 1535 ?_;refine Sh.dl 9 2047 ?_;refine D.ef 11 4095 ?_;replace hS:=hS.fo (R:=PQ gq c.q);refine Z.cl (yfO gq c.q x.client ep x.item tk _ _ _ hS oM) rfl ?_;clear hS;rintro e w ⟨rfl,hS⟩;refine ⟨_,rfl,?_⟩;rw [hhd];refine HMs ?_;refine Sh.dp 12 8191 ?_;refine D.dn ?_
   repeat' first|refine K ?_|refine Sa ?_;clear hS;intro w hS|refine K3 ?_;clear hS;intro g w hS hge|refine KC ?_ ?_<;>intro hb<;>try exact JX|fail
   ·refine Dntt Tryz.results198 ?_;rename hold=false=>hh;rw [hh];exact ⟨rfl,Sep.PC_open.2 ⟨_,_,_,_,_,hS.sb⟩⟩
   ·refine Dntt Tryz.results198 ?_;rename hold=true=>hh;rw [hh];exact ⟨rfl,Sep.PC_open.2 ⟨_,_,_,_,_,hS.sb⟩⟩
theorem CG.cok {c:Cp} (h:CG c):COk c:=by
 have hg:=h.good.cok;have hq:=h.ok;exact ⟨hg.t,hg.ss,hg.s,hg.l,oM⟩
theorem yfL (g:Nat) (cell ten:Int) (vg:Value) (c:Cp) (r:World) (F:List Res) (w:World) (hS:Sep r [] (PC g cell ten vg c::F) w) (hl:c.h.length≤5000) :
  Calls Tryz.prog 105 #[.pointer (some ⟨g,0,.none⟩)] w fun e w'=>e=.returned (.int .i64 (epochOf c.h))∧Sep r [] (PC g cell ten vg c::F) w':=by
 obtain ⟨A,cap,gs,gq,gt,hS⟩:=Sep.PC_open.1 hS;exact (pepoch_o g _ _ _ _ _ _ _ c.h r _ w hS (Reads.of_at (e:=149) .here) hl).mono fun e w' ⟨he,hS⟩=>⟨he,Sep.PC_open.2 ⟨A,cap,gs,gq,gt,hS⟩⟩
theorem yg3 (gp:Nat) (cell ten:Int) (vg:Value) (c:Cp) (ep tk:Int) (x:Rq) (r:World) (F:List Res) (w:World) (hS:Sep r [] (PC gp cell ten vg c::F) w) (hc:CG c) (hx:reqOk x) (h1:x.op≠1) (h5:x.op≠5) (he1:1≤ep) (he2:ep≤1048576) (hep:epochOf c.h≤ep) (hl:c.h.length≤4300) :
  Calls Tryz.prog 108 #[.pointer (some ⟨gp,0,.none⟩),.int .i64 ep,.int .i64 tk,x.val] w fun e w'=>e=.returned (wrQ c ep x (holdsP c.q.r x.client ep x.item tk)).p.val∧Sep r [] (PC gp cell ten vg (wrQ c ep x (holdsP c.q.r x.client ep x.item tk)).c::F) w':=by
 have hcok:=hc.cok;have hwok:=fun (hold:Bool) (hf:(findB c.t x.client x.number).2=34) (h4:¬ 4096≤c.h.length) (hr:refuse c x hold=0)=>yhs hc.cw hx h1 h5 he1 he2 hep hf h4 hr
 unfold wrQ;generalize hR:findB c.t x.client x.number=R at *;refine Z.enter Tryz.func108 Tryz.ntmps108 rfl rfl ?_
 repeat' first|refine K ?_|refine Sa ?_;clear hS;intro w hS|refine K3 ?_;clear hS;intro g w hS hge|refine KC ?_ ?_<;>intro hb<;>try exact JX|fail
 rename Nat=>g8;refine Z.cut [9,10,12,13,14,15,16,17,18,19,20,21,22,23,24] (fun w s=>∃ g9,s=[(9,.pointer (some ⟨g9,0,.none⟩)),(10,.int .i64 R.2)]∧Sep r [] (PC gp cell ten vg c::.blk g9 114 R.1.cells::.blk g 122 x.cells::.blk g8 114 [.int .i64 0,.int .i64 0,.int .i64 0,.string ⟨#[]⟩]::F) w) ?_ ?_
 ·obtain ⟨A,cap,gs,gq,gt,hS⟩:=Sep.PC_open.1 (hS.focus (R:=PC gp cell ten vg c) AtF);refine D.startS (Lr:=[.blk gp 162 _,.blk g 122 x.cells]) (hS.sb) 14 16 kR rfl ?_;replace hS:=hS.drew;refine Sh.dp 0 1 ?_;refine Sh.dp 1 3 ?_;refine Sh.dp 2 7 ?_;refine Sh.dp 3 15 ?_;refine Sh.dp 5 47 ?_;refine Sh.dp 7 175 ?_;refine Sh.dl 4 191 ?_;refine Sh.dl 6 255 ?_;refine Sh.dl 8 511 ?_;refine D.each [9,13] kR rfl ?_;refine D.econs 9 1023 rfl D.wantedN kR (fun _ _ h=>h) ?_ ?_
  ·replace hS:=hS.fo (R:=PT gt c.t);refine dQ (ycp x.client x.number R hR hS hcok.t) ?_;intro w hS;refine Sh.dp 10 2047 ?_;refine Sh.dp 11 4095 ?_;refine Sh.dp 12 8191 ?_;refine D.ef 13 16383 ?_;refine Z.al hS ?_;clear hS;intro g w hS hge;refine HMs ?_;refine D.ef 14 32767 ?_;refine Z.st hS rfl AtF rfl rfl ?_;clear hS;intro w hS;refine HMl ?_;refine Sh.dp 15 65535 ?_;refine D.dn ?_;refine Sh.cut [(9,_),(10,_)] ?_;exact ⟨_,rfl,Sep.PC_open.2 ⟨A,cap,gs,gq,gt,hS.sb⟩⟩
  refine D.econs 13 8703 rfl D.wantedN kR (fun _ _ h=>h) ?_ ?_
  ·refine Z.al hS ?_;clear hS;intro g w hS hge;refine HMs ?_;refine D.ef 9 9215 ?_;replace hS:=hS.fo (R:=PT gt c.t);refine dQ (ycp x.client x.number R hR hS hcok.t) ?_;intro w hS;refine Sh.dp 10 10239 ?_;refine Sh.dp 11 12287 ?_;refine Sh.dp 12 16383 ?_;refine D.ef 14 32767 ?_;refine Z.st hS rfl AtF rfl rfl ?_;clear hS;intro w hS;refine HMl ?_;refine Sh.dp 15 65535 ?_;refine D.dn ?_;refine Sh.cut [(9,_),(10,_)] ?_;exact ⟨_,rfl,Sep.PC_open.2 ⟨A,cap,gs,gq,gt,hS.sb⟩⟩
  exact D.enil
 clear hS;rintro q1 w _ ⟨g9,rfl,hS⟩
 repeat' first|refine K ?_|refine Sa ?_;intro w hS|refine K3 ?_;intro g w hS hge|refine KC ?_ ?_<;>intro hb<;>try exact JX|fail
 ·refine Dnc Tryz.results108 ?_;rw [if_pos (by assumption)];exact ⟨rfl,hS.sb⟩
 ·refine Dnc Tryz.results108 ?_;rw [if_neg (by assumption),if_neg (by assumption)];exact ⟨rfl,hS.sb⟩
 rename R.2=34=>h34;rw [if_neg oM,if_pos h34];refine cQ (yeg gp cell ten vg c _ _ _ hS) rfl ?_;clear hS;rintro e w ⟨rfl,hS⟩;refine ⟨_,rfl,?_⟩
 repeat' first|refine K ?_|refine Sa ?_;intro w hS|refine K3 ?_;intro g w hS hge|refine KC ?_ ?_<;>intro hb<;>try exact JX|fail
 ·refine Dnc Tryz.results108 ?_;rw [if_pos oM];exact ⟨rfl,hS.sb⟩
 rw [if_neg oM];generalize hhd:holdsP c.q.r x.client ep x.item tk=hold at *;refine cQ (yh1 gp cell ten vg c ep tk x _ _ _ hS hc hcok.ss hx h1 h5) rfl ?_;clear hS;rintro e w ⟨rfl,hS⟩;refine ⟨_,rfl,?_⟩;rw [hhd]
 by_cases hr:refuse c x hold=0
 ·obtain ⟨hw1,hw2⟩:=hwok hold h34 oM hr;rw [if_pos hr,if_pos hr,hr];refine sQ ?_;intro w hS;refine D.startS (Lr:=[.blk g 122 x.cells]) (hS.sb) 19 19 kR rfl ?_;replace hS:=hS.drew;refine Sh.dp 0 1 ?_;refine Sh.dp 1 3 ?_;refine Sh.dp 2 7 ?_;refine Sh.dp 5 39 ?_;refine Sh.dp 6 103 ?_;refine Sh.dp 8 359 ?_;refine Sh.dp 10 1383 ?_;refine Sh.dp 12 5479 ?_;refine Sh.dp 14 21863 ?_;refine Sh.dl 7 21991 ?_;refine Sh.dl 9 22503 ?_;refine Sh.dl 11 24551 ?_;refine Sh.dl 13 32743 ?_;refine Sh.dl 15 65511 ?_;refine D.ef 3 65519 ?_;replace hS:=hS.fo (R:=PC gp _ _ _ _);refine dQ (yeg gp cell ten vg c _ _ _ hS) ?_;intro w hS
  first|refine D.sum 4 65535 rfl D.wantedN kR rfl (by constructor<;>omega) ?_|refine D.sumW 4 65535 rfl D.wantedN kR rfl ?_
  first|refine D.bu 16 131071 rfl D.wantedN kR rfl rfl ?_|refine D.buA 16 131071 rfl D.wantedN kR rfl rfl ?_
  refine D.ef 17 262143 ?_;replace hS:=hS.fo (R:=PC gp _ _ _ _);refine Z.cl (yfK gp cell ten vg c (chOf c ep x) _ _ _ hS hcok oM) rfl ?_;clear hS;rintro e w ⟨rfl,hS⟩;refine ⟨_,rfl,?_⟩;rw [hw1];refine HMs ?_;refine Sh.dp 18 524287 ?_;refine D.dn ?_;refine sQ ?_;intro w hS;generalize hc2:(cApp c (chOf c ep x)).1=c2 at *;have hcg2:CG c2:=by rw [← hc2];exact (hc.app _).1
  obtain ⟨A,cap,gs,gq,gt,hS⟩:=Sep.PC_open.1 (hS.focus (R:=PC gp cell ten vg c2) AtF);refine D.startS (Lr:=[.blk gp 162 _,.blk g 122 x.cells]) (hS.sb) 13 14 kR rfl ?_;replace hS:=hS.drew;refine Sh.dp 0 1 ?_;refine Sh.dp 1 3 ?_;refine Sh.dp 2 7 ?_;refine Sh.dp 3 15 ?_;refine Sh.dp 5 47 ?_;refine Sh.dp 7 175 ?_;refine Sh.dl 4 191 ?_;refine Sh.dl 6 255 ?_;refine Sh.dl 8 511 ?_;refine D.ef 9 1023 ?_;replace hS:=hS.fo (R:=PT gt c2.t);refine dQ (ycp x.client x.number _ hw2 hS hcg2.cok.t) ?_;intro w hS;refine Sh.dp 10 2047 ?_;refine Sh.dp 11 4095 ?_;refine Sh.dp 12 8191 ?_;refine D.ef 13 16383 ?_;refine Z.st hS rfl AtF rfl rfl ?_;clear hS;intro w hS;refine HMl ?_;refine D.dn ?_;refine sQ ?_;intro w hS;refine Dnc Tryz.results108 ?_;exact ⟨rfl,Sep.PC_open.2 ⟨A,cap,gs,gq,gt,hS.sb⟩⟩
 ·rw [if_neg hr,if_neg hr];refine sQ ?_;intro w hS;refine Dnc Tryz.results108 ?_;exact ⟨rfl,hS.sb⟩
theorem ybV (a b:Int):decide (b < a) = !decide (a≤b):=by
 by_cases h:a≤b
 ·rw [decide_eq_true h,decide_eq_false oM];rfl
 ·rw [decide_eq_false h,decide_eq_true oM];rfl
theorem reqOk.key {x:Rq} (hx:reqOk x):x.key.size≤maxLen:=by
 obtain ⟨_,_,_,_,ho⟩:=hx;unfold maxLen
 rcases ho with ⟨_,_,_,⟨_,_⟩,_⟩|⟨_,_,_,⟨_,_⟩,_⟩|⟨_,_,_,⟨_,_⟩,_⟩|⟨_,_,_,e,_⟩|⟨_,_,_,e,_⟩|⟨_,_,_,e,_⟩
 all_goals first|omega|(rw [e];decide)
theorem yht {G:Ga} {v t:Int} (hw:∀ y,y∈G.ws→1≤y.epoch∧y.epoch≤1048576):0≤accs G.ws v t 0∧accs G.ws v t 0≤1048576:=by
 obtain ⟨a1,_,a3⟩:=ycW G.ws v t 0
 rcases a3 with a3|⟨y,hy,_,e⟩
 ·omega
 ·have:=hw y hy;omega
theorem yhX (gp gg:Nat) (cell ten:Int) (c:Cp) (G:Ga) (ver tk:Int) (x:Rq) (r:World) (F:List Res) (w:World) (hS:Sep r [] (PC gp cell ten (.pointer (some ⟨gg,0,.none⟩)) c::GP gg G::F) w) (hc:CG c) (hw:∀ y,y∈G.ws→1≤y.epoch∧y.epoch≤1048576) (hgl:G.ws.length≤100000) (hl:c.h.length≤4300) :
  Calls Tryz.prog 44 #[.pointer (some ⟨gp,0,.none⟩),.int .i64 ver,.int .i64 tk,x.val] w fun e w'=>e=.returned (exP c ten (accs G.ws ver tk 0) tk x).p.val∧Sep r [] (PC gp cell ten (.pointer (some ⟨gg,0,.none⟩)) (exP c ten (accs G.ws ver tk 0) tk x).c::GP gg G::F) w':=by
 have hcok:=hc.cok;have hab:=yht (G:=G) (v:=ver) (t:=tk) hw;unfold exP exQ;refine Z.enter Tryz.func44 Tryz.ntmps44 rfl rfl ?_
 repeat' first|refine K ?_|refine Sa ?_;clear hS;intro w hS|refine K3 ?_;clear hS;intro g w hS hge|refine KC ?_ ?_<;>intro hb<;>try exact JX|fail
 rename Nat=>g8;refine Z.cut [18,19,20,21,22,23,24,25,26,27,28,29,30,31,32,33,34,35,36,37] (fun w s=>s=[(37,.bool (!decide (reqOk x∧x.tenant=ten∧0≤tk∧tk≤1073741824)))]∧Sep r [] (PC gp cell ten (.pointer (some ⟨gg,0,.none⟩)) c::.blk g 122 x.cells::.blk g8 114 [.int .i64 0,.int .i64 0,.int .i64 0,.string ⟨#[]⟩]::GP gg G::F) w) ?_ ?_
 ·obtain ⟨A,cap,gs,gq,gt,hS⟩:=Sep.PC_open.1 (hS.focus (R:=PC gp cell ten _ c) AtF);refine D.startS (Lr:=[.blk gp 162 _,.blk g 122 x.cells]) (hS.sb) 20 20 kR rfl ?_;replace hS:=hS.drew;refine Sh.dl 0 1 ?_;refine D.ef 1 3 ?_;refine Z.cl (yfQ x _ _ _ hS) rfl ?_;clear hS;rintro e w ⟨rfl,hS⟩;refine ⟨_,rfl,?_⟩;rw [yif];refine HMs ?_;refine Sh.dp 2 7 ?_;refine Sh.dp 3 15 ?_;refine D.slot 21 rfl (fun hb=>?_) (fun hb=>?_)
  ·(try simp only [JJ] at hb)
   refine D.sk 4 31 ?_;refine D.sk 5 63 ?_;refine D.sk 6 127 ?_;refine D.sk 7 255 ?_;refine D.sk 8 511 ?_;refine D.sk 9 1023 ?_;refine D.sk 10 2047 ?_;refine Sh.dp 11 4095 ?_;refine Sh.dp 12 8191 ?_;refine D.sk 13 16383 ?_;refine D.sk 14 32767 ?_;refine Sh.dp 15 65535 ?_;refine Sh.dp 16 131071 ?_;refine D.sk 17 262143 ?_;refine D.sk 18 524287 ?_;refine Sh.dp 19 1048575 ?_;refine D.dn ?_;refine Sh.cut [(37,_)] ?_;refine ⟨?_,Sep.PC_open.2 ⟨A,cap,gs,gq,gt,hS.sb⟩⟩
   first
    | (simp_all;done)
    | (simp_all;omega)
    | (simp_all;exact ybV _ _)
  ·(try simp only [JJ] at hb)
   refine Sh.dp 4 31 ?_;refine Sh.dp 6 95 ?_;refine Sh.dp 7 223 ?_;refine Sh.dp 8 479 ?_;refine Sh.dl 5 511 ?_;refine Sh.dl 9 1023 ?_
   first|refine D.pr 10 2047 rfl (D.wantedT rfl rfl) kR rfl ?_|refine D.pl 10 2047 rfl (D.wantedT rfl rfl) kR (R.nea rfl rfl rfl rfl) ?_
   refine Sh.dp 11 4095 ?_;refine Sh.dp 12 8191 ?_;refine D.slot 30 rfl (fun hb=>?_) (fun hb=>?_)
   ·(try simp only [JJ] at hb)
    refine D.sk 13 16383 ?_;refine D.sk 14 32767 ?_;refine Sh.dp 15 65535 ?_;refine Sh.dp 16 131071 ?_;refine D.sk 17 262143 ?_;refine D.sk 18 524287 ?_;refine Sh.dp 19 1048575 ?_;refine D.dn ?_;refine Sh.cut [(37,_)] ?_;refine ⟨?_,Sep.PC_open.2 ⟨A,cap,gs,gq,gt,hS.sb⟩⟩
    first
     | (simp_all;done)
     | (simp_all;omega)
     | (simp_all;exact ybV _ _)
   ·(try simp only [JJ] at hb)
    refine Sh.dp 13 16383 ?_;refine Sh.dp 14 32767 ?_;refine Sh.dp 15 65535 ?_;refine Sh.dp 16 131071 ?_;refine D.slot 34 rfl (fun hb=>?_) (fun hb=>?_)
    ·(try simp only [JJ] at hb)
     refine D.sk 17 262143 ?_;refine D.sk 18 524287 ?_;refine Sh.dp 19 1048575 ?_;refine D.dn ?_;refine Sh.cut [(37,_)] ?_;refine ⟨?_,Sep.PC_open.2 ⟨A,cap,gs,gq,gt,hS.sb⟩⟩
     first
      | (simp_all;done)
      | (simp_all;omega)
      | (simp_all;exact ybV _ _)
    ·(try simp only [JJ] at hb)
     refine Sh.dp 17 262143 ?_;refine Sh.dp 18 524287 ?_;refine Sh.dp 19 1048575 ?_;refine D.dn ?_;refine Sh.cut [(37,_)] ?_;refine ⟨?_,Sep.PC_open.2 ⟨A,cap,gs,gq,gt,hS.sb⟩⟩
     first
      | (simp_all;done)
      | (simp_all;omega)
      | (simp_all;exact ybV _ _)
 clear hS;rintro q1 w _ ⟨rfl,hS⟩
 by_cases hrq:reqOk x∧x.tenant=ten∧0≤tk∧tk≤1073741824
 rotate_left
 ·rw [if_neg hrq,decide_eq_false hrq];refine sQ ?_;intro w hS;refine Dnc Tryz.results44 ?_;exact ⟨rfl,hS.sb⟩
 rw [if_pos hrq,decide_eq_true hrq];obtain ⟨hx,hten,ht0,ht1⟩:=hrq;obtain ⟨A,cap,gs,gq,gt,hS⟩:=Sep.PC_open.1 (hS.focus (R:=PC gp cell ten _ c) AtF);refine sQ ?_;intro w hS;refine Z.pl R.mfb ?_
 repeat' first|refine K ?_|refine Sa ?_;intro w hS|refine K3 ?_;intro g w hS hge|refine KC ?_ ?_<;>intro hb<;>try exact JX|fail
 have hS:=hS.focus (R:=GP gg G) AtF;refine Z.eff (Z.clb rfl (yeE gg G ver tk _ _ _ hS hgl) rfl ?_) rfl;clear hS;rintro _ w ⟨rfl,hS⟩;refine ⟨_,rfl,?_⟩;generalize hacc:accs G.ws ver tk 0=acc at *;have hS:Sep r [] (PC gp cell ten (.pointer (some ⟨gg,0,.none⟩)) c::.blk g 122 x.cells::.blk g8 114 [.int .i64 0,.int .i64 0,.int .i64 0,.string ⟨#[]⟩]::GP gg G::F) w:=Sep.PC_open.2 ⟨A,cap,gs,gq,gt,hS.sb⟩
 repeat' first|refine K ?_|refine Sa ?_;intro w hS|refine K3 ?_;intro g w hS hge|refine KC ?_ ?_<;>intro hb<;>try exact JX|fail
 ·rw [if_neg oM]
  repeat' first|refine K ?_|refine Sa ?_;intro w hS|refine K3 ?_;intro g w hS hge|refine KC ?_ ?_<;>intro hb<;>try exact JX|fail
  refine Dnc Tryz.results44 ?_;exact ⟨rfl,hS.sb⟩
 refine cQ (yfL gp cell ten _ c _ _ _ hS oM) rfl ?_;clear hS;rintro e w ⟨rfl,hS⟩;refine ⟨_,rfl,?_⟩
 repeat' first|refine K ?_|refine Sa ?_;intro w hS|refine K3 ?_;intro g w hS hge|refine KC ?_ ?_<;>intro hb<;>try exact JX|fail
 ·rw [if_neg oM];refine Dnc Tryz.results44 ?_;exact ⟨rfl,hS.sb⟩
 ·rw [if_pos oM,if_pos (by assumption)];obtain ⟨A,cap,gs,gq,gt,hS⟩:=Sep.PC_open.1 (hS.focus (R:=PC gp cell ten _ c) AtF)
  rcases hat:atK c.s x.key with _|y
  ·refine D.startS (Lr:=[.blk gp 162 _,.blk g 122 x.cells]) (hS.sb) 15 15 kR rfl ?_;replace hS:=hS.drew;refine Sh.dp 0 1 ?_;refine Sh.dp 1 3 ?_;refine Sh.dp 2 7 ?_;refine Sh.dp 3 15 ?_;refine Sh.dp 5 47 ?_;refine Sh.dl 4 63 ?_;refine Sh.dl 6 127 ?_;refine D.ef 7 255 ?_;replace hS:=hS.fo (R:=PS gs c.s);refine Z.cl (ycq gs c.s x.key _ _ _ hS hcok.ss hx.key) rfl ?_;clear hS;rintro e w ⟨rfl,hS⟩;refine ⟨_,rfl,?_⟩;rw [hat,ycm];refine HMs ?_;refine Sh.dp 8 511 ?_;refine Sh.dp 9 1023 ?_;refine Sh.dp 10 2047 ?_;refine Sh.dp 11 4095 ?_;refine Sh.dp 12 8191 ?_;refine Sh.dp 13 16383 ?_;refine Sh.dp 14 32767 ?_;refine D.dn ?_
   repeat' first|refine K ?_|refine Sa ?_;intro w hS|refine K3 ?_;intro g w hS hge|refine KC ?_ ?_<;>intro hb<;>try exact JX|fail
   refine Dnc Tryz.results44 ?_;exact ⟨rfl,Sep.PC_open.2 ⟨_,_,_,_,_,hS.sb⟩⟩
  ·refine D.startS (Lr:=[.blk gp 162 _,.blk g 122 x.cells]) (hS.sb) 15 15 kR rfl ?_;replace hS:=hS.drew;refine Sh.dp 0 1 ?_;refine Sh.dp 1 3 ?_;refine Sh.dp 2 7 ?_;refine Sh.dp 3 15 ?_;refine Sh.dp 5 47 ?_;refine Sh.dl 4 63 ?_;refine Sh.dl 6 127 ?_;refine D.ef 7 255 ?_;replace hS:=hS.fo (R:=PS gs c.s);refine Z.cl (ycq gs c.s x.key _ _ _ hS hcok.ss hx.key) rfl ?_;clear hS;rintro e w ⟨rfl,hS⟩;refine ⟨_,rfl,?_⟩;rw [hat,ycm];refine HMs ?_;refine Sh.dp 8 511 ?_;refine Sh.dp 9 1023 ?_;refine Sh.dp 10 2047 ?_;refine Sh.dp 11 4095 ?_;refine Sh.dp 12 8191 ?_;refine Sh.dp 13 16383 ?_;refine Sh.dp 14 32767 ?_;refine D.dn ?_
   repeat' first|refine K ?_|refine Sa ?_;intro w hS|refine K3 ?_;intro g w hS hge|refine KC ?_ ?_<;>intro hb<;>try exact JX|fail
   refine Dnc Tryz.results44 ?_;exact ⟨rfl,Sep.PC_open.2 ⟨_,_,_,_,_,hS.sb⟩⟩
 ·rw [if_pos oM,if_neg oM,if_pos (by assumption)];obtain ⟨A,cap,gs,gq,gt,hS⟩:=Sep.PC_open.1 (hS.focus (R:=PC gp cell ten _ c) AtF);have hq:=hc.q;have hqo:=hc.ok;generalize hT:takeP c.q x.client acc tk 20=T at *
  rcases T with ⟨q2,⟨i1,i2⟩,⟨l1,l2,l3,l4⟩,te⟩
  refine Z.cut [15,16,17,84,85,86,87,88,89,90,91,92,93,94,95,96,97] (fun w s=>∃ g15,s=[(15,.pointer (some ⟨g15,0,.none⟩)),(17,.int .i64 te)]∧Sep r [] (PC gp cell ten (.pointer (some ⟨gg,0,.none⟩)) ⟨c.h,c.s,q2,c.t⟩::.blk g15 228 [.int .i64 i1,.string i2]::.blk g 122 x.cells::.blk g8 114 [.int .i64 0,.int .i64 0,.int .i64 0,.string ⟨#[]⟩]::GP gg G::F) w) ?_ ?_
  ·refine D.startS (Lr:=[.blk gp 162 _,.blk g 122 x.cells]) (hS.sb) 17 19 kR rfl ?_;replace hS:=hS.drew;refine Sh.dp 0 1 ?_;refine Sh.dp 1 3 ?_;refine Sh.dp 2 7 ?_;refine Sh.dp 3 15 ?_;refine Sh.dp 5 47 ?_;refine Sh.dp 7 175 ?_;refine Sh.dp 8 431 ?_;refine Sh.dl 4 447 ?_;refine Sh.dl 6 511 ?_;refine D.each [9,14,15] kR rfl ?_;refine D.econs 9 1023 rfl D.wantedN kR (fun _ _ h=>h) ?_ ?_
   ·replace hS:=hS.fo (R:=PQ gq c.q);refine Z.cl (yaP gq c.q x.client acc tk 20 _ _ _ hS oM oM hq.sr) rfl ?_;clear hS;rintro e w ⟨rfl,hS⟩;refine ⟨_,rfl,?_⟩;rw [hT] at hS ⊢;refine HMs ?_;refine Sh.dp 10 2047 ?_;refine Sh.dp 11 4095 ?_;refine Sh.dp 12 8191 ?_;refine Sh.dp 13 16383 ?_;refine D.each [14,15] kR rfl ?_;refine D.econs 14 32767 rfl D.wantedN kR (fun _ _ h=>h) ?_ ?_
    ·refine Z.al hS ?_;clear hS;intro g w hS hge;refine HMs ?_;refine D.ef 15 65535 ?_;refine Z.al hS ?_;clear hS;intro g w hS hge;refine HMs ?_;refine D.ef 16 131071 ?_;refine Z.st hS rfl AtF rfl rfl ?_;clear hS;intro w hS;refine HMs ?_;refine D.ef 17 262143 ?_;refine Z.st hS rfl AtF rfl rfl ?_;clear hS;intro w hS;refine HMl ?_;refine Sh.dp 18 524287 ?_;refine D.dn ?_;refine Sh.cut [(15,_),(17,_)] ?_;exact ⟨_,rfl,Sep.PC_open.2 ⟨A,cap,gs,gq,gt,hS.sb⟩⟩
    refine D.econs 15 49151 rfl D.wantedN kR (fun _ _ h=>h) ?_ ?_
    ·refine Z.al hS ?_;clear hS;intro g w hS hge;refine HMs ?_;refine D.ef 14 65535 ?_;refine Z.al hS ?_;clear hS;intro g w hS hge;refine HMs ?_;refine D.ef 16 131071 ?_;refine Z.st hS rfl AtF rfl rfl ?_;clear hS;intro w hS;refine HMs ?_;refine D.ef 17 262143 ?_;refine Z.st hS rfl AtF rfl rfl ?_;clear hS;intro w hS;refine HMl ?_;refine Sh.dp 18 524287 ?_;refine D.dn ?_;refine Sh.cut [(15,_),(17,_)] ?_;exact ⟨_,rfl,Sep.PC_open.2 ⟨A,cap,gs,gq,gt,hS.sb⟩⟩
    exact D.enil
   refine D.econs 14 16895 rfl D.wantedN kR (fun _ _ h=>h) ?_ ?_
   ·refine Z.al hS ?_;clear hS;intro g w hS hge;refine HMs ?_;refine D.each [9,15] kR rfl ?_;refine D.econs 9 17407 rfl D.wantedN kR (fun _ _ h=>h) ?_ ?_
    ·replace hS:=hS.fo (R:=PQ gq c.q);refine Z.cl (yaP gq c.q x.client acc tk 20 _ _ _ hS oM oM hq.sr) rfl ?_;clear hS;rintro e w ⟨rfl,hS⟩;refine ⟨_,rfl,?_⟩;rw [hT] at hS ⊢;refine HMs ?_;refine Sh.dp 10 18431 ?_;refine Sh.dp 11 20479 ?_;refine Sh.dp 12 24575 ?_;refine Sh.dp 13 32767 ?_;refine D.ef 15 65535 ?_;refine Z.al hS ?_;clear hS;intro g w hS hge;refine HMs ?_;refine D.ef 16 131071 ?_;refine Z.st hS rfl AtF rfl rfl ?_;clear hS;intro w hS;refine HMs ?_;refine D.ef 17 262143 ?_;refine Z.st hS rfl AtF rfl rfl ?_;clear hS;intro w hS;refine HMl ?_;refine Sh.dp 18 524287 ?_;refine D.dn ?_;refine Sh.cut [(15,_),(17,_)] ?_;exact ⟨_,rfl,Sep.PC_open.2 ⟨A,cap,gs,gq,gt,hS.sb⟩⟩
    refine D.econs 15 49663 rfl D.wantedN kR (fun _ _ h=>h) ?_ ?_
    ·refine Z.al hS ?_;clear hS;intro g w hS hge;refine HMs ?_;refine D.ef 9 50175 ?_;replace hS:=hS.fo (R:=PQ gq c.q);refine Z.cl (yaP gq c.q x.client acc tk 20 _ _ _ hS oM oM hq.sr) rfl ?_;clear hS;rintro e w ⟨rfl,hS⟩;refine ⟨_,rfl,?_⟩;rw [hT] at hS ⊢;refine HMs ?_;refine Sh.dp 10 51199 ?_;refine Sh.dp 11 53247 ?_;refine Sh.dp 12 57343 ?_;refine Sh.dp 13 65535 ?_;refine D.ef 16 131071 ?_;refine Z.st hS rfl AtF rfl rfl ?_;clear hS;intro w hS;refine HMs ?_;refine D.ef 17 262143 ?_;refine Z.st hS rfl AtF rfl rfl ?_;clear hS;intro w hS;refine HMl ?_;refine Sh.dp 18 524287 ?_;refine D.dn ?_;refine Sh.cut [(15,_),(17,_)] ?_;exact ⟨_,rfl,Sep.PC_open.2 ⟨A,cap,gs,gq,gt,hS.sb⟩⟩
    exact D.enil
   refine D.econs 15 33279 rfl D.wantedN kR (fun _ _ h=>h) ?_ ?_
   ·refine Z.al hS ?_;clear hS;intro g w hS hge;refine HMs ?_;refine D.each [9,14] kR rfl ?_;refine D.econs 9 33791 rfl D.wantedN kR (fun _ _ h=>h) ?_ ?_
    ·replace hS:=hS.fo (R:=PQ gq c.q);refine Z.cl (yaP gq c.q x.client acc tk 20 _ _ _ hS oM oM hq.sr) rfl ?_;clear hS;rintro e w ⟨rfl,hS⟩;refine ⟨_,rfl,?_⟩;rw [hT] at hS ⊢;refine HMs ?_;refine Sh.dp 10 34815 ?_;refine Sh.dp 11 36863 ?_;refine Sh.dp 12 40959 ?_;refine Sh.dp 13 49151 ?_;refine D.ef 14 65535 ?_;refine Z.al hS ?_;clear hS;intro g w hS hge;refine HMs ?_;refine D.ef 16 131071 ?_;refine Z.st hS rfl AtF rfl rfl ?_;clear hS;intro w hS;refine HMs ?_;refine D.ef 17 262143 ?_;refine Z.st hS rfl AtF rfl rfl ?_;clear hS;intro w hS;refine HMl ?_;refine Sh.dp 18 524287 ?_;refine D.dn ?_;refine Sh.cut [(15,_),(17,_)] ?_;exact ⟨_,rfl,Sep.PC_open.2 ⟨A,cap,gs,gq,gt,hS.sb⟩⟩
    refine D.econs 14 49663 rfl D.wantedN kR (fun _ _ h=>h) ?_ ?_
    ·refine Z.al hS ?_;clear hS;intro g w hS hge;refine HMs ?_;refine D.ef 9 50175 ?_;replace hS:=hS.fo (R:=PQ gq c.q);refine Z.cl (yaP gq c.q x.client acc tk 20 _ _ _ hS oM oM hq.sr) rfl ?_;clear hS;rintro e w ⟨rfl,hS⟩;refine ⟨_,rfl,?_⟩;rw [hT] at hS ⊢;refine HMs ?_;refine Sh.dp 10 51199 ?_;refine Sh.dp 11 53247 ?_;refine Sh.dp 12 57343 ?_;refine Sh.dp 13 65535 ?_;refine D.ef 16 131071 ?_;refine Z.st hS rfl AtF rfl rfl ?_;clear hS;intro w hS;refine HMs ?_;refine D.ef 17 262143 ?_;refine Z.st hS rfl AtF rfl rfl ?_;clear hS;intro w hS;refine HMl ?_;refine Sh.dp 18 524287 ?_;refine D.dn ?_;refine Sh.cut [(15,_),(17,_)] ?_;exact ⟨_,rfl,Sep.PC_open.2 ⟨A,cap,gs,gq,gt,hS.sb⟩⟩
    exact D.enil
   exact D.enil
  clear hS;rintro q1 w _ ⟨g15,rfl,hS⟩
  repeat' first|refine K ?_|refine Sa ?_;intro w hS|refine K3 ?_;intro g w hS hge|refine KC ?_ ?_<;>intro hb<;>try exact JX|fail
  ·refine Dnc Tryz.results44 ?_;rw [if_neg (by assumption)];exact ⟨rfl,hS.sb⟩
  ·refine Dnc Tryz.results44 ?_;rw [if_pos (by assumption)];exact ⟨rfl,hS.sb⟩
 ·rw [if_pos oM,if_neg (by assumption),if_neg (by assumption)];refine cQ (yg3 gp cell ten _ c acc tk x _ _ _ hS hc hx (by assumption) (by assumption) oM oM oM hl) rfl ?_;clear hS;rintro e w ⟨rfl,hS⟩;refine eQ ?_;intro w hS;refine Dnc Tryz.results44 ?_;exact ⟨rfl,hS.sb⟩
theorem Sep.gate0 {r w:World} {F:List Res} {gg:Nat} {cell:Int} (hS:Sep r [] (.blk gg 216 [.int .i64 cell,.int .i64 0,.slice .none 0 0]::F) w):Sep r [] (GP gg ⟨cell,0,[]⟩::F) w:=
 Sep.GP_open.2 ⟨.none,0,(Z.nilsl hS 105 5 .none).sub SuF⟩
theorem ybP (g gg:Nat) (cell ten:Int) (c:Cp) (r:World) (F:List Res) (w:World) (hS:Sep r [] (PC g cell ten (.pointer (some ⟨gg,0,.none⟩)) c::F) w) :
  Calls Tryz.prog 37 #[.pointer (some ⟨g,0,.none⟩)] w fun e w'=>e=.returned (.pointer (some ⟨gg,0,.none⟩))∧Sep r [] (PC g cell ten (.pointer (some ⟨gg,0,.none⟩)) c::F) w':=by
 obtain ⟨A,cap,gs,gq,gt,hS⟩:=Sep.PC_open.1 hS;refine Z.enter Tryz.func37 Tryz.ntmps37 rfl rfl ?_;refine sQ ?_;intro w hS;refine Dnt Tryz.results37 ?_;exact ⟨rfl,Sep.PC_open.2 ⟨A,cap,gs,gq,gt,hS.sb⟩⟩
theorem CG.zero:CG .zero:=Good.cg .zero QOk.zero
end Go.Proofs.YtfmnjbhncnldmaaGreat
