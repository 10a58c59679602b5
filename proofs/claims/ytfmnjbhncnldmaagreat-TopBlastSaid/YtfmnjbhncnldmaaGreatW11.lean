import Derived.Test.YtfmnjbhncnldmaaGreatW10
set_option maxHeartbeats 8000000
set_option linter.unusedSimpArgs false
set_option linter.unusedVariables false
namespace Go.Proofs.YtfmnjbhncnldmaaGreat
open Go.RowKit
attribute [local irreducible] Res.blk Res.sl Res.all Res.ex Res.pure Res.star
def LB (l:List Int) (B:Int):Prop:=∀ x,x∈l→0≤x∧x≤B
theorem yaE (l:List Int) (i n:Int):(addP l i n).length=l.length:=by unfold addP;split<;>simp
theorem addP_bd {l:List Int} {B:Int} (h:LB l B) {n M:Int} (hn:0≤n∧n≤M) (i:Int):LB (addP l i n) (B+M):=by
 unfold addP
 split
 ·rename_i hi;intro x hx
  rcases List.mem_or_eq_of_mem_set hx with hx|rfl
  ·have:=h x hx;omega
  ·have hk:i.toNat < l.length:=by omega
   have e:l.getD i.toNat 0=l[i.toNat]:=by simp [List.getD_eq_getElem?_getD,hk]
   rw [e];have:=h _ (List.getElem_mem hk);omega
 ·intro x hx;have:=h x hx;omega
theorem yfc (l:List Int) (d:Tn) (t:TS):(bookT l d t).length=l.length:=by
 unfold bookT
 split
 ·simp only [yaE]
  split<;>simp [yaE]
 ·rfl
theorem LB.le {l:List Int} {B B':Int} (h:LB l B) (hB:B≤B'):LB l B':=fun x hx=>by have:=h x hx;omega
def TnB (d:Tn):Prop:=(0≤d.load∧d.load≤65536)∧(0≤d.shadow∧d.shadow≤65536)
theorem bookT_bd {l:List Int} {B:Int} (h:LB l B) {d:Tn} (hd:TnB d) (t:TS):LB (bookT l d t) (B+262144):=by
 unfold bookT
 split
 ·simp only
  split
  ·exact (addP_bd (addP_bd h hd.2 _) hd.2 _).le oM
  ·exact (addP_bd (addP_bd (addP_bd (addP_bd h hd.1 _) hd.1 _) hd.2 _) hd.2 _).le oM
 ·exact h.le oM
def bookN (c:Cfg) (s:Sta) (i:Nat):List Int:=((List.zip c.tenants s.tenants).take i).foldl (fun l p=>bookT l p.1 p.2) (List.replicate c.cells.length 0)
theorem ybU {c:Cfg} {s:Sta} {i:Nat} (h1:i < c.tenants.length) (h2:i < s.tenants.length):bookN c s (i+1)=bookT (bookN c s i) c.tenants[i] s.tenants[i]:=by
 unfold bookN;rw [List.take_succ_eq_append_getElem (by rw [List.length_zip];omega),List.foldl_append]
 simp
theorem ycz {c:Cfg} {s:Sta}:bookN c s (min c.tenants.length s.tenants.length)=bookP c s:=by
 unfold bookN bookP;rw [List.take_of_length_le (by rw [List.length_zip];omega)]
theorem CfgV.tnB {c:Cfg} (hv:CfgV c) {d:Tn} (h:d∈c.tenants):TnB d:=by
 have:=hv.tn d h;unfold TnB;omega
theorem ybH {c:Cfg} (hv:CfgV c) (s:Sta):∀ i:Nat,(bookN c s i).length=c.cells.length∧LB (bookN c s i) (262144 * i)
 | 0=>⟨by simp [bookN],fun x hx=>by
   simp [bookN] at hx
   omega⟩
 | i+1=>by
  have ih:=ybH hv s i
  by_cases h:i < c.tenants.length∧i < s.tenants.length
  ·rw [ybU h.1 h.2];exact ⟨by rw [yfc];exact ih.1,(bookT_bd ih.2 (hv.tnB (List.getElem_mem h.1)) _).le oM⟩
  ·have e:bookN c s (i+1)=bookN c s i:=by
    unfold bookN;rw [List.take_of_length_le (by rw [List.length_zip];omega),List.take_of_length_le (by rw [List.length_zip];omega)]
   rw [e];exact ⟨ih.1,ih.2.le oM⟩
theorem yaI (g:Nat) (l:List Int) (n c:Nat) (i z:Int) (r:World) (F:List Res) (w:World) (hS:Sep r [] (.sl 3 1 (.slice (some ⟨g,0,none⟩) n c) (l.map ztC)::F) w) (hn:l.length=n) {B:Int} (hb:LB l B) (hB:B≤100000000) (hz:0≤z∧z≤65536) :
  Calls Tryz.prog 181 #[.slice (some ⟨g,0,none⟩) n c,.int .i64 i,.int .i64 z] w fun e w'=>e=.returned (.tuple #[])∧Sep r [] (.sl 3 1 (.slice (some ⟨g,0,none⟩) n c) ((addP l i z).map ztC)::F) w':=by
 subst hn;unfold addP
 by_cases h:0≤i∧i < l.length
 ·rw [if_pos h];obtain ⟨q,rfl⟩:=Int.eq_ofNat_of_zero_le h.1;have hq:q < l.length:=by omega
  have e:l.getD ((q:Nat):Int).toNat 0=l[q]:=by simp [List.getD_eq_getElem?_getD,hq]
  rw [e,Int.toNat_natCast];have hx:=hb _ (List.getElem_mem hq);have hra:w.rangeAt g (0+q * 1) (ztC l[q]):=by
   have h3:=(hS.slrows .here).elem (q:=q) oM (by simpa using hq)
   simpa using h3
  generalize l[q]=y at *;refine Z.enter Tryz.func181 Tryz.ntmps181 rfl rfl ?_;refine sQ ?_;intro w hS;refine Z.eff (Z.stF (j:=0) (y+z) hS rfl .here hq rfl rfl rfl oM rfl ?_) rfl;clear hS;intro w hS;refine sQ ?_;intro w hS;refine Dn Tryz.results181 ?_;exact ⟨rfl,hS⟩
 ·rw [if_neg h];refine Z.enter Tryz.func181 Tryz.ntmps181 rfl rfl ?_
  repeat' first|refine K ?_|refine Sa ?_;intro w hS|refine K3 ?_;intro g w hS hge|refine KC ?_ ?_<;>intro hb<;>try exact JX|fail
  all_goals
   refine Dn Tryz.results181 ?_;exact ⟨rfl,hS⟩
theorem yeI (t:TS) (r:World) (F:List Res) (w:World) (hS:Sep r [] F w) :
  Calls Tryz.prog 180 #[.agg t.cells.toArray] w fun e w'=>e=.returned (.bool (t.placed && !t.shed))∧Sep r [] F w':=by
 refine Z.enter Tryz.func180 Tryz.ntmps180 rfl rfl ?_
 repeat' first|refine K ?_|refine Sa ?_;intro w hS|refine K3 ?_;intro g w hS hge|refine KC ?_ ?_<;>intro hb<;>try exact JX|fail
 all_goals
  refine Dnt Tryz.results180 ?_;exact ⟨by simp [Z.packR, *],hS.sb⟩
theorem yfz (c:Cfg) (a:CAd) (s:Sta) (b:SAd) (r:World) (F:List Res) (w:World) (hS:Sep r [] F w) :
  Calls Tryz.prog 94 #[c.val a,s.vc c b] w fun e w'=>e=.returned (.int .i64 (c.tenants.length:Nat))∧Sep r [] F w':=by
 refine Z.enter Tryz.func94 Tryz.ntmps94 rfl rfl ?_;refine aQ2 ?_;intro _ g w hS;refine Dnt Tryz.results94 ?_;exact ⟨by simp [Z.packR],hS.sb⟩
theorem yeJ (c:Cfg) (a:CAd) (s:Sta) (b:SAd) (r:World) (F:List Res) (w:World) (hS:Sep r [] F w) (hr:CfR r F c a) (hq:StC r F s c b) (hv:CfgV c) (hs:s.ok c) :
  Calls Tryz.prog 89 #[c.val a,s.vc c b] w fun e w'=>∃ (g5:Nat),e=.returned (.slice (some ⟨g5,0,.none⟩) c.cells.length c.cells.length)∧Sep r [] (.sl 3 1 (.slice (some ⟨g5,0,.none⟩) c.cells.length c.cells.length) ((bookP c s).map ztC)::F) w':=by
 have hk:=hv.ok.k;have htl:=hv.ok.t;have hstl:=hs.tl;refine Z.enter Tryz.func89 Tryz.ntmps89 rfl rfl ?_
 repeat' first|refine K ?_|refine Sa ?_;clear hS;intro w hS|refine K3 ?_;clear hS;intro g w hS hge|refine KC ?_ ?_<;>intro hb<;>try exact JX|fail
 rename Nat=>g3;refine Z.eff (Z.mks (l:=c.cells.length) (c:=c.cells.length) hS rfl rfl rfl (Nat.le_refl _) (by show 8 * c.cells.length≤281474976710656;omega) (by unfold maxLen;omega) ?_) rfl;clear hS;intro g5 w hS _;replace hS:=mk_sl (n:=c.cells.length) (rows:=(List.replicate c.cells.length (0:Int)).map ztC) hS (by simp) oM (by unfold maxLen;omega) (zt_ok _) (zerosL_int _)
 repeat' first|refine K ?_|refine Sa ?_;intro w hS|refine K3 ?_;intro g w hS hge|refine KC ?_ ?_<;>intro hb<;>try exact JX|fail
 refine cQ (yfz c a s b _ _ _ hS) rfl ?_;clear hS;rintro e w ⟨rfl,hS⟩;refine ⟨_,rfl,?_⟩
 repeat' first|refine K ?_|refine Sa ?_;clear hS;intro w hS|refine K3 ?_;clear hS;intro g w hS hge|refine KC ?_ ?_<;>intro hb<;>try exact JX|fail
 refine Z.lpS [6,7,8,16,17,18,19,20,21,22,23,24,25,26,27,28,29,30,31,32,33,34,35,36,37,38,39,40,41,42,43,44,45,46,47,48,49,50,51,52,53,54,55,56,57,58] (fun m w z=>∃ (i:Nat),z=[(16,.int .i64 i)]∧i≤c.tenants.length∧m=c.tenants.length - i∧Sep r [] (.sl 3 1 (.slice (some ⟨g5,0,.none⟩) c.cells.length c.cells.length) ((bookN c s i).map ztC)::.blk g3 69 (s.cc c b)::.blk g 55 (c.cl a)::F) w) _ [(16,.int .i64 (0:Nat))] TrF ⟨0,rfl,oM,rfl,hS⟩ ?_;clear hS;rintro m f0 w _ ⟨i,rfl,hi,rfl,hS⟩
 by_cases hlt:i < c.tenants.length
 ·have hlt2:i < s.tenants.length:=by omega
  obtain ⟨hl0,hb0⟩:=ybH hv s i;have hsucc:=ybU hlt hlt2;obtain ⟨gb,o,hA,_⟩:=yax (hq.str hs) [_,_,_] hS hlt2;obtain ⟨gc,o2,hA2,_⟩:=ybS hr [_,_,_] hS hlt;have hdB:=hv.tnB (List.getElem_mem hlt);generalize bookN c s i=l at *;have hra1:∀ W,Sep r [] (.sl 3 1 (.slice (some ⟨g5,0,.none⟩) c.cells.length c.cells.length) (l.map ztC)::.blk g3 69 (s.cc c b)::.blk g 55 (c.cl a)::F) W→W.rangeAt gb (o+i * 12) (s.tenants[i]).cells:=fun W hW=>at_ts (hq.str hs) [_,_,_] hW hA hlt2
  have hra2:∀ W,Sep r [] (.sl 3 1 (.slice (some ⟨g5,0,.none⟩) c.cells.length c.cells.length) (l.map ztC)::.blk g3 69 (s.cc c b)::.blk g 55 (c.cl a)::F) W→W.rangeAt gc (o2+i * 7) (c.tenants[i]).cells:=fun W hW=>at_tn hr [_,_,_] hW hA2 hlt
  generalize s.tenants[i]=x at *;generalize c.tenants[i]=d at *;obtain ⟨zA,zc,kA,kc,tA,tc,vA,vc,rA,rc,oA,oc⟩:=a;obtain ⟨sA,sc,qA,qc⟩:=b;simp only at hA hA2;subst hA hA2;obtain ⟨hd1,hd2⟩:=hdB
  repeat' first|refine K ?_|refine Sa ?_;intro w hS|refine K3 ?_;intro g w hS hge|refine KC ?_ ?_<;>intro hb<;>try exact JX|fail
  refine Z.cut [7,8,19,20,21,22,23,24,25,26,27,28] (fun w z=>∃ g7 g8,z=[(7,.pointer (some ⟨g7,0,.none⟩)),(8,.pointer (some ⟨g8,0,.none⟩))]∧Sep r [] (.blk g8 183 x.cells::.blk g7 170 d.cells::.sl 3 1 (.slice (some ⟨g5,0,.none⟩) c.cells.length c.cells.length) (l.map ztC)::.blk g3 69 (s.cc c ⟨some ⟨gb,o,none⟩,sc,qA,qc⟩)::.blk g 55 (c.cl ⟨zA,zc,kA,kc,some ⟨gc,o2,none⟩,tc,vA,vc,rA,rc,oA,oc⟩)::F) w) ?_ ?_
  ·refine D.startS hS 13 14 kR rfl ?_;replace hS:=hS.drew;refine Sh.dp 0 1 ?_;refine Sh.dp 2 5 ?_;refine Sh.dp 5 37 ?_;refine Sh.dp 7 165 ?_;refine Sh.dl 1 167 ?_
   first|refine D.ixn 3 175 rfl D.wantedN kR rfl rfl rfl oM ?_|refine D.ix 3 175 rfl D.wantedN kR rfl rfl rfl oM ?_|refine D.ia 3 175 rfl D.wantedN kR rfl rfl rfl oM ?_
   refine D.ldR 4 191 rfl D.wantedN kR rfl hra2 rfl ?_;refine Sh.dl 6 255 ?_
   first|refine D.ixn 8 511 rfl D.wantedN kR rfl rfl rfl oM ?_|refine D.ix 8 511 rfl D.wantedN kR rfl rfl rfl oM ?_|refine D.ia 8 511 rfl D.wantedN kR rfl rfl rfl oM ?_
   refine D.ldR 9 1023 rfl D.wantedN kR rfl hra1 rfl ?_;refine D.each [10,11] kR rfl ?_;refine D.econs 10 2047 rfl D.wantedN kR (fun _ _ h=>h) ?_ ?_
   ·refine Z.al hS ?_;clear hS;intro g w hS hge;refine HMs ?_;refine D.ef 11 4095 ?_;refine Z.al hS ?_;clear hS;intro g w hS hge;refine HMs ?_;refine D.ef 12 8191 ?_;refine Z.st hS rfl AtF rfl rfl ?_;clear hS;intro w hS;refine HMs ?_;refine D.ef 13 16383 ?_;refine Z.st hS rfl AtF rfl rfl ?_;clear hS;intro w hS;refine HMl ?_;refine D.dn ?_;refine Sh.cut [(7,_),(8,_)] ?_;exact ⟨_,_,rfl,hS.sb⟩
   refine D.econs 11 3071 rfl D.wantedN kR (fun _ _ h=>h) ?_ ?_
   ·refine Z.al hS ?_;clear hS;intro g w hS hge;refine HMs ?_;refine D.ef 10 4095 ?_;refine Z.al hS ?_;clear hS;intro g w hS hge;refine HMs ?_;refine D.ef 12 8191 ?_;refine Z.st hS rfl AtF rfl rfl ?_;clear hS;intro w hS;refine HMs ?_;refine D.ef 13 16383 ?_;refine Z.st hS rfl AtF rfl rfl ?_;clear hS;intro w hS;refine HMl ?_;refine D.dn ?_;refine Sh.cut [(7,_),(8,_)] ?_;exact ⟨_,_,rfl,hS.sb⟩
   exact D.enil
  clear hS;rintro f0 w _ ⟨g7,g8,rfl,hS⟩;have hsucc:bookN c s (i+1)=if x.placed then (let l1:=if x.shed then l else addP (addP l x.home d.load) x.target d.load
   addP (addP l1 x.standby d.shadow) x.next d.shadow) else l:=hsucc
  by_cases hp:x.placed=true
  rotate_left
  ·rw [if_neg hp] at hsucc
   repeat' first|refine K ?_|refine Sa ?_;intro w hS|refine K3 ?_;intro g w hS hge|refine KC ?_ ?_<;>intro hb<;>try exact JX|fail
   ·refine Sh.again (c.tenants.length - (i+1)) [(16,.int .i64 (i+1:Nat))] ?_;exact ⟨i+1,rfl,oM,rfl,by rw [hsucc];exact hS.sb⟩
   ·exact absurd (by assumption) hp
  rw [if_pos hp] at hsucc
  repeat' first|refine K ?_|refine Sa ?_;intro w hS|refine K3 ?_;intro g w hS hge|refine KC ?_ ?_<;>intro hb<;>try exact JX|fail
  ·exact absurd (hp.symm.trans (by assumption)) (by decide)
  refine cQ (yeI x _ _ _ hS) rfl ?_;clear hS;rintro e w ⟨rfl,hS⟩;refine ⟨_,rfl,?_⟩;rw [hp]
  by_cases hsh:x.shed=true
  ·rw [hsh] at hsucc ⊢;simp only [if_true] at hsucc;refine sQ ?_;intro w hS;replace hS:=hS.fo (R:=.sl 3 1 (.slice (some ⟨g5,0,.none⟩) c.cells.length c.cells.length) _);refine cQ (yaI g5 l _ _ _ _ _ _ _ hS hl0 hb0 oM hd2) rfl ?_;clear hS;rintro e w ⟨rfl,hS⟩;refine ⟨_,rfl,?_⟩;have hl1:=yaE l x.standby d.shadow;have hb1:=addP_bd hb0 hd2 x.standby
   generalize addP l x.standby d.shadow=l1 at *;refine sQ ?_;intro w hS;replace hS:=hS.fo (R:=.sl 3 1 (.slice (some ⟨g5,0,.none⟩) c.cells.length c.cells.length) _);refine cQ (yaI g5 l1 _ _ _ _ _ _ _ hS oM hb1 oM hd2) rfl ?_;clear hS;rintro e w ⟨rfl,hS⟩;refine eQ ?_;intro w hS;refine Sh.again (c.tenants.length - (i+1)) [(16,.int .i64 (i+1:Nat))] ?_;exact ⟨i+1,rfl,oM,rfl,by rw [hsucc];exact hS.sb⟩
  ·replace hsh:x.shed=false:=by simpa using hsh
   rw [hsh] at hsucc ⊢;simp only [Bool.false_eq_true,if_false] at hsucc;refine sQ ?_;intro w hS;replace hS:=hS.fo (R:=.sl 3 1 (.slice (some ⟨g5,0,.none⟩) c.cells.length c.cells.length) _);refine cQ (yaI g5 l _ _ _ _ _ _ _ hS hl0 hb0 oM hd1) rfl ?_;clear hS;rintro e w ⟨rfl,hS⟩;refine ⟨_,rfl,?_⟩;have hl1:=yaE l x.home d.load;have hb1:=addP_bd hb0 hd1 x.home;generalize addP l x.home d.load=l1 at *;refine sQ ?_;intro w hS;replace hS:=hS.fo (R:=.sl 3 1 (.slice (some ⟨g5,0,.none⟩) c.cells.length c.cells.length) _);refine cQ (yaI g5 l1 _ _ _ _ _ _ _ hS oM hb1 oM hd1) rfl ?_;clear hS;rintro e w ⟨rfl,hS⟩;refine ⟨_,rfl,?_⟩;have hl2:=yaE l1 x.target d.load;have hb2:=addP_bd hb1 hd1 x.target;generalize addP l1 x.target d.load=l2 at *;refine sQ ?_;intro w hS;replace hS:=hS.fo (R:=.sl 3 1 (.slice (some ⟨g5,0,.none⟩) c.cells.length c.cells.length) _);refine cQ (yaI g5 l2 _ _ _ _ _ _ _ hS oM hb2 oM hd2) rfl ?_;clear hS;rintro e w ⟨rfl,hS⟩;refine ⟨_,rfl,?_⟩;have hl3:=yaE l2 x.standby d.shadow;have hb3:=addP_bd hb2 hd2 x.standby
   generalize addP l2 x.standby d.shadow=l3 at *;refine sQ ?_;intro w hS;replace hS:=hS.fo (R:=.sl 3 1 (.slice (some ⟨g5,0,.none⟩) c.cells.length c.cells.length) _);refine cQ (yaI g5 l3 _ _ _ _ _ _ _ hS oM hb3 oM hd2) rfl ?_;clear hS;rintro e w ⟨rfl,hS⟩;refine eQ ?_;intro w hS;refine Sh.again (c.tenants.length - (i+1)) [(16,.int .i64 (i+1:Nat))] ?_;exact ⟨i+1,rfl,oM,rfl,by rw [hsucc];exact hS.sb⟩
 ·obtain rfl:i=c.tenants.length:=by omega
  have e:bookN c s c.tenants.length=bookP c s:=by rw [← ycz,hstl,Nat.min_self]
  rw [e] at hS;refine sQ ?_;intro w hS;refine Dnt Tryz.results89 ?_;exact ⟨g5,rfl,hS.sb⟩
theorem bookP_ok {c:Cfg} (hv:CfgV c) (s:Sta):(bookP c s).length=c.cells.length∧LB (bookP c s) 100000000:=by
 rw [← ycz];have h:=ybH hv s (min c.tenants.length s.tenants.length);have:=hv.ok.t;exact ⟨h.1,h.2.le oM⟩
def overN (c:Cfg) (s:Sta) (i:Nat):Bool:=((List.zip (bookP c s) c.cells).take i).any fun p=>decide (p.2.cap < p.1)
theorem yfJ {c:Cfg} (hv:CfgV c) (s:Sta):overN c s c.cells.length=overP c s:=by
 unfold overN overP;rw [List.take_of_length_le (by rw [List.length_zip];omega)]
theorem yeL {c:Cfg} (hv:CfgV c) (s:Sta) {i:Nat} (h:i < c.cells.length):overN c s (i+1)=(overN c s i || decide (c.cells[i].cap < (bookP c s)[i]'(by rw [(bookP_ok hv s).1];exact h))):=by
 unfold overN;rw [List.take_succ_eq_append_getElem (by rw [List.length_zip,(bookP_ok hv s).1];omega),List.any_append]
 simp
theorem ygM (c:Cfg) (a:CAd) (s:Sta) (b:SAd) (r:World) (F:List Res) (w:World) (hS:Sep r [] F w) (hr:CfR r F c a) (hq:StC r F s c b) (hv:CfgV c) (hs:s.ok c) :
  Calls Tryz.prog 88 #[c.val a,s.vc c b] w fun e w'=>∃ (A:Option Addr) (n cap:Nat),e=.returned (.slice A n cap)∧(decide (0 < n)=overP c s)∧Sep r [] F w':=by
 have hk:=hv.ok.k;obtain ⟨hbl,hbb⟩:=bookP_ok hv s;refine Z.enter Tryz.func88 Tryz.ntmps88 rfl rfl ?_
 repeat' first|refine K ?_|refine Sa ?_;clear hS;intro w hS|refine K3 ?_;clear hS;intro g w hS hge|refine KC ?_ ?_<;>intro hb<;>try exact JX|fail
 rename Nat=>g3;refine cQ (yeJ c a s b _ _ _ hS (hr.app [_,_]) (hq.ap [_,_]) hv hs) rfl ?_;clear hS;rintro e w ⟨g5,rfl,hS⟩;refine ⟨_,rfl,?_⟩
 repeat' first|refine K ?_|refine Sa ?_;clear hS;intro w hS|refine K3 ?_;clear hS;intro g w hS hge|refine KC ?_ ?_<;>intro hb<;>try exact JX|fail
 replace hS:=Z.nilsl hS 3 1 none;refine Z.lpS [5,6,7,12,13,14,15,16,17,18,19,20,21,22,23,24,25,26,27,28,29] (fun m w z=>∃ (i:Nat) (o:List Int) (Ao:Option Addr) (co:Nat),z=[(5,.slice Ao o.length co),(12,.int .i64 i)]∧o.length≤i∧decide (0 < o.length)=overN c s i∧i≤c.cells.length∧m=c.cells.length - i∧Sep r [] (.sl 3 1 (.slice Ao o.length co) (o.map ztC)::.sl 3 1 (.slice (some ⟨g5,0,.none⟩) c.cells.length c.cells.length) ((bookP c s).map ztC)::.blk g3 69 (s.cc c b)::.blk g 55 (c.cl a)::F) w) _ [(5,.slice none 0 0),(12,.int .i64 (0:Nat))] TrF ⟨0,[],none,0,rfl,by simp,by simp [overN],oM,rfl,hS⟩ ?_;clear hS;rintro m f0 w _ ⟨i,o,Ao,co,rfl,hio,hov,hi,rfl,hS⟩
 by_cases hlt:i < c.cells.length
 ·have hlt2:i < (bookP c s).length:=by omega
  obtain ⟨gc,o2,hA2,_⟩:=ybR hr [_,_,_,_] hS hlt;have hra1:w.rangeAt g5 (0+i * 1) (ztC (bookP c s)[i]):=by
   have h3:=(hS.slrows (e:=3) (v:=.slice (some ⟨g5,0,none⟩) c.cells.length c.cells.length) AtF).elem (q:=i) oM (by simpa using hlt2)
   simpa using h3
  have hra2:w.rangeAt gc (o2+i * 2) (c.cells[i]).cells:=at_kn hr [_,_,_,_] hS hA2 hlt;have hsucc:=yeL hv s hlt;generalize (bookP c s)[i]=y at *;generalize c.cells[i]=d at *;obtain ⟨zA,zc,kA,kc,tA,tc,vA,vc,rA,rc,oA,oc⟩:=a;simp only at hA2;subst hA2
  by_cases hgt:d.cap < y
  ·repeat' first|refine K ?_|refine Sa ?_;intro w hS|refine K3 ?_;intro g w hS hge|refine KC ?_ ?_<;>intro hb<;>try exact JX|fail
   refine Z.eff (Z.apm (l':=[(i:Int)]) hS rfl rfl rfl AtF (hS.lit1 AtF rfl rfl) LnF LnF ?_) rfl;clear hS;intro A' cap' w hS;rw [← List.length_append] at hS ⊢
   repeat' first|refine K ?_|refine Sa ?_;intro w hS|refine K3 ?_;intro g w hS hge|refine KC ?_ ?_<;>intro hb<;>try exact JX|fail
   refine Sh.again (c.cells.length - (i+1)) [(5,_),(12,.int .i64 (i+1:Nat))] ?_;exact ⟨i+1,o++[(i:Int)],A',cap',rfl,by simp;omega,by rw [hsucc];simp [hgt],oM,rfl,hS.sb⟩
  ·repeat' first|refine K ?_|refine Sa ?_;intro w hS|refine K3 ?_;intro g w hS hge|refine KC ?_ ?_<;>intro hb<;>try exact JX|fail
   refine Sh.again (c.cells.length - (i+1)) [(5,_),(12,.int .i64 (i+1:Nat))] ?_;exact ⟨i+1,o,Ao,co,rfl,oM,by rw [hsucc,← hov];simp [hgt],oM,rfl,hS.sb⟩
 ·obtain rfl:i=c.cells.length:=by omega
  rw [yfJ hv] at hov;refine sQ ?_;intro w hS;refine Dnt Tryz.results88 ?_;exact ⟨_,_,_,rfl,hov,hS.sb⟩
end Go.Proofs.YtfmnjbhncnldmaaGreat
