import Derived.Test.YtfmnjbhncnldmaaGreatW08
import Derived.Test.YtfmnjbhncnldmaaGreatW34
set_option maxHeartbeats 16000000
set_option linter.unusedSimpArgs false
set_option linter.unusedVariables false
namespace Go.Proofs.YtfmnjbhncnldmaaGreat
open Go.RowKit
attribute [local irreducible] Res.blk Res.sl Res.all Res.ex Res.pure Res.star
structure MsOk (x:Rp) (kd fr to tm ix pv cm:Int) (el:List Lg):Prop where
 hto:to=x.id
 hfr:fr≠x.id∧0≤fr∧fr < 3
 htm:tm=1
 hix:0≤ix∧ix+el.length≤4096
 hpv:(ix=0∧pv=0)∨(0 < ix∧pv=1)∨(kd≠3∧pv=0)
 hcm:0≤cm∧cm≤4096
 hel:el.length≤1
 hsh:∀ l,l∈el→shapeP l.e=true∧l.term=1
section
variable (x:Rp) (r:World) (F:List Res) (w:World) (hS:Sep r [] (JN x.gj x.t x.v x.log x.n::.blk x.gp 331 x.cells::F) w)
include hS
theorem yaC (kd fr to tm ix pv cm:Int) (ok:Bool) (el:List Lg) (A:Option Addr) (c:Nat) (hm:MsOk x kd fr to tm ix pv cm el) (hk:kd=1∨kd=2∨kd=3∨kd=4) (hrd:Reads r F 10 (.slice A el.length c) (el.map Lg.cells)) :
  Calls Tryz.prog 304 #[.pointer (some ⟨x.gp,0,none⟩),.agg #[.int .i64 kd,.int .i64 fr,.int .i64 to,.int .i64 tm,.int .i64 ix,.int .i64 pv,.int .i64 cm,.bool ok,.slice A el.length c]] w fun e w'=>e=.returned (.bool true)∧Sep r [] (JN x.gj x.t x.v x.log x.n::.blk x.gp 331 x.cells::F) w':=by
 obtain ⟨h1,h2,h3,h4,h5,h6,h7,h8⟩:=hm;refine Z.enter Tryz.func304 Tryz.ntmps304 rfl rfl ?_;refine aQ1 ?_;intro g3 w hS;replace hS:=hS.sub (L':=.blk g3 341 [.int .i64 kd,.int .i64 fr,.int .i64 to,.int .i64 tm,.int .i64 ix,.int .i64 pv,.int .i64 cm,.bool ok,.slice A el.length c]::JN x.gj x.t x.v x.log x.n::.blk x.gp 331 x.cells::F) SuF;refine D.startS (Lr:=[.blk g3 341 [.int .i64 kd,.int .i64 fr,.int .i64 to,.int .i64 tm,.int .i64 ix,.int .i64 pv,.int .i64 cm,.bool ok,.slice A el.length c],.blk x.gp 331 x.cells]) (hS.sb) 72 72 kR rfl ?_;replace hS:=hS.drew;refine Sh.dp 0 1 ?_;refine Sh.dp 2 5 ?_;refine Sh.dp 3 13 ?_;refine Sh.dp 4 29 ?_;refine Sh.dl 1 31 ?_;refine Sh.dl 5 63 ?_
 first|refine D.pr 6 127 rfl D.wantedN kR rfl ?_|refine D.pl 6 127 rfl D.wantedN kR (R.nea rfl rfl rfl rfl) ?_
 refine Sh.dp 7 255 ?_;refine D.slot 12 rfl NoF (fun hb=>?_)
 (try simp only [JJ] at hb)
 refine Sh.dp 8 511 ?_;refine Sh.dp 10 1535 ?_;refine Sh.dp 11 3583 ?_;refine Sh.dp 12 7679 ?_;refine Sh.dl 9 8191 ?_;refine Sh.dl 13 16383 ?_
 first|refine D.pr 14 32767 rfl (D.wantedT rfl rfl) kR rfl ?_|refine D.pl 14 32767 rfl (D.wantedT rfl rfl) kR (R.eqa rfl rfl rfl rfl) ?_
 refine Sh.dp 15 65535 ?_;refine Sh.dp 16 131071 ?_;refine D.slot 21 rfl NoF (fun hb=>?_)
 (try simp only [JJ] at hb)
 refine Sh.dp 17 262143 ?_;refine Sh.dl 18 524287 ?_;refine Sh.dp 19 1048575 ?_;refine Sh.dp 20 2097151 ?_;refine Sh.dp 21 4194303 ?_;refine D.slot 26 rfl NoF (fun hb=>?_)
 (try simp only [JJ] at hb)
 refine Sh.dp 22 8388607 ?_;refine Sh.dp 24 25165823 ?_;refine Sh.dp 25 58720255 ?_;refine Sh.dp 26 125829119 ?_;refine Sh.dl 23 134217727 ?_;refine Sh.dl 27 268435455 ?_;refine Sh.dp 28 536870911 ?_;refine Sh.dp 29 1073741823 ?_;refine Sh.dp 30 2147483647 ?_;refine D.slot 35 rfl NoF (fun hb=>?_)
 (try simp only [JJ] at hb)
 refine Sh.dp 31 4294967295 ?_;refine Sh.dl 32 8589934591 ?_;refine Sh.dp 33 17179869183 ?_;refine Sh.dp 34 34359738367 ?_;refine Sh.dp 35 68719476735 ?_;refine D.slot 40 rfl NoF (fun hb=>?_)
 (try simp only [JJ] at hb)
 refine Sh.dp 36 137438953471 ?_;refine Sh.dl 37 274877906943 ?_;refine Sh.dp 38 549755813887 ?_;refine Sh.dp 39 1099511627775 ?_;refine Sh.dp 40 2199023255551 ?_;refine D.slot 45 rfl NoF (fun hb=>?_)
 (try simp only [JJ] at hb)
 refine Sh.dp 41 4398046511103 ?_;refine Sh.dl 42 8796093022207 ?_;refine Sh.dp 43 17592186044415 ?_;refine Sh.dp 44 35184372088831 ?_;refine Sh.dp 45 70368744177663 ?_;refine D.slot 50 rfl NoF (fun hb=>?_)
 (try simp only [JJ] at hb)
 refine Sh.dp 46 140737488355327 ?_;refine Sh.dl 47 281474976710655 ?_;refine Sh.dp 48 562949953421311 ?_;refine Sh.dp 49 1125899906842623 ?_;refine Sh.dp 50 2251799813685247 ?_;refine D.slot 55 rfl NoF (fun hb=>?_)
 (try simp only [JJ] at hb)
 refine Sh.dp 51 4503599627370495 ?_;refine Sh.dl 52 9007199254740991 ?_;refine Sh.dp 53 18014398509481983 ?_;refine Sh.dp 54 36028797018963967 ?_;refine Sh.dp 55 72057594037927935 ?_;refine D.slot 60 rfl NoF (fun hb=>?_)
 (try simp only [JJ] at hb)
 refine Sh.dp 56 144115188075855871 ?_;refine Sh.dp 58 432345564227567615 ?_;refine Sh.dl 57 576460752303423487 ?_;refine Sh.dl 59 1152921504606846975 ?_;refine Sh.dp 60 2305843009213693951 ?_;refine Sh.dp 61 4611686018427387903 ?_;refine Sh.dp 62 9223372036854775807 ?_;refine D.slot 67 rfl NoF (fun hb=>?_)
 (try simp only [JJ] at hb)
 refine Sh.dp 63 18446744073709551615 ?_;refine Sh.dl 64 36893488147419103231 ?_;refine Sh.dp 65 73786976294838206463 ?_;refine Sh.dp 66 147573952589676412927 ?_;refine Sh.dp 67 295147905179352825855 ?_;refine D.slot 72 rfl NoF (fun hb=>?_)
 (try simp only [JJ] at hb)
 refine Sh.dp 68 590295810358705651711 ?_;refine Sh.dl 69 1180591620717411303423 ?_;refine Sh.dp 70 2361183241434822606847 ?_;refine Sh.dp 71 4722366482869645213695 ?_;refine D.dn ?_
 rcases hk with hk|hk|hk|hk
 ·repeat' first|refine K ?_|refine Sa ?_;intro w hS|refine K3 ?_;intro g w hS hge|refine KC ?_ ?_<;>intro hb<;>try exact JX|fail
  refine Dnt Tryz.results304 ?_;exact ⟨rfl,hS.sb⟩
 ·repeat' first|refine K ?_|refine Sa ?_;intro w hS|refine K3 ?_;intro g w hS hge|refine KC ?_ ?_<;>intro hb<;>try exact JX|fail
  refine Dnt Tryz.results304 ?_;exact ⟨rfl,hS.sb⟩
 ·repeat' first|refine K ?_|refine Sa ?_;intro w hS|refine K3 ?_;intro g w hS hge|refine KC ?_ ?_<;>intro hb<;>try exact JX|fail
  refine cQ (ydK kd fr to tm ix pv cm ok el A c _ _ _ hS h3 h7 h4 oM h8 (hrd.app [_,_,_])) rfl ?_;clear hS;rintro e w ⟨rfl,hS⟩;refine eQ ?_;intro w hS;refine Dnt Tryz.results304 ?_;exact ⟨rfl,hS.sb⟩
 ·repeat' first|refine K ?_|refine Sa ?_;intro w hS|refine K3 ?_;intro g w hS hge|refine KC ?_ ?_<;>intro hb<;>try exact JX|fail
  refine Dnt Tryz.results304 ?_;exact ⟨rfl,hS.sb⟩
def stM (x:Rp) (to ix:Int) (ok:Bool):Ms:=⟨4,x.id,to,x.t,ix,0,0,ok,[],none,0⟩
theorem ycb (to ix:Int) (ok:Bool) :
  Calls Tryz.prog 370 #[.pointer (some ⟨x.gp,0,none⟩),.int .i64 to,.int .i64 ix,.bool ok] w fun e w'=>∃ (A:Option Addr) (c:Nat),e=.returned (.slice A 1 c)∧Sep r [] (.sl 341 9 (.slice A 1 c) ([stM x to ix ok].map Ms.cells)::(JN x.gj x.t x.v x.log x.n::.blk x.gp 331 x.cells::F)) w':=by
 refine Z.enter Tryz.func370 Tryz.ntmps370 rfl rfl ?_;refine sQ ?_;intro w hS;refine cQ (ybw x _ _ _ hS 4 to) rfl ?_;clear hS;rintro e w ⟨rfl,hS⟩;refine ⟨_,rfl,?_⟩
 repeat' first|refine K ?_|refine Sa ?_;clear hS;intro w hS|refine K3 ?_;clear hS;intro g w hS hge|refine KC ?_ ?_<;>intro hb<;>try exact JX|fail
 rename Nat=>gl;replace hS:=mk_sl (sz:=9) (n:=1) (rows:=[stM x to ix ok].map Ms.cells) hS rfl oM (by decide) (ms_ok _) rfl;refine Dnt Tryz.results370 ?_;exact ⟨_,_,rfl,hS.sb⟩
def replR (x:Rp) (y:Lg):Rp:={ x with log:=x.log++[y],n:=x.n+128 }
theorem ydN (y:Lg) (v:Value) (p:Int) (hp:p=x.log.length) (hrd:Reads r F 10 v ([y].map Lg.cells)) (he:y.e.i64) (h1:1≤y.term∧y.term≤1073741824) (h2:shapeP y.e=true) (h3:y.term≤x.t) (h4:(lgAt x.log (x.log.length - 1)).term≤y.term) (h5:x.log.length < 4096) (hn:x.n≤1000000000) :
  Calls Tryz.prog 371 #[.pointer (some ⟨x.gp,0,none⟩),.int .i64 p,v] w fun e w'=>e=.returned (.tuple #[])∧Sep r [] (JN x.gj x.t x.v (replR x y).log (x.n+128)::.blk x.gp 331 (replR x y).cells::F) w':=by
 obtain ⟨Ap,cp,rfl,hcap⟩:=(hrd [_,_] w hS).mform;obtain ⟨gl,ol,rfl,_,_⟩:=(hrd [_,_] w hS).mat (by simp) (q:=0) (by simp);have hra:∀ L W,Sep r [] (L++F) W→W.rangeAt gl (ol+0 * 10) y.cells:=fun L W hW=>by
  have h3:=(hrd L W hW).elem (q:=0) (by simp) (by simp)
  simpa using h3
 have hl1:((([y]:List Lg).map Lg.cells).length:Int)=1:=rfl;have hl2:(([y]:List Lg).length:Int)=1:=rfl;refine Z.enter Tryz.func371 Tryz.ntmps371 rfl rfl ?_;refine sQ ?_;intro w hS;refine rQ (yan x _ _ _ hS) ?_;intro w hS;refine Z.unr 2 ?_;have hra1:=hra [_,_] _ hS
 repeat' first|refine K ?_|refine Sa ?_;clear hS;intro w hS|refine K3 ?_;clear hS;intro g w hS hge|refine KC ?_ ?_<;>intro hb<;>try exact JX|fail
 rename Nat=>g7;refine D.startS (Lr:=[.blk g7 345 y.cells,.blk x.gp 331 x.cells]) (hS.sb) 9 9 kR rfl ?_;replace hS:=hS.drew;refine Sh.dp 0 1 ?_;refine Sh.dp 1 3 ?_;refine Sh.dp 2 7 ?_;refine Sh.dp 4 23 ?_;refine Sh.dp 6 87 ?_;refine Sh.dl 3 95 ?_;refine Sh.dl 5 127 ?_;refine Sh.dl 7 255 ?_;refine D.ef 8 511 ?_;refine dQ (ybm x.gj x.n x.t x.v x.log y.term y.e he _ _ _ (hS.fo (R:=JN x.gj x.t x.v x.log x.n)) h1 h2 h3 h4 h5 hn) ?_;intro w hS;refine D.dn ?_;refine sQ ?_;intro w hS;refine rQ (yaY x.gj (x.n+128) x.t x.v (x.log++[⟨y.term,y.e⟩]) _ _ _ hS) ?_;intro w hS;refine Dn Tryz.results371 ?_;exact ⟨rfl,hS.sb⟩
def vdM (x:Rp) (to:Int):Ms:=⟨2,x.id,to,x.t,0,0,0,true,[],none,0⟩
theorem yf2 (kd fr to tm ix pv cm:Int) (ok:Bool) (el:List Lg) (A:Option Addr) (c:Nat) (ht:tm=x.t) (h1:1≤x.t∧x.t≤1000) (hv:x.v = -1) (hlog:x.log=[]) (hix:ix=0) (hpv:pv=0) (hfr:0≤fr∧fr < 3) (hn:x.n≤1000000000) :
  Calls Tryz.prog 305 #[.pointer (some ⟨x.gp,0,none⟩),.agg #[.int .i64 kd,.int .i64 fr,.int .i64 to,.int .i64 tm,.int .i64 ix,.int .i64 pv,.int .i64 cm,.bool ok,.slice A el.length c]] w fun e w'=>∃ (A1:Option Addr) (c1:Nat),e=.returned (.slice A1 1 c1)∧Sep r [] (.sl 341 9 (.slice A1 1 c1) ([vdM x fr].map Ms.cells)::JN x.gj x.t fr x.log (x.n+48)::.blk x.gp 331 x.cells::F) w':=by
 have hl0:x.log.length=0:=by rw [hlog];rfl
 have hlt:(lgAt x.log (x.log.length - 1)).term=0:=by rw [hlog];rfl
 refine Z.enter Tryz.func305 Tryz.ntmps305 rfl rfl ?_;refine aQ1 ?_;intro g3 w hS;refine cQ (ydv x _ _ _ ((hS.fo (R:=.blk x.gp 331 x.cells)).fo (R:=JN x.gj x.t x.v x.log x.n)) oM) rfl ?_;clear hS;rintro e w ⟨rfl,hS⟩;refine ⟨_,rfl,?_⟩;rw [hlt];refine sQ ?_;intro w hS;refine D.startS (Lr:=[.blk x.gp 331 x.cells,.blk g3 341 [.int .i64 kd,.int .i64 fr,.int .i64 to,.int .i64 tm,.int .i64 ix,.int .i64 pv,.int .i64 cm,.bool ok,.slice A el.length c]]) (hS.sb) 11 11 kR rfl ?_;replace hS:=hS.drew;refine Sh.dp 0 1 ?_;refine D.ef 1 3 ?_;refine dQ (yhc x _ _ _ ((hS.fo (R:=.blk x.gp 331 x.cells)).fo (R:=JN x.gj x.t x.v x.log x.n))) ?_;intro w hS
 first|refine D.pr 2 7 rfl D.wantedN kR rfl ?_|refine D.pl 2 7 rfl D.wantedN kR (R.eqa rfl rfl rfl rfl) ?_
 refine Sh.dp 3 15 ?_;refine D.slot 14 rfl (fun hb=>?_) NoF
 (try simp only [JJ] at hb)
 refine D.sk 4 31 ?_;refine D.sk 5 63 ?_;refine D.sk 6 127 ?_;refine D.sk 7 255 ?_;refine D.sk 8 511 ?_;refine Sh.dp 9 1023 ?_;refine Sh.dp 10 2047 ?_;refine D.dn ?_;refine sQ ?_;intro w hS;refine D.startS (Lr:=[.blk x.gp 331 x.cells,.blk g3 341 [.int .i64 kd,.int .i64 fr,.int .i64 to,.int .i64 tm,.int .i64 ix,.int .i64 pv,.int .i64 cm,.bool ok,.slice A el.length c]]) (hS.sb) 18 18 kR rfl ?_;replace hS:=hS.drew;refine Sh.dp 0 1 ?_;refine Sh.dp 2 5 ?_;refine Sh.dl 1 7 ?_;refine Sh.dp 3 15 ?_;refine Sh.dp 4 31 ?_;refine D.slot 25 rfl NoF (fun hb=>?_)
 (try simp only [JJ] at hb)
 refine Sh.dp 5 63 ?_;refine Sh.dp 7 191 ?_;refine Sh.dl 6 255 ?_
 first|refine D.pr 8 511 rfl (D.wantedT rfl rfl) kR rfl ?_|refine D.pl 8 511 rfl (D.wantedT rfl rfl) kR (R.eqa rfl rfl rfl rfl) ?_
 refine Sh.dp 9 1023 ?_;refine D.slot 30 rfl (fun hb=>?_) NoF
 (try simp only [JJ] at hb)
 refine Sh.dp 10 2047 ?_;refine Sh.dp 12 6143 ?_;refine Sh.dl 11 8191 ?_;refine D.eff 13 16383 rfl (D.wantedT rfl rfl) kR kR (fun _ _ h=>h) ?_;refine WE.guard ?_;refine dQ (yan x _ _ _ ((hS.fo (R:=.blk x.gp 331 x.cells)).fo (R:=JN x.gj x.t x.v x.log x.n))) ?_;intro w hS;refine Sh.dp 14 32767 ?_;refine Sh.dp 15 65535 ?_;refine Sh.dp 16 131071 ?_;refine Sh.dp 17 262143 ?_;refine D.dn ?_;refine sQ ?_;intro w hS;refine cQ (ybw x _ _ _ ((hS.fo (R:=.blk x.gp 331 x.cells)).fo (R:=JN x.gj x.t x.v x.log x.n)) 2 fr) rfl ?_;clear hS;rintro e w ⟨rfl,hS⟩;refine ⟨_,rfl,?_⟩
 repeat' first|refine K ?_|refine Sa ?_;clear hS;intro w hS|refine K3 ?_;clear hS;intro g w hS hge|refine KC ?_ ?_<;>intro hb<;>try exact JX|fail
 rename Nat=>g8;refine D.startS (Lr:=[.blk x.gp 331 x.cells,.blk g3 341 [.int .i64 kd,.int .i64 fr,.int .i64 to,.int .i64 tm,.int .i64 ix,.int .i64 pv,.int .i64 cm,.bool ok,.slice A el.length c]]) (hS.sb) 11 11 kR rfl ?_;replace hS:=hS.drew;refine Sh.dp 0 1 ?_;refine Sh.dp 2 5 ?_;refine Sh.dl 1 7 ?_;refine D.ef 3 15 ?_;refine dQ (yaf x _ _ _ ((hS.fo (R:=.blk x.gp 331 x.cells)).fo (R:=JN x.gj x.t x.v x.log x.n))) ?_;intro w hS
 first|refine D.pr 4 31 rfl D.wantedN kR rfl ?_|refine D.pl 4 31 rfl D.wantedN kR (R.eqa rfl rfl rfl rfl) ?_
 refine Sh.dp 5 63 ?_;refine D.slot 47 rfl (fun hb=>?_) NoF
 (try simp only [JJ] at hb)
 refine Sh.dp 6 127 ?_;refine Sh.dp 7 255 ?_;refine Sh.dp 8 511 ?_;refine D.slot 50 rfl (fun hb=>?_) NoF
 (try simp only [JJ] at hb)
 refine Sh.dp 9 1023 ?_;refine Sh.dp 10 2047 ?_;refine D.dn ?_;refine sQ ?_;intro w hS;refine cQ (yaR x _ _ _ ((hS.fo (R:=.blk x.gp 331 x.cells)).fo (R:=JN x.gj x.t x.v x.log x.n)) tm fr (by rw [hv,ht];unfold stE;rw [if_neg oM,if_neg oM]) hn) rfl ?_;clear hS;rintro e w ⟨rfl,hS⟩;refine ⟨_,rfl,?_⟩;rw [ht] at hS
 repeat' first|refine K ?_|refine Sa ?_;clear hS;intro w hS|refine K3 ?_;clear hS;intro g w hS hge|refine KC ?_ ?_<;>intro hb<;>try exact JX|fail
 rename Nat=>gl;replace hS:=mk_sl (sz:=9) (n:=1) (rows:=[vdM x fr].map Ms.cells) hS rfl oM (by decide) (ms_ok _) rfl;refine Dnt Tryz.results305 ?_;exact ⟨_,_,rfl,hS.sb⟩
theorem yf0 (kd fr to tm ix pv cm:Int) (ok:Bool) (el:List Lg) (A:Option Addr) (c:Nat) (h3:x.ro=3) :
  Calls Tryz.prog 306 #[.pointer (some ⟨x.gp,0,none⟩),.agg #[.int .i64 kd,.int .i64 fr,.int .i64 to,.int .i64 tm,.int .i64 ix,.int .i64 pv,.int .i64 cm,.bool ok,.slice A el.length c]] w fun e w'=>e=.returned (.slice none 0 0)∧Sep r [] (JN x.gj x.t x.v x.log x.n::.blk x.gp 331 x.cells::F) w':=by
 refine Z.enter Tryz.func306 Tryz.ntmps306 rfl rfl ?_;refine aQ1 ?_;intro g3 w hS;refine D.startS (Lr:=[.blk x.gp 331 x.cells,.blk g3 341 [.int .i64 kd,.int .i64 fr,.int .i64 to,.int .i64 tm,.int .i64 ix,.int .i64 pv,.int .i64 cm,.bool ok,.slice A el.length c]]) (hS.sb) 17 17 kR rfl ?_;replace hS:=hS.drew;refine Sh.dp 0 1 ?_;refine Sh.dp 1 3 ?_;refine Sh.dp 2 7 ?_;refine Sh.dl 3 15 ?_
 first|refine D.pr 4 31 rfl D.wantedN kR rfl ?_|refine D.pl 4 31 rfl D.wantedN kR (R.nea rfl rfl rfl rfl) ?_
 refine Sh.dp 5 63 ?_;refine D.slot 12 rfl (fun hb=>?_) NoF
 (try simp only [JJ] at hb)
 refine D.sk 6 127 ?_;refine D.sk 7 255 ?_;refine D.sk 8 511 ?_;refine D.sk 9 1023 ?_;refine D.sk 10 2047 ?_;refine Sh.dp 11 4095 ?_;refine Sh.dp 12 8191 ?_;refine D.slot 19 rfl (fun hb=>?_) NoF
 (try simp only [JJ] at hb)
 refine D.sk 13 16383 ?_;refine D.sk 14 32767 ?_;refine D.sk 15 65535 ?_;refine Sh.dp 16 131071 ?_;refine D.dn ?_
 repeat' first|refine K ?_|refine Sa ?_;intro w hS|refine K3 ?_;intro g w hS hge|refine KC ?_ ?_<;>intro hb<;>try exact JX|fail
 refine Dnt Tryz.results306 ?_;exact ⟨rfl,hS.sb⟩
def elecR (x:Rp):Rp:=leadN { x with vo:=3 } 3
theorem yf1 (kd to tm ix pv cm:Int) (el:List Lg) (A:Option Addr) (c:Nat) (h2:x.ro=2) (hid:x.id=0) (ht:tm=x.t) (hvo:x.vo=1) (hlog:x.log=[]) :
  Calls Tryz.prog 306 #[.pointer (some ⟨x.gp,0,none⟩),.agg #[.int .i64 kd,.int .i64 1,.int .i64 to,.int .i64 tm,.int .i64 ix,.int .i64 pv,.int .i64 cm,.bool true,.slice A el.length c]] w fun e w'=>∃ (Am:Option Addr) (cm:Nat) (A1:Option Addr) (c1:Nat) (A2:Option Addr) (c2:Nat),e=.returned (.slice Am 2 cm)∧Sep r [] (.sl 341 9 (.slice Am 2 cm) ([apM (elecR x) 1 0 A1 c1,apM (elecR x) 2 0 A2 c2].map Ms.cells)::.sl 345 10 (.slice A1 ((elecR x).log.drop 0).length c1) (((elecR x).log.drop 0).map Lg.cells)::.sl 345 10 (.slice A2 ((elecR x).log.drop 0).length c2) (((elecR x).log.drop 0).map Lg.cells)::JN x.gj x.t x.v x.log x.n::.blk x.gp 331 (elecR x).cells::F) w':=by
 have hl0:x.log.length=0:=by rw [hlog];rfl
 have hv3:bitZ .i64 (· ||| ·) x.vo (IntKind.i64.wrap (1 * 2 ^ min (IntKind.u64.wrap 1).toNat IntKind.i64.bits))=3:=by rw [hvo];decide
 refine Z.enter Tryz.func306 Tryz.ntmps306 rfl rfl ?_;refine aQ1 ?_;intro g3 w hS;refine D.startS (Lr:=[.blk x.gp 331 x.cells,.blk g3 341 [.int .i64 kd,.int .i64 1,.int .i64 to,.int .i64 tm,.int .i64 ix,.int .i64 pv,.int .i64 cm,.bool true,.slice A el.length c]]) (hS.sb) 17 17 kR rfl ?_;replace hS:=hS.drew;refine Sh.dp 0 1 ?_;refine Sh.dp 1 3 ?_;refine Sh.dp 2 7 ?_;refine Sh.dl 3 15 ?_
 first|refine D.pr 4 31 rfl D.wantedN kR rfl ?_|refine D.pl 4 31 rfl D.wantedN kR (R.nea rfl rfl rfl rfl) ?_
 refine Sh.dp 5 63 ?_;refine D.slot 12 rfl NoF (fun hb=>?_)
 (try simp only [JJ] at hb)
 refine Sh.dp 6 127 ?_;refine Sh.dp 8 383 ?_;refine Sh.dl 7 511 ?_;refine D.eff 9 1023 rfl (D.wantedT rfl rfl) kR kR (fun _ _ h=>h) ?_;refine WE.guard ?_;refine dQ (yaf x _ _ _ ((hS.fo (R:=.blk x.gp 331 x.cells)).fo (R:=JN x.gj x.t x.v x.log x.n))) ?_;intro w hS
 first|refine D.pr 10 2047 rfl (D.wantedT rfl rfl) kR rfl ?_|refine D.pl 10 2047 rfl (D.wantedT rfl rfl) kR (R.nea rfl rfl rfl rfl) ?_
 refine Sh.dp 11 4095 ?_;refine Sh.dp 12 8191 ?_;refine D.slot 19 rfl NoF (fun hb=>?_)
 (try simp only [JJ] at hb)
 refine Sh.dp 13 16383 ?_;refine Sh.dl 14 32767 ?_;refine Sh.dp 15 65535 ?_;refine Sh.dp 16 131071 ?_;refine D.dn ?_;refine sQ ?_;intro w hS;refine D.startS (Lr:=[.blk g3 341 [.int .i64 kd,.int .i64 1,.int .i64 to,.int .i64 tm,.int .i64 ix,.int .i64 pv,.int .i64 cm,.bool true,.slice A el.length c]]) (hS.sb) 11 12 kR rfl ?_;replace hS:=hS.drew;refine Sh.dp 0 1 ?_;refine Sh.dp 1 3 ?_;refine Sh.dp 2 7 ?_;refine Sh.dp 4 23 ?_;refine Sh.dl 5 55 ?_;refine D.pl 6 119 rfl D.wantedN kR (R.icv rfl) ?_;refine D.pl 7 247 rfl D.wantedN kR (R.ish rfl rfl rfl (u64_ge _)) ?_;refine D.ef 3 255 ?_;refine Z.ld hS rfl AtF rfl ?_;refine HMs ?_;refine D.pl 8 511 rfl D.wantedN kR (R.ibo rfl rfl rfl) ?_;refine Sh.dp 9 1023 ?_;refine Sh.dp 10 2047 ?_;refine D.ef 11 4095 ?_;refine Z.st hS rfl AtF rfl rfl ?_;clear hS;intro w hS;refine HMl ?_;refine D.dn ?_;rw [hv3] at hS;replace hS:=hS.sub (L':=JN x.gj x.t x.v x.log x.n::.blk x.gp 331 ({ x with vo:=3 }:Rp).cells::F) SuF;refine sQ ?_;intro w hS;refine Z.lpS [5,6,39,40,41,42,43,44,45,46,47,48,49,50,51,52] (fun m w z=>∃ (i:Nat) (v:Int),z=[(5,.int .i64 v),(39,.int .i64 i)]∧((i=0∧v=0)∨(i=1∧v=1)∨(i=2∧v=2)∨(i=3∧v=2))∧m=3 - i∧Sep r [] (JN x.gj x.t x.v x.log x.n::.blk x.gp 331 ({ x with vo:=3 }:Rp).cells::F) w) _ [(5,.int .i64 0),(39,.int .i64 (0:Nat))] TrF ⟨0,0,rfl,.inl ⟨rfl,rfl⟩,rfl,hS⟩ ?_;clear hS;rintro m f0 w _ ⟨i,v,rfl,hi,rfl,hS⟩;have hu:=u64_ge (i:Int)
 rcases hi with ⟨rfl,rfl⟩|⟨rfl,rfl⟩|⟨rfl,rfl⟩|⟨rfl,rfl⟩
 ·repeat' (first|refine Kw ?_|(refine Sh.sa hS ?_;clear hS;intro w hS)|(refine K3 ?_;clear hS;intro g w hS hge)|(refine KB ?_ ?_<;>intro hb<;>(try simp only [JJ] at hb)<;>(try exact JX))|fail)
  refine Sh.again (2) [(5,_),(39,.int .i64 (1:Nat))] ?_;exact ⟨1,1,kR,.inr (.inl ⟨rfl,rfl⟩),rfl,hS⟩
 ·repeat' (first|refine Kw ?_|(refine Sh.sa hS ?_;clear hS;intro w hS)|(refine K3 ?_;clear hS;intro g w hS hge)|(refine KB ?_ ?_<;>intro hb<;>(try simp only [JJ] at hb)<;>(try exact JX))|fail)
  refine Sh.again (1) [(5,_),(39,.int .i64 (2:Nat))] ?_;exact ⟨2,2,kR,.inr (.inr (.inl ⟨rfl,rfl⟩)),rfl,hS⟩
 ·repeat' (first|refine Kw ?_|(refine Sh.sa hS ?_;clear hS;intro w hS)|(refine K3 ?_;clear hS;intro g w hS hge)|(refine KB ?_ ?_<;>intro hb<;>(try simp only [JJ] at hb)<;>(try exact JX))|fail)
  refine Sh.again (0) [(5,_),(39,.int .i64 (3:Nat))] ?_;exact ⟨3,2,kR,.inr (.inr (.inr ⟨rfl,rfl⟩)),rfl,hS⟩
 refine sQ ?_;intro w hS;refine cQ (yg6 { x with vo:=3 } _ _ _ hS) rfl ?_;clear hS;rintro e w ⟨rfl,hS⟩;refine ⟨_,rfl,?_⟩;replace hS:=hS.sub (L':=JN (elecR x).gj (elecR x).t (elecR x).v (elecR x).log (elecR x).n::.blk (elecR x).gp 331 (elecR x).cells::F) SuF;refine sQ ?_;intro w hS;refine Z.pl R.mfb ?_;refine sQ ?_;intro w hS;refine cQ (ybD (elecR x) _ _ _ hS 0 0 hid (by show (x.log.length:Int)=_;omega) (by show (x.log.length:Int)=_;omega) (Nat.zero_le _) (Nat.zero_le _) (by show x.log.length≤5000;omega)) rfl ?_;clear hS;rintro e w ⟨Am,cm',A1,c1,A2,c2,rfl,hS⟩;refine eQ ?_;intro w hS;refine Dnt Tryz.results306 ?_;exact ⟨Am,cm',A1,c1,A2,c2,rfl,hS.sb⟩
end
def takenR (x:Rp) (el:List Lg) (cm:Int):Rp:={ x with ro:=1,log:=x.log++el,n:=x.n+128 * el.length,co:=max x.co (min cm (x.log.length+el.length)) }
section
variable (x:Rp) (r:World) (F:List Res) (w:World) (hS:Sep r [] (JN x.gj x.t x.v x.log x.n::.blk x.gp 331 x.cells::F) w)
include hS
theorem ydH (kd fr to tm pv cm:Int) (ok:Bool) (el:List Lg) (A:Option Addr) (c:Nat) (ix2:Int) (h1:tm=x.t) (h2:x.ro=1) (h4:0 < x.log.length→(lgAt x.log (x.log.length - 1)).term=pv) (h5:0≤x.co∧x.co≤x.log.length) (h6:el.length≤1) (h7:∀ l,l∈el→l.e.i64∧shapeP l.e=true∧l.term=1) (ht:x.t=1) (hpv:pv≤1) (hix2:ix2=x.log.length+el.length) (hn:x.n≤1000000) (hl:x.log.length < 4096) (hcm:0≤cm∧cm≤5000) (hrd:Reads r F 10 (.slice A el.length c) (el.map Lg.cells)) :
  Calls Tryz.prog 307 #[.pointer (some ⟨x.gp,0,none⟩),.agg #[.int .i64 kd,.int .i64 fr,.int .i64 to,.int .i64 tm,.int .i64 (x.log.length:Int),.int .i64 pv,.int .i64 cm,.bool ok,.slice A el.length c]] w fun e w'=>∃ (A1:Option Addr) (c1:Nat),e=.returned (.slice A1 1 c1)∧Sep r [] (.sl 341 9 (.slice A1 1 c1) ([stM x fr ix2 true].map Ms.cells)::JN x.gj x.t x.v (takenR x el cm).log (takenR x el cm).n::.blk x.gp 331 (takenR x el cm).cells::F) w':=by
 subst hix2;have hcc:el.length≤c:=by
  obtain ⟨_,_,e1,e2⟩:=(hrd [_,_] w hS).mform
  injection e1 with _ _ e3
  subst e3
  simpa using e2
 refine Z.enter Tryz.func307 Tryz.ntmps307 rfl rfl ?_;refine aQ1 ?_;intro g3 w hS;refine D.startS (Lr:=[.blk x.gp 331 x.cells,.blk g3 341 [.int .i64 kd,.int .i64 fr,.int .i64 to,.int .i64 tm,.int .i64 (x.log.length:Int),.int .i64 pv,.int .i64 cm,.bool ok,.slice A el.length c]]) (hS.sb) 5 5 kR rfl ?_;replace hS:=hS.drew;refine Sh.dp 0 1 ?_;refine Sh.dp 2 5 ?_;refine Sh.dl 1 7 ?_;refine D.ef 3 15 ?_;refine dQ (yaf x _ _ _ ((hS.fo (R:=.blk x.gp 331 x.cells)).fo (R:=JN x.gj x.t x.v x.log x.n))) ?_;intro w hS;refine Sh.dp 4 31 ?_;refine D.dn ?_;refine sQ ?_;intro w hS;replace hS:=hS.sub (L':=JN x.gj x.t x.v x.log x.n::.blk x.gp 331 ({ x with ro:=1 }:Rp).cells::.blk g3 341 [.int .i64 kd,.int .i64 fr,.int .i64 to,.int .i64 tm,.int .i64 (x.log.length:Int),.int .i64 pv,.int .i64 cm,.bool ok,.slice A el.length c]::F) SuF;refine Z.cut [25,26,27,28,29,30,31,32,33,34,35,36,37,38,39,40,41,42,43,44,45,46,47] (fun w z=>z=[(47,.bool false)]∧Sep r [] (JN x.gj x.t x.v x.log x.n::.blk x.gp 331 (({ x with ro:=1 }:Rp)).cells::.blk g3 341 [.int .i64 kd,.int .i64 fr,.int .i64 to,.int .i64 tm,.int .i64 (x.log.length:Int),.int .i64 pv,.int .i64 cm,.bool ok,.slice A el.length c]::F) w) ?_ ?_
 ·by_cases h0:0 < x.log.length
  ·have h41:(lgAt x.log ((x.log.length:Int) - 1)).term=pv:=h4 h0;refine D.startS (Lr:=[.blk x.gp 331 (({ x with ro:=1 }:Rp)).cells,.blk g3 341 [.int .i64 kd,.int .i64 fr,.int .i64 to,.int .i64 tm,.int .i64 (x.log.length:Int),.int .i64 pv,.int .i64 cm,.bool ok,.slice A el.length c]]) (hS.sb) 23 23 kR rfl ?_;replace hS:=hS.drew;refine Sh.dp 0 1 ?_;refine Sh.dp 2 5 ?_;refine Sh.dl 1 7 ?_;refine D.ef 3 15 ?_;refine dQ (yan (({ x with ro:=1 }:Rp)) _ _ _ ((hS.fo (R:=.blk x.gp 331 (({ x with ro:=1 }:Rp)).cells)).fo (R:=JN x.gj x.t x.v x.log x.n))) ?_;intro w hS;refine Sh.dp 4 31 ?_;refine Sh.dp 5 63 ?_;refine D.slot 30 rfl NoF (fun hb=>?_)
   (try simp only [JJ] at hb)
   refine Sh.dp 6 127 ?_;refine Sh.dl 7 255 ?_;refine Sh.dp 8 511 ?_;refine Sh.dp 9 1023 ?_;refine D.slot 34 rfl (fun hb=>?_) NoF
   (try simp only [JJ] at hb)
   refine Sh.dp 10 2047 ?_;refine Sh.dp 11 4095 ?_;refine Sh.dp 12 8191 ?_;refine Sh.dp 14 24575 ?_;refine Sh.dp 18 286719 ?_;refine Sh.dl 13 294911 ?_;refine Sh.dl 15 327679 ?_
   first|refine D.sum 16 393215 rfl (D.wantedT rfl rfl) kR rfl (by constructor<;>omega) ?_|refine D.sumW 16 393215 rfl (D.wantedT rfl rfl) kR rfl ?_
   refine Sh.dl 19 917503 ?_;refine D.eff 17 1048575 rfl (D.wantedT rfl rfl) kR kR (fun _ _ h=>h) ?_;refine WE.guard ?_;refine Z.cl (yaN x.gj x.n x.t x.v x.log ((x.log.length:Int) - 1) _ _ _ (hS.fo (R:=JN x.gj x.t x.v x.log x.n))) rfl ?_;clear hS;rintro e w ⟨rfl,hS⟩;refine ⟨_,rfl,?_⟩;rw [h41];refine HMs ?_
   first|refine D.pr 20 2097151 rfl (D.wantedT rfl rfl) kR rfl ?_|refine D.pl 20 2097151 rfl (D.wantedT rfl rfl) kR (R.nea rfl rfl rfl rfl) ?_
   refine Sh.dp 21 4194303 ?_;refine Sh.dp 22 8388607 ?_;refine D.dn ?_;refine Z.cutE [(47,_)] (by repeat (first|with_reducible exact Same.refl|with_reducible exact Same.mix|((with_reducible refine Same.upd ?_ ?_);· rfl)|((with_reducible refine Same.cons ?_ ?_);· rfl)|with_reducible refine Same.nil ?_|((with_reducible refine Same.mixS ?_ ?_);· rfl))) TrF ?_;exact ⟨by simp [Z.packR],hS.sb⟩
  ·refine D.startS (Lr:=[.blk x.gp 331 (({ x with ro:=1 }:Rp)).cells,.blk g3 341 [.int .i64 kd,.int .i64 fr,.int .i64 to,.int .i64 tm,.int .i64 (x.log.length:Int),.int .i64 pv,.int .i64 cm,.bool ok,.slice A el.length c]]) (hS.sb) 23 23 kR rfl ?_;replace hS:=hS.drew;refine Sh.dp 0 1 ?_;refine Sh.dp 2 5 ?_;refine Sh.dl 1 7 ?_;refine D.ef 3 15 ?_;refine dQ (yan (({ x with ro:=1 }:Rp)) _ _ _ ((hS.fo (R:=.blk x.gp 331 (({ x with ro:=1 }:Rp)).cells)).fo (R:=JN x.gj x.t x.v x.log x.n))) ?_;intro w hS;refine Sh.dp 4 31 ?_;refine Sh.dp 5 63 ?_;refine D.slot 30 rfl NoF (fun hb=>?_)
   (try simp only [JJ] at hb)
   refine Sh.dp 6 127 ?_;refine Sh.dl 7 255 ?_;refine Sh.dp 8 511 ?_;refine Sh.dp 9 1023 ?_;refine D.slot 34 rfl NoF (fun hb=>?_)
   (try simp only [JJ] at hb)
   refine D.sk 10 2047 ?_;refine D.sk 11 4095 ?_;refine D.sk 12 8191 ?_;refine D.sk 13 16383 ?_;refine D.sk 14 32767 ?_;refine D.sk 15 65535 ?_;refine D.sk 16 131071 ?_;refine D.sk 17 262143 ?_;refine D.sk 18 524287 ?_;refine D.sk 19 1048575 ?_;refine D.sk 20 2097151 ?_;refine Sh.dp 21 4194303 ?_;refine Sh.dp 22 8388607 ?_;refine D.dn ?_;refine Z.cutE [(47,_)] (by repeat (first|with_reducible exact Same.refl|with_reducible exact Same.mix|((with_reducible refine Same.upd ?_ ?_);· rfl)|((with_reducible refine Same.cons ?_ ?_);· rfl)|with_reducible refine Same.nil ?_|((with_reducible refine Same.mixS ?_ ?_);· rfl))) TrF ?_;exact ⟨rfl,hS.sb⟩
 clear hS;rintro f1 w _ ⟨rfl,hS⟩
 rcases el with _|⟨y,_|⟨y2,el⟩⟩
 ·have hl0:(([]:List Lg).length:Int)=0:=rfl;refine sQ ?_;intro w hS;refine Z.unr 1 ?_;refine sQ ?_;intro w hS;refine D.startS (Lr:=[.blk g3 341 [.int .i64 kd,.int .i64 fr,.int .i64 to,.int .i64 tm,.int .i64 (x.log.length:Int),.int .i64 pv,.int .i64 cm,.bool ok,.slice A ([]:List Lg).length c]]) (hS.sb) 23 23 kR rfl ?_;replace hS:=hS.drew;refine Sh.dp 0 1 ?_;refine Sh.dp 1 3 ?_;refine Sh.dl 2 7 ?_;refine Sh.dp 3 15 ?_;refine Sh.dp 4 31 ?_;refine Sh.dp 5 63 ?_;refine D.slot 63 rfl NoF (fun hb=>?_)
  (try simp only [JJ] at hb)
  refine D.sk 6 127 ?_;refine D.sk 7 255 ?_;refine D.sk 8 511 ?_;refine D.sk 9 1023 ?_;refine D.sk 10 2047 ?_;refine D.sk 11 4095 ?_;refine D.sk 12 8191 ?_;refine D.sk 13 16383 ?_;refine D.sk 14 32767 ?_;refine D.sk 15 65535 ?_;refine D.sk 16 131071 ?_;refine D.sk 17 262143 ?_;refine D.sk 18 524287 ?_;refine D.sk 19 1048575 ?_;refine D.sk 20 2097151 ?_;refine D.sk 21 4194303 ?_;refine Sh.dp 22 8388607 ?_;refine D.dn ?_
  repeat' first|refine K ?_|refine Sa ?_;intro w hS|refine K3 ?_;intro g w hS hge|refine KC ?_ ?_<;>intro hb<;>try exact JX|fail
  refine D.startS (Lr:=[.blk g3 341 [.int .i64 kd,.int .i64 fr,.int .i64 to,.int .i64 tm,.int .i64 (x.log.length:Int),.int .i64 pv,.int .i64 cm,.bool ok,.slice A ([]:List Lg).length c]]) (hS.sb) 12 13 kR rfl ?_;replace hS:=hS.drew;refine Sh.dp 0 1 ?_;refine Sh.dp 1 3 ?_;refine Sh.dp 2 7 ?_;refine Sh.dp 3 15 ?_;refine Sh.dp 5 47 ?_;refine Sh.dp 7 175 ?_;refine Sh.dl 6 239 ?_;refine D.pl 8 495 rfl D.wantedN kR (R.min2 rfl rfl) ?_;refine D.ef 4 511 ?_;refine Z.ld hS rfl AtF rfl ?_;refine HMs ?_;refine D.pl 9 1023 rfl D.wantedN kR (R.max2 rfl rfl) ?_;refine Sh.dp 10 2047 ?_;refine Sh.dp 11 4095 ?_;refine D.ef 12 8191 ?_;refine Z.st hS rfl AtF rfl rfl ?_;clear hS;intro w hS;refine HMl ?_;refine D.dn ?_;have e1:takenR x [] cm=({ x with ro:=1,co:=max x.co (min cm ((x.log.length:Int)+(([]:List Lg).length:Int))) }:Rp):=by
   unfold takenR
   simp
  rw [e1];replace hS:=hS.sub (L':=JN x.gj x.t x.v x.log x.n::.blk x.gp 331 (({ x with ro:=1,co:=max x.co (min cm ((x.log.length:Int)+(([]:List Lg).length:Int))) }:Rp)).cells::.blk g3 341 [.int .i64 kd,.int .i64 fr,.int .i64 to,.int .i64 tm,.int .i64 (x.log.length:Int),.int .i64 pv,.int .i64 cm,.bool ok,.slice A ([]:List Lg).length c]::F) SuF;refine sQ ?_;intro w hS;refine cQ (ycb (({ x with ro:=1,co:=max x.co (min cm ((x.log.length:Int)+(([]:List Lg).length:Int))) }:Rp)) _ _ _ hS fr _ true) rfl ?_;clear hS;rintro e w ⟨A1,c1,rfl,hS⟩;refine eQ ?_;intro w hS;refine Dnt Tryz.results307 ?_;exact ⟨A1,c1,rfl,hS.sb⟩
 ·have hl1:(([y]:List Lg).length:Int)=1:=rfl;obtain ⟨hy1,hy2,hy3⟩:=h7 y (by simp);obtain ⟨gl,ol,rfl,_,_⟩:=(hrd [_,_,_] w hS).mat (by simp) (q:=0) (by simp);have hra:∀ L W,Sep r [] (L++F) W→W.rangeAt gl (ol+0 * 10) y.cells:=fun L W hW=>by
   have h3:=(hrd L W hW).elem (q:=0) (by simp) (by simp)
   simpa using h3
  have hrd2:Reads r F 10 (.slice (some ⟨gl,ol+Int.toNat 0 * 10,none⟩) (([y]:List Lg).length - Int.toNat 0) (c - Int.toNat 0)) ([y].map Lg.cells):=hrd;have hlast:(lgAt x.log ((x.log.length:Int) - 1)).term≤y.term:=by
   by_cases h0:0 < x.log.length
   ·rw [h4 h0];omega
   ·have:(lgAt x.log ((x.log.length:Int) - 1)).term=0:=by
     unfold lgAt;rw [if_neg oM]
     rfl
    omega
  have hlg:(lgAt x.log ((x.log.length:Int)+0)).term=0:=by
   unfold lgAt;rw [if_neg oM]
   rfl
  refine sQ ?_;intro w hS;refine Z.unr 1 ?_;refine sQ ?_;intro w hS;refine D.startS (Lr:=(.blk x.gp 331 (({ x with ro:=1 }:Rp)).cells::.blk g3 341 [.int .i64 kd,.int .i64 fr,.int .i64 to,.int .i64 tm,.int .i64 (x.log.length:Int),.int .i64 pv,.int .i64 cm,.bool ok,.slice (some ⟨gl,ol,none⟩) ([y]:List Lg).length c]::F)) (hS.sb) 23 23 kR rfl ?_;replace hS:=hS.drew;refine Sh.dp 0 1 ?_;refine Sh.dp 1 3 ?_;refine Sh.dl 2 7 ?_;refine Sh.dp 3 15 ?_;refine Sh.dp 4 31 ?_;refine Sh.dp 5 63 ?_;refine D.slot 63 rfl (fun hb=>?_) NoF
  (try simp only [JJ] at hb)
  refine Sh.dp 6 127 ?_;refine Sh.dp 7 255 ?_;refine Sh.dp 8 511 ?_;refine Sh.dp 10 1535 ?_;refine Sh.dp 12 5631 ?_;refine Sh.dp 15 38399 ?_;refine Sh.dp 17 169471 ?_;refine Sh.dl 9 169983 ?_;refine Sh.dl 11 172031 ?_
  first|refine D.sum 13 180223 rfl (D.wantedT rfl rfl) kR rfl (by constructor<;>omega) ?_|refine D.sumW 13 180223 rfl (D.wantedT rfl rfl) kR rfl ?_
  refine Sh.dl 16 245759 ?_
  first|refine D.ixn 18 507903 rfl (D.wantedT rfl rfl) kR rfl rfl rfl oM ?_|refine D.ix 18 507903 rfl (D.wantedT rfl rfl) kR rfl rfl rfl oM ?_|refine D.ia 18 507903 rfl (D.wantedT rfl rfl) kR rfl rfl rfl oM ?_
  refine Sh.dp 19 1032191 ?_;refine D.ldE 20 2080767 rfl (D.wantedT rfl rfl) kR rfl (hra [_,_]) rfl ?_;refine D.eff 14 2097151 rfl (D.wantedT rfl rfl) kR kR (fun _ _ h=>h) ?_;refine WE.guard ?_;refine Z.cl (yaN x.gj x.n x.t x.v x.log ((x.log.length:Int)+0) _ _ _ (hS.fo (R:=JN x.gj x.t x.v x.log x.n))) rfl ?_;clear hS;rintro e w ⟨rfl,hS⟩;refine ⟨_,rfl,?_⟩;rw [hlg];refine HMs ?_
  first|refine D.pr 21 4194303 rfl (D.wantedT rfl rfl) kR rfl ?_|refine D.pl 21 4194303 rfl (D.wantedT rfl rfl) kR (R.eqa rfl rfl rfl rfl) ?_
  refine Sh.dp 22 8388607 ?_;refine D.dn ?_;replace hS:=hS.sub (L':=JN x.gj x.t x.v x.log x.n::.blk x.gp 331 (({ x with ro:=1 }:Rp)).cells::.blk g3 341 [.int .i64 kd,.int .i64 fr,.int .i64 to,.int .i64 tm,.int .i64 (x.log.length:Int),.int .i64 pv,.int .i64 cm,.bool ok,.slice (some ⟨gl,ol,none⟩) ([y]:List Lg).length c]::F) SuF;refine sQ ?_;intro w hS;refine cQ (ydN (({ x with ro:=1 }:Rp)) _ _ _ hS y _ _ (by show (x.log.length:Int)+0=x.log.length;omega) (hrd2.cons _) hy1 oM hy2 (by show y.term≤x.t;omega) hlast hl (by show x.n≤1000000000;omega)) rfl ?_;clear hS;rintro e w ⟨rfl,hS⟩;refine eQ ?_;intro w hS;refine D.startS (Lr:=[.blk g3 341 [.int .i64 kd,.int .i64 fr,.int .i64 to,.int .i64 tm,.int .i64 (x.log.length:Int),.int .i64 pv,.int .i64 cm,.bool ok,.slice (some ⟨gl,ol,none⟩) ([y]:List Lg).length c]]) (hS.sb) 12 13 kR rfl ?_;replace hS:=hS.drew;refine Sh.dp 0 1 ?_;refine Sh.dp 1 3 ?_;refine Sh.dp 2 7 ?_;refine Sh.dp 3 15 ?_;refine Sh.dp 5 47 ?_;refine Sh.dp 7 175 ?_;refine Sh.dl 6 239 ?_;refine D.pl 8 495 rfl D.wantedN kR (R.min2 rfl rfl) ?_;refine D.ef 4 511 ?_;refine Z.ld hS rfl AtF rfl ?_;refine HMs ?_;refine D.pl 9 1023 rfl D.wantedN kR (R.max2 rfl rfl) ?_;refine Sh.dp 10 2047 ?_;refine Sh.dp 11 4095 ?_;refine D.ef 12 8191 ?_;refine Z.st hS rfl AtF rfl rfl ?_;clear hS;intro w hS;refine HMl ?_;refine D.dn ?_;have e1:takenR x [y] cm=({ replR (({ x with ro:=1 }:Rp)) y with co:=max x.co (min cm ((x.log.length:Int)+(([y]:List Lg).length:Int))) }:Rp):=by
   unfold takenR replR
   simp
  rw [e1];replace hS:=hS.sub (L':=JN x.gj x.t x.v (({ replR (({ x with ro:=1 }:Rp)) y with co:=max x.co (min cm ((x.log.length:Int)+(([y]:List Lg).length:Int))) }:Rp)).log (({ replR (({ x with ro:=1 }:Rp)) y with co:=max x.co (min cm ((x.log.length:Int)+(([y]:List Lg).length:Int))) }:Rp)).n::.blk x.gp 331 (({ replR (({ x with ro:=1 }:Rp)) y with co:=max x.co (min cm ((x.log.length:Int)+(([y]:List Lg).length:Int))) }:Rp)).cells::.blk g3 341 [.int .i64 kd,.int .i64 fr,.int .i64 to,.int .i64 tm,.int .i64 (x.log.length:Int),.int .i64 pv,.int .i64 cm,.bool ok,.slice (some ⟨gl,ol,none⟩) ([y]:List Lg).length c]::F) SuF;refine sQ ?_;intro w hS;refine cQ (ycb (({ replR (({ x with ro:=1 }:Rp)) y with co:=max x.co (min cm ((x.log.length:Int)+(([y]:List Lg).length:Int))) }:Rp)) _ _ _ hS fr _ true) rfl ?_;clear hS;rintro e w ⟨A1,c1,rfl,hS⟩;refine eQ ?_;intro w hS;refine Dnt Tryz.results307 ?_;exact ⟨A1,c1,rfl,hS.sb⟩
 ·simp at h6
end
end Go.Proofs.YtfmnjbhncnldmaaGreat
