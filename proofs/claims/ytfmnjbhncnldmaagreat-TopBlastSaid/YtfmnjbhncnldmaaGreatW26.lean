import Derived.Test.YtfmnjbhncnldmaaGreatW15
set_option maxHeartbeats 8000000
set_option linter.unusedSimpArgs false
set_option linter.unusedVariables false
namespace Go.Proofs.YtfmnjbhncnldmaaGreat
open Go.RowKit
attribute [local irreducible] Res.blk Res.sl Res.all Res.ex Res.pure Res.star
def plC (c:Cfg) (a:CAd) (gq:Nat) (up:Int) (s:Sta) (b:SAd):List Value:=c.cl a++[.pointer (some ⟨gq,0,none⟩),.int .i64 up]++s.cc c b
def isUpB (c:Cfg) (up i:Int):Bool:=decide (0≤i∧i < c.replicas.length) && bitB up i
section
variable (gp gq:Nat) (up:Int) (c:Cfg) (a:CAd) (s:Sta) (b:SAd) (r:World) (F:List Res) (w:World) (hS:Sep r [] (.blk gp 179 (plC c a gq up s b)::F) w)
include hS
theorem yaG (i:Int) (hn:c.replicas.length≤5):Calls Tryz.prog 149 #[.pointer (some ⟨gp,0,none⟩),.int .i64 i] w fun e w'=>e=.returned (.bool (isUpB c up i))∧Sep r [] (.blk gp 179 (plC c a gq up s b)::F) w':=by
 unfold isUpB
 by_cases h:0≤i∧i < c.replicas.length
 ·rw [decide_eq_true h];refine Z.enter Tryz.func149 Tryz.ntmps149 rfl rfl ?_;refine sQ ?_;intro w hS;refine Dnt Tryz.results149 ?_;refine ⟨?_,hS⟩
  show Ending.returned (.bool (decide (bitZ .i64 (· &&& ·) (up.fdiv (2 ^ min i.toNat IntKind.i64.bits)) 1=1)))=_
  rw [ya2,shr_min oM]
  rfl
 ·rw [decide_eq_false h];refine Z.enter Tryz.func149 Tryz.ntmps149 rfl rfl ?_
  repeat' first|refine K ?_|refine Sa ?_;intro w hS|refine K3 ?_;intro g w hS hge|refine KC ?_ ?_<;>intro hb<;>try exact JX|fail
  all_goals
   refine Dnt Tryz.results149 ?_;exact ⟨rfl,hS⟩
theorem ycF (hs:s.ok c) (hq:StC r F s c b) (hv:CfgV c):Calls Tryz.prog 22 #[.pointer (some ⟨gp,0,none⟩)] w fun e w'=>∃ b',e=.returned (s.vc c b')∧Sep r [] (SO c s b'::.blk gp 179 (plC c a gq up s b)::F) w':=by
 have htl:=hv.ok.t;have hkl:=hv.ok.k;have h1:=hs.tl;have h2:=hs.kl;refine Z.enter Tryz.func22 Tryz.ntmps22 rfl rfl ?_
 repeat' first|refine K ?_|refine Sa ?_;intro w hS|refine K3 ?_;intro g w hS hge|refine KC ?_ ?_<;>intro hb<;>try exact JX|fail
 refine D.startS (Lr:=[]) (hS.sb) 9 10 kR rfl ?_;replace hS:=hS.drew;refine Sh.dp 0 1 ?_;refine Sh.dp 3 9 ?_;refine D.each [1,4] kR rfl ?_;refine D.econs 1 11 rfl D.wantedN kR (fun _ _ h=>h) ?_ ?_
 ·refine Z.ld hS rfl AtF rfl ?_;refine HMs ?_;refine D.each [2,4] kR rfl ?_;refine D.econs 2 15 rfl D.wantedN kR (fun _ _ h=>h) ?_ ?_
  ·refine Z.cl (tsq_clone s.tenants _ _ _ _ hS (hq.t.app [_,_,_]) oM) rfl ?_;clear hS;rintro e w ⟨tA,tc,rfl,hS⟩;refine ⟨_,rfl,?_⟩;rw [h1] at hS ⊢;refine HMs ?_;refine D.ef 4 31 ?_;refine Z.ld hS rfl AtF rfl ?_;refine HMs ?_;refine Sh.dp 6 95 ?_;refine D.ef 5 127 ?_;refine Z.cl (csq_clone s.cells _ _ _ _ hS (hq.k.app [_,_,_,_]) oM) rfl ?_;clear hS;rintro e w ⟨kA,kc,rfl,hS⟩;refine ⟨_,rfl,?_⟩;rw [h2] at hS ⊢;refine HMs ?_;refine D.ef 7 255 ?_;refine Z.st hS rfl AtF rfl rfl ?_;clear hS;intro w hS;refine HMs ?_;refine Sh.dp 8 511 ?_;refine D.ef 9 1023 ?_;refine Z.st hS rfl AtF rfl rfl ?_;clear hS;intro w hS;refine HMl ?_;refine D.dn ?_;refine sQ ?_;intro w hS;refine Dnc Tryz.results22 ?_;exact ⟨⟨tA,tc,kA,kc⟩,rfl,(Sep.all_open (Ls:=[_,_])).2 (hS.sb)⟩
  refine D.econs 4 27 rfl D.wantedN kR (fun _ _ h=>h) ?_ ?_
  ·refine Z.ld hS rfl AtF rfl ?_;refine HMs ?_;refine D.ef 2 31 ?_;refine Z.cl (tsq_clone s.tenants _ _ _ _ hS (hq.t.app [_,_,_]) oM) rfl ?_;clear hS;rintro e w ⟨tA,tc,rfl,hS⟩;refine ⟨_,rfl,?_⟩;rw [h1] at hS ⊢;refine HMs ?_;refine Sh.dp 6 95 ?_;refine D.ef 5 127 ?_;refine Z.cl (csq_clone s.cells _ _ _ _ hS (hq.k.app [_,_,_,_]) oM) rfl ?_;clear hS;rintro e w ⟨kA,kc,rfl,hS⟩;refine ⟨_,rfl,?_⟩;rw [h2] at hS ⊢;refine HMs ?_;refine D.ef 7 255 ?_;refine Z.st hS rfl AtF rfl rfl ?_;clear hS;intro w hS;refine HMs ?_;refine Sh.dp 8 511 ?_;refine D.ef 9 1023 ?_;refine Z.st hS rfl AtF rfl rfl ?_;clear hS;intro w hS;refine HMl ?_;refine D.dn ?_;refine sQ ?_;intro w hS;refine Dnc Tryz.results22 ?_;exact ⟨⟨tA,tc,kA,kc⟩,rfl,(Sep.all_open (Ls:=[_,_])).2 (hS.sb)⟩
  exact D.enil
 refine D.econs 4 25 rfl D.wantedN kR (fun _ _ h=>h) ?_ ?_
 ·refine Z.ld hS rfl AtF rfl ?_;refine HMs ?_;refine D.ef 1 27 ?_;refine Z.ld hS rfl AtF rfl ?_;refine HMs ?_;refine D.ef 2 31 ?_;refine Z.cl (tsq_clone s.tenants _ _ _ _ hS (hq.t.app [_,_,_]) oM) rfl ?_;clear hS;rintro e w ⟨tA,tc,rfl,hS⟩;refine ⟨_,rfl,?_⟩;rw [h1] at hS ⊢;refine HMs ?_;refine Sh.dp 6 95 ?_;refine D.ef 5 127 ?_;refine Z.cl (csq_clone s.cells _ _ _ _ hS (hq.k.app [_,_,_,_]) oM) rfl ?_;clear hS;rintro e w ⟨kA,kc,rfl,hS⟩;refine ⟨_,rfl,?_⟩;rw [h2] at hS ⊢;refine HMs ?_;refine D.ef 7 255 ?_;refine Z.st hS rfl AtF rfl rfl ?_;clear hS;intro w hS;refine HMs ?_;refine Sh.dp 8 511 ?_;refine D.ef 9 1023 ?_;refine Z.st hS rfl AtF rfl rfl ?_;clear hS;intro w hS;refine HMl ?_;refine D.dn ?_;refine sQ ?_;intro w hS;refine Dnc Tryz.results22 ?_;exact ⟨⟨tA,tc,kA,kc⟩,rfl,(Sep.all_open (Ls:=[_,_])).2 (hS.sb)⟩
 exact D.enil
end
theorem yhU (r:World) (F:List Res) (w:World) (hS:Sep r [] F w):Calls Tryz.prog 184 #[.int .u64 1] w fun e w'=>e=.returned (.int .i64 1)∧Sep r [] F w':=by
 refine Z.enter Tryz.func184 Tryz.ntmps184 rfl rfl ?_;refine sQ ?_;intro w hS;refine Dnt Tryz.results184 ?_;exact ⟨kR,hS⟩
theorem yiL (r:World) (F:List Res) (w:World) (hS:Sep r [] F w):Calls Tryz.prog 92 #[.int .u64 1] w fun e w'=>e=.returned (.int .i64 1)∧Sep r [] F w':=by
 refine Z.enter Tryz.func92 Tryz.ntmps92 rfl rfl ?_;refine sQ ?_;intro w hS;refine rQ (yhU _ _ _ hS) ?_;intro w hS;refine Dnt Tryz.results92 ?_;exact ⟨rfl,hS⟩
section
variable (gp gq:Nat) (c:Cfg) (a:CAd) (s:Sta) (b:SAd) (r:World) (F:List Res) (w:World)
theorem yek (hS:Sep r [] (.blk gp 179 (plC c a gq 1 s b)::F) w) (hn:c.replicas.length=1):Calls Tryz.prog 67 #[.pointer (some ⟨gp,0,none⟩)] w fun e w'=>e=.returned (.bool true)∧Sep r [] (.blk gp 179 (plC c a gq 1 s b)::F) w':=by
 refine Z.enter Tryz.func67 Tryz.ntmps67 rfl rfl ?_;refine sQ ?_;intro w hS;refine D.startS (Lr:=[.blk gp 179 (plC c a gq 1 s b)]) (hS.sb) 15 15 kR rfl ?_;replace hS:=hS.drew;refine Sh.dp 0 1 ?_;refine Sh.dp 1 3 ?_;refine Sh.dp 2 7 ?_;refine Sh.dp 7 135 ?_;refine Sh.dp 8 391 ?_;refine Sh.dp 9 903 ?_;refine Sh.dp 10 1927 ?_;refine Sh.dl 3 1935 ?_;refine D.pl 4 1951 rfl D.wantedN kR (R.icv rfl) ?_;refine Sh.dl 11 3999 ?_;refine Sh.dp 12 8095 ?_;refine D.ef 5 8127 ?_;refine dQ (yiL _ _ _ hS) ?_;intro w hS
 first|refine D.sum 6 8191 rfl D.wantedN kR rfl (by constructor<;>omega) ?_|refine D.sumW 6 8191 rfl D.wantedN kR rfl ?_
 refine Sh.dp 13 16383 ?_;refine Sh.dp 14 32767 ?_;refine D.dn ?_;refine sQ ?_;intro w hS;refine Dnt Tryz.results67 ?_;exact ⟨by simp [Z.packR,hn],hS⟩
theorem ygX (ro t:Int) (n:Nat) (hS:Sep r [] (.blk gp 179 (plC c a gq 1 s b)::Q1 gq ro t [] n::F) w) (hn:c.replicas.length=1):Calls Tryz.prog 153 #[.pointer (some ⟨gp,0,none⟩)] w fun e w'=>e=.returned (.int .i64 0)∧Sep r [] (.blk gp 179 (plC c a gq 1 s b)::Q1 gq ro t [] n::F) w':=by
 have hup:isUpB c 1 (0:Nat)=true:=by unfold isUpB;rw [hn];decide
 refine Z.enter Tryz.func153 Tryz.ntmps153 rfl rfl ?_;refine sQ ?_;intro w hS;refine Z.lpS [3,4,5,6,7,8,15,16,17,18,19,20,21,22,23,24,25,26,27,28,29,30,31,32,33,34,35,36,37,38,39,40,41,42,43,44,45,46,47,48,49,50,51,52,53,54,55,56] (fun m w z=>∃ (i:Nat) (x y q:Int),z=[(3,.int .i64 x),(4,.int .i64 y),(5,.int .i64 q),(15,.int .i64 i)]∧i≤1∧(i=0→x = -1∧y = -1∧q = -1)∧(i=1→x=0)∧m=1 - i∧Sep r [] (.blk gp 179 (plC c a gq 1 s b)::Q1 gq ro t [] n::F) w) _ [(3,.int .i64 (-1)),(4,.int .i64 (-1)),(5,.int .i64 (-1)),(15,.int .i64 (0:Nat))] TrF ⟨0,-1,-1,-1,rfl,oM,fun _=>⟨rfl,rfl,rfl⟩,oM,rfl,hS⟩ ?_;clear hS;rintro m f0 w _ ⟨i,x,y,q,rfl,hi,h0,h1,rfl,hS⟩
 by_cases hlt:i < 1
 ·obtain rfl:i=0:=by omega
  obtain ⟨rfl,rfl,rfl⟩:=h0 rfl;refine sQ ?_;intro w hS;refine cQ (yaG gp gq 1 c a s b _ _ _ hS (0:Nat) oM) rfl ?_;clear hS;rintro e w ⟨rfl,hS⟩;refine ⟨_,rfl,?_⟩;rw [hup];refine sQ ?_;intro w hS;refine cQ (yia gq n ro t [] _ _ _ (hS.fo (R:=Q1 gq ro t [] n)) (by simp)) rfl ?_;clear hS;rintro e w ⟨Al,cl,rfl,hS⟩;refine ⟨_,rfl,?_⟩;simp only [List.length_nil] at hS ⊢;refine sQ ?_;intro w hS;refine Sh.again (0) [(3,.int .i64 0),(4,.int .i64 0),(5,.int .i64 0),(15,.int .i64 (1:Nat))] ?_;exact ⟨1,0,0,0,rfl,oM,oM,fun _=>rfl,rfl,hS.sb⟩
 ·obtain rfl:=h1 oM;refine sQ ?_;intro w hS;refine Dnt Tryz.results153 ?_;exact ⟨rfl,hS⟩
theorem yb5 (e:En) (ro t:Int) (log:List Lg) (n:Nat) (hS:Sep r [] (.blk gp 179 (plC c a gq 1 s b)::Q1 gq ro t log n::F) w) (hn:c.replicas.length=1) (hro:(ro=3∧t=1)∨(ro=1∧t=0∧log=[]))
  (he:e.i64) (hsh:shapeP e=true) (hlt:(lgAt log (log.length - 1)).term≤1) (hll:log.length < 4096) (hnb:n≤1000000) (hcn:s.count=log.length) :
  Calls Tryz.prog 68 #[.pointer (some ⟨gp,0,none⟩),e.val] w fun x w'=>∃ n',x=.returned (.bool true)∧n'≤n+176∧Sep r [] (.blk gp 179 (plC c a gq 1 s b)::Q1 gq 3 1 (log++[⟨1,e⟩]) n'::F) w':=by
 have hup:isUpB c 1 0=true:=by unfold isUpB;rw [hn];decide
 have hup2:isUpB c 1 (-1)=false:=by unfold isUpB;rw [hn];decide
 refine Z.enter Tryz.func68 Tryz.ntmps68 rfl rfl ?_;refine aQ1 ?_;intro ge w hS;refine Z.lpS [4,5,6,7,8,9,10,11,12,13,14,15,16,17,18,19,20,21,22,23,24,25,26,27,28,29,30,31,32,33,34,35,36,37,38,39,40,41,42,43,44,45,46,47,48,49,50,51,52,53,54,55,56,57,58,59,60,61,62,63,64,65] (fun m w z=>∃ (i:Nat) (ro t:Int) (n':Nat),z=[(6,.int .i64 i)]∧i≤1∧m=1 - i∧n'≤n+48 * i∧((ro=3∧t=1)∨(i=0∧ro=1∧t=0∧log=[]))∧Sep r [] (.blk ge 63 e.cells::.blk gp 179 (plC c a gq 1 s b)::Q1 gq ro t log n'::F) w) _ [(6,.int .i64 (0:Nat))] TrF ⟨0,ro,t,n,rfl,oM,rfl,oM,hro.imp id fun h=>⟨rfl,h⟩,hS⟩ ?_;clear hS hro;rintro m f0 w _ ⟨i,ro,t,n',rfl,hi,rfl,hn',hro,hS⟩;refine sQ ?_;intro w hS;refine cQ (yeR gq n' ro t log _ _ _ (hS.fo (R:=Q1 gq ro t log n'))) rfl ?_;clear hS;rintro e w ⟨rfl,hS⟩;refine ⟨_,rfl,?_⟩
 rcases hro with ⟨rfl,rfl⟩|⟨rfl,rfl,rfl,rfl⟩
 ·rw [if_pos rfl];refine sQ ?_;intro w hS;refine D.startS (Lr:=[.blk ge 63 e.cells,.blk gp 179 (plC c a gq 1 s b)]) (hS.sb) 14 14 kR rfl ?_;replace hS:=hS.drew;refine Sh.dp 0 1 ?_;refine Sh.dp 1 3 ?_;refine D.ef 2 7 ?_;replace hS:=hS.fo (R:=.blk gp 179 (plC c a gq 1 s b));refine Z.cl (yaG gp gq 1 c a s b _ _ _ hS 0 oM) rfl ?_;clear hS;rintro e w ⟨rfl,hS⟩;refine ⟨_,rfl,?_⟩;rw [hup];refine HMs ?_;refine Sh.dp 3 15 ?_;refine D.slot 16 rfl (fun hb=>?_) NoF
  (try simp only [JJ] at hb)
  refine Sh.dp 4 31 ?_;refine Sh.dp 5 63 ?_;refine Sh.dp 6 127 ?_;refine Sh.dp 8 383 ?_;refine Sh.dl 7 511 ?_;refine Sh.dl 9 1023 ?_
  first|refine D.bu 10 2047 rfl (D.wantedT rfl rfl) kR rfl rfl ?_|refine D.buA 10 2047 rfl (D.wantedT rfl rfl) kR rfl rfl ?_
  refine D.eff 11 4095 rfl (D.wantedT rfl rfl) kR kR (fun _ _ h=>h) ?_;refine WE.guard ?_;replace hS:=hS.fo (R:=Q1 gq 3 1 log n');refine Z.cl (yiT gq n' 3 1 log _ _ _ hS e he rfl oM hsh hlt hll oM) rfl ?_;clear hS;rintro e w ⟨rfl,hS⟩;refine ⟨_,rfl,?_⟩;refine HMs ?_
  first|refine D.pr 12 8191 rfl (D.wantedT rfl rfl) kR rfl ?_|refine D.pl 12 8191 rfl (D.wantedT rfl rfl) kR (R.eqa rfl rfl rfl rfl) ?_
  refine Sh.dp 13 16383 ?_;refine D.dn ?_;refine sQ ?_;intro w hS;refine D.startS (Lr:=[.blk gp 179 (plC c a gq 1 s b)]) (hS.sb) 9 9 kR rfl ?_;replace hS:=hS.drew;refine Sh.dp 0 1 ?_;refine Sh.dp 1 3 ?_;refine Sh.dp 2 7 ?_;refine Sh.dp 4 23 ?_;refine Sh.dp 5 55 ?_;refine Sh.dp 6 119 ?_;refine Sh.dl 3 127 ?_;refine Sh.dl 7 255 ?_;refine D.ef 8 511 ?_;replace hS:=hS.fo (R:=Q1 gq 3 1 (log++[⟨1,e⟩]) (n'+128));refine dQ (ycI gq (n'+128) 3 1 (log++[⟨1,e⟩]) _ _ _ hS 1) ?_;intro w hS;refine D.dn ?_;refine sQ ?_;intro w hS;refine D.startS (Lr:=[.blk gp 179 (plC c a gq 1 s b)]) (hS.sb) 13 13 kR rfl ?_;replace hS:=hS.drew;refine Sh.dp 0 1 ?_;refine Sh.dp 1 3 ?_;refine Sh.dp 2 7 ?_;refine Sh.dp 4 23 ?_;refine Sh.dp 6 87 ?_;refine Sh.dp 7 215 ?_;refine Sh.dp 8 471 ?_;refine Sh.dp 9 983 ?_;refine Sh.dl 3 991 ?_;refine Sh.dl 10 2015 ?_;refine D.ef 5 2047 ?_;replace hS:=hS.fo (R:=Q1 gq 3 1 (log++[⟨1,e⟩]) (n'+128));refine dQ (yeP gq (n'+128) 3 1 (log++[⟨1,e⟩]) _ _ _ hS) ?_;intro w hS;refine Sh.dp 11 4095 ?_;refine Sh.dp 12 8191 ?_;refine D.dn ?_;refine sQ ?_;intro w hS;refine Dnt Tryz.results68 ?_;refine ⟨n'+128,?_,oM,hS.sb⟩
  simp [Z.packR,hcn]
  omega
 ·rw [if_neg (by decide)];refine sQ ?_;intro w hS;refine D.startS (Lr:=[.blk ge 63 e.cells,.blk gp 179 (plC c a gq 1 s b)]) (hS.sb) 14 14 kR rfl ?_;replace hS:=hS.drew;refine Sh.dp 0 1 ?_;refine Sh.dp 1 3 ?_;refine D.ef 2 7 ?_;replace hS:=hS.fo (R:=.blk gp 179 (plC c a gq 1 s b));refine Z.cl (yaG gp gq 1 c a s b _ _ _ hS (-1) oM) rfl ?_;clear hS;rintro e w ⟨rfl,hS⟩;refine ⟨_,rfl,?_⟩;rw [hup2];refine HMs ?_;refine Sh.dp 3 15 ?_;refine D.slot 16 rfl NoF (fun hb=>?_)
  (try simp only [JJ] at hb)
  refine D.sk 4 31 ?_;refine D.sk 5 63 ?_;refine D.sk 6 127 ?_;refine D.sk 7 255 ?_;refine D.sk 8 511 ?_;refine D.sk 9 1023 ?_;refine D.sk 10 2047 ?_;refine D.sk 11 4095 ?_;refine D.sk 12 8191 ?_;refine Sh.dp 13 16383 ?_;refine D.dn ?_;refine sQ ?_;intro w hS;refine D.startS (Lr:=[.blk gp 179 (plC c a gq 1 s b)]) (hS.sb) 8 8 kR rfl ?_;replace hS:=hS.drew;refine Sh.dp 0 1 ?_;refine Sh.dp 1 3 ?_;refine Sh.dp 2 7 ?_;refine Sh.dp 4 23 ?_;refine Sh.dl 3 31 ?_;refine D.ef 5 63 ?_;replace hS:=hS.fo (R:=Q1 gq 1 0 [] n');replace hS:=hS.fo (R:=.blk gp 179 (plC c a gq 1 s b));refine dQ (ygX gp gq c a s b _ _ _ 1 0 n' hS hn) ?_;intro w hS
  first|refine D.bu 6 127 rfl D.wantedN kR rfl rfl ?_|refine D.buA 6 127 rfl D.wantedN kR rfl rfl ?_
  refine D.ef 7 255 ?_;replace hS:=hS.fo (R:=Q1 gq 1 0 [] n');refine Z.cl (yiS gq n' 1 0 [] _ _ _ hS ⟨0,0,0,0,0,0,0,0,0⟩ oM oM (by simp)) rfl ?_;clear hS;rintro e w ⟨rfl,hS⟩;refine ⟨_,rfl,?_⟩;refine HMs ?_;refine D.dn ?_;refine sQ ?_;intro w hS;refine D.startS (Lr:=[.blk gp 179 (plC c a gq 1 s b)]) (hS.sb) 9 9 kR rfl ?_;replace hS:=hS.drew;refine Sh.dp 0 1 ?_;refine Sh.dp 1 3 ?_;refine Sh.dp 2 7 ?_;refine Sh.dp 4 23 ?_;refine Sh.dp 5 55 ?_;refine Sh.dp 6 119 ?_;refine Sh.dl 3 127 ?_;refine Sh.dl 7 255 ?_;refine D.ef 8 511 ?_;replace hS:=hS.fo (R:=Q1 gq 3 (0+1) [] (n'+48));refine dQ (ycI gq (n'+48) 3 (0+1) [] _ _ _ hS 1) ?_;intro w hS;refine D.dn ?_;refine sQ ?_;intro w hS;refine Sh.again (0) [(6,.int .i64 (1:Nat))] ?_;exact ⟨1,3,1,n'+48,rfl,oM,rfl,oM,.inl ⟨rfl,rfl⟩,hS.sb⟩
end
def PLN (gp gq:Nat) (up:Int) (c:Cfg) (s:Sta):Res:=.ex fun p:CAd×SAd=>.all [.blk gp 179 (plC c p.1 gq up s p.2),CfO c p.1,SO c s p.2]
theorem Sep.PLN_open {r w:World} {M:List Nat} {F:List Res} {gp gq:Nat} {up:Int} {c:Cfg} {s:Sta}:Sep r M (PLN gp gq up c s::F) w↔∃ a b,Sep r M (.blk gp 179 (plC c a gq up s b)::CfO c a::SO c s b::F) w:=by
 simp only [PLN,Sep.ex_open,Sep.all_open,List.cons_append,List.nil_append];exact ⟨fun ⟨⟨a,b⟩,h⟩=>⟨a,b,h⟩,fun ⟨a,b,h⟩=>⟨(a,b),h⟩⟩
theorem yic (r:World) (F:List Res) (w:World) (hS:Sep r [] F w) :
  Calls Tryz.prog 61 #[.int .i64 1] w fun e w'=>∃ (gq:Nat),e=.returned (.tuple #[.pointer (some ⟨gq,0,none⟩),.int .i64 0])∧Sep r [] (Q1 gq 1 0 [] 0::F) w':=by
 refine (yiV r F w hS).mono ?_;rintro e w' ⟨gq,gp,gj,A,c,rfl,hS⟩;refine ⟨gq,rfl,Sep.Q1_open.2 ⟨⟨gp,gj,-1,0,0,A,c,none,0⟩,?_⟩⟩;replace hS:=Z.nilsl hS 63 9 none;simp only [Q1R,List.cons_append,List.nil_append,List.map_nil,List.length_nil];exact hS.sb
theorem ydp (c:Cfg) (a:CAd) (r:World) (F:List Res) (w:World) (hS:Sep r [] F w) (hr:CfA r F c a) (hv:CfgV c) (hn:c.replicas.length=1) :
  Calls Tryz.prog 19 #[c.val a] w fun e w'=>∃ (gp gq:Nat),e=.returned (.tuple #[.pointer (some ⟨gp,0,none⟩),.int .i64 0])∧Sep r [] (PLN gp gq 1 c (newS c)::Q1 gq 1 0 [] 0::F) w':=by
 have h3:=hv.ok.t;have h2:=hv.ok.k;refine Z.enter Tryz.func19 Tryz.ntmps19 rfl rfl ?_
 repeat' first|refine K ?_|refine Sa ?_;clear hS;intro w hS|refine K3 ?_;clear hS;intro g w hS hge|refine KC ?_ ?_<;>intro hb<;>try exact JX|fail
 rename Nat=>g0;refine rQ (ydn c a _ _ _ hS (hr.cons _) hv) ?_;intro w hS;rw [hn];refine cQ (yic _ _ _ hS) rfl ?_;clear hS;rintro e w ⟨gq,rfl,hS⟩;refine eQ ?_;intro w hS;refine cQ (yb4 c a _ _ _ hS (hr.app [_,_]) hv) rfl ?_;clear hS;rintro e w ⟨a',rfl,hS⟩;refine eQ ?_;intro w hS;refine D.startS (Lr:=[.blk g0 55 (c.cl a')]) (hS.sb) 13 13 kR rfl ?_;replace hS:=hS.drew;refine Sh.dp 1 2 ?_;refine Sh.dp 2 6 ?_;refine Sh.dl 0 7 ?_;refine Sh.dl 3 15 ?_;refine Sh.dp 4 31 ?_;refine D.pl 5 63 rfl D.wantedN kR (R.ish (v:=.int .i64 2) rfl rfl (by rw [hn];rfl) oM) ?_
 first|refine D.sum 6 127 rfl D.wantedN kR rfl (by constructor<;>omega) ?_|refine D.sumW 6 127 rfl D.wantedN kR rfl ?_
 refine Sh.dl 7 255 ?_;refine D.ef 8 511 ?_;refine Z.cl (ycu c a' _ _ _ hS oM oM) rfl ?_;clear hS;rintro e w ⟨b',rfl,hS⟩;refine ⟨_,rfl,?_⟩;refine HMs ?_
 first|refine D.bu 9 1023 rfl D.wantedN kR rfl rfl ?_|refine D.buA 9 1023 rfl D.wantedN kR rfl rfl ?_
 refine D.ef 10 2047 ?_;refine Z.bx hS rfl ?_;clear hS;intro gp w hS hge;refine HMs ?_;refine Sh.dp 11 4095 ?_;refine Sh.dp 12 8191 ?_;refine D.dn ?_;refine sQ ?_;intro w hS;refine Dntt Tryz.results19 ?_;exact ⟨gp,gq,rfl,(Sep.sub (L:=PLN gp gq 1 c (newS c)::Q1 gq 1 0 [] 0::F) (Sep.PLN_open.2 ⟨a',b',hS.sb⟩) SuF)⟩
theorem ybC (gp gq:Nat) (c:Cfg) (s:Sta) (e:En) (ro t:Int) (log:List Lg) (n:Nat) (r:World) (F:List Res) (w:World) (hS:Sep r [] (PLN gp gq 1 c s::Q1 gq ro t log n::F) w) (hn:c.replicas.length=1) (hro:(ro=3∧t=1)∨(ro=1∧t=0∧log=[]))
  (he:e.i64) (hlt:(lgAt log (log.length - 1)).term≤1) (hll:log.length < 4096) (hnb:n≤1000000) (hcn:s.count=log.length) (hv:CfgV c) (hs:s.ok c) (hacc:accP c s e=true) (hk:e.kind=1∨(e.kind=2∧validP c e=true∧s.count < 4096∧s.tick≤e.tick∧GrOk c s e)) :
  Calls Tryz.prog 21 #[.pointer (some ⟨gp,0,none⟩),e.val] w fun x w'=>∃ n',x=.returned (.tuple #[.int .i64 s.count,.int .i64 0])∧n'≤n+176∧Sep r [] (PLN gp gq 1 c (effP s e)::Q1 gq 3 1 (log++[⟨1,e⟩]) n'::F) w':=by
 have hsh:shapeP e=true:=by
  unfold accP refP validP at hacc;simp only [Bool.and_eq_true] at hacc;exact hacc.1.1.1.1.1
 obtain ⟨a,b,hS⟩:=Sep.PLN_open.1 hS;refine Z.enter Tryz.func21 Tryz.ntmps21 rfl rfl ?_;refine aQ1 ?_;intro ge w hS;refine rQ (yek gp gq c a s b _ _ _ (hS.fo (R:=.blk gp 179 (plC c a gq 1 s b))) hn) ?_;intro w hS;refine Z.cut [6,7,12,13,14,15,16,17,18,19,20,21,22,23,24] (fun w z=>∃ g6 b',z=[(6,.pointer (some ⟨g6,0,.none⟩)),(7,.int .i64 0)]∧Sep r [] (.blk g6 69 ((effP s e).cc c b')::SO c (effP s e) b'::.blk ge 63 e.cells::.blk gp 179 (plC c a gq 1 s b)::CfO c a::SO c s b::Q1 gq ro t log n::F) w) ?_ ?_
 ·refine D.startS (Lr:=[.blk ge 63 e.cells,.blk gp 179 (plC c a gq 1 s b)]) (hS.sb) 14 16 kR rfl ?_;replace hS:=hS.drew;refine Sh.dp 0 1 ?_;refine Sh.dp 1 3 ?_;refine Sh.dp 2 7 ?_;refine Sh.dp 4 23 ?_;refine Sh.dp 5 55 ?_;refine Sh.dp 6 119 ?_;refine Sh.dl 3 127 ?_;refine Sh.dl 7 255 ?_;refine Sh.dl 8 511 ?_;refine D.each [9,13] kR rfl ?_;refine D.econs 9 1023 rfl D.wantedN kR (fun _ _ h=>h) ?_ ?_
  ·refine Z.cl (yaV c a s b e _ _ _ hS (CfA.of_co AtF).cf hv hs (StC.of_so AtF) oM hk) rfl ?_;clear hS;rintro e w ⟨cz,s',b',er,X,⟨rfl,hi,hz⟩,hS⟩;refine ⟨_,rfl,?_⟩;obtain rfl:er=0:=hi.2 hacc;obtain ⟨rfl,rfl,rfl⟩:=hz rfl;refine HMs ?_;refine Sh.dp 10 2047 ?_;refine Sh.dp 11 4095 ?_;refine Sh.dp 12 8191 ?_;refine D.ef 13 16383 ?_;refine Z.al hS ?_;clear hS;intro g w hS hge;refine HMs ?_;refine D.ef 14 32767 ?_;refine Z.st hS rfl AtF rfl rfl ?_;clear hS;intro w hS;refine HMl ?_;refine Sh.dp 15 65535 ?_;refine D.dn ?_;refine Sh.cut [(6,_),(7,_)] ?_;exact ⟨_,_,rfl,hS.sb⟩
  refine D.econs 13 8703 rfl D.wantedN kR (fun _ _ h=>h) ?_ ?_
  ·refine Z.al hS ?_;clear hS;intro g w hS hge;refine HMs ?_;refine D.ef 9 9215 ?_;refine Z.cl (yaV c a s b e _ _ _ hS (CfA.of_co AtF).cf hv hs (StC.of_so AtF) oM hk) rfl ?_;clear hS;rintro e w ⟨cz,s',b',er,X,⟨rfl,hi,hz⟩,hS⟩;refine ⟨_,rfl,?_⟩;obtain rfl:er=0:=hi.2 hacc;obtain ⟨rfl,rfl,rfl⟩:=hz rfl;refine HMs ?_;refine Sh.dp 10 10239 ?_;refine Sh.dp 11 12287 ?_;refine Sh.dp 12 16383 ?_;refine D.ef 14 32767 ?_;refine Z.st hS rfl AtF rfl rfl ?_;clear hS;intro w hS;refine HMl ?_;refine Sh.dp 15 65535 ?_;refine D.dn ?_;refine Sh.cut [(6,_),(7,_)] ?_;exact ⟨_,_,rfl,hS.sb⟩
  exact D.enil
 clear hS;rintro f0 w _ ⟨g6,b',rfl,hS⟩;refine sQ ?_;intro w hS;replace hS:=hS.fo (R:=Q1 gq ro t log n);replace hS:=hS.fo (R:=.blk gp 179 (plC c a gq 1 s b));refine cQ (yb5 gp gq c a s b _ _ _ e ro t log n hS hn hro he hsh hlt hll hnb hcn) rfl ?_;clear hS;rintro e w ⟨n',rfl,hn',hS⟩;refine eQ ?_;intro w hS;refine Dntt Tryz.results21 ?_;exact ⟨n',rfl,hn',(Sep.sub (L:=PLN gp gq 1 c (effP s e)::Q1 gq 3 1 (log++[⟨1,e⟩]) n'::F) (Sep.PLN_open.2 ⟨a,b',hS.sb⟩) SuF)⟩
theorem ybB (gp gq:Nat) (c:Cfg) (s:Sta) (ro t:Int) (log:List Lg) (n:Nat) (r:World) (F:List Res) (w:World) (hS:Sep r [] (PLN gp gq 1 c s::Q1 gq ro t log n::F) w) (hl:log.length≤5000) :
  Calls Tryz.prog 46 #[.pointer (some ⟨gp,0,none⟩)] w fun x w'=>∃ (Al:Option Addr) (cl:Nat),x=.returned (.slice Al (log.map Lg.e).length cl)∧Sep r [] (.sl 63 9 (.slice Al (log.map Lg.e).length cl) ((log.map Lg.e).map En.cells)::PLN gp gq 1 c s::Q1 gq ro t log n::F) w':=by
 obtain ⟨a,b,hS⟩:=Sep.PLN_open.1 hS;refine Z.enter Tryz.func46 Tryz.ntmps46 rfl rfl ?_;refine sQ ?_;intro w hS;refine cQ (ycU gq n ro t log _ _ _ (hS.fo (R:=Q1 gq ro t log n)) hl) rfl ?_;clear hS;rintro e w ⟨Al,cl,rfl,hS⟩;refine eQ ?_;intro w hS;refine Dnt Tryz.results46 ?_;exact ⟨Al,cl,rfl,(Sep.sub (L:=PLN gp gq 1 c s::.sl 63 9 (.slice Al (log.map Lg.e).length cl) ((log.map Lg.e).map En.cells)::Q1 gq ro t log n::F) (Sep.PLN_open.2 ⟨a,b,hS.sb⟩) SuF)⟩
end Go.Proofs.YtfmnjbhncnldmaaGreat
