import Derived.Test.YtfmnjbhncnldmaaGreatW03
import Derived.Test.YtfmnjbhncnldmaaGreatW29
set_option maxHeartbeats 8000000
set_option linter.unusedSimpArgs false
set_option linter.unusedVariables false
namespace Go.Proofs.YtfmnjbhncnldmaaGreat
open Go.RowKit
attribute [local irreducible] Res.blk Res.sl Res.all Res.ex Res.pure Res.star
theorem ygy (a:Int) (k:Nat) (h:k < 64):a.fdiv (2 ^ k) % 2=(((a % 18446744073709551616).toNat / 2 ^ k % 2:Nat):Int):=by
 have hp:0 < 2 ^ k:=Nat.pow_pos (by decide);have e1:((2:Int) ^ k)=((2 ^ k:Nat):Int):=by push_cast;rfl
 have e2:2 ^ 64=2 ^ k * (2 * 2 ^ (63 - k)):=by
  rw [← Nat.pow_succ',← Nat.pow_add]
  congr 1
  omega
 rw [e1,Int.fdiv_eq_ediv_of_nonneg _ oM];generalize 2 ^ k=n at *;generalize 2 ^ (63 - k)=m at *;have e3:(18446744073709551616:Int)=(n:Int) * (2 * (m:Int)):=by
  have e4:(18446744073709551616:Nat)=n * (2 * m):=e2;have e5:((18446744073709551616:Nat):Int)=((n * (2 * m):Nat):Int):=congrArg _ e4;rw [Int.natCast_mul,Int.natCast_mul] at e5;exact e5
 have h0:0≤a % 18446744073709551616:=Int.emod_nonneg _ (by decide);have e4:=Int.emod_add_mul_ediv a 18446744073709551616;generalize a / 18446744073709551616=q at *;obtain ⟨x,hx⟩:=Int.eq_ofNat_of_zero_le h0;rw [hx] at e4 ⊢;rw [← e4,e3,Int.mul_assoc,Int.add_mul_ediv_left _ _ oM,Int.mul_assoc,Int.add_mul_emod_self_left,Int.toNat_natCast]
 push_cast
 rfl
theorem wrap_mod (n:Nat) (h:n < 18446744073709551616):IntKind.i64.wrap (n:Int) % 18446744073709551616=n:=by
 simp [IntKind.wrap,IntKind.signed,IntKind.bits]
 omega
theorem bitB_or {a b i:Int} (h0:0≤i) (h1:i < 64) (h:bitB a i=true):bitB (bitZ .i64 (· ||| ·) a b) i=true:=by
 unfold bitB at *;simp only [decide_eq_true_eq] at *;rw [ygy _ _ oM] at h ⊢;have hN:bitZ .i64 (· ||| ·) a b=IntKind.i64.wrap (((BitVec.ofInt 64 a ||| BitVec.ofInt 64 b).toNat:Nat):Int):=rfl;rw [hN,wrap_mod _ (BitVec.isLt _),Int.toNat_natCast,BitVec.toNat_or];have hA:(BitVec.ofInt 64 a).toNat=(a % 18446744073709551616).toNat:=by
  rw [BitVec.toNat_ofInt]
  rfl
 have ht:(BitVec.ofInt 64 a).toNat.testBit i.toNat=true:=by
  rw [hA,Nat.testBit_eq_decide_div_mod_eq,decide_eq_true_eq];omega
 have ht2:((BitVec.ofInt 64 a).toNat ||| (BitVec.ofInt 64 b).toNat).testBit i.toNat=true:=by
  rw [Nat.testBit_or,ht]
  rfl
 rw [Nat.testBit_eq_decide_div_mod_eq,decide_eq_true_eq] at ht2;omega
theorem yhK {a b i:Int} (h:hasB a i=true):hasB (bitZ .i64 (· ||| ·) a b) i=true:=by
 unfold hasB at *;simp only [Bool.and_eq_true,decide_eq_true_eq] at *;exact ⟨h.1,bitB_or h.1.1 h.1.2 h.2⟩
theorem ycf (ks:List CS) (gk kc n0 q:Nat) (x:CS) (e:En) (r:World) (F:List Res) (w:World) (hS:Sep r [] (.sl 186 4 (.slice (some ⟨gk,0,none⟩) n0 kc) (ks.map CS.cells)::F) w) (hq:q < ks.length) (hx:ks[q]'hq=x) (hk:e.kind=10∨e.kind=11) :
  Calls Tryz.prog 178 #[.pointer (some ⟨gk,0+q * 4,none⟩),e.val] w fun y w'=>y=.returned (.tuple #[])∧Sep r [] (.sl 186 4 (.slice (some ⟨gk,0,none⟩) n0 kc) ((ks.set q (onK x e)).map CS.cells)::F) w':=by
 replace hS:=ybT hS hq hx
 rcases hk with hk|hk
 ·have hon:onK x e={ x with wanted:=e.n }:=by unfold onK;rw [if_neg oM,if_pos hk]
  rw [hon];refine Z.enter Tryz.func178 Tryz.ntmps178 rfl rfl ?_;refine aQ1 ?_;intro ge w hS;refine Z.eff (Z.stK (y0:=x) (j:=2) ({ x with wanted:=e.n }:CS) hS rfl AtF hq rfl rfl rfl oM rfl ?_) rfl;clear hS;intro w hS;refine sQ ?_;intro w hS;refine Dn Tryz.results178 ?_;exact ⟨rfl,hS.sb⟩
 ·have hon:onK x e={ x with running:=e.n,since:=e.tick }:=by unfold onK;rw [if_neg oM,if_neg oM,if_pos hk]
  rw [hon];refine Z.enter Tryz.func178 Tryz.ntmps178 rfl rfl ?_;refine aQ1 ?_;intro ge w hS;refine D.startS (Lr:=[.blk ge 63 e.cells]) (hS.sb) 11 12 kR rfl ?_;replace hS:=hS.drew;refine Sh.dp 0 1 ?_;refine Sh.dp 1 3 ?_;refine Sh.dp 2 7 ?_;refine Sh.dp 4 23 ?_;refine Sh.dl 3 31 ?_;refine Sh.dp 6 95 ?_;refine Sh.dp 7 223 ?_;refine Sh.dl 5 255 ?_;refine D.ef 8 511 ?_;refine Z.stK (y0:=x) (j:=1) ({ x with running:=e.n }:CS) hS rfl AtF hq rfl rfl rfl oM rfl ?_;clear hS;intro w hS;refine HMs ?_;refine Sh.dp 9 1023 ?_;refine Sh.dp 10 2047 ?_;refine D.ef 11 4095 ?_;refine Z.stK (y0:={ x with running:=e.n }) (j:=3) ({ x with running:=e.n,since:=e.tick }:CS) hS rfl AtF hq rfl rfl rfl oM rfl ?_;clear hS;intro w hS;refine HMl ?_;refine D.dn ?_;refine sQ ?_;intro w hS;refine Dn Tryz.results178 ?_;exact ⟨rfl,hS.sb⟩
def EffK (s:Sta) (e:En) (s':Sta):Prop:=
 ((e.kind=10∨e.kind=11)∧s'={ s with tick:=e.tick,count:=s.count+1,cells:=s.cells.set e.cell.toNat (onK (celP s e.cell) e) })∨
 (e.kind=12∧∃ p:Int,(∀ i,hasB s.proven i=true→hasB p i=true)∧s'={ s with tick:=e.tick,count:=s.count+1,proven:=p })
set_option maxRecDepth 10000 in
theorem steff_k (c:Cfg) (s:Sta) (b:SAd) (e:En) (r:World) (F:List Res) (w:World) (hS:Sep r [] F w) (hs:s.ok c) (hq:StC r F s c b) (hv:CfgV c) (ht:e.kind=12∨(0≤e.cell∧e.cell < c.cells.length)) (hn:0≤e.n) (hc:0≤s.count∧s.count≤5000) (hk:e.kind=10∨e.kind=11∨e.kind=12) :
  Calls Tryz.prog 86 #[s.vc c b,e.val] w fun y w'=>∃ (s':Sta) (b':SAd),y=.returned (s'.vc c b')∧EffK s e s'∧Sep r [] (SO c s' b'::F) w':=by
 have htl:=hv.ok.t;have hkl:=hv.ok.k;have h1:=hs.tl;have h2:=hs.kl;refine Z.enter Tryz.func86 Tryz.ntmps86 rfl rfl ?_;refine aQ3 ?_;intro gs ge gr w hS;refine Z.cut [5,6,7,8,9,10,11,12] (fun w z=>∃ (tA:Option Addr) (tc:Nat) (kA:Option Addr) (kc:Nat),z=[]∧Sep r [] (.sl 183 12 (.slice tA c.tenants.length tc) (s.tenants.map TS.cells)::.sl 186 4 (.slice kA c.cells.length kc) (s.cells.map CS.cells)::.blk gr 69 (Sta.zero.cl SAd.zero)::.blk ge 63 e.cells::.blk gs 69 (s.cc c ⟨tA,tc,kA,kc⟩)::F) w) ?_ ?_
 ·refine D.startS (Lr:=[]) (hS.sb) 9 10 kR rfl ?_;replace hS:=hS.drew;refine Sh.dp 0 1 ?_;refine Sh.dp 3 9 ?_;refine D.each [1,4] kR rfl ?_;refine D.econs 1 11 rfl D.wantedN kR (fun _ _ h=>h) ?_ ?_
  ·refine Z.ld hS rfl AtF rfl ?_;refine HMs ?_;refine D.each [2,4] kR rfl ?_;refine D.econs 2 15 rfl D.wantedN kR (fun _ _ h=>h) ?_ ?_
   ·refine Z.cl (tsq_clone s.tenants _ _ _ _ hS (hq.t.app [_,_,_]) oM) rfl ?_;clear hS;rintro e w ⟨tA,tc,rfl,hS⟩;refine ⟨_,rfl,?_⟩;rw [h1] at hS ⊢;refine HMs ?_;refine D.ef 4 31 ?_;refine Z.ld hS rfl AtF rfl ?_;refine HMs ?_;refine Sh.dp 6 95 ?_;refine D.ef 5 127 ?_;refine Z.cl (csq_clone s.cells _ _ _ _ hS (hq.k.app [_,_,_,_]) oM) rfl ?_;clear hS;rintro e w ⟨kA,kc,rfl,hS⟩;refine ⟨_,rfl,?_⟩;rw [h2] at hS ⊢;refine HMs ?_;refine D.ef 7 255 ?_;refine Z.st hS rfl AtF rfl rfl ?_;clear hS;intro w hS;refine HMs ?_;refine Sh.dp 8 511 ?_;refine D.ef 9 1023 ?_;refine Z.st hS rfl AtF rfl rfl ?_;clear hS;intro w hS;refine HMl ?_;refine D.dn ?_;refine Sh.cut [] ?_;exact ⟨_,_,_,_,rfl,hS.sb⟩
   refine D.econs 4 27 rfl D.wantedN kR (fun _ _ h=>h) ?_ ?_
   ·refine Z.ld hS rfl AtF rfl ?_;refine HMs ?_;refine D.ef 2 31 ?_;refine Z.cl (tsq_clone s.tenants _ _ _ _ hS (hq.t.app [_,_,_]) oM) rfl ?_;clear hS;rintro e w ⟨tA,tc,rfl,hS⟩;refine ⟨_,rfl,?_⟩;rw [h1] at hS ⊢;refine HMs ?_;refine Sh.dp 6 95 ?_;refine D.ef 5 127 ?_;refine Z.cl (csq_clone s.cells _ _ _ _ hS (hq.k.app [_,_,_,_]) oM) rfl ?_;clear hS;rintro e w ⟨kA,kc,rfl,hS⟩;refine ⟨_,rfl,?_⟩;rw [h2] at hS ⊢;refine HMs ?_;refine D.ef 7 255 ?_;refine Z.st hS rfl AtF rfl rfl ?_;clear hS;intro w hS;refine HMs ?_;refine Sh.dp 8 511 ?_;refine D.ef 9 1023 ?_;refine Z.st hS rfl AtF rfl rfl ?_;clear hS;intro w hS;refine HMl ?_;refine D.dn ?_;refine Sh.cut [] ?_;exact ⟨_,_,_,_,rfl,hS.sb⟩
   exact D.enil
  refine D.econs 4 25 rfl D.wantedN kR (fun _ _ h=>h) ?_ ?_
  ·refine Z.ld hS rfl AtF rfl ?_;refine HMs ?_;refine D.ef 1 27 ?_;refine Z.ld hS rfl AtF rfl ?_;refine HMs ?_;refine D.ef 2 31 ?_;refine Z.cl (tsq_clone s.tenants _ _ _ _ hS (hq.t.app [_,_,_]) oM) rfl ?_;clear hS;rintro e w ⟨tA,tc,rfl,hS⟩;refine ⟨_,rfl,?_⟩;rw [h1] at hS ⊢;refine HMs ?_;refine Sh.dp 6 95 ?_;refine D.ef 5 127 ?_;refine Z.cl (csq_clone s.cells _ _ _ _ hS (hq.k.app [_,_,_,_]) oM) rfl ?_;clear hS;rintro e w ⟨kA,kc,rfl,hS⟩;refine ⟨_,rfl,?_⟩;rw [h2] at hS ⊢;refine HMs ?_;refine D.ef 7 255 ?_;refine Z.st hS rfl AtF rfl rfl ?_;clear hS;intro w hS;refine HMs ?_;refine Sh.dp 8 511 ?_;refine D.ef 9 1023 ?_;refine Z.st hS rfl AtF rfl rfl ?_;clear hS;intro w hS;refine HMl ?_;refine D.dn ?_;refine Sh.cut [] ?_;exact ⟨_,_,_,_,rfl,hS.sb⟩
  exact D.enil
 clear hS;rintro f0 w _ ⟨tA,tc,kA,kc,rfl,hS⟩
 by_cases hk3:e.kind=12
 ·refine sQ ?_;intro w hS;refine D.startS (Lr:=[.blk ge 63 e.cells]) (hS.sb) 7 8 kR rfl ?_;replace hS:=hS.drew;refine Sh.dp 0 1 ?_;refine Sh.dp 2 5 ?_;refine Sh.dl 3 13 ?_;refine D.pl 4 29 rfl D.wantedN kR (R.ish rfl rfl rfl hn) ?_;refine D.ef 1 31 ?_;refine Z.ld hS rfl AtF rfl ?_;refine HMs ?_;refine D.pl 5 63 rfl D.wantedN kR (R.ibo rfl rfl rfl) ?_;refine Sh.dp 6 127 ?_;refine D.ef 7 255 ?_;refine Z.st hS rfl AtF rfl rfl ?_;clear hS;intro w hS;refine HMl ?_;refine D.dn ?_;refine sQ ?_;intro w hS;refine Dnc Tryz.results86 ?_;exact ⟨{ s with tick:=e.tick,count:=s.count+1,proven:=_ },⟨tA,tc,kA,kc⟩,rfl,.inr ⟨hk3,_,fun i h=>yhK h,rfl⟩,(Sep.all_open (Ls:=[_,_])).2 (hS.sb)⟩
 have hcl:0≤e.cell∧e.cell < c.cells.length:=by omega
 obtain ⟨gk,rfl⟩:=Z.Sep_slform hS (rows:=s.cells.map CS.cells) (.next .here) (by rw [List.length_map];omega);have hqk:e.cell.toNat < s.cells.length:=by omega
 have hxk:s.cells[e.cell.toNat]=celP s e.cell:=by simp [celP,List.getD_eq_getElem?_getD,hqk]
 have hk2:e.kind=10∨e.kind=11:=by omega
 have hk4:=hk2
 rcases hk4 with hk2'|hk2'
 ·refine sQ ?_;intro w hS;refine D.startS (Lr:=[.blk gs 69 (({ s with tick:=e.tick,count:=s.count+1 }:Sta).cc c ⟨tA,tc,some ⟨gk,0,none⟩,kc⟩),.blk ge 63 e.cells]) (hS.sb) 7 7 kR rfl ?_;replace hS:=hS.drew;refine Sh.dp 0 1 ?_;refine Sh.dp 2 5 ?_;refine Sh.dl 1 7 ?_;refine Sh.dl 3 15 ?_
  first|refine D.ixn 4 31 rfl D.wantedN kR rfl rfl rfl oM ?_|refine D.ix 4 31 rfl D.wantedN kR rfl rfl rfl oM ?_|refine D.ia 4 31 rfl D.wantedN kR rfl rfl rfl oM ?_
  refine Sh.dl 5 63 ?_;refine D.ef 6 127 ?_;replace hS:=hS.fo (R:=.sl 186 4 (.slice (some ⟨gk,0,none⟩) c.cells.length kc) (s.cells.map CS.cells));refine dQ (ycf s.cells gk kc c.cells.length e.cell.toNat _ e _ _ _ hS hqk hxk hk2) ?_;intro w hS;refine D.dn ?_;refine sQ ?_;intro w hS;refine Dnc Tryz.results86 ?_;exact ⟨{ s with tick:=e.tick,count:=s.count+1,cells:=s.cells.set e.cell.toNat (onK (celP s e.cell) e) },⟨tA,tc,some ⟨gk,0,none⟩,kc⟩,rfl,.inl ⟨hk2,rfl⟩,(Sep.all_open (Ls:=[_,_])).2 (hS.sb)⟩
 ·refine sQ ?_;intro w hS;refine D.startS (Lr:=[.blk gs 69 (({ s with tick:=e.tick,count:=s.count+1 }:Sta).cc c ⟨tA,tc,some ⟨gk,0,none⟩,kc⟩),.blk ge 63 e.cells]) (hS.sb) 7 7 kR rfl ?_;replace hS:=hS.drew;refine Sh.dp 0 1 ?_;refine Sh.dp 2 5 ?_;refine Sh.dl 1 7 ?_;refine Sh.dl 3 15 ?_
  first|refine D.ixn 4 31 rfl D.wantedN kR rfl rfl rfl oM ?_|refine D.ix 4 31 rfl D.wantedN kR rfl rfl rfl oM ?_|refine D.ia 4 31 rfl D.wantedN kR rfl rfl rfl oM ?_
  refine Sh.dl 5 63 ?_;refine D.ef 6 127 ?_;replace hS:=hS.fo (R:=.sl 186 4 (.slice (some ⟨gk,0,none⟩) c.cells.length kc) (s.cells.map CS.cells));refine dQ (ycf s.cells gk kc c.cells.length e.cell.toNat _ e _ _ _ hS hqk hxk hk2) ?_;intro w hS;refine D.dn ?_;refine sQ ?_;intro w hS;refine Dnc Tryz.results86 ?_;exact ⟨{ s with tick:=e.tick,count:=s.count+1,cells:=s.cells.set e.cell.toNat (onK (celP s e.cell) e) },⟨tA,tc,some ⟨gk,0,none⟩,kc⟩,rfl,.inl ⟨hk2,rfl⟩,(Sep.all_open (Ls:=[_,_])).2 (hS.sb)⟩
theorem EffK.ok {c:Cfg} {s s':Sta} {e:En} (hs:s.ok c) (h:EffK s e s') (hn:0≤e.n∧e.n < c.versions.length):s'.ok c:=by
 rcases h with ⟨hk,rfl⟩|⟨_,p,_,rfl⟩
 ·have hx:∀ x:CS,KOj c.versions.length x→KOj c.versions.length (onK x e):=fun x hx=>by
   unfold onK
   split
   ·exact ⟨hx.r,hx.w⟩
   ·split
    ·exact ⟨hx.r,hn⟩
    ·split
     ·exact ⟨hn,hx.w⟩
     ·exact hx
  by_cases hq:e.cell.toNat < s.cells.length
  ·have h1:=hs.setK (hx (celP s e.cell) (by
    have e1:celP s e.cell=s.cells[e.cell.toNat]:=by simp [celP,List.getD_eq_getElem?_getD,hq]
    rw [e1];exact hs.k _ (List.getElem_mem hq))) e.cell.toNat
   exact ⟨h1.tl,h1.kl,h1.t,h1.k⟩
  ·rw [List.set_eq_of_length_le oM];exact ⟨hs.tl,hs.kl,hs.t,hs.k⟩
 ·exact ⟨hs.tl,hs.kl,hs.t,hs.k⟩
theorem yi6 {c:Cfg} {e:En} (hk:e.kind=0):validP c e=false:=by
 unfold validP shapeP fitsP formP;rw [hk]
 rfl
theorem validK {c:Cfg} {e:En} (h:validP c e=true) (hk:e.kind=10∨e.kind=11∨e.kind=12):(e.kind=12∨(0≤e.cell∧e.cell < c.cells.length))∧(0≤e.n∧e.n < c.versions.length):=by
 unfold validP at h;rw [Bool.and_eq_true] at h;have h2:=h.2;unfold fitsP formP at h2
 rcases hk with hk|hk|hk
 ·rw [if_neg oM,if_neg oM,if_neg oM,if_neg oM,if_neg oM,if_neg oM,if_neg oM,if_neg oM,if_neg oM,if_pos hk] at h2;simp only [fitF,inSp,Bool.and_eq_true,decide_eq_true_eq,Bool.not_eq_true',decide_eq_false_iff_not,noSp,zSp] at h2;omega
 ·rw [if_neg oM,if_neg oM,if_neg oM,if_neg oM,if_neg oM,if_neg oM,if_neg oM,if_neg oM,if_neg oM,if_neg oM,if_pos hk] at h2;simp only [fitF,inSp,Bool.and_eq_true,decide_eq_true_eq,Bool.not_eq_true',decide_eq_false_iff_not,noSp,zSp] at h2;omega
 ·rw [if_neg oM,if_neg oM,if_neg oM,if_neg oM,if_neg oM,if_neg oM,if_neg oM,if_neg oM,if_neg oM,if_neg oM,if_neg oM,if_pos hk] at h2;simp only [fitF,inSp,Bool.and_eq_true,decide_eq_true_eq,Bool.not_eq_true',decide_eq_false_iff_not,noSp,zSp] at h2;omega
set_option maxRecDepth 10000 in
theorem yhl (c:Cfg) (a:CAd) (s:Sta) (b:SAd) (e:En) (r:World) (F:List Res) (w:World) (hS:Sep r [] F w) (hr:CfR r F c a) (hv:CfgV c) (hs:s.ok c) (hq:StC r F s c b) (hk:e.kind=0∨e.kind=10∨e.kind=11∨e.kind=12) :
  Calls Tryz.prog 85 #[c.val a,s.vc c b,e.val] w fun x w'=>∃ er:Int,x=.returned (.int .i64 er)∧(er=0→validP c e=true∧s.count < 4096∧e.kind≠0)∧Sep r [] F w':=by
 have h1:=hv.ok.t;have h2:=hv.ok.k;have h3:=hv.ok.r;have h4:=hv.ok.v;have htl:=hs.tl;have hkl:=hs.kl;refine Z.enter Tryz.func85 Tryz.ntmps85 rfl rfl ?_;refine aQ3 ?_;intro _ _ g w hS;refine cQ (ybL c a e _ _ _ hS oM oM oM oM) rfl ?_;clear hS;rintro e w ⟨rfl,hS⟩;refine ⟨_,rfl,?_⟩
 cases hval:validP c e
 ·refine sQ ?_;intro w hS;refine Dnt Tryz.results85 ?_;exact ⟨_,rfl,fun h=>absurd h (by decide),hS.sb⟩
 by_cases hcn:s.count < 4096
 rotate_left
 ·refine sQ ?_;intro w hS;refine Dnt Tryz.results85 ?_;exact ⟨_,rfl,fun h=>absurd h (by decide),hS.sb⟩
 by_cases htk:s.tick≤e.tick
 rotate_left
 ·refine sQ ?_;intro w hS;refine Dnt Tryz.results85 ?_;exact ⟨_,rfl,fun h=>absurd h (by decide),hS.sb⟩
 have hk0:e.kind≠0:=fun h=>by rw [yi6 h] at hval;cases hval
 have hvk:=validK hval oM
 rcases (by omega:e.kind=10∨e.kind=11∨e.kind=12) with hk2|hk2|hk2
 ·refine sQ ?_;intro w hS;refine cQ (yhn c a s b e _ _ _ hS (hr.app [_,_,_]) hv hs (hq.ap [_,_,_]) oM) rfl ?_;clear hS;rintro e w ⟨er,rfl,hS⟩;refine eQ ?_;intro w hS;refine Dnt Tryz.results85 ?_;exact ⟨_,rfl,fun _=>⟨rfl,hcn,hk0⟩,hS.sb⟩
 ·refine sQ ?_;intro w hS;refine cQ (yhm c a s b e _ _ _ hS (hr.app [_,_,_]) hv hs (hq.ap [_,_,_]) oM) rfl ?_;clear hS;rintro e w ⟨er,rfl,hS⟩;refine eQ ?_;intro w hS;refine Dnt Tryz.results85 ?_;exact ⟨_,rfl,fun _=>⟨rfl,hcn,hk0⟩,hS.sb⟩
 ·refine sQ ?_;intro w hS;refine cQ (yga c a s b e _ _ _ hS (hr.app [_,_,_]) hv hs (hq.ap [_,_,_])) rfl ?_;clear hS;rintro e w ⟨er,rfl,hS⟩;refine eQ ?_;intro w hS;refine Dnt Tryz.results85 ?_;exact ⟨_,rfl,fun _=>⟨rfl,hcn,hk0⟩,hS.sb⟩
theorem ye2 (e:En) (r:World) (F:List Res) (w:World) (hS:Sep r [] F w) (hk:e.kind=10∨e.kind=11∨e.kind=12) :
  Calls Tryz.prog 87 #[e.val] w fun x w'=>x=.returned (.bool false)∧Sep r [] F w':=by
 rcases hk with hk|hk|hk
 all_goals
  refine Z.enter Tryz.func87 Tryz.ntmps87 rfl rfl ?_;refine aQ1 ?_;intro g w hS;refine Dnt Tryz.results87 ?_;exact ⟨rfl,hS.sb⟩
theorem ycd (c:Cfg) (a:CAd) (s:Sta) (b:SAd) (e:En) (r:World) (F:List Res) (w:World) (hS:Sep r [] F w) (hr:CfR r F c a) (hv:CfgV c) (hs:s.ok c) (hq:StC r F s c b) (hc:0≤s.count∧s.count≤5000) (hk:e.kind=0∨e.kind=10∨e.kind=11∨e.kind=12) :
  Calls Tryz.prog 30 #[c.val a,s.vc c b,e.val] w fun x w'=>∃ (cz:Cfg) (s':Sta) (b':SAd) (er:Int) (X:Res),x=.returned (.tuple #[s'.vc cz b',.int .i64 er])∧(er=0→cz=c∧(validP c e=true∧s.count < 4096∧e.kind≠0)∧EffK s e s'∧X=SO c s' b')∧Sep r [] (X::F) w':=by
 refine Z.enter Tryz.func30 Tryz.ntmps30 rfl rfl ?_;refine aQ4 ?_;intro gc gs ge gr w hS;refine cQ (yhl c a s b e _ _ _ hS (hr.app [_,_,_,_]) hv hs (hq.ap [_,_,_,_]) hk) rfl ?_;clear hS;rintro e w ⟨er,rfl,her,hS⟩;refine ⟨_,rfl,?_⟩
 by_cases h0:er=0
 rotate_left
 ·refine sQ ?_;intro w hS;refine Dct Tryz.results30 ?_;exact ⟨Cfg.zero,Sta.zero,SAd.zero,er,.pure True,rfl,fun h=>absurd h h0,Sep.pure_open.2 ⟨trivial,hS.sb⟩⟩
 obtain ⟨hval,hcn,hk0⟩:=her h0;have hk2:e.kind=10∨e.kind=11∨e.kind=12:=by omega
 obtain ⟨hvk,hvn⟩:=validK hval hk2;refine sQ ?_;intro w hS;refine cQ (steff_k c s b e _ _ _ hS hs (hq.ap [_,_,_,_]) hv hvk hvn.1 hc hk2) rfl ?_;clear hS;rintro e w ⟨s',b',rfl,hE,hS⟩;refine ⟨_,rfl,?_⟩
 repeat' first|refine K ?_|refine Sa ?_;clear hS;intro w hS|refine K3 ?_;clear hS;intro g w hS hge|refine KC ?_ ?_<;>intro hb<;>try exact JX|fail
 refine cQ (ye2 e _ _ _ hS hk2) rfl ?_;clear hS;rintro e w ⟨rfl,hS⟩;refine ⟨_,rfl,?_⟩
 repeat' first|refine K ?_|refine Sa ?_;clear hS;intro w hS|refine K3 ?_;clear hS;intro g w hS hge|refine KC ?_ ?_<;>intro hb<;>try exact JX|fail
 refine Dct Tryz.results30 ?_;exact ⟨c,s',b',0,SO c s' b',rfl,fun _=>⟨rfl,⟨hval,hcn,hk0⟩,hE,rfl⟩,hS.sb⟩
theorem yaz (c:Cfg) (a:CAd) (s:Sta) (b:SAd) (e:En) (r:World) (F:List Res) (w:World) (hS:Sep r [] F w) (hr:CfR r F c a) (hv:CfgV c) (hs:s.ok c) (hq:StC r F s c b) (hc:0≤s.count∧s.count≤5000) (hk:e.kind=0∨e.kind=10∨e.kind=11∨e.kind=12) :
  Calls Tryz.prog 81 #[c.val a,s.vc c b,e.val] w fun x w'=>∃ er:Int,x=.returned (.int .i64 er)∧Sep r [] F w':=by
 refine Z.enter Tryz.func81 Tryz.ntmps81 rfl rfl ?_;refine aQ3 ?_;intro _ _ g w hS;refine cQ (ycd c a s b e _ _ _ hS (hr.app [_,_,_]) hv hs (hq.ap [_,_,_]) hc hk) rfl ?_;clear hS;rintro e w ⟨cz,s',b',er,X,rfl,_,hS⟩;refine ⟨_,rfl,?_⟩
 repeat' first|refine K ?_|refine Sa ?_;clear hS;intro w hS|refine K3 ?_;clear hS;intro g w hS hge|refine KC ?_ ?_<;>intro hb<;>try exact JX|fail
 refine Dnt Tryz.results81 ?_;exact ⟨er,rfl,hS.sb⟩
def inC (c:Cfg) (k:Int):Bool:=decide (0≤k∧k < c.cells.length)
def fst37 (x:TS) (k:Int):Bool:=decide (x.home=k∨x.target=k)
def snd37 (x:TS) (k:Int):Bool:=decide (x.standby=k∨x.next=k)
def btw37 (x:TS) (a b:Int):Bool:=fst37 x a && snd37 x b
def conf1 (a b:Int) (x:TS):Bool:=x.placed && (btw37 x a b || btw37 x b a)
def conf (c:Cfg) (s:Sta) (a b:Int):Bool:=!decide (a=b) && inC c a && inC c b && s.tenants.any (conf1 a b)
theorem yex (a b:Int) (x:TS):conf1 a b x=conf1 b a x:=by
 unfold conf1;rw [Bool.or_comm (btw37 x a b)]
theorem yfj (c:Cfg) (s:Sta) (a b:Int):conf c s a b=conf c s b a:=by
 unfold conf;rw [show (conf1 a b)=conf1 b a from funext fun x=>yex a b x,show decide (a=b)=decide (b=a) from by rw [decide_eq_decide];exact eq_comm,Bool.and_assoc,Bool.and_assoc,Bool.and_assoc,Bool.and_assoc,← Bool.and_assoc (inC c a),← Bool.and_assoc (inC c b),Bool.and_comm (inC c a)]
theorem ybi (c:Cfg) (s:Sta) (a:Int):conf c s a a=false:=by simp [conf]
def joinB (c:Cfg) (s:Sta) (w:List Int) (k:Int):Bool:=decide ((w.length:Int) < c.blast) && w.all fun x=>decide (regOf c x=regOf c k) && !conf c s x k
def insT (c:Cfg) (s:Sta):List (List Int)→Int→List (List Int)
 | [],k=>[[k]]
 | w::ws,k=>if joinB c s w k then (w++[k])::ws else w::insT c s ws k
def insWx (c:Cfg) (s:Sta):List (List Int)→Int→List (List Int)
 | [],k=>[[k]]
 | w::ws,k=>w::insT c s ws k
def mkW (c:Cfg) (s:Sta) (l:List Int):List (List Int):=l.foldl (insWx c s) []
theorem ybZ (c:Cfg) (s:Sta) (k:Int):∀ {ws:List (List Int)} {i:Nat} (hi:i < ws.length),(∀ j (hj:j < i),joinB c s (ws[j]'oM) k=false)→joinB c s ws[i] k=true→insT c s ws k=ws.set i (ws[i]++[k])
 | w::ws,0,_,_,h=>by
  have h':joinB c s w k=true:=h
  simp [insT,h']
 | w::ws,i+1,hi,hall,h=>by
  have h0:joinB c s w k=false:=hall 0 oM;have:=ybZ c s k (ws:=ws) (i:=i) (by simpa using hi) (fun j hj=>by have:=hall (j+1) oM;simpa using this) (by simpa using h)
  simp [insT,h0,this]
theorem insT_none (c:Cfg) (s:Sta) (k:Int):∀ {ws:List (List Int)},(∀ w,w∈ws→joinB c s w k=false)→insT c s ws k=ws++[[k]]
 | [],_=>rfl
 | w::ws,hall=>by
  have h0:joinB c s w k=false:=hall w (by simp)
  simp [insT,h0,insT_none c s k (ws:=ws) fun x hx=>hall x (by simp [hx])]
theorem ydE (c:Cfg) (s:Sta) (k:Int) {ws:List (List Int)} {i:Nat} (h1:1≤i) (hi:i < ws.length) (hall:∀ j (_:1≤j) (hj:j < i),joinB c s (ws[j]'oM) k=false) (h:joinB c s ws[i] k=true):insWx c s ws k=ws.set i (ws[i]++[k]):=by
 cases ws with
 | nil=>simp at hi
 | cons w ws=>
  obtain ⟨i,rfl⟩:∃ q,i=q+1:=⟨i - 1,oM⟩;have:=ybZ c s k (ws:=ws) (i:=i) (by simpa using hi) (fun j hj=>by have:=hall (j+1) oM oM;simpa using this) (by simpa using h)
  simp [insWx,this]
theorem insWx_none (c:Cfg) (s:Sta) (k:Int) {ws:List (List Int)} (hall:∀ j (_:1≤j) (hj:j < ws.length),joinB c s ws[j] k=false):insWx c s ws k=ws++[[k]]:=by
 cases ws with
 | nil=>rfl
 | cons w ws=>
  have:=insT_none c s k (ws:=ws) fun x hx=>by
   obtain ⟨j,hj,rfl⟩:=List.mem_iff_getElem.1 hx;have:=hall (j+1) oM (by simpa using hj)
   simpa using this
  simp [insWx,this]
theorem mkW_snoc (c:Cfg) (s:Sta) (l:List Int) (k:Int):mkW c s (l++[k])=insWx c s (mkW c s l) k:=by simp [mkW]
theorem ydb (c:Cfg) (s:Sta) (k:Int):∀ ws,(insT c s ws k).length≤ws.length+1
 | []=>by simp [insT]
 | w::ws=>by
  have:=ydb c s k ws;unfold insT
  split
  ·simp
  ·simp;omega
theorem yfv (c:Cfg) (s:Sta) (k:Int) (ws):(insWx c s ws k).length≤ws.length+1:=by
 cases ws with
 | nil=>simp [insWx]
 | cons w ws=>have:=ydb c s k ws;simp [insWx];omega
def srt (l:List Int):List Int:=l.mergeSort fun x y=>decide (x≤y)
theorem srt_perm (l:List Int):(srt l).Perm l:=List.mergeSort_perm _ _
theorem srt_len (l:List Int):(srt l).length=l.length:=(srt_perm l).length_eq
theorem yf5 (l:List Int):(srt l).Pairwise (·≤·):=by
 have:=List.pairwise_mergeSort (le:=fun x y:Int=>decide (x≤y)) (fun a b c=>by simp;omega) (fun a b=>by simp;omega) l;exact this.imp fun h=>by simpa using h
theorem ych:∀ {l l':List Int},l.Pairwise (· < ·)→l'.Pairwise (· < ·)→(∀ x,x∈l↔x∈l')→l=l'
 | [],[],_,_,_=>rfl
 | [],b::l',_,_,h=>by have:=(h b).2 (by simp);simp at this
 | a::l,[],_,_,h=>by have:=(h a).1 (by simp);simp at this
 | a::l,b::l',h1,h2,h=>by
  obtain ⟨a1,a2⟩:=List.pairwise_cons.1 h1;obtain ⟨b1,b2⟩:=List.pairwise_cons.1 h2;have hab:a=b:=by
   have x1:=(h a).1 (by simp);have x2:=(h b).2 (by simp)
   rcases List.mem_cons.1 x1 with x1|x1
   ·exact x1
   ·rcases List.mem_cons.1 x2 with x2|x2
    ·exact x2.symm
    ·have:=b1 _ x1;have:=a1 _ x2;omega
  subst hab;rw [ych a2 b2 fun x=>⟨fun hx=>?_,fun hx=>?_⟩]
  ·rcases List.mem_cons.1 ((h x).1 (by simp [hx])) with rfl|h3
   ·exact absurd (a1 _ hx) oM
   ·exact h3
  ·rcases List.mem_cons.1 ((h x).2 (by simp [hx])) with rfl|h3
   ·exact absurd (b1 _ hx) oM
   ·exact h3
theorem srt_asc {l:List Int} (h:l.Nodup):(srt l).Pairwise (· < ·):=by
 have h1:=yf5 l;have h2:(srt l).Nodup:=(srt_perm l).nodup_iff.2 h;exact (List.pairwise_and_iff.2 ⟨h1,h2⟩).imp fun ⟨a,b⟩=>by omega
theorem srt_of_asc {l:List Int} (h:l.Pairwise (· < ·)):srt l=l:=by
 refine ych (srt_asc (h.imp fun h=>by omega)) h fun x=>(srt_perm l).mem_iff
theorem ydQ {l l':List Int} (h:l.Perm l') (hn:l.Nodup):srt l=srt l':=by
 refine ych (srt_asc hn) (srt_asc (h.nodup_iff.1 hn)) fun x=>?_
 rw [(srt_perm l).mem_iff,(srt_perm l').mem_iff,h.mem_iff]
def mkOk (c:Cfg) (l:List Int):Bool:=l.all (inC c) && decide l.Nodup
def mkR (c:Cfg) (s:Sta) (l:List Int):List (List Int)×Int:=if mkOk c l then (mkW c s (srt l),0) else ([],1)
theorem mkOk_srt (c:Cfg) (l:List Int):mkOk c l=true↔∀ i (hi:i < (srt l).length),inC c (srt l)[i]=true∧(0 < i→(srt l)[i - 1]≠(srt l)[i]):=by
 have hp:=srt_perm l;unfold mkOk;rw [Bool.and_eq_true,List.all_eq_true,decide_eq_true_eq];constructor
 ·rintro ⟨h1,h2⟩ i hi;refine ⟨h1 _ (hp.mem_iff.1 (List.getElem_mem hi)),fun h0=>?_⟩;have:=List.pairwise_iff_getElem.1 (srt_asc h2) (i - 1) i oM hi oM;omega
 ·intro h;refine ⟨fun x hx=>?_,hp.nodup_iff.1 ?_⟩
  ·obtain ⟨i,hi,rfl⟩:=List.mem_iff_getElem.1 (hp.mem_iff.2 hx);exact (h i hi).1
  ·have hle:=yf5 l;have hs:∀ (n i:Nat) (hi:i+n+1 < (srt l).length),(srt l)[i]'oM < (srt l)[i+n+1]:=fun n i hi=>by
    have h1:=List.pairwise_iff_getElem.1 hle;have h2:(srt l)[i+n]'oM≠(srt l)[i+n+1]:=(h (i+n+1) hi).2 oM;have h3:=h1 (i+n) (i+n+1) oM hi oM;have h4:(srt l)[i]'oM≤(srt l)[i+n]'oM:=by
     rcases Nat.eq_zero_or_pos n with rfl|hn
     ·simp
     ·exact h1 i (i+n) oM oM oM
    omega
   refine List.pairwise_iff_getElem.2 fun i j hi hj hij=>?_
   have:=hs (j - i - 1) i oM;have e:i+(j - i - 1)+1=j:=by omega
   simp only [e] at this;omega
structure MadeOk (c:Cfg) (s:Sta) (ws:List (List Int)) (l:List Int):Prop where
 perm:ws.flatten.Perm l
 ne:∀ w,w∈ws→w≠[]
 len:∀ w,w∈ws→(w.length:Int)≤c.blast
 reg:∀ w,w∈ws→∀ a,a∈w→∀ b,b∈w→regOf c a=regOf c b
 conf:∀ w,w∈ws→∀ a,a∈w→∀ b,b∈w→conf c s a b=false
 first:∀ w ws',ws=w::ws'→w.length=1
theorem yeH {c:Cfg} {s:Sta} {w:List Int} {k:Int} (h:joinB c s w k=true):(w.length:Int) < c.blast∧∀ x,x∈w→regOf c x=regOf c k∧conf c s x k=false:=by
 unfold joinB at h;simp only [Bool.and_eq_true,decide_eq_true_eq,List.all_eq_true,Bool.not_eq_true'] at h;exact h
theorem MadeOk.insT {c:Cfg} {s:Sta} {k:Int} (hb:1≤c.blast):∀ {ws:List (List Int)},(∀ w,w∈ws→w≠[])→(∀ w,w∈ws→(w.length:Int)≤c.blast)→(∀ w,w∈ws→∀ a,a∈w→∀ b,b∈w→regOf c a=regOf c b)→(∀ w,w∈ws→∀ a,a∈w→∀ b,b∈w→Go.Proofs.YtfmnjbhncnldmaaGreat.conf c s a b=false)→
  (insT c s ws k).flatten.Perm (ws.flatten++[k])∧(∀ w,w∈insT c s ws k→w≠[])∧(∀ w,w∈insT c s ws k→(w.length:Int)≤c.blast)∧(∀ w,w∈insT c s ws k→∀ a,a∈w→∀ b,b∈w→regOf c a=regOf c b)∧(∀ w,w∈insT c s ws k→∀ a,a∈w→∀ b,b∈w→Go.Proofs.YtfmnjbhncnldmaaGreat.conf c s a b=false)
 | [],_,_,_,_=>by
  refine ⟨by simp [Go.Proofs.YtfmnjbhncnldmaaGreat.insT],?_,?_,?_,?_⟩<;>intro w hw<;>simp only [Go.Proofs.YtfmnjbhncnldmaaGreat.insT,List.mem_singleton] at hw<;>subst hw
  ·simp
  ·simpa using hb
  ·intro a ha b hb;simp at ha hb;subst ha hb;rfl
  ·intro a ha b hb;simp at ha hb;subst ha hb;exact ybi ..
 | w::ws,h1,h2,h3,h4=>by
  unfold Go.Proofs.YtfmnjbhncnldmaaGreat.insT
  split
  ·rename_i hj;obtain ⟨j1,j2⟩:=yeH hj;refine ⟨?_,?_,?_,?_,?_⟩
   ·simp only [List.flatten_cons,List.append_assoc];exact (List.Perm.refl w).append (List.perm_append_comm)
   all_goals intro x hx;rcases List.mem_cons.1 hx with rfl|hx
   ·simp
   ·exact h1 x (by simp [hx])
   ·simp;omega
   ·exact h2 x (by simp [hx])
   ·intro a ha b hb;rw [List.mem_append,List.mem_singleton] at ha hb
    rcases ha with ha|rfl<;>rcases hb with hb|rfl
    ·exact h3 w (by simp) a ha b hb
    ·exact (j2 a ha).1
    ·exact (j2 b hb).1.symm
    ·rfl
   ·exact h3 x (by simp [hx])
   ·intro a ha b hb;rw [List.mem_append,List.mem_singleton] at ha hb
    rcases ha with ha|rfl<;>rcases hb with hb|rfl
    ·exact h4 w (by simp) a ha b hb
    ·exact (j2 a ha).2
    ·rw [yfj];exact (j2 b hb).2
    ·exact ybi ..
   ·exact h4 x (by simp [hx])
  ·obtain ⟨i1,i2,i3,i4,i5⟩:=MadeOk.insT hb (ws:=ws) (k:=k) (s:=s) (fun x hx=>h1 x (by simp [hx])) (fun x hx=>h2 x (by simp [hx])) (fun x hx=>h3 x (by simp [hx])) (fun x hx=>h4 x (by simp [hx]));refine ⟨?_,?_,?_,?_,?_⟩
   ·simp only [List.flatten_cons,List.append_assoc];exact (List.Perm.refl w).append i1
   all_goals intro x hx;rcases List.mem_cons.1 hx with rfl|hx
   ·exact h1 x (by simp)
   ·exact i2 x hx
   ·exact h2 x (by simp)
   ·exact i3 x hx
   ·exact h3 x (by simp)
   ·exact i4 x hx
   ·exact h4 x (by simp)
   ·exact i5 x hx
theorem MadeOk.insW {c:Cfg} {s:Sta} {k:Int} {ws:List (List Int)} {l:List Int} (hb:1≤c.blast) (h:MadeOk c s ws l):MadeOk c s (insWx c s ws k) (l++[k]):=by
 cases ws with
 | nil=>
  have hl:l=[]:=List.nil_perm.1 (by simpa using h.perm);subst hl;refine ⟨by simp [Go.Proofs.YtfmnjbhncnldmaaGreat.insWx],?_,?_,?_,?_,?_⟩
  ·intro w hw;simp [Go.Proofs.YtfmnjbhncnldmaaGreat.insWx] at hw;subst hw;simp
  ·intro w hw;simp [Go.Proofs.YtfmnjbhncnldmaaGreat.insWx] at hw;subst hw;simpa using hb
  ·intro w hw;simp [Go.Proofs.YtfmnjbhncnldmaaGreat.insWx] at hw;subst hw;intro a ha b hb;simp at ha hb;subst ha hb;rfl
  ·intro w hw;simp [Go.Proofs.YtfmnjbhncnldmaaGreat.insWx] at hw;subst hw;intro a ha b hb;simp at ha hb;subst ha hb;exact ybi ..
  ·intro w ws' he;simp [Go.Proofs.YtfmnjbhncnldmaaGreat.insWx] at he;rw [← he.1];rfl
 | cons w ws=>
  obtain ⟨i1,i2,i3,i4,i5⟩:=MadeOk.insT hb (ws:=ws) (k:=k) (s:=s) (fun x hx=>h.ne x (by simp [hx])) (fun x hx=>h.len x (by simp [hx])) (fun x hx=>h.reg x (by simp [hx])) (fun x hx=>h.conf x (by simp [hx]));refine ⟨?_,?_,?_,?_,?_,?_⟩
  ·show (w::Go.Proofs.YtfmnjbhncnldmaaGreat.insT c s ws k).flatten.Perm _
   have h1:(w::Go.Proofs.YtfmnjbhncnldmaaGreat.insT c s ws k).flatten.Perm ((w::ws).flatten++[k]):=by
    simp only [List.flatten_cons,List.append_assoc];exact (List.Perm.refl w).append i1
   exact h1.trans (h.perm.append (List.Perm.refl _))
  ·intro x hx;rcases List.mem_cons.1 hx with rfl|hx
   ·exact h.ne x (by simp)
   ·exact i2 x hx
  ·intro x hx;rcases List.mem_cons.1 hx with rfl|hx
   ·exact h.len x (by simp)
   ·exact i3 x hx
  ·intro x hx;rcases List.mem_cons.1 hx with rfl|hx
   ·exact h.reg x (by simp)
   ·exact i4 x hx
  ·intro x hx;rcases List.mem_cons.1 hx with rfl|hx
   ·exact h.conf x (by simp)
   ·exact i5 x hx
  ·intro x xs he;simp only [Go.Proofs.YtfmnjbhncnldmaaGreat.insWx,List.cons.injEq] at he;rw [← he.1];exact h.first w ws rfl
theorem mkW_made {c:Cfg} {s:Sta} (hb:1≤c.blast) (l:List Int):MadeOk c s (mkW c s l) l:=by
 suffices h:∀ (l ws a:_),MadeOk c s ws a→MadeOk c s (l.foldl (Go.Proofs.YtfmnjbhncnldmaaGreat.insWx c s) ws) (a++l) by
  have:=h l [] [] ⟨by simp,by simp,by simp,by simp,by simp,by simp⟩
  simpa [mkW] using this
 intro l
 induction l with
 | nil=>intro ws a h;simpa using h
 | cons k l ih=>
  intro ws a h;have:=ih _ _ (h.insW (k:=k) hb)
  simpa using this
end Go.Proofs.YtfmnjbhncnldmaaGreat
namespace Go.Proofs.YtfmnjbhncnldmaaGreat
structure Inv (V k0:Int) (c:Cfg) (s:Sta):Prop where
 k:0≤k0
 ok:s.ok c
 p0:hasB s.proven 0=true
 cl:∀ x,x∈s.cells→(x.running=0∨x.running=V)∧(x.wanted=0∨x.wanted=V)
 st:hasB s.proven V=true∨∀ (i:Nat) (h:i < s.cells.length),(i:Int)≠k0→s.cells[i].running=0∧s.cells[i].wanted=0
 sn:∀ x,x∈s.cells→0≤x.since∧x.since≤1073741824
theorem Inv.new {V k0:Int} {c:Cfg} (hk:0≤k0) (hv:1≤c.versions.length):Inv V k0 c (newS c):=by
 refine ⟨hk,newS_ok hv,by show hasB 1 0=true;decide,fun x hx=>?_,.inr fun i h _=>?_,fun x hx=>?_⟩
 ·have:=List.eq_of_mem_replicate hx;subst this;exact ⟨.inl rfl,.inl rfl⟩
 ·have:=List.eq_of_mem_replicate (List.getElem_mem h);rw [this];exact ⟨rfl,rfl⟩
 ·have:=List.eq_of_mem_replicate hx;subst this;exact ⟨Int.le_refl 0,by show (0:Int)≤1073741824;decide⟩
theorem Inv.place {V k0:Int} {c:Cfg} {s:Sta} {e:En} (h:Inv V k0 c s) (hk:e.kind=1) (hok:(effP s e).ok c):Inv V k0 c (effP s e):=by
 have he:=ybj (s:=s) (e:=e) (.inl hk);have h1:(effP s e).proven=s.proven:=by rw [he]
 have h2:(effP s e).cells=s.cells:=by rw [he]
 refine ⟨h.k,hok,by rw [h1];exact h.p0,fun x hx=>h.cl x (h2 ▸ hx),?_,fun x hx=>h.sn x (h2 ▸ hx)⟩;rw [h1];refine h.st.imp id fun hall i hi hne=>?_
 have:=hall i (h2 ▸ hi) hne
 simpa only [h2] using this
def NxOk (V k0:Int) (s:Sta) (e:En):Prop:=
 e.kind=0∨((e.kind=10∨e.kind=11)∧(e.n=0∨(e.n=V∧(hasB s.proven V=true∨e.cell=k0))))∨e.kind=12
theorem ye4 {c:Cfg} {e:En} (h:validP c e=true) (hk:e.kind=10∨e.kind=11∨e.kind=12):0≤e.tick∧e.tick≤1073741824:=by
 unfold validP at h;rw [Bool.and_eq_true] at h;have h1:=h.1;unfold shapeP fitsP formP at h1
 rcases hk with hk|hk|hk
 all_goals
  rw [hk] at h1
  simp [fitF,inSp,noSp,zSp] at h1
  omega
theorem Inv.next {V k0:Int} {c:Cfg} {s s':Sta} {e:En} (h:Inv V k0 c s) (hx:NxOk V k0 s e) (hk:e.kind=10∨e.kind=11∨e.kind=12) (hE:EffK s e s') (hok:s'.ok c) (hval:validP c e=true):Inv V k0 c s':=by
 rcases hE with ⟨hk2,rfl⟩|⟨hk2,p,hp,rfl⟩
 ·have hx2:e.n=0∨(e.n=V∧(hasB s.proven V=true∨e.cell=k0)):=by
   rcases hx with h0|⟨_,h1⟩|h2
   ·omega
   ·exact h1
   ·omega
  have hn:e.n=0∨e.n=V:=hx2.imp id (·.1);have hon:∀ x:CS,((x.running=0∨x.running=V)∧(x.wanted=0∨x.wanted=V))→(((onK x e).running=0∨(onK x e).running=V)∧((onK x e).wanted=0∨(onK x e).wanted=V)):=by
   intro x hx;unfold onK
   split
   ·exact hx
   ·split
    ·exact ⟨hx.1,hn⟩
    ·split
     ·exact ⟨hn,hx.2⟩
     ·exact hx
  refine ⟨h.k,hok,h.p0,fun x hxm=>?_,?_,fun x hxm=>?_⟩
  ·rcases List.mem_or_eq_of_mem_set hxm with hm|rfl
   ·exact h.cl x hm
   ·apply hon
    by_cases hq:e.cell.toNat < s.cells.length
    ·have e1:celP s e.cell=s.cells[e.cell.toNat]:=by simp [celP,List.getD_eq_getElem?_getD,hq]
     rw [e1];exact h.cl _ (List.getElem_mem hq)
    ·have e1:celP s e.cell=⟨0,0,0,0⟩:=by simp [celP,List.getD_eq_getElem?_getD,List.getElem?_eq_none (by omega:s.cells.length≤e.cell.toNat)]
     rw [e1];exact ⟨.inl rfl,.inl rfl⟩
  ·rcases h.st with hp|hall
   ·exact .inl hp
   ·by_cases hpv:hasB s.proven V=true
    ·exact .inl hpv
    refine .inr fun i hi hne=>?_
    show ((s.cells.set e.cell.toNat (onK (celP s e.cell) e))[i]).running=0∧((s.cells.set e.cell.toNat (onK (celP s e.cell) e))[i]).wanted=0
    have hi':i < s.cells.length:=by
     have:i < (s.cells.set e.cell.toNat (onK (celP s e.cell) e)).length:=hi;rwa [List.length_set] at this
    rw [List.getElem_set]
    split
    ·rename_i heq;have hz:=hall i hi' hne;have e1:celP s e.cell=s.cells[i]:=by
      unfold celP;rw [heq]
      simp [List.getD_eq_getElem?_getD,hi']
     rw [e1];have hn0:e.n=0∨e.cell=k0:=hx2.imp id fun h2=>h2.2.resolve_left hpv
     have hn1:e.n=0:=by
      rcases hn0 with h0|h0
      ·exact h0
      ·exfalso
       have:=h.k;omega
     unfold onK
     split
     ·exact hz
     ·split
      ·exact ⟨hz.1,hn1⟩
      ·split
       ·exact ⟨hn1,hz.2⟩
       ·exact hz
    ·exact hall i hi' hne
  ·rcases List.mem_or_eq_of_mem_set hxm with hm|rfl
   ·exact h.sn x hm
   ·have ht:=ye4 hval hk;have hs0:0≤(celP s e.cell).since∧(celP s e.cell).since≤1073741824:=by
     by_cases hq:e.cell.toNat < s.cells.length
     ·have e1:celP s e.cell=s.cells[e.cell.toNat]:=by simp [celP,List.getD_eq_getElem?_getD,hq]
      rw [e1];exact h.sn _ (List.getElem_mem hq)
     ·have e1:celP s e.cell=⟨0,0,0,0⟩:=by simp [celP,List.getD_eq_getElem?_getD,List.getElem?_eq_none (by omega:s.cells.length≤e.cell.toNat)]
      rw [e1];exact ⟨Int.le_refl 0,by show (0:Int)≤1073741824;decide⟩
    unfold onK
    split
    ·exact ht
    ·split
     ·exact hs0
     ·split
      ·exact ht
      ·exact hs0
 ·exact ⟨h.k,hok,hp 0 h.p0,h.cl,h.st.imp (hp V) id,h.sn⟩
theorem Inv.unp {V k0:Int} {c:Cfg} {s:Sta} (h:Inv V k0 c s):∀ i,i∈unpP s→i=k0:=by
 intro i hi;unfold unpP at hi;obtain ⟨q,hq,rfl⟩:=List.mem_map.1 hi;rw [List.mem_filter,List.mem_range] at hq;obtain ⟨hq,ho⟩:=hq;have e1:celP s (q:Nat)=s.cells[q]:=by simp [celP,List.getD_eq_getElem?_getD,hq]
 rw [e1] at ho;have hc:=h.cl _ (List.getElem_mem hq)
 by_cases hne:(q:Int)=k0
 ·exact hne
 exfalso
 unfold openK at ho
 rcases h.st with hp|hall
 ·have h1:hasB s.proven s.cells[q].running=true:=by
   rcases hc.1 with h1|h1<;>rw [h1]
   ·exact h.p0
   ·exact hp
  have h2:hasB s.proven s.cells[q].wanted=true:=by
   rcases hc.2 with h1|h1<;>rw [h1]
   ·exact h.p0
   ·exact hp
  rw [h1,h2] at ho;exact absurd ho (by decide)
 ·obtain ⟨h1,h2⟩:=hall q hq hne;rw [h1,h2,h.p0] at ho;exact absurd ho (by decide)
theorem ygf (s:Sta):(unpP s).Nodup:=by
 unfold unpP;refine List.Pairwise.map _ (fun a b hab=>?_) (List.Pairwise.filter _ List.nodup_range);omega
theorem Inv.unp2 {V k0:Int} {c:Cfg} {s:Sta} (h:Inv V k0 c s):unpP s=[]∨unpP s=[k0]:=by
 have h1:=h.unp;have h2:=ygf s
 cases hl:unpP s with
 | nil=>exact .inl rfl
 | cons x t=>
  rw [hl] at h1 h2;have hx:=h1 x (by simp);subst hx
  cases t with
  | nil=>exact .inr rfl
  | cons y t=>
   have hy:=h1 y (by simp);subst hy;rw [List.nodup_cons] at h2;exact absurd (by simp) h2.1
end Go.Proofs.YtfmnjbhncnldmaaGreat
