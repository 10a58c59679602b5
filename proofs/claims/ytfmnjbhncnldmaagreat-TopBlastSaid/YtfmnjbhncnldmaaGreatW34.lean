import Derived.Test.YtfmnjbhncnldmaaGreatW03
import Derived.Test.YtfmnjbhncnldmaaGreatW15
set_option maxHeartbeats 4000000
set_option linter.unusedSimpArgs false
set_option linter.unusedVariables false
namespace Go.Proofs.YtfmnjbhncnldmaaGreat
open Go.RowKit
attribute [local irreducible] Res.blk Res.sl Res.all Res.ex Res.pure Res.star
structure Rp where
 gp:Nat
 gj:Nat
 n:Nat
 id:Int
 t:Int
 v:Int
 ro:Int
 co:Int
 vo:Int
 n0:Int
 n1:Int
 n2:Int
 m0:Int
 m1:Int
 m2:Int
 log:List Lg
def Rp.cells (x:Rp):List Value:=[.pointer (some ⟨x.gj,0,none⟩),.int .i64 x.id,.int .i64 3,.int .i64 x.ro,.int .i64 x.co,.int .i64 x.vo,.int .i64 x.n0,.int .i64 x.n1,.int .i64 x.n2,.int .i64 0,.int .i64 0,.int .i64 x.m0,.int .i64 x.m1,.int .i64 x.m2,.int .i64 0,.int .i64 0]
structure Ms where
 kind:Int
 from_:Int
 to:Int
 term:Int
 index:Int
 prev:Int
 commit:Int
 ok:Bool
 el:List Lg
 A:Option Addr
 c:Nat
def Ms.cells (m:Ms):List Value:=[.int .i64 m.kind,.int .i64 m.from_,.int .i64 m.to,.int .i64 m.term,.int .i64 m.index,.int .i64 m.prev,.int .i64 m.commit,.bool m.ok,.slice m.A m.el.length m.c]
def Ms.val (m:Ms):Value:=.agg m.cells.toArray
def fresh3 (gp gj:Nat) (id:Int):Rp:=⟨gp,gj,0,id,0,-1,1,0,0,0,0,0,0,0,0,[]⟩
theorem yct (id:Int) (r:World) (F:List Res) (w:World) (hS:Sep r [] F w) (hid:0≤id∧id < 3) :
  Calls Tryz.prog 122 #[.int .i64 id,.int .i64 3] w fun e w'=>∃ gp gj,e=.returned (.tuple #[.pointer (some ⟨gp,0,none⟩),.int .i64 0])∧Sep r [] (JN gj 0 (-1) [] 0::.blk gp 331 (fresh3 gp gj id).cells::F) w':=by
 refine Z.enter Tryz.func122 Tryz.ntmps122 rfl rfl ?_;refine sQ ?_;intro w hS;refine cQ (yfx _ _ _ hS) rfl ?_;clear hS;rintro e w ⟨gj,rfl,hS⟩;refine ⟨_,rfl,?_⟩
 repeat' first|refine K ?_|refine Sa ?_;clear hS;intro w hS|refine K3 ?_;clear hS;intro g w hS hge|refine KC ?_ ?_<;>intro hb<;>try exact JX|fail
 rename Nat=>gp;refine Dntt Tryz.results122 ?_;exact ⟨gp,gj,rfl,hS.sb⟩
section
variable (x:Rp) (r:World) (F:List Res) (w:World) (hS:Sep r [] (JN x.gj x.t x.v x.log x.n::.blk x.gp 331 x.cells::F) w)
include hS
omit hS in
theorem yhO (gj n:Nat) (t v:Int) (log:List Lg) (r:World) (F:List Res) (w:World) (hS:Sep r [] (JN gj t v log n::F) w) :
  Calls Tryz.prog 408 #[.pointer (some ⟨gj,0,none⟩)] w fun e w'=>e=.returned (.int .i64 v)∧Sep r [] (JN gj t v log n::F) w':=by
 obtain ⟨gd,A,c,hS⟩:=JN.op hS;refine Z.enter Tryz.func408 Tryz.ntmps408 rfl rfl ?_;refine sQ ?_;intro w hS;refine Dnt Tryz.results408 ?_;exact ⟨rfl,JN.of gd A c (hS.sb)⟩
theorem ybd:Calls Tryz.prog 226 #[.pointer (some ⟨x.gp,0,none⟩)] w fun e w'=>e=.returned (.int .i64 x.ro)∧Sep r [] (JN x.gj x.t x.v x.log x.n::.blk x.gp 331 x.cells::F) w':=by
 refine Z.enter Tryz.func226 Tryz.ntmps226 rfl rfl ?_;refine sQ ?_;intro w hS;refine Dnt Tryz.results226 ?_;exact ⟨rfl,hS⟩
theorem yai:Calls Tryz.prog 238 #[.pointer (some ⟨x.gp,0,none⟩)] w fun e w'=>e=.returned (.int .i64 x.co)∧Sep r [] (JN x.gj x.t x.v x.log x.n::.blk x.gp 331 x.cells::F) w':=by
 refine Z.enter Tryz.func238 Tryz.ntmps238 rfl rfl ?_;refine sQ ?_;intro w hS;refine Dnt Tryz.results238 ?_;exact ⟨rfl,hS⟩
theorem yaf:Calls Tryz.prog 227 #[.pointer (some ⟨x.gp,0,none⟩)] w fun e w'=>e=.returned (.int .i64 x.t)∧Sep r [] (JN x.gj x.t x.v x.log x.n::.blk x.gp 331 x.cells::F) w':=by
 refine Z.enter Tryz.func227 Tryz.ntmps227 rfl rfl ?_;refine sQ ?_;intro w hS;refine rQ (yd8 x.gj x.n x.t x.v x.log _ _ _ hS) ?_;intro w hS;refine Dnt Tryz.results227 ?_;exact ⟨rfl,hS⟩
theorem yhc:Calls Tryz.prog 369 #[.pointer (some ⟨x.gp,0,none⟩)] w fun e w'=>e=.returned (.int .i64 x.v)∧Sep r [] (JN x.gj x.t x.v x.log x.n::.blk x.gp 331 x.cells::F) w':=by
 refine Z.enter Tryz.func369 Tryz.ntmps369 rfl rfl ?_;refine sQ ?_;intro w hS;refine rQ (yhO x.gj x.n x.t x.v x.log _ _ _ hS) ?_;intro w hS;refine Dnt Tryz.results369 ?_;exact ⟨rfl,hS⟩
theorem yan:Calls Tryz.prog 298 #[.pointer (some ⟨x.gp,0,none⟩)] w fun e w'=>e=.returned (.int .i64 (x.log.length:Nat))∧Sep r [] (JN x.gj x.t x.v x.log x.n::.blk x.gp 331 x.cells::F) w':=by
 refine Z.enter Tryz.func298 Tryz.ntmps298 rfl rfl ?_;refine sQ ?_;intro w hS;refine rQ (yfw x.gj x.n x.t x.v x.log _ _ _ hS) ?_;intro w hS;refine Dnt Tryz.results298 ?_;exact ⟨rfl,hS⟩
theorem ydv (hl:x.log.length≤5000):Calls Tryz.prog 299 #[.pointer (some ⟨x.gp,0,none⟩)] w fun e w'=>e=.returned (.int .i64 (lgAt x.log (x.log.length - 1)).term)∧Sep r [] (JN x.gj x.t x.v x.log x.n::.blk x.gp 331 x.cells::F) w':=by
 refine Z.enter Tryz.func299 Tryz.ntmps299 rfl rfl ?_;refine sQ ?_;intro w hS;refine D.startS (Lr:=[.blk x.gp 331 x.cells]) (hS.sb) 9 9 kR rfl ?_;replace hS:=hS.drew;refine Sh.dp 0 1 ?_;refine Sh.dp 1 3 ?_;refine Sh.dp 2 7 ?_;refine Sh.dp 4 23 ?_;refine Sh.dl 3 31 ?_;refine D.ef 5 63 ?_;refine dQ (yan x _ _ _ ((hS.fo (R:=.blk x.gp 331 x.cells)).fo (R:=JN x.gj x.t x.v x.log x.n))) ?_;intro w hS
 first|refine D.sum 6 127 rfl D.wantedN kR rfl (by constructor<;>omega) ?_|refine D.sumW 6 127 rfl D.wantedN kR rfl ?_
 refine D.ef 7 255 ?_;refine dQ (yaN x.gj x.n x.t x.v x.log (x.log.length - 1) _ _ _ (hS.fo (R:=JN x.gj x.t x.v x.log x.n))) ?_;intro w hS;refine Sh.dp 8 511 ?_;refine D.dn ?_;refine sQ ?_;intro w hS;refine Dnt Tryz.results299 ?_;exact ⟨rfl,hS.sb⟩
theorem yaR (t' v':Int) (ht:stE x.t x.v t' v'=0) (hn:x.n≤1000000000) :
  Calls Tryz.prog 293 #[.pointer (some ⟨x.gp,0,none⟩),.int .i64 t',.int .i64 v'] w fun e w'=>e=.returned (.tuple #[])∧Sep r [] (JN x.gj t' v' x.log (x.n+48)::.blk x.gp 331 x.cells::F) w':=by
 refine Z.enter Tryz.func293 Tryz.ntmps293 rfl rfl ?_;refine sQ ?_;intro w hS;refine rQ (yd7 x.gj x.n x.t x.v x.log t' v' _ _ _ hS ht hn) ?_;intro w hS;refine rQ (yaY x.gj (x.n+48) t' v' x.log _ _ _ hS) ?_;intro w hS;refine Dn Tryz.results293 ?_;exact ⟨rfl,hS⟩
def leadN (x:Rp):Nat→Rp
 | 0=>{ x with ro:=3 }
 | 1=>{ x with ro:=3,n0:=x.log.length,m0:=0 }
 | 2=>{ x with ro:=3,n0:=x.log.length,m0:=0,n1:=x.log.length,m1:=0 }
 | _=>{ x with ro:=3,n0:=x.log.length,m0:=0,n1:=x.log.length,m1:=0,n2:=x.log.length,m2:=0 }
theorem yg6:Calls Tryz.prog 294 #[.pointer (some ⟨x.gp,0,none⟩)] w fun e w'=>e=.returned (.tuple #[])∧Sep r [] (JN x.gj x.t x.v x.log x.n::.blk x.gp 331 (leadN x 3).cells::F) w':=by
 refine Z.enter Tryz.func294 Tryz.ntmps294 rfl rfl ?_;refine sQ ?_;intro w hS;replace hS:=hS.sub (L':=JN x.gj x.t x.v x.log x.n::.blk x.gp 331 (leadN x 0).cells::F) SuF;refine Z.lpS [2,10,11,12,13,14,15,16,17,18,19,20,21,22,23,24,25] (fun m w z=>∃ (i:Nat),z=[(10,.int .i64 i)]∧i≤3∧m=3 - i∧Sep r [] (JN x.gj x.t x.v x.log x.n::.blk x.gp 331 (leadN x i).cells::F) w) _ [(10,.int .i64 (0:Nat))] TrF ⟨0,rfl,oM,rfl,hS⟩ ?_;clear hS;rintro m f0 w _ ⟨i,rfl,hi,rfl,hS⟩
 rcases (by omega:i=0∨i=1∨i=2∨i=3) with rfl|rfl|rfl|rfl
 ·refine sQ ?_;intro w hS;refine D.startS hS 9 14 kR rfl ?_;replace hS:=hS.drew;refine Sh.dp 0 1 ?_;refine Sh.dp 1 3 ?_;refine Sh.dp 2 7 ?_;refine Sh.dp 3 15 ?_;refine Sh.dp 4 31 ?_;refine Sh.dp 6 95 ?_;refine Sh.dp 7 223 ?_;refine Sh.dp 10 1247 ?_;refine Sh.dp 11 3295 ?_;refine D.ef 5 3327 ?_;refine dQ (yan (leadN x 0) _ _ _ hS) ?_;intro w hS
  first|refine D.ixn 8 3583 rfl D.wantedN kR rfl rfl rfl oM ?_|refine D.ix 8 3583 rfl D.wantedN kR rfl rfl rfl oM ?_|refine D.ia 8 3583 rfl D.wantedN kR rfl rfl rfl oM ?_
  refine D.ef 9 4095 ?_;refine Z.st hS rfl AtF rfl rfl ?_;clear hS;intro w hS;refine HMl ?_
  first|refine D.ixn 12 8191 rfl D.wantedN kR rfl rfl rfl oM ?_|refine D.ix 12 8191 rfl D.wantedN kR rfl rfl rfl oM ?_|refine D.ia 12 8191 rfl D.wantedN kR rfl rfl rfl oM ?_
  refine D.ef 13 16383 ?_;refine Z.st hS rfl AtF rfl rfl ?_;clear hS;intro w hS;refine HMl ?_;refine D.dn ?_;refine sQ ?_;intro w hS;refine Sh.again (2) [(10,.int .i64 (1:Nat))] ?_;exact ⟨1,rfl,oM,rfl,hS.sb⟩
 ·refine sQ ?_;intro w hS;refine D.startS hS 9 14 kR rfl ?_;replace hS:=hS.drew;refine Sh.dp 0 1 ?_;refine Sh.dp 1 3 ?_;refine Sh.dp 2 7 ?_;refine Sh.dp 3 15 ?_;refine Sh.dp 4 31 ?_;refine Sh.dp 6 95 ?_;refine Sh.dp 7 223 ?_;refine Sh.dp 10 1247 ?_;refine Sh.dp 11 3295 ?_;refine D.ef 5 3327 ?_;refine dQ (yan (leadN x 1) _ _ _ hS) ?_;intro w hS
  first|refine D.ixn 8 3583 rfl D.wantedN kR rfl rfl rfl oM ?_|refine D.ix 8 3583 rfl D.wantedN kR rfl rfl rfl oM ?_|refine D.ia 8 3583 rfl D.wantedN kR rfl rfl rfl oM ?_
  refine D.ef 9 4095 ?_;refine Z.st hS rfl AtF rfl rfl ?_;clear hS;intro w hS;refine HMl ?_
  first|refine D.ixn 12 8191 rfl D.wantedN kR rfl rfl rfl oM ?_|refine D.ix 12 8191 rfl D.wantedN kR rfl rfl rfl oM ?_|refine D.ia 12 8191 rfl D.wantedN kR rfl rfl rfl oM ?_
  refine D.ef 13 16383 ?_;refine Z.st hS rfl AtF rfl rfl ?_;clear hS;intro w hS;refine HMl ?_;refine D.dn ?_;refine sQ ?_;intro w hS;refine Sh.again (1) [(10,.int .i64 (2:Nat))] ?_;exact ⟨2,rfl,oM,rfl,hS.sb⟩
 ·refine sQ ?_;intro w hS;refine D.startS hS 9 14 kR rfl ?_;replace hS:=hS.drew;refine Sh.dp 0 1 ?_;refine Sh.dp 1 3 ?_;refine Sh.dp 2 7 ?_;refine Sh.dp 3 15 ?_;refine Sh.dp 4 31 ?_;refine Sh.dp 6 95 ?_;refine Sh.dp 7 223 ?_;refine Sh.dp 10 1247 ?_;refine Sh.dp 11 3295 ?_;refine D.ef 5 3327 ?_;refine dQ (yan (leadN x 2) _ _ _ hS) ?_;intro w hS
  first|refine D.ixn 8 3583 rfl D.wantedN kR rfl rfl rfl oM ?_|refine D.ix 8 3583 rfl D.wantedN kR rfl rfl rfl oM ?_|refine D.ia 8 3583 rfl D.wantedN kR rfl rfl rfl oM ?_
  refine D.ef 9 4095 ?_;refine Z.st hS rfl AtF rfl rfl ?_;clear hS;intro w hS;refine HMl ?_
  first|refine D.ixn 12 8191 rfl D.wantedN kR rfl rfl rfl oM ?_|refine D.ix 12 8191 rfl D.wantedN kR rfl rfl rfl oM ?_|refine D.ia 12 8191 rfl D.wantedN kR rfl rfl rfl oM ?_
  refine D.ef 13 16383 ?_;refine Z.st hS rfl AtF rfl rfl ?_;clear hS;intro w hS;refine HMl ?_;refine D.dn ?_;refine sQ ?_;intro w hS;refine Sh.again (0) [(10,.int .i64 (3:Nat))] ?_;exact ⟨3,rfl,oM,rfl,hS.sb⟩
 ·refine sQ ?_;intro w hS;refine Dn Tryz.results294 ?_;exact ⟨rfl,hS⟩
theorem yiW (i:Int):Calls Tryz.prog 407 #[.pointer (some ⟨x.gp,0,none⟩),.int .i64 i] w fun e w'=>e=.returned (.tuple #[(lgAt x.log i).val,.bool (decide (0≤i∧i < x.log.length))])∧Sep r [] (JN x.gj x.t x.v x.log x.n::.blk x.gp 331 x.cells::F) w':=by
 refine Z.enter Tryz.func407 Tryz.ntmps407 rfl rfl ?_;refine aQ1 ?_;intro g w hS;refine rQ (yeG x.gj x.n x.t x.v x.log i _ _ _ (hS.fo (R:=JN x.gj x.t x.v x.log x.n))) ?_;intro w hS;refine Dct Tryz.results407 ?_;exact ⟨rfl,hS.sb⟩
theorem ydt (k:Nat) (hk:k≤x.log.length) (hl:x.log.length≤5000):Calls Tryz.prog 367 #[.pointer (some ⟨x.gp,0,none⟩),.int .i64 (k:Nat)] w fun e w'=>∃ A c,e=.returned (.slice A (x.log.drop k).length c)∧Sep r [] (.sl 345 10 (.slice A (x.log.drop k).length c) ((x.log.drop k).map Lg.cells)::(JN x.gj x.t x.v x.log x.n::.blk x.gp 331 x.cells::F)) w':=by
 refine Z.enter Tryz.func367 Tryz.ntmps367 rfl rfl ?_;refine sQ ?_;intro w hS;replace hS:=Z.nilsl hS 345 10 none;refine Z.lpS [1,5,6,7,8,9,10,11,12,13,14,15,16,17,18,19,20,21,22,23] (fun m w z=>∃ (i:Nat) (o:List Lg) (A:Option Addr) (c:Nat),z=[(1,.int .i64 i),(5,.slice A o.length c)]∧k≤i∧i≤x.log.length∧o=(x.log.take i).drop k∧m=x.log.length - i∧Sep r [] (.sl 345 10 (.slice A o.length c) (o.map Lg.cells)::(JN x.gj x.t x.v x.log x.n::.blk x.gp 331 x.cells::F)) w) _ [(1,.int .i64 (k:Nat)),(5,.slice none 0 0)] TrF ⟨k,[],none,0,rfl,oM,hk,(List.drop_eq_nil_of_le (by rw [List.length_take];omega)).symm,rfl,hS⟩ ?_;clear hS;rintro m f0 w _ ⟨i,o,A,c,rfl,hki,hi,ho,rfl,hS⟩;have hol:o.length=i - k:=by rw [ho,List.length_drop,List.length_take];omega
 refine sQ ?_;intro w hS;refine cQ (yan x _ _ _ ((hS.fo (R:=.blk x.gp 331 x.cells)).fo (R:=JN x.gj x.t x.v x.log x.n))) rfl ?_;clear hS;rintro e w ⟨rfl,hS⟩;refine ⟨_,rfl,?_⟩
 by_cases hlt:i < x.log.length
 ·have e0:lgAt x.log (i:Int)=x.log[i]:=by unfold lgAt;rw [if_pos oM];simp [List.getD_eq_getElem?_getD,hlt]
  refine sQ ?_;intro w hS;refine cQ (yiW x _ _ _ hS i) rfl ?_;clear hS;rintro e w ⟨rfl,hS⟩;refine ⟨_,rfl,?_⟩;rw [e0]
  repeat' first|refine K ?_|refine Sa ?_;intro w hS|refine K3 ?_;intro g w hS hge|refine KC ?_ ?_<;>intro hb<;>try exact JX|fail
  refine Z.eff (Z.apm (fc:=Lg.cells) (l:=o) (l':=[x.log[i]]) hS rfl rfl rfl AtF (hS.lit1 AtF rfl rfl) LnF LnF ?_) rfl;clear hS;intro A2 c2 w hS;rw [← List.length_append] at hS ⊢;refine sQ ?_;intro w hS;refine Sh.again (x.log.length - (i+1)) [(1,.int .i64 (i+1:Nat)),(5,_)] ?_;refine ⟨i+1,o++[x.log[i]],A2,c2,rfl,oM,oM,?_,rfl,hS.sb⟩;rw [List.take_succ_eq_append_getElem hlt,List.drop_append_of_le_length (by rw [List.length_take];omega),← ho]
 ·have hil:i=x.log.length:=by omega
  subst hil;rw [List.take_length] at ho;subst ho;refine sQ ?_;intro w hS;refine Dnt Tryz.results367 ?_;exact ⟨A,c,rfl,hS.sb⟩
theorem yaK (hl:x.log.length≤5000):Calls Tryz.prog 310 #[.pointer (some ⟨x.gp,0,none⟩)] w fun e w'=>∃ A c,e=.returned (.slice A x.log.length c)∧Sep r [] (.sl 345 10 (.slice A x.log.length c) (x.log.map Lg.cells)::(JN x.gj x.t x.v x.log x.n::.blk x.gp 331 x.cells::F)) w':=by
 refine Z.enter Tryz.func310 Tryz.ntmps310 rfl rfl ?_;refine sQ ?_;intro w hS;refine cQ (ydt x _ _ _ hS 0 (Nat.zero_le _) hl) rfl ?_;clear hS;rintro e w ⟨A,c,rfl,hS⟩;refine ⟨_,rfl,?_⟩;rw [List.drop_zero] at hS ⊢;refine sQ ?_;intro w hS;refine Dnt Tryz.results310 ?_;exact ⟨A,c,rfl,hS⟩
theorem ybw (kd to:Int):Calls Tryz.prog 297 #[.pointer (some ⟨x.gp,0,none⟩),.int .i64 kd,.int .i64 to] w fun e w'=>e=.returned (⟨kd,x.id,to,x.t,0,0,0,false,[],none,0⟩:Ms).val∧Sep r [] (JN x.gj x.t x.v x.log x.n::.blk x.gp 331 x.cells::F) w':=by
 refine Z.enter Tryz.func297 Tryz.ntmps297 rfl rfl ?_;refine aQ1 ?_;intro g6 w hS;refine D.startS (Lr:=[.blk x.gp 331 x.cells]) (hS.sb) 9 10 kR rfl ?_;replace hS:=hS.drew;refine Sh.dp 0 1 ?_;refine Sh.dp 1 3 ?_;refine Sh.dp 2 7 ?_;refine Sh.dp 3 15 ?_;refine Sh.dp 5 47 ?_;refine Sh.dp 6 111 ?_;refine Sh.dl 4 127 ?_;refine D.ef 7 255 ?_;refine dQ (yaf x _ _ _ ((hS.fo (R:=.blk x.gp 331 x.cells)).fo (R:=JN x.gj x.t x.v x.log x.n))) ?_;intro w hS
 first|refine D.bu 8 511 rfl D.wantedN kR rfl rfl ?_|refine D.buA 8 511 rfl D.wantedN kR rfl rfl ?_
 refine D.ef 9 1023 ?_;refine Z.st hS rfl AtF rfl rfl ?_;clear hS;intro w hS;refine HMl ?_;refine D.dn ?_;refine sQ ?_;intro w hS;refine Dnc Tryz.results297 ?_;exact ⟨rfl,hS.sb⟩
end
def apM (x:Rp) (to:Int) (k:Nat) (A:Option Addr) (c:Nat):Ms:=⟨3,x.id,to,x.t,k,(lgAt x.log ((k:Int) - 1)).term,x.co,false,x.log.drop k,A,c⟩
theorem ms_ok (l:List Ms):∀ row,row∈l.map Ms.cells→row.length=9∧∀ u,u∈row→u.oneCell'=true:=by
 intro row hr;obtain ⟨x,_,rfl⟩:=List.mem_map.1 hr;exact ⟨rfl,by simp [Ms.cells,Value.oneCell']⟩
section
variable (x:Rp) (r:World) (F:List Res) (w:World) (hS:Sep r [] (JN x.gj x.t x.v x.log x.n::.blk x.gp 331 x.cells::F) w)
include hS
theorem yb8 (to:Int) (k:Nat) (hto:(to=1∧x.n1=k)∨(to=2∧x.n2=k)) (hk:k≤x.log.length) (hl:x.log.length≤5000) :
  Calls Tryz.prog 303 #[.pointer (some ⟨x.gp,0,none⟩),.int .i64 to] w fun e w'=>∃ (A:Option Addr) (c:Nat),e=.returned (apM x to k A c).val∧Sep r [] (.sl 345 10 (.slice A (x.log.drop k).length c) ((x.log.drop k).map Lg.cells)::(JN x.gj x.t x.v x.log x.n::.blk x.gp 331 x.cells::F)) w':=by
 rcases hto with ⟨rfl,h1⟩|⟨rfl,h1⟩
 all_goals
  refine Z.enter Tryz.func303 Tryz.ntmps303 rfl rfl ?_;refine aQ1 ?_;intro g4 w hS;refine cQ (ybw x _ _ _ ((hS.fo (R:=.blk x.gp 331 x.cells)).fo (R:=JN x.gj x.t x.v x.log x.n)) 3 _) rfl ?_;clear hS;rintro e w ⟨rfl,hS⟩;refine ⟨_,rfl,?_⟩
  repeat' first|refine K ?_|refine Sa ?_;clear hS;intro w hS|refine K3 ?_;clear hS;intro g w hS hge|refine KC ?_ ?_<;>intro hb<;>try exact JX|fail
  rename Nat=>g5;rw [h1] at hS;refine D.startS (Lr:=[.blk x.gp 331 x.cells]) (hS.sb) 9 10 kR rfl ?_;replace hS:=hS.drew;refine Sh.dp 0 1 ?_;refine Sh.dp 1 3 ?_;refine Sh.dp 2 7 ?_;refine Sh.dp 4 23 ?_;refine Sh.dl 3 31 ?_;refine D.ef 5 63 ?_;refine Z.ld hS rfl AtF rfl ?_;refine HMs ?_
  first|refine D.sum 6 127 rfl D.wantedN kR rfl (by constructor<;>omega) ?_|refine D.sumW 6 127 rfl D.wantedN kR rfl ?_
  refine D.ef 7 255 ?_;refine dQ (yaN x.gj x.n x.t x.v x.log ((k:Int) - 1) _ _ _ (hS.fo (R:=JN x.gj x.t x.v x.log x.n))) ?_;intro w hS;refine Sh.dp 8 511 ?_;refine D.ef 9 1023 ?_;refine Z.st hS rfl AtF rfl rfl ?_;clear hS;intro w hS;refine HMl ?_;refine D.dn ?_;refine sQ ?_;intro w hS;refine cQ (ydt x _ _ _ ((hS.fo (R:=.blk x.gp 331 x.cells)).fo (R:=JN x.gj x.t x.v x.log x.n)) k hk hl) rfl ?_;clear hS;rintro e w ⟨A,c,rfl,hS⟩;refine eQ ?_;intro w hS;refine Dnc Tryz.results303 ?_;exact ⟨A,c,rfl,hS.sb⟩
theorem ybD (k1 k2:Nat) (hid:x.id=0) (h1:x.n1=k1) (h2:x.n2=k2) (hk1:k1≤x.log.length) (hk2:k2≤x.log.length) (hl:x.log.length≤5000) :
  Calls Tryz.prog 295 #[.pointer (some ⟨x.gp,0,none⟩),.func (.func 303) #[.pointer (some ⟨x.gp,0,none⟩)] #[]] w fun e w'=>∃ (A:Option Addr) (c:Nat) (A1:Option Addr) (c1:Nat) (A2:Option Addr) (c2:Nat),e=.returned (.slice A 2 c)∧Sep r [] (.sl 341 9 (.slice A 2 c) ([apM x 1 k1 A1 c1,apM x 2 k2 A2 c2].map Ms.cells)::.sl 345 10 (.slice A1 (x.log.drop k1).length c1) ((x.log.drop k1).map Lg.cells)::.sl 345 10 (.slice A2 (x.log.drop k2).length c2) ((x.log.drop k2).map Lg.cells)::(JN x.gj x.t x.v x.log x.n::.blk x.gp 331 x.cells::F)) w':=by
 refine Z.enter Tryz.func295 Tryz.ntmps295 rfl rfl ?_;refine sQ ?_;intro w hS;refine Z.unr 4 ?_;refine sQ ?_;intro w hS;refine Z.eff (Z.clb (bnd:=[.pointer (some ⟨x.gp,0,none⟩)]) rfl (yb8 x _ _ _ ((hS.fo (R:=.blk x.gp 331 x.cells)).fo (R:=JN x.gj x.t x.v x.log x.n)) 1 k1 (.inl ⟨rfl,h1⟩) hk1 hl) rfl ?_) rfl;clear hS;rintro e w ⟨A1,c1,rfl,hS⟩;refine ⟨_,rfl,?_⟩
 repeat' first|refine K ?_|refine Sa ?_;clear hS;intro w hS|refine K3 ?_;clear hS;intro g w hS hge|refine KC ?_ ?_<;>intro hb<;>try exact JX|fail
 replace hS:=Z.nilsl hS 341 9 none;refine Z.eff (Z.apm (fc:=Ms.cells) (l:=[]) (l':=[apM x 1 k1 A1 c1]) hS rfl rfl rfl AtF (hS.lit1 AtF rfl rfl) LnF LnF ?_) rfl;clear hS;intro A3 c3 w hS;rw [← List.length_append] at hS ⊢;refine sQ ?_;intro w hS;refine Z.eff (Z.clb (bnd:=[.pointer (some ⟨x.gp,0,none⟩)]) rfl (yb8 x _ _ _ ((hS.fo (R:=.blk x.gp 331 x.cells)).fo (R:=JN x.gj x.t x.v x.log x.n)) 2 k2 (.inr ⟨rfl,h2⟩) hk2 hl) rfl ?_) rfl;clear hS;rintro e w ⟨A2,c2,rfl,hS⟩;refine ⟨_,rfl,?_⟩
 repeat' first|refine K ?_|refine Sa ?_;clear hS;intro w hS|refine K3 ?_;clear hS;intro g w hS hge|refine KC ?_ ?_<;>intro hb<;>try exact JX|fail
 refine Z.eff (Z.apm (fc:=Ms.cells) (l:=[]++[apM x 1 k1 A1 c1]) (l':=[apM x 2 k2 A2 c2]) hS rfl rfl rfl AtF (hS.lit1 AtF rfl rfl) LnF LnF ?_) rfl;clear hS;intro A4 c4 w hS;rw [← List.length_append] at hS ⊢;refine sQ ?_;intro w hS;refine Dnt Tryz.results295 ?_;exact ⟨A4,c4,A1,c1,A2,c2,rfl,hS.sb⟩
end
def voM (x:Rp) (to:Int):Ms:=⟨1,x.id,to,x.t,x.log.length,(lgAt x.log ((x.log.length:Int) - 1)).term,0,false,[],none,0⟩
section
variable (gb:Nat) (x:Rp) (r:World) (F:List Res) (w:World) (hS:Sep r [] (.blk gb 249 [.pointer (some ⟨x.gp,0,none⟩)]::(JN x.gj x.t x.v x.log x.n::.blk x.gp 331 x.cells::F)) w)
include hS
theorem yds (to:Int) (hl:x.log.length≤5000) :
  Calls Tryz.prog 296 #[.int .i64 to,.pointer (some ⟨gb,0,none⟩)] w fun e w'=>e=.returned (voM x to).val∧Sep r [] (.blk gb 249 [.pointer (some ⟨x.gp,0,none⟩)]::(JN x.gj x.t x.v x.log x.n::.blk x.gp 331 x.cells::F)) w':=by
 refine Z.enter Tryz.func296 Tryz.ntmps296 rfl rfl ?_;refine aQ1 ?_;intro g3 w hS;refine cQ (ybw x _ _ _ ((hS.fo (R:=.blk x.gp 331 x.cells)).fo (R:=JN x.gj x.t x.v x.log x.n)) 1 to) rfl ?_;clear hS;rintro e w ⟨rfl,hS⟩;refine ⟨_,rfl,?_⟩
 repeat' first|refine K ?_|refine Sa ?_;clear hS;intro w hS|refine K3 ?_;clear hS;intro g w hS hge|refine KC ?_ ?_<;>intro hb<;>try exact JX|fail
 rename Nat=>g4;refine D.startS (Lr:=[.blk gb 249 [.pointer (some ⟨x.gp,0,none⟩)]]) (hS.sb) 7 8 kR rfl ?_;replace hS:=hS.drew;refine Sh.dl 0 1 ?_;refine Sh.dl 2 5 ?_;refine D.ef 1 7 ?_;refine dQ (yan x _ _ _ ((hS.fo (R:=.blk x.gp 331 x.cells)).fo (R:=JN x.gj x.t x.v x.log x.n))) ?_;intro w hS;refine Sh.dp 4 23 ?_;refine D.ef 3 31 ?_;refine dQ (ydv x _ _ _ ((hS.fo (R:=.blk x.gp 331 x.cells)).fo (R:=JN x.gj x.t x.v x.log x.n)) hl) ?_;intro w hS;refine D.ef 5 63 ?_;refine Z.st hS rfl AtF rfl rfl ?_;clear hS;intro w hS;refine HMs ?_;refine Sh.dp 6 127 ?_;refine D.ef 7 255 ?_;refine Z.st hS rfl AtF rfl rfl ?_;clear hS;intro w hS;refine HMl ?_;refine D.dn ?_;refine sQ ?_;intro w hS;refine Dnc Tryz.results296 ?_;exact ⟨rfl,hS.sb⟩
theorem ydJ (hid:x.id=0) (hl:x.log.length≤5000) :
  Calls Tryz.prog 295 #[.pointer (some ⟨x.gp,0,none⟩),.func (.func 296) #[] #[.pointer (some ⟨gb,0,none⟩)]] w fun e w'=>∃ (A:Option Addr) (c:Nat),e=.returned (.slice A 2 c)∧Sep r [] (.sl 341 9 (.slice A 2 c) ([voM x 1,voM x 2].map Ms.cells)::.blk gb 249 [.pointer (some ⟨x.gp,0,none⟩)]::(JN x.gj x.t x.v x.log x.n::.blk x.gp 331 x.cells::F)) w':=by
 refine Z.enter Tryz.func295 Tryz.ntmps295 rfl rfl ?_;refine sQ ?_;intro w hS;refine Z.unr 4 ?_;refine sQ ?_;intro w hS;refine Z.eff (Z.clf (caps:=[.pointer (some ⟨gb,0,none⟩)]) rfl (yds gb x _ _ _ hS 1 hl) rfl ?_) rfl;clear hS;rintro e w ⟨rfl,hS⟩;refine ⟨_,rfl,?_⟩
 repeat' first|refine K ?_|refine Sa ?_;clear hS;intro w hS|refine K3 ?_;clear hS;intro g w hS hge|refine KC ?_ ?_<;>intro hb<;>try exact JX|fail
 replace hS:=Z.nilsl hS 341 9 none;refine Z.eff (Z.apm (fc:=Ms.cells) (l:=[]) (l':=[voM x 1]) hS rfl rfl rfl AtF (hS.lit1 AtF rfl rfl) LnF LnF ?_) rfl;clear hS;intro A3 c3 w hS;rw [← List.length_append] at hS ⊢;refine sQ ?_;intro w hS;refine Z.eff (Z.clf (caps:=[.pointer (some ⟨gb,0,none⟩)]) rfl (yds gb x _ _ _ (((hS.fo (R:=.blk x.gp 331 x.cells)).fo (R:=JN x.gj x.t x.v x.log x.n)).fo (R:=.blk gb 249 [.pointer (some ⟨x.gp,0,none⟩)])) 2 hl) rfl ?_) rfl;clear hS;rintro e w ⟨rfl,hS⟩;refine ⟨_,rfl,?_⟩
 repeat' first|refine K ?_|refine Sa ?_;clear hS;intro w hS|refine K3 ?_;clear hS;intro g w hS hge|refine KC ?_ ?_<;>intro hb<;>try exact JX|fail
 refine Z.eff (Z.apm (fc:=Ms.cells) (l:=[]++[voM x 1]) (l':=[voM x 2]) hS rfl rfl rfl AtF (hS.lit1 AtF rfl rfl) LnF LnF ?_) rfl;clear hS;intro A4 c4 w hS;rw [← List.length_append] at hS ⊢;refine sQ ?_;intro w hS;refine Dnt Tryz.results295 ?_;exact ⟨A4,c4,rfl,hS.sb⟩
end
section
variable (x:Rp) (r:World) (F:List Res) (w:World) (hS:Sep r [] (JN x.gj x.t x.v x.log x.n::.blk x.gp 331 x.cells::F) w)
include hS
def advC (x:Rp):Int:=if x.co < x.log.length∧((x.log.length:Int)≤x.m1∨(x.log.length:Int)≤x.m2) then x.log.length else x.co
theorem yaX (hid:x.id=0) (hl:x.log.length≤5000) (hc:0≤x.co∧(x.co=x.log.length∨x.co+1=x.log.length)) (ht:x.co < x.log.length→(lgAt x.log (x.log.length - 1)).term=x.t) :
  Calls Tryz.prog 302 #[.pointer (some ⟨x.gp,0,none⟩)] w fun e w'=>e=.returned (.tuple #[])∧Sep r [] (JN x.gj x.t x.v x.log x.n::.blk x.gp 331 ({ x with co:=advC x }).cells::F) w':=by
 refine Z.enter Tryz.func302 Tryz.ntmps302 rfl rfl ?_;refine sQ ?_;intro w hS;refine cQ (yan x _ _ _ hS) rfl ?_;clear hS;rintro e w ⟨rfl,hS⟩;refine ⟨_,rfl,?_⟩
 by_cases h0:x.co=x.log.length
 ·have e0:advC x=x.co:=by unfold advC;rw [if_neg oM]
  rw [e0];refine sQ ?_;intro w hS;refine Z.unr 1 ?_;refine sQ ?_;intro w hS;refine Dn Tryz.results302 ?_;exact ⟨rfl,hS.sb⟩
 have h1:x.co+1=x.log.length:=by omega
 have ht1:=ht oM;refine sQ ?_;intro w hS;refine Z.unr 2 ?_;refine sQ ?_;intro w hS;refine rQ (yaN x.gj x.n x.t x.v x.log (x.log.length - 1) _ _ _ hS) ?_;intro w hS;refine cQ (yaf x _ _ _ ((hS.fo (R:=.blk x.gp 331 x.cells)).fo (R:=JN x.gj x.t x.v x.log x.n))) rfl ?_;clear hS;rintro e w ⟨rfl,hS⟩;refine ⟨_,rfl,?_⟩;rw [ht1];replace hS:=(hS.fo (R:=.blk x.gp 331 x.cells)).fo (R:=JN x.gj x.t x.v x.log x.n);refine sQ ?_;intro w hS;refine Z.unr 4 ?_
 by_cases hm1:(x.log.length:Int)≤x.m1
 ·have e0:advC x=x.log.length:=by unfold advC;rw [if_pos ⟨oM,.inl hm1⟩]
  rw [e0]
  by_cases hm2:(x.log.length:Int)≤x.m2
  ·refine sQ ?_;intro w hS;refine Dn Tryz.results302 ?_;exact ⟨rfl,hS.sb⟩
  ·refine sQ ?_;intro w hS;refine Dn Tryz.results302 ?_;exact ⟨rfl,hS.sb⟩
 by_cases hm2:(x.log.length:Int)≤x.m2
 ·have e0:advC x=x.log.length:=by unfold advC;rw [if_pos ⟨oM,.inr hm2⟩]
  rw [e0];refine sQ ?_;intro w hS;refine Dn Tryz.results302 ?_;exact ⟨rfl,hS.sb⟩
 ·have e0:advC x=x.co:=by unfold advC;rw [if_neg oM]
  rw [e0];refine sQ ?_;intro w hS;refine Dn Tryz.results302 ?_;exact ⟨rfl,hS.sb⟩
end
theorem u64_ge (x:Int):0≤IntKind.u64.wrap x:=by
 simp [IntKind.wrap,IntKind.signed,IntKind.bits]
 omega
def candR (x:Rp):Rp:={ x with t:=x.t+1,v:=0,n:=x.n+48,ro:=2,vo:=1 }
section
variable (x:Rp) (r:World) (F:List Res) (w:World) (hS:Sep r [] (JN x.gj x.t x.v x.log x.n::.blk x.gp 331 x.cells::F) w)
include hS
theorem ybp (hid:x.id=0) (ht:0≤x.t∧x.t < 1073741824) (hn:x.n≤1000000000) (hl:x.log.length≤5000) :
  Calls Tryz.prog 230 #[.pointer (some ⟨x.gp,0,none⟩)] w fun e w'=>∃ (A:Option Addr) (c:Nat),e=.returned (.slice A 2 c)∧Sep r [] (.sl 341 9 (.slice A 2 c) ([voM (candR x) 1,voM (candR x) 2].map Ms.cells)::JN x.gj (candR x).t (candR x).v x.log (candR x).n::.blk x.gp 331 (candR x).cells::F) w':=by
 have hvo:IntKind.i64.wrap (1 * 2 ^ min (IntKind.u64.wrap x.id).toNat IntKind.i64.bits)=1:=by rw [hid];decide
 refine Z.enter Tryz.func230 Tryz.ntmps230 rfl rfl ?_;refine aQ1 ?_;intro gb w hS;replace hS:=hS.sub (L':=JN x.gj x.t x.v x.log x.n::.blk x.gp 331 x.cells::.blk gb 249 [.pointer (some ⟨x.gp,0,none⟩)]::F) SuF;refine rQ (yaf x _ _ _ hS) ?_;intro w hS;refine D.startS (Lr:=[.blk gb 249 [.pointer (some ⟨x.gp,0,none⟩)],.blk x.gp 331 x.cells]) (hS.sb) 9 9 kR rfl ?_;replace hS:=hS.drew;refine Sh.dl 0 1 ?_;refine Sh.dl 1 3 ?_;refine Sh.dl 4 19 ?_;refine Sh.dp 5 51 ?_;refine Sh.dp 6 115 ?_;refine Sh.dl 7 243 ?_;refine D.ef 2 247 ?_;refine dQ (yaf x _ _ _ ((hS.fo (R:=.blk x.gp 331 x.cells)).fo (R:=JN x.gj x.t x.v x.log x.n))) ?_;intro w hS
 first|refine D.sum 3 255 rfl D.wantedN kR rfl (by constructor<;>omega) ?_|refine D.sumW 3 255 rfl D.wantedN kR rfl ?_
 refine D.ef 8 511 ?_;refine Z.cl (yaR x _ _ _ ((hS.fo (R:=.blk x.gp 331 x.cells)).fo (R:=JN x.gj x.t x.v x.log x.n)) (x.t+1) x.id (by rw [hid];unfold stE;rw [if_neg oM,if_neg oM]) hn) rfl ?_;clear hS;rintro e w ⟨rfl,hS⟩;refine ⟨_,rfl,?_⟩;refine HMs ?_;refine D.dn ?_;refine sQ ?_;intro w hS;refine D.startS (Lr:=[.blk gb 249 [.pointer (some ⟨x.gp,0,none⟩)]]) (hS.sb) 13 14 kR rfl ?_;replace hS:=hS.drew;refine Sh.dl 0 1 ?_;refine Sh.dl 1 3 ?_;refine Sh.dl 2 7 ?_;refine Sh.dp 3 15 ?_;refine Sh.dp 4 31 ?_;refine D.ef 5 63 ?_;refine Z.ld hS rfl AtF rfl ?_;refine HMs ?_;refine D.pl 6 127 rfl D.wantedN kR (R.icv rfl) ?_;refine D.pl 7 255 rfl D.wantedN kR (R.ish rfl rfl rfl (u64_ge _)) ?_;refine Sh.dp 8 511 ?_;refine Sh.dp 9 1023 ?_;refine D.ef 10 2047 ?_;refine Z.st hS rfl AtF rfl rfl ?_;clear hS;intro w hS;refine HMs ?_;refine Sh.dp 11 4095 ?_;refine Sh.dp 12 8191 ?_;refine D.ef 13 16383 ?_;refine Z.st hS rfl AtF rfl rfl ?_;clear hS;intro w hS;refine HMl ?_;refine D.dn ?_;rw [hvo] at hS;replace hS:=hS.sub (L':=.blk gb 249 [.pointer (some ⟨x.gp,0,none⟩)]::JN x.gj (x.t+1) x.id x.log (x.n+48)::.blk x.gp 331 (candR x).cells::F) SuF;rw [hid] at hS;refine sQ ?_;intro w hS;refine cQ (ydJ gb (candR x) _ _ _ hS hid hl) rfl ?_;clear hS;rintro e w ⟨A,c,rfl,hS⟩;refine eQ ?_;intro w hS;refine Dnt Tryz.results230 ?_;exact ⟨A,c,rfl,hS.sb⟩
def propR (x:Rp) (e:En):Rp:={ x with log:=x.log++[⟨x.t,e⟩],n:=x.n+128 }
theorem ydL (e:En) (he:e.i64) (hid:x.id=0) (h3:x.ro=3) (h1:1≤x.t∧x.t≤1073741824) (h2:shapeP e=true) (h4:(lgAt x.log (x.log.length - 1)).term≤x.t) (h5:x.log.length < 4096) (hc:x.co=x.log.length) (hm:x.m1≤x.log.length∧x.m2≤x.log.length) (hn1:x.n1=x.log.length) (hn2:x.n2=x.log.length) (hn:x.n≤1000000000) :
  Calls Tryz.prog 231 #[.pointer (some ⟨x.gp,0,none⟩),e.val] w fun z w'=>∃ (A:Option Addr) (c:Nat) (A1:Option Addr) (c1:Nat) (A2:Option Addr) (c2:Nat),z=.returned (.tuple #[.slice A 2 c,.int .i64 0])∧Sep r [] (.sl 341 9 (.slice A 2 c) ([apM (propR x e) 1 x.log.length A1 c1,apM (propR x e) 2 x.log.length A2 c2].map Ms.cells)::.sl 345 10 (.slice A1 ((propR x e).log.drop x.log.length).length c1) (((propR x e).log.drop x.log.length).map Lg.cells)::.sl 345 10 (.slice A2 ((propR x e).log.drop x.log.length).length c2) (((propR x e).log.drop x.log.length).map Lg.cells)::JN x.gj x.t x.v (propR x e).log (x.n+128)::.blk x.gp 331 (propR x e).cells::F) w':=by
 have hyl:((propR x e).log.length:Int)=x.log.length+1:=by simp [propR]
 have hya:advC (propR x e)=x.co:=by
  unfold advC;rw [if_neg]
  ·rfl
  ·show ¬(x.co < ((propR x e).log.length:Int)∧(((propR x e).log.length:Int)≤x.m1∨((propR x e).log.length:Int)≤x.m2))
   omega
 refine Z.enter Tryz.func231 Tryz.ntmps231 rfl rfl ?_;refine aQ1 ?_;intro gb w hS;replace hS:=hS.sub (L':=JN x.gj x.t x.v x.log x.n::.blk x.gp 331 x.cells::.blk gb 63 e.cells::F) SuF;refine D.startS (Lr:=[.blk x.gp 331 x.cells,.blk gb 63 e.cells]) (hS.sb) 9 9 kR rfl ?_;replace hS:=hS.drew;refine Sh.dp 0 1 ?_;refine Sh.dp 1 3 ?_;refine Sh.dp 2 7 ?_;refine Sh.dp 4 23 ?_;refine Sh.dl 3 31 ?_;refine Sh.dl 6 95 ?_;refine D.ef 5 127 ?_;refine dQ (yaf x _ _ _ ((hS.fo (R:=.blk x.gp 331 x.cells)).fo (R:=JN x.gj x.t x.v x.log x.n))) ?_;intro w hS;refine D.ef 7 255 ?_;refine dQ (ybm x.gj x.n x.t x.v x.log x.t e he _ _ _ (hS.fo (R:=JN x.gj x.t x.v x.log x.n)) h1 h2 (Int.le_refl _) h4 h5 hn) ?_;intro w hS;refine Sh.dp 8 511 ?_;refine D.dn ?_;refine sQ ?_;intro w hS;refine rQ (yaY x.gj (x.n+128) x.t x.v (x.log++[⟨x.t,e⟩]) _ _ _ hS) ?_;intro w hS;replace hS:=hS.sub (L':=JN (propR x e).gj (propR x e).t (propR x e).v (propR x e).log (propR x e).n::.blk (propR x e).gp 331 (propR x e).cells::F) SuF;refine cQ (yaX (propR x e) _ _ _ hS hid oM ⟨by show 0≤x.co;omega,.inr (by show x.co+1=_;omega)⟩ (fun _=>by show (lgAt (x.log++[⟨x.t,e⟩]) (((x.log++[(⟨x.t,e⟩:Lg)]).length:Int) - 1)).term=x.t;rw [ycD])) rfl ?_;clear hS;rintro e w ⟨rfl,hS⟩;refine ⟨_,rfl,?_⟩;rw [hya] at hS;replace hS:=hS.sub (L':=JN (propR x e).gj (propR x e).t (propR x e).v (propR x e).log (propR x e).n::.blk (propR x e).gp 331 (propR x e).cells::F) SuF;refine sQ ?_;intro w hS;refine Z.pl R.mfb ?_;refine sQ ?_;intro w hS;refine cQ (ybD (propR x e) _ _ _ hS x.log.length x.log.length hid hn1 hn2 oM oM oM) rfl ?_;clear hS;rintro e w ⟨A,c,A1,c1,A2,c2,rfl,hS⟩;refine eQ ?_;intro w hS;refine Dntt Tryz.results231 ?_;exact ⟨A,c,A1,c1,A2,c2,rfl,hS.sb⟩
end
theorem ydK (kd fr to tm ix pv cm:Int) (ok:Bool) (el:List Lg) (A:Option Addr) (c:Nat) (r:World) (F:List Res) (w:World) (hS:Sep r [] F w) (ht:tm=1) (hel:el.length≤1) (hix:0≤ix∧ix+el.length≤4096) (hpv:(ix=0∧pv=0)∨(0 < ix∧pv=1)) (hsh:∀ l,l∈el→shapeP l.e=true∧l.term=1) (hrd:Reads r F 10 (.slice A el.length c) (el.map Lg.cells)) :
  Calls Tryz.prog 368 #[.agg #[.int .i64 kd,.int .i64 fr,.int .i64 to,.int .i64 tm,.int .i64 ix,.int .i64 pv,.int .i64 cm,.bool ok,.slice A el.length c]] w fun e w'=>e=.returned (.bool true)∧Sep r [] F w':=by
 have hbb:(decide (pv=0) == decide (ix=0))=true:=by
  rcases hpv with ⟨h1,h2⟩|⟨h1,h2⟩
  ·rw [h1,h2]
   rfl
  ·rw [decide_eq_false (show ¬ pv=0 by omega),decide_eq_false (show ¬ ix=0 by omega)]
   rfl
 rcases el with _|⟨y,_|⟨y2,el⟩⟩
 ·have hl0:(([]:List Lg).length:Int)=0:=rfl;refine Z.enter Tryz.func368 Tryz.ntmps368 rfl rfl ?_
  repeat' first|refine K ?_|refine Sa ?_;clear hS;intro w hS|refine K3 ?_;clear hS;intro g w hS hge|refine KC ?_ ?_<;>intro hb<;>try exact JX|fail
  ·rw [hbb] at hb
   cases hb
  rename Nat=>g1;refine Z.unr 1 ?_;refine sQ ?_;intro w hS;refine Dnt Tryz.results368 ?_;exact ⟨rfl,hS.sb⟩
 ·have hl0:(([y]:List Lg).length:Int)=1:=rfl;obtain ⟨hs1,hs2⟩:=hsh y (by simp);obtain ⟨gl,ol,hAe,_,_⟩:=(hrd [] w hS).mat (by simp) (q:=0) (by simp);subst hAe;have hra:∀ L W,Sep r [] (L++F) W→W.rangeAt gl (ol+0 * 10) y.cells:=fun L W hW=>by
   have h3:=(hrd L W hW).elem (q:=0) (by simp) (by simp)
   simpa using h3
  refine Z.enter Tryz.func368 Tryz.ntmps368 rfl rfl ?_
  repeat' first|refine K ?_|refine Sa ?_;clear hS;intro w hS|refine K3 ?_;clear hS;intro g w hS hge|refine KC ?_ ?_<;>intro hb<;>try exact JX|fail
  ·rw [hbb] at hb
   cases hb
  rename Nat=>g1;refine Z.unr 2 ?_;have hra1:=hra [_] _ hS
  repeat' first|refine K ?_|refine Sa ?_;intro w hS|refine K3 ?_;intro g w hS hge|refine KC ?_ ?_<;>intro hb<;>try exact JX|fail
  refine cQ (ybK y.e _ _ _ hS) rfl ?_;clear hS;rintro e w ⟨rfl,hS⟩;refine ⟨_,rfl,?_⟩;rw [hs1];refine sQ ?_;intro w hS;refine Dnt Tryz.results368 ?_;exact ⟨rfl,hS.sb⟩
 ·simp at hel
end Go.Proofs.YtfmnjbhncnldmaaGreat
