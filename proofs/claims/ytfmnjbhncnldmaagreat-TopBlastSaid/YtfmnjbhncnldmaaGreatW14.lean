import Derived.Test.YtfmnjbhncnldmaaGreatW13
set_option maxHeartbeats 1000000
set_option linter.unusedSimpArgs false
set_option linter.unusedVariables false
namespace Go.Proofs.YtfmnjbhncnldmaaGreat
open Go.RowKit
attribute [local irreducible] Res.blk Res.sl Res.all Res.ex Res.pure Res.star
def rpC (gj:Nat) (ro co vo nx:Int):List Value:=[.pointer (some ⟨gj,0,none⟩),.int .i64 0,.int .i64 1,.int .i64 ro,.int .i64 co,.int .i64 vo,.int .i64 nx,.int .i64 0,.int .i64 0,.int .i64 0,.int .i64 0,.int .i64 0,.int .i64 0,.int .i64 0,.int .i64 0,.int .i64 0]
theorem yiX (r:World) (F:List Res) (w:World) (hS:Sep r [] F w) :
  Calls Tryz.prog 122 #[.int .i64 0,.int .i64 1] w fun e w'=>∃ gp gj,e=.returned (.tuple #[.pointer (some ⟨gp,0,none⟩),.int .i64 0])∧Sep r [] (JN gj 0 (-1) [] 0::.blk gp 331 (rpC gj 1 0 0 0)::F) w':=by
 refine Z.enter Tryz.func122 Tryz.ntmps122 rfl rfl ?_;refine sQ ?_;intro w hS;refine cQ (yfx _ _ _ hS) rfl ?_;clear hS;rintro e w ⟨gj,rfl,hS⟩;refine ⟨_,rfl,?_⟩
 repeat' first|refine K ?_|refine Sa ?_;clear hS;intro w hS|refine K3 ?_;clear hS;intro g w hS hge|refine KC ?_ ?_<;>intro hb<;>try exact JX|fail
 rename Nat=>gp;refine Dntt Tryz.results122 ?_;exact ⟨gp,gj,rfl,hS.sb⟩
theorem ycD (log:List Lg) (x:Lg):lgAt (log++[x]) ((log++[x]).length - 1)=x:=by
 unfold lgAt;rw [if_pos (by simp;omega)];have:(((log++[x]).length:Int) - 1).toNat=log.length:=by simp
 rw [this]
 simp
section
variable (gp gj n:Nat) (t v:Int) (log:List Lg) (ro co vo nx:Int) (r:World) (F:List Res) (w:World) (hS:Sep r [] (JN gj t v log n::.blk gp 331 (rpC gj ro co vo nx)::F) w)
include hS
theorem yeq:Calls Tryz.prog 226 #[.pointer (some ⟨gp,0,none⟩)] w fun e w'=>e=.returned (.int .i64 ro)∧Sep r [] (JN gj t v log n::.blk gp 331 (rpC gj ro co vo nx)::F) w':=by
 refine Z.enter Tryz.func226 Tryz.ntmps226 rfl rfl ?_;refine sQ ?_;intro w hS;refine Dnt Tryz.results226 ?_;exact ⟨rfl,hS⟩
theorem yaT:Calls Tryz.prog 238 #[.pointer (some ⟨gp,0,none⟩)] w fun e w'=>e=.returned (.int .i64 co)∧Sep r [] (JN gj t v log n::.blk gp 331 (rpC gj ro co vo nx)::F) w':=by
 refine Z.enter Tryz.func238 Tryz.ntmps238 rfl rfl ?_;refine sQ ?_;intro w hS;refine Dnt Tryz.results238 ?_;exact ⟨rfl,hS⟩
theorem yby:Calls Tryz.prog 227 #[.pointer (some ⟨gp,0,none⟩)] w fun e w'=>e=.returned (.int .i64 t)∧Sep r [] (JN gj t v log n::.blk gp 331 (rpC gj ro co vo nx)::F) w':=by
 refine Z.enter Tryz.func227 Tryz.ntmps227 rfl rfl ?_;refine sQ ?_;intro w hS;refine rQ (yd8 gj n t v log _ _ _ hS) ?_;intro w hS;refine Dnt Tryz.results227 ?_;exact ⟨rfl,hS⟩
theorem ydw:Calls Tryz.prog 298 #[.pointer (some ⟨gp,0,none⟩)] w fun e w'=>e=.returned (.int .i64 (log.length:Nat))∧Sep r [] (JN gj t v log n::.blk gp 331 (rpC gj ro co vo nx)::F) w':=by
 refine Z.enter Tryz.func298 Tryz.ntmps298 rfl rfl ?_;refine sQ ?_;intro w hS;refine rQ (yfw gj n t v log _ _ _ hS) ?_;intro w hS;refine Dnt Tryz.results298 ?_;exact ⟨rfl,hS⟩
theorem ydM (t':Int) (ht:t < t'∧1≤t'∧t'≤1073741824) (hn:n≤1000000000) :
  Calls Tryz.prog 293 #[.pointer (some ⟨gp,0,none⟩),.int .i64 t',.int .i64 0] w fun e w'=>e=.returned (.tuple #[])∧Sep r [] (JN gj t' 0 log (n+48)::.blk gp 331 (rpC gj ro co vo nx)::F) w':=by
 refine Z.enter Tryz.func293 Tryz.ntmps293 rfl rfl ?_;refine sQ ?_;intro w hS;refine cQ (yd7 gj n t v log t' 0 _ _ _ hS (by unfold stE;rw [if_neg oM,if_neg oM]) hn) rfl ?_;clear hS;rintro e w ⟨rfl,hS⟩;refine eQ ?_;intro w hS;refine rQ (yaY gj (n+48) t' 0 log _ _ _ hS) ?_;intro w hS;refine Dn Tryz.results293 ?_;exact ⟨rfl,hS⟩
theorem yii:Calls Tryz.prog 294 #[.pointer (some ⟨gp,0,none⟩)] w fun e w'=>e=.returned (.tuple #[])∧Sep r [] (JN gj t v log n::.blk gp 331 (rpC gj 3 co vo log.length)::F) w':=by
 refine Z.enter Tryz.func294 Tryz.ntmps294 rfl rfl ?_;refine sQ ?_;intro w hS;replace hS:=hS.sub (L':=JN gj t v log n::.blk gp 331 (rpC gj 3 co vo nx)::F) SuF;refine Z.lpS [2,10,11,12,13,14,15,16,17,18,19,20,21,22,23,24,25] (fun m w z=>∃ (i:Nat) (nx':Int),z=[(10,.int .i64 i)]∧i≤1∧(i=1→nx'=log.length)∧m=1 - i∧Sep r [] (JN gj t v log n::.blk gp 331 (rpC gj 3 co vo nx')::F) w) _ [(10,.int .i64 (0:Nat))] TrF ⟨0,nx,rfl,oM,oM,rfl,hS⟩ ?_;clear hS;rintro m f0 w _ ⟨i,nx',rfl,hi,hnx,rfl,hS⟩
 by_cases hlt:i < 1
 ·obtain rfl:i=0:=by omega
  refine sQ ?_;intro w hS;refine D.startS hS 9 14 kR rfl ?_;replace hS:=hS.drew;refine Sh.dp 0 1 ?_;refine Sh.dp 1 3 ?_;refine Sh.dp 2 7 ?_;refine Sh.dp 3 15 ?_;refine Sh.dp 4 31 ?_;refine Sh.dp 6 95 ?_;refine Sh.dp 7 223 ?_;refine Sh.dp 10 1247 ?_;refine Sh.dp 11 3295 ?_;refine D.ef 5 3327 ?_;refine dQ (ydw gp gj n t v log 3 co vo nx' _ _ _ hS) ?_;intro w hS
  first|refine D.ixn 8 3583 rfl D.wantedN kR rfl rfl rfl oM ?_|refine D.ix 8 3583 rfl D.wantedN kR rfl rfl rfl oM ?_|refine D.ia 8 3583 rfl D.wantedN kR rfl rfl rfl oM ?_
  refine D.ef 9 4095 ?_;refine Z.st hS rfl AtF rfl rfl ?_;clear hS;intro w hS;refine HMl ?_
  first|refine D.ixn 12 8191 rfl D.wantedN kR rfl rfl rfl oM ?_|refine D.ix 12 8191 rfl D.wantedN kR rfl rfl rfl oM ?_|refine D.ia 12 8191 rfl D.wantedN kR rfl rfl rfl oM ?_
  refine D.ef 13 16383 ?_;refine Z.st hS rfl AtF rfl rfl ?_;clear hS;intro w hS;refine HMl ?_;refine D.dn ?_;refine sQ ?_;intro w hS;refine Sh.again (0) [(10,.int .i64 (1:Nat))] ?_;exact ⟨1,log.length,rfl,oM,fun _=>rfl,rfl,hS.sb⟩
 ·obtain rfl:=hnx oM;refine sQ ?_;intro w hS;refine Dn Tryz.results294 ?_;exact ⟨rfl,hS⟩
theorem yfX (fv:Value):Calls Tryz.prog 295 #[.pointer (some ⟨gp,0,none⟩),fv] w fun e w'=>e=.returned (.slice none 0 0)∧Sep r [] (JN gj t v log n::.blk gp 331 (rpC gj ro co vo nx)::F) w':=by
 refine Z.enter Tryz.func295 Tryz.ntmps295 rfl rfl ?_;refine sQ ?_;intro w hS;refine Z.lpS [5,6,11,12,13,14,15,16,17,18,19,20,21,22,23,24,25,26] (fun m w z=>∃ (i:Nat),z=[(5,.slice none 0 0),(11,.int .i64 i)]∧i≤1∧m=1 - i∧Sep r [] (JN gj t v log n::.blk gp 331 (rpC gj ro co vo nx)::F) w) _ [(5,.slice none 0 0),(11,.int .i64 (0:Nat))] TrF ⟨0,rfl,oM,rfl,hS⟩ ?_;clear hS;rintro m f0 w _ ⟨i,rfl,hi,rfl,hS⟩
 by_cases hlt:i < 1
 ·obtain rfl:i=0:=by omega
  refine sQ ?_;intro w hS;refine Sh.again (0) [(5,.slice none 0 0),(11,.int .i64 (1:Nat))] ?_;exact ⟨1,rfl,oM,rfl,hS⟩
 ·refine sQ ?_;intro w hS;refine Dnt Tryz.results295 ?_;exact ⟨rfl,hS⟩
theorem yeU (hc:co < log.length) (hl:log.length≤5000) (ht:(lgAt log (log.length - 1)).term=t):Calls Tryz.prog 302 #[.pointer (some ⟨gp,0,none⟩)] w fun e w'=>e=.returned (.tuple #[])∧Sep r [] (JN gj t v log n::.blk gp 331 (rpC gj ro log.length vo nx)::F) w':=by
 refine Z.enter Tryz.func302 Tryz.ntmps302 rfl rfl ?_;refine sQ ?_;intro w hS;refine rQ (ydw gp gj n t v log ro co vo nx _ _ _ hS) ?_;intro w hS;refine Z.lpS [2,3,4,7,8,9,10,11,12,13,14,15,16,17,18,19,20,21,22,23,24,25,26,27,28,29,30,31,32,33,34,35,36,37,38,39,40,41,42,43,44,45,46,47,48,49,50,51,52,53,54,55,56,57,58,59,60,61] (fun m w z=>z=[(2,.int .i64 (log.length:Nat))]∧Sep r [] (JN gj t v log n::.blk gp 331 (rpC gj ro co vo nx)::F) w) 0 [(2,.int .i64 (log.length:Nat))] TrF ⟨rfl,hS⟩ ?_;clear hS;rintro m f0 w _ ⟨rfl,hS⟩;refine sQ ?_;intro w hS;refine rQ (yaN gj n t v log (log.length - 1) _ _ _ hS) ?_;intro w hS;refine cQ (yby gp gj n t v log ro co vo nx _ _ _ hS) rfl ?_;clear hS;rintro e w ⟨rfl,hS⟩;refine ⟨_,rfl,?_⟩;rw [ht];refine sQ ?_;intro w hS;refine Z.lpS [3,4,29,30,31,32,33,34,35,36,37,38,39,40,41,42,43,44,45,46,47,48,49,50] (fun m w z=>∃ (i:Nat),z=[(3,.int .i64 1),(29,.int .i64 i)]∧i≤1∧m=1 - i∧Sep r [] (JN gj t v log n::.blk gp 331 (rpC gj ro co vo nx)::F) w) _ [(3,.int .i64 1),(29,.int .i64 (0:Nat))] TrF ⟨0,rfl,oM,rfl,hS⟩ ?_;clear hS;rintro m f1 w _ ⟨i,rfl,hi,rfl,hS⟩
 by_cases hlt:i < 1
 ·obtain rfl:i=0:=by omega
  refine sQ ?_;intro w hS;refine Sh.again (0) [(3,.int .i64 1),(29,.int .i64 (1:Nat))] ?_;exact ⟨1,rfl,oM,rfl,hS⟩
 ·refine sQ ?_;intro w hS;refine Dn Tryz.results302 ?_;exact ⟨rfl,hS.sb⟩
theorem ydI (ht:0≤t∧t < 1073741824) (hn:n≤1000000000) :
  Calls Tryz.prog 230 #[.pointer (some ⟨gp,0,none⟩)] w fun e w'=>e=.returned (.slice none 0 0)∧Sep r [] (JN gj (t+1) 0 log (n+48)::.blk gp 331 (rpC gj 3 co 1 log.length)::F) w':=by
 refine Z.enter Tryz.func230 Tryz.ntmps230 rfl rfl ?_;refine aQ1 ?_;intro gb w hS;replace hS:=hS.sub (L':=JN gj t v log n::.blk gp 331 (rpC gj ro co vo nx)::.blk gb 249 [.pointer (some ⟨gp,0,none⟩)]::F) SuF;refine rQ (yby gp gj n t v log ro co vo nx _ _ _ hS) ?_;intro w hS;refine D.startS (Lr:=[.blk gb 249 [.pointer (some ⟨gp,0,none⟩)],.blk gp 331 (rpC gj ro co vo nx)]) (hS.sb) 9 9 kR rfl ?_;replace hS:=hS.drew;refine Sh.dl 0 1 ?_;refine Sh.dl 1 3 ?_;refine Sh.dl 4 19 ?_;refine Sh.dp 5 51 ?_;refine Sh.dp 6 115 ?_;refine Sh.dl 7 243 ?_;refine D.ef 2 247 ?_;refine dQ (yby gp gj n t v log ro co vo nx _ _ _ ((hS.fo (R:=.blk gp 331 (rpC gj ro co vo nx))).fo (R:=JN gj t v log n))) ?_;intro w hS
 first|refine D.sum 3 255 rfl D.wantedN kR rfl (by constructor<;>omega) ?_|refine D.sumW 3 255 rfl D.wantedN kR rfl ?_
 refine D.ef 8 511 ?_;refine Z.cl (ydM gp gj n t v log ro co vo nx _ _ _ ((hS.fo (R:=.blk gp 331 (rpC gj ro co vo nx))).fo (R:=JN gj t v log n)) (t+1) oM hn) rfl ?_;clear hS;rintro e w ⟨rfl,hS⟩;refine ⟨_,rfl,?_⟩;refine HMs ?_;refine D.dn ?_;refine sQ ?_;intro w hS;refine D.startS (Lr:=[.blk gb 249 [.pointer (some ⟨gp,0,none⟩)]]) (hS.sb) 13 14 kR rfl ?_;replace hS:=hS.drew;refine Sh.dl 0 1 ?_;refine Sh.dl 1 3 ?_;refine Sh.dl 2 7 ?_;refine Sh.dp 3 15 ?_;refine Sh.dp 4 31 ?_;refine D.ef 5 63 ?_;refine Z.ld hS rfl AtF rfl ?_;refine HMs ?_;refine D.pl 6 127 rfl D.wantedN kR (R.icv rfl) ?_;refine D.pl 7 255 rfl D.wantedN kR (R.ish (v:=.int .i64 1) rfl rfl rfl (by decide)) ?_;refine Sh.dp 8 511 ?_;refine Sh.dp 9 1023 ?_;refine D.ef 10 2047 ?_;refine Z.st hS rfl AtF rfl rfl ?_;clear hS;intro w hS;refine HMs ?_;refine Sh.dp 11 4095 ?_;refine Sh.dp 12 8191 ?_;refine D.ef 13 16383 ?_;refine Z.st hS rfl AtF rfl rfl ?_;clear hS;intro w hS;refine HMl ?_;refine D.dn ?_;refine sQ ?_;intro w hS;refine rQ (yii gp gj (n+48) (t+1) 0 log 2 co 1 nx _ _ _ (hS.sub (L':=JN gj (t+1) 0 log (n+48)::.blk gp 331 (rpC gj 2 co 1 nx)::.blk gb 249 [.pointer (some ⟨gp,0,none⟩)]::F) SuF)) ?_;intro w hS;refine Dnt Tryz.results230 ?_;exact ⟨rfl,hS.sb⟩
theorem yeY (e:En) (he:e.i64) (h3:ro=3) (h1:1≤t∧t≤1073741824) (h2:shapeP e=true) (h4:(lgAt log (log.length - 1)).term≤t) (h5:log.length < 4096) (hc:co≤log.length) (hn:n≤1000000000) :
  Calls Tryz.prog 231 #[.pointer (some ⟨gp,0,none⟩),e.val] w fun x w'=>x=.returned (.tuple #[.slice none 0 0,.int .i64 0])∧Sep r [] (JN gj t v (log++[⟨t,e⟩]) (n+128)::.blk gp 331 (rpC gj 3 (log.length+1) vo nx)::F) w':=by
 subst h3;have hl2:((log++[(⟨t,e⟩:Lg)]).length:Int)=log.length+1:=by simp
 refine Z.enter Tryz.func231 Tryz.ntmps231 rfl rfl ?_;refine aQ1 ?_;intro gb w hS;replace hS:=hS.sub (L':=JN gj t v log n::.blk gp 331 (rpC gj 3 co vo nx)::.blk gb 63 e.cells::F) SuF;refine D.startS (Lr:=[.blk gp 331 (rpC gj 3 co vo nx),.blk gb 63 e.cells]) (hS.sb) 9 9 kR rfl ?_;replace hS:=hS.drew;refine Sh.dp 0 1 ?_;refine Sh.dp 1 3 ?_;refine Sh.dp 2 7 ?_;refine Sh.dp 4 23 ?_;refine Sh.dl 3 31 ?_;refine Sh.dl 6 95 ?_;refine D.ef 5 127 ?_;refine dQ (yby gp gj n t v log 3 co vo nx _ _ _ ((hS.fo (R:=.blk gp 331 (rpC gj 3 co vo nx))).fo (R:=JN gj t v log n))) ?_;intro w hS;refine D.ef 7 255 ?_;refine dQ (ybm gj n t v log t e he _ _ _ (hS.fo (R:=JN gj t v log n)) h1 h2 (Int.le_refl _) h4 h5 hn) ?_;intro w hS;refine Sh.dp 8 511 ?_;refine D.dn ?_;refine sQ ?_;intro w hS;refine rQ (yaY gj (n+128) t v (log++[⟨t,e⟩]) _ _ _ hS) ?_;intro w hS;refine cQ (yeU gp gj (n+128) t v (log++[⟨t,e⟩]) 3 co vo nx _ _ _ ((hS.fo (R:=.blk gp 331 (rpC gj 3 co vo nx))).fo (R:=JN gj t v (log++[⟨t,e⟩]) (n+128))) (by rw [hl2];omega) (by simp;omega) (by rw [ycD])) rfl ?_;clear hS;rintro e w ⟨rfl,hS⟩;refine ⟨_,rfl,?_⟩;rw [hl2] at hS;refine sQ ?_;intro w hS;refine Z.pl R.mfb ?_;refine sQ ?_;intro w hS;refine rQ (yfX gp gj (n+128) t v (log++[⟨t,e⟩]) 3 (log.length+1) vo nx _ _ _ hS _) ?_;intro w hS;refine Dntt Tryz.results231 ?_;exact ⟨rfl,hS.sb⟩
theorem yjh (i:Int):Calls Tryz.prog 407 #[.pointer (some ⟨gp,0,none⟩),.int .i64 i] w fun e w'=>e=.returned (.tuple #[(lgAt log i).val,.bool (decide (0≤i∧i < log.length))])∧Sep r [] (JN gj t v log n::.blk gp 331 (rpC gj ro co vo nx)::F) w':=by
 refine Z.enter Tryz.func407 Tryz.ntmps407 rfl rfl ?_;refine aQ1 ?_;intro g w hS;refine rQ (yeG gj n t v log i _ _ _ (hS.fo (R:=JN gj t v log n))) ?_;intro w hS;refine Dct Tryz.results407 ?_;exact ⟨rfl,hS.sb⟩
theorem yig (k:Nat) (hk:k≤log.length) (hl:log.length≤5000):Calls Tryz.prog 367 #[.pointer (some ⟨gp,0,none⟩),.int .i64 (k:Nat)] w fun e w'=>∃ A c,e=.returned (.slice A (log.drop k).length c)∧Sep r [] (.sl 345 10 (.slice A (log.drop k).length c) ((log.drop k).map Lg.cells)::(JN gj t v log n::.blk gp 331 (rpC gj ro co vo nx)::F)) w':=by
 refine Z.enter Tryz.func367 Tryz.ntmps367 rfl rfl ?_;refine sQ ?_;intro w hS;replace hS:=Z.nilsl hS 345 10 none;refine Z.lpS [1,5,6,7,8,9,10,11,12,13,14,15,16,17,18,19,20,21,22,23] (fun m w z=>∃ (i:Nat) (o:List Lg) (A:Option Addr) (c:Nat),z=[(1,.int .i64 i),(5,.slice A o.length c)]∧k≤i∧i≤log.length∧o=(log.take i).drop k∧m=log.length - i∧Sep r [] (.sl 345 10 (.slice A o.length c) (o.map Lg.cells)::(JN gj t v log n::.blk gp 331 (rpC gj ro co vo nx)::F)) w) _ [(1,.int .i64 (k:Nat)),(5,.slice none 0 0)] TrF ⟨k,[],none,0,rfl,oM,hk,(List.drop_eq_nil_of_le (by rw [List.length_take];omega)).symm,rfl,hS⟩ ?_;clear hS;rintro m f0 w _ ⟨i,o,A,c,rfl,hki,hi,ho,rfl,hS⟩;have hol:o.length=i - k:=by rw [ho,List.length_drop,List.length_take];omega
 refine sQ ?_;intro w hS;refine cQ (ydw gp gj n t v log ro co vo nx _ _ _ ((hS.fo (R:=.blk gp 331 (rpC gj ro co vo nx))).fo (R:=JN gj t v log n))) rfl ?_;clear hS;rintro e w ⟨rfl,hS⟩;refine ⟨_,rfl,?_⟩
 by_cases hlt:i < log.length
 ·have e0:lgAt log (i:Int)=log[i]:=by unfold lgAt;rw [if_pos oM];simp [List.getD_eq_getElem?_getD,hlt]
  refine sQ ?_;intro w hS;refine cQ (yjh gp gj n t v log ro co vo nx _ _ _ hS i) rfl ?_;clear hS;rintro e w ⟨rfl,hS⟩;refine ⟨_,rfl,?_⟩;rw [e0]
  repeat' first|refine K ?_|refine Sa ?_;intro w hS|refine K3 ?_;intro g w hS hge|refine KC ?_ ?_<;>intro hb<;>try exact JX|fail
  refine Z.eff (Z.apm (fc:=Lg.cells) (l:=o) (l':=[log[i]]) hS rfl rfl rfl AtF (hS.lit1 AtF rfl rfl) LnF LnF ?_) rfl;clear hS;intro A2 c2 w hS;rw [← List.length_append] at hS ⊢;refine sQ ?_;intro w hS;refine Sh.again (log.length - (i+1)) [(1,.int .i64 (i+1:Nat)),(5,_)] ?_;refine ⟨i+1,o++[log[i]],A2,c2,rfl,oM,oM,?_,rfl,hS.sb⟩;rw [List.take_succ_eq_append_getElem hlt,List.drop_append_of_le_length (by rw [List.length_take];omega),← ho]
 ·have hil:i=log.length:=by omega
  subst hil;rw [List.take_length] at ho;subst ho;refine sQ ?_;intro w hS;refine Dnt Tryz.results367 ?_;exact ⟨A,c,rfl,hS.sb⟩
theorem yfW (hl:log.length≤5000):Calls Tryz.prog 310 #[.pointer (some ⟨gp,0,none⟩)] w fun e w'=>∃ A c,e=.returned (.slice A log.length c)∧Sep r [] (.sl 345 10 (.slice A log.length c) (log.map Lg.cells)::(JN gj t v log n::.blk gp 331 (rpC gj ro co vo nx)::F)) w':=by
 refine Z.enter Tryz.func310 Tryz.ntmps310 rfl rfl ?_;refine sQ ?_;intro w hS;refine cQ (yig gp gj n t v log ro co vo nx _ _ _ hS 0 (Nat.zero_le _) hl) rfl ?_;clear hS;rintro e w ⟨A,c,rfl,hS⟩;refine ⟨_,rfl,?_⟩;rw [List.drop_zero] at hS ⊢;refine sQ ?_;intro w hS;refine Dnt Tryz.results310 ?_;exact ⟨A,c,rfl,hS⟩
end
def ptC (g:Nat):List Value:=[.pointer (some ⟨g,0,none⟩)]
theorem yiV (r:World) (F:List Res) (w:World) (hS:Sep r [] F w) :
  Calls Tryz.prog 61 #[.int .i64 1] w fun e w'=>∃ (gq gp gj:Nat) (A:Option Addr) (c:Nat),e=.returned (.tuple #[.pointer (some ⟨gq,0,none⟩),.int .i64 0])∧Sep r [] (.blk gq 248 [.slice A 1 c,(.slice none 0 0),(.slice none 0 0)]::.sl 249 1 (.slice A 1 c) ([gp].map ptC)::JN gj 0 (-1) [] 0::.blk gp 331 (rpC gj 1 0 0 0)::F) w':=by
 refine Z.enter Tryz.func61 Tryz.ntmps61 rfl rfl ?_;refine aQ1 ?_;intro gq w hS;replace hS:=Z.nilsl hS 249 1 none;refine Z.lpS [2,3,5,6,7,10,11,12,13,14,15,16,17,18,19,20,21,22,23,24,25,26,27,28,29,30,31,32,33,34,35,36,37] (fun m w z=>∃ (i:Nat),z=[(5,.int .i64 i)]∧i≤1∧m=1 - i∧((i=0∧Sep r [] (.blk gq 248 [(.slice none 0 0),(.slice none 0 0),(.slice none 0 0)]::.sl 249 1 (.slice none 0 0) ([].map ptC)::F) w)∨(i=1∧∃ (gp gj:Nat) (A:Option Addr) (c:Nat),Sep r [] (.blk gq 248 [.slice A 1 c,(.slice none 0 0),(.slice none 0 0)]::.sl 249 1 (.slice A 1 c) ([gp].map ptC)::JN gj 0 (-1) [] 0::.blk gp 331 (rpC gj 1 0 0 0)::F) w))) _ [(5,.int .i64 (0:Nat))] TrF ⟨0,rfl,oM,rfl,.inl ⟨rfl,hS.sb⟩⟩ ?_;clear hS;rintro m f0 w _ ⟨i,rfl,hi,rfl,⟨rfl,hS⟩|⟨rfl,gp,gj,A,c,hS⟩⟩
 ·refine sQ ?_;intro w hS;refine cQ (yiX _ _ _ hS) rfl ?_;clear hS;rintro e w ⟨gp,gj,rfl,hS⟩;refine ⟨_,rfl,?_⟩
  repeat' first|refine K ?_|refine Sa ?_;clear hS;intro w hS|refine K3 ?_;clear hS;intro g w hS hge|refine KC ?_ ?_<;>intro hb<;>try exact JX|fail
  refine Z.eff (Z.apm (fc:=ptC) (l:=[]) (l':=[gp]) hS rfl rfl rfl AtF (hS.lit1 AtF rfl rfl) LnF LnF ?_) rfl;clear hS;intro A3 c3 w hS;refine sQ ?_;intro w hS;refine Sh.again (0) [(5,.int .i64 (1:Nat))] ?_;exact ⟨1,rfl,oM,rfl,.inr ⟨rfl,gp,gj,A3,c3,hS.sb⟩⟩
 ·refine sQ ?_;intro w hS;refine Dntt Tryz.results61 ?_;exact ⟨gq,gp,gj,A,c,rfl,hS.sb⟩
def acC (k a:Int) (e:En):List Value:=[.int .i64 k,.int .i64 a,.int .i64 0]++e.cells
section
variable (gq gp:Nat) (A Ad:Option Addr) (c dl dc:Nat) (r:World) (F:List Res) (w:World) (hS:Sep r [] (.blk gq 248 [.slice A 1 c,(.slice none 0 0),.slice Ad dl dc]::.sl 249 1 (.slice A 1 c) ([gp].map ptC)::F) w)
include hS
theorem yb6 (i:Int):Calls Tryz.prog 237 #[.pointer (some ⟨gq,0,none⟩),.int .i64 i] w fun e w'=>e=.returned (.bool (decide (i=0)))∧Sep r [] (.blk gq 248 [.slice A 1 c,(.slice none 0 0),.slice Ad dl dc]::.sl 249 1 (.slice A 1 c) ([gp].map ptC)::F) w':=by
 by_cases h:i=0
 ·subst h;refine Z.enter Tryz.func237 Tryz.ntmps237 rfl rfl ?_;refine sQ ?_;intro w hS;refine Dnt Tryz.results237 ?_;exact ⟨rfl,hS⟩
 ·rw [decide_eq_false h];refine Z.enter Tryz.func237 Tryz.ntmps237 rfl rfl ?_
  repeat' first|refine K ?_|refine Sa ?_;intro w hS|refine K3 ?_;intro g w hS hge|refine KC ?_ ?_<;>intro hb<;>try exact JX|fail
  all_goals
   refine Dnt Tryz.results237 ?_;exact ⟨by simp [Z.packR, *];try omega,hS⟩
theorem yep:Calls Tryz.prog 229 #[.pointer (some ⟨gq,0,none⟩),(.slice none 0 0)] w fun e w'=>e=.returned (.tuple #[])∧Sep r [] (.blk gq 248 [.slice A 1 c,(.slice none 0 0),.slice Ad dl dc]::.sl 249 1 (.slice A 1 c) ([gp].map ptC)::F) w':=by
 refine Z.enter Tryz.func229 Tryz.ntmps229 rfl rfl ?_;refine sQ ?_;intro w hS;refine Z.lpS [5,8,9,10,11,12,13,14,15,16,17,18,19,20,21,22,23,24,25,26,27,28,29,30,31,32,33,34,35,36] (fun m w z=>z=[(8,.int .i64 (0:Nat))]∧Sep r [] (.blk gq 248 [.slice A 1 c,(.slice none 0 0),.slice Ad dl dc]::.sl 249 1 (.slice A 1 c) ([gp].map ptC)::F) w) 0 [(8,.int .i64 (0:Nat))] TrF ⟨rfl,hS⟩ ?_;clear hS;rintro m f0 w _ ⟨rfl,hS⟩;refine sQ ?_;intro w hS;refine Dn Tryz.results229 ?_;exact ⟨rfl,hS⟩
theorem yeo (k:Int) (e:En) (hk:k=1∨k=2):Calls Tryz.prog 228 #[.pointer (some ⟨gq,0,none⟩),.agg (acC k 0 e).toArray] w fun x w'=>x=.returned (.bool true)∧Sep r [] (.blk gq 248 [.slice A 1 c,(.slice none 0 0),.slice Ad dl dc]::.sl 249 1 (.slice A 1 c) ([gp].map ptC)::F) w':=by
 rcases hk with rfl|rfl
 ·refine Z.enter Tryz.func228 Tryz.ntmps228 rfl rfl ?_;refine aQ1 ?_;intro g w hS;refine rQ (yb6 gq gp A Ad c dl dc _ _ _ ((hS.fo (R:=.sl 249 1 (.slice A 1 c) ([gp].map ptC))).fo (R:=.blk gq 248 [.slice A 1 c,(.slice none 0 0),.slice Ad dl dc])) 0) ?_;intro w hS;refine Dnt Tryz.results228 ?_;exact ⟨rfl,hS.sb⟩
 ·refine Z.enter Tryz.func228 Tryz.ntmps228 rfl rfl ?_;refine aQ1 ?_;intro g w hS;refine rQ (yb6 gq gp A Ad c dl dc _ _ _ ((hS.fo (R:=.sl 249 1 (.slice A 1 c) ([gp].map ptC))).fo (R:=.blk gq 248 [.slice A 1 c,(.slice none 0 0),.slice Ad dl dc])) 0) ?_;intro w hS;refine Dnt Tryz.results228 ?_;exact ⟨rfl,hS.sb⟩
end
theorem yfV (gq gp gj n:Nat) (t v:Int) (log:List Lg) (ro co vo nx:Int) (A Ad:Option Addr) (c dl dc:Nat) (r:World) (F:List Res) (w:World) (hS:Sep r [] (.blk gq 248 [.slice A 1 c,(.slice none 0 0),.slice Ad dl dc]::.sl 249 1 (.slice A 1 c) ([gp].map ptC)::JN gj t v log n::.blk gp 331 (rpC gj ro co vo nx)::F) w) :
  Calls Tryz.prog 148 #[.pointer (some ⟨gq,0,none⟩)] w fun e w'=>e=.returned (.int .i64 (if ro=3 then 0 else -1))∧Sep r [] (.blk gq 248 [.slice A 1 c,(.slice none 0 0),.slice Ad dl dc]::.sl 249 1 (.slice A 1 c) ([gp].map ptC)::JN gj t v log n::.blk gp 331 (rpC gj ro co vo nx)::F) w':=by
 refine Z.enter Tryz.func148 Tryz.ntmps148 rfl rfl ?_;refine sQ ?_;intro w hS;refine Z.lpS [3,4,5,11,12,13,14,15,16,17,18,19,20,21,22,23,24,25,26,27,28,29,30,31,32,33,34,35,36,37] (fun m w z=>∃ (i:Nat),z=[(3,.int .i64 (if i=1∧ro=3 then 0 else -1)),(11,.int .i64 i)]∧i≤1∧m=1 - i∧Sep r [] (.blk gq 248 [.slice A 1 c,(.slice none 0 0),.slice Ad dl dc]::.sl 249 1 (.slice A 1 c) ([gp].map ptC)::JN gj t v log n::.blk gp 331 (rpC gj ro co vo nx)::F) w) _ [(3,.int .i64 (-1)),(11,.int .i64 (0:Nat))] TrF ⟨0,by simp,oM,rfl,hS⟩ ?_;clear hS;rintro m f0 w _ ⟨i,rfl,hi,rfl,hS⟩
 by_cases hlt:i < 1
 ·obtain rfl:i=0:=by omega
  rw [if_neg (show ¬ ((0:Nat)=1∧ro=3) from fun h=>absurd h.1 (by decide))];obtain ⟨ga,oa,hAe,_,hra⟩:=(hS.slrows (e:=249) (v:=.slice A 1 c) AtF).mat (by simp) (q:=0) (by simp);subst hAe;have hra2:w.rangeAt ga (oa+0 * 1) (ptC gp):=by simpa using hra
  clear hra;refine sQ ?_;intro w hS
  by_cases h3:ro=3
  ·subst h3;refine D.startS (Lr:=[.blk gq 248 [.slice (some ⟨ga,oa,none⟩) 1 c,(.slice none 0 0),.slice Ad dl dc]]) (hS.sb) 20 20 kR rfl ?_;replace hS:=hS.drew;refine Sh.dp 0 1 ?_;refine D.ef 1 3 ?_;refine dQ (yeq gp gj n t v log 3 co vo nx _ _ _ ((hS.fo (R:=.blk gp 331 (rpC gj 3 co vo nx))).fo (R:=JN gj t v log n))) ?_;intro w hS
   first|refine D.pr 2 7 rfl D.wantedN kR rfl ?_|refine D.pl 2 7 rfl D.wantedN kR (R.eqa rfl rfl rfl rfl) ?_
   refine Sh.dp 3 15 ?_;refine D.slot 19 rfl (fun hb=>?_) NoF
   (try simp only [JJ] at hb)
   refine Sh.dp 4 31 ?_;refine Sh.dp 5 63 ?_;refine Sh.dp 6 127 ?_;refine D.slot 22 rfl (fun hb=>?_) NoF
   (try simp only [JJ] at hb)
   refine D.sk 7 255 ?_;refine D.sk 8 511 ?_;refine D.sk 9 1023 ?_;refine D.sk 10 2047 ?_;refine D.sk 11 4095 ?_;refine D.sk 12 8191 ?_;refine D.sk 13 16383 ?_;refine D.sk 14 32767 ?_;refine D.sk 15 65535 ?_;refine D.sk 16 131071 ?_;refine D.sk 17 262143 ?_;refine Sh.dp 18 524287 ?_;refine Sh.dp 19 1048575 ?_;refine D.dn ?_;refine sQ ?_;intro w hS;refine Sh.again (0) [(3,.int .i64 0),(11,.int .i64 (1:Nat))] ?_;exact ⟨1,by simp,oM,rfl,hS.sb⟩
  ·refine D.startS (Lr:=[.blk gq 248 [.slice (some ⟨ga,oa,none⟩) 1 c,(.slice none 0 0),.slice Ad dl dc]]) (hS.sb) 20 20 kR rfl ?_;replace hS:=hS.drew;refine Sh.dp 0 1 ?_;refine D.ef 1 3 ?_;refine dQ (yeq gp gj n t v log ro co vo nx _ _ _ ((hS.fo (R:=.blk gp 331 (rpC gj ro co vo nx))).fo (R:=JN gj t v log n))) ?_;intro w hS
   first|refine D.pr 2 7 rfl D.wantedN kR rfl ?_|refine D.pl 2 7 rfl D.wantedN kR (R.eqa rfl rfl rfl rfl) ?_
   refine Sh.dp 3 15 ?_;refine D.slot 19 rfl NoF (fun hb=>?_)
   (try simp only [JJ] at hb)
   refine D.sk 4 31 ?_;refine D.sk 5 63 ?_;refine D.sk 6 127 ?_;refine D.skU 7 255 rfl kR rfl rfl ?_;refine D.skU 8 511 rfl kR rfl rfl ?_;refine D.skU 9 1023 rfl kR rfl rfl ?_;refine D.skU 10 2047 rfl kR rfl rfl ?_;refine D.skU 11 4095 rfl kR rfl rfl ?_;refine D.skU 12 8191 rfl kR rfl rfl ?_;refine D.skU 13 16383 rfl kR rfl rfl ?_;refine D.skU 14 32767 rfl kR rfl rfl ?_;refine D.skU 15 65535 rfl kR rfl rfl ?_;refine D.skU 16 131071 rfl kR rfl rfl ?_;refine D.skU 17 262143 rfl kR rfl rfl ?_;refine D.sk 18 524287 ?_;refine Sh.dp 19 1048575 ?_;refine D.dn ?_;refine sQ ?_;intro w hS;refine Sh.again (0) [(3,.int .i64 (-1)),(11,.int .i64 (1:Nat))] ?_;exact ⟨1,by simp [h3],oM,rfl,hS.sb⟩
 ·obtain rfl:i=1:=by omega
  refine sQ ?_;intro w hS;refine Dnt Tryz.results148 ?_;exact ⟨by by_cases h:ro=3<;>simp [h,Z.packR],hS⟩
theorem yfU (gq gp gj n:Nat) (t v:Int) (log:List Lg) (ro co vo nx:Int) (A Ad:Option Addr) (c dl dc:Nat) (r:World) (F:List Res) (w:World) (hS:Sep r [] (.blk gq 248 [.slice A 1 c,(.slice none 0 0),.slice Ad dl dc]::.sl 249 1 (.slice A 1 c) ([gp].map ptC)::JN gj t v log n::.blk gp 331 (rpC gj ro co vo nx)::F) w) :
  Calls Tryz.prog 152 #[.pointer (some ⟨gq,0,none⟩),.int .i64 0] w fun e w'=>e=.returned (.int .i64 co)∧Sep r [] (.blk gq 248 [.slice A 1 c,(.slice none 0 0),.slice Ad dl dc]::.sl 249 1 (.slice A 1 c) ([gp].map ptC)::JN gj t v log n::.blk gp 331 (rpC gj ro co vo nx)::F) w':=by
 refine Z.enter Tryz.func152 Tryz.ntmps152 rfl rfl ?_;refine sQ ?_;intro w hS;refine cQ (yb6 gq gp A Ad c dl dc _ _ _ hS 0) rfl ?_;clear hS;rintro e w ⟨rfl,hS⟩;refine ⟨_,rfl,?_⟩;obtain ⟨ga,oa,hAe,_,hra⟩:=(hS.slrows (e:=249) (v:=.slice A 1 c) AtF).mat (by simp) (q:=0) (by simp);subst hAe;have hra2:w.rangeAt ga (oa+0 * 1) (ptC gp):=by simpa using hra
 clear hra;refine sQ ?_;intro w hS;refine rQ (yaT gp gj n t v log ro co vo nx _ _ _ ((hS.fo (R:=.blk gp 331 (rpC gj ro co vo nx))).fo (R:=JN gj t v log n))) ?_;intro w hS;refine Dnt Tryz.results152 ?_;exact ⟨rfl,hS.sb⟩
end Go.Proofs.YtfmnjbhncnldmaaGreat
