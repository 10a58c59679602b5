import Derived.Test.YtfmnjbhncnldmaaGreatW30
import Derived.Test.YtfmnjbhncnldmaaGreatW32
import Derived.Test.YtfmnjbhncnldmaaGreatW33
import Derived.Test.YtfmnjbhncnldmaaGreatW39
set_option maxHeartbeats 16000000
set_option linter.unusedSimpArgs false
set_option linter.unusedVariables false
namespace Go.Proofs.YtfmnjbhncnldmaaGreat
open Go.RowKit
attribute [local irreducible] Res.blk Res.sl Res.all Res.ex Res.pure Res.star
theorem Ph1.mono {x0 x1 x2:Rp} {L:List Lg} {N N':Nat} (h:Ph1 x0 x1 x2 L N) (hN:N≤N'):Ph1 x0 x1 x2 L N':=
 { h with n0:=Nat.le_trans h.n0 hN,n1:=Nat.le_trans h.n1 hN,n2:=Nat.le_trans h.n2 hN }
section
variable (gp gq:Nat) (c:Cfg) (a:CAd) (s:Sta) (b:SAd) (r:World) (F:List Res) (w:World)
theorem ydF (e:En) (st:Bool) (L:List Lg) (N:Nat) (hS:Sep r [] (.blk gp 179 (plC c a gq 7 s b)::Q3 gq st L N::F) w) (hn:c.replicas.length=3)
  (he:e.i64) (hsh:shapeP e=true) (hll:L.length < 3000) (hnb:N≤800000) (hcn:s.count=L.length) :
  Calls Tryz.prog 68 #[.pointer (some ⟨gp,0,none⟩),e.val] w fun x w'=>x=.returned (.bool true)∧Sep r [] (.blk gp 179 (plC c a gq 7 s b)::Q3 gq true (L++[⟨1,e⟩]) (N+328)::F) w':=by
 have hup:isUpB c 7 0=true:=by unfold isUpB;rw [hn];decide
 have hup2:isUpB c 7 (-1)=false:=by unfold isUpB;rw [hn];decide
 refine Z.enter Tryz.func68 Tryz.ntmps68 rfl rfl ?_
 repeat' first|refine K ?_|refine Sa ?_;clear hS;intro w hS|refine K3 ?_;clear hS;intro g w hS hge|refine KC ?_ ?_<;>intro hb<;>try exact JX|fail
 rename Nat=>ge;refine Z.lpS [4,5,6,7,8,9,10,11,12,13,14,15,16,17,18,19,20,21,22,23,24,25,26,27,28,29,30,31,32,33,34,35,36,37,38,39,40,41,42,43,44,45,46,47,48,49,50,51,52,53,54,55,56,57,58,59,60,61,62,63,64,65] (fun m w z=>∃ (i:Nat) (st:Bool) (N':Nat),z=[(6,.int .i64 i)]∧i≤1∧m=1 - i∧N'≤N+200 * i∧(i=1→st=true)∧Sep r [] (.blk ge 63 e.cells::.blk gp 179 (plC c a gq 7 s b)::Q3 gq st L N'::F) w) _ [(6,.int .i64 (0:Nat))] TrF ⟨0,st,N,rfl,oM,rfl,oM,fun h=>by omega,hS⟩ ?_;clear hS st;rintro m f0 w _ ⟨i,st,N',rfl,hi,rfl,hN',hst,hS⟩;refine sQ ?_;intro w hS;refine cQ (yjg gq st L N' _ _ _ (hS.fo (R:=Q3 gq st L N'))) rfl ?_;clear hS;rintro e w ⟨rfl,hS⟩;refine ⟨_,rfl,?_⟩
 cases st with
 | true=>
  rw [if_pos rfl];obtain ⟨⟨x0,x1,x2,com,A,cc,nA,nc,Ad,dc⟩,⟨hp,hcl⟩,hS⟩:=Sep.Q3_open.1 hS;simp only [Q3R,List.cons_append,List.nil_append] at hS hp hcl;replace hp:Ph1 x0 x1 x2 L N':=hp;refine sQ ?_;intro w hS;refine D.startS (Lr:=[.blk ge 63 e.cells,.blk gp 179 (plC c a gq 7 s b)]) (hS.sb) 14 14 kR rfl ?_;replace hS:=hS.drew;refine Sh.dp 0 1 ?_;refine Sh.dp 1 3 ?_;refine D.ef 2 7 ?_;replace hS:=hS.fo (R:=.blk gp 179 (plC c a gq 7 s b));refine Z.cl (yaG gp gq 7 c a s b _ _ _ hS 0 oM) rfl ?_;clear hS;rintro e w ⟨rfl,hS⟩;refine ⟨_,rfl,?_⟩;rw [hup];refine HMs ?_;refine Sh.dp 3 15 ?_;refine D.slot 16 rfl (fun hb=>?_) NoF
  (try simp only [JJ] at hb)
  refine Sh.dp 4 31 ?_;refine Sh.dp 5 63 ?_;refine Sh.dp 6 127 ?_;refine Sh.dp 8 383 ?_;refine Sh.dl 7 511 ?_;refine Sh.dl 9 1023 ?_
  first|refine D.bu 10 2047 rfl (D.wantedT rfl rfl) kR rfl rfl ?_|refine D.buA 10 2047 rfl (D.wantedT rfl rfl) kR rfl rfl ?_
  refine D.eff 11 4095 rfl (D.wantedT rfl rfl) kR kR (fun _ _ h=>h) ?_;refine WE.guard ?_;refine Z.cl (yh9 gq x0 x1 x2 [] com A nA Ad cc nc dc _ _ _ rfl (hS.sub (L':=.blk gq 248 [.slice A 3 cc,.slice nA ([]:List Ms).length nc,.slice Ad com.length dc]::.sl 249 1 (.slice A 3 cc) ([x0.gp,x1.gp,x2.gp].map ptC)::.sl 341 9 (.slice nA ([]:List Ms).length nc) (([]:List Ms).map Ms.cells)::.sl 63 9 (.slice Ad com.length dc) (com.map En.cells)::JN x0.gj x0.t x0.v x0.log x0.n::.blk x0.gp 331 x0.cells::JN x1.gj x1.t x1.v x1.log x1.n::.blk x1.gp 331 x1.cells::JN x2.gj x2.t x2.v x2.log x2.n::.blk x2.gp 331 x2.cells::.blk ge 63 e.cells::.blk gp 179 (plC c a gq 7 s b)::F) SuF) e he L N' hp hsh oM oM hcl) rfl ?_;clear hS;rintro e w ⟨com',Ad',dc',nA',nc',A1,c1,A2,c2,rfl,hcl',hS⟩;refine ⟨_,rfl,?_⟩;refine HMs ?_
  first|refine D.pr 12 8191 rfl (D.wantedT rfl rfl) kR rfl ?_|refine D.pl 12 8191 rfl (D.wantedT rfl rfl) kR (R.eqa rfl rfl rfl rfl) ?_
  refine Sh.dp 13 16383 ?_;refine D.dn ?_;refine sQ ?_;intro w hS;refine D.startS (Lr:=[.blk gp 179 (plC c a gq 7 s b)]) (hS.sb) 9 9 kR rfl ?_;replace hS:=hS.drew;refine Sh.dp 0 1 ?_;refine Sh.dp 1 3 ?_;refine Sh.dp 2 7 ?_;refine Sh.dp 4 23 ?_;refine Sh.dp 5 55 ?_;refine Sh.dp 6 119 ?_;refine Sh.dl 3 127 ?_;refine Sh.dl 7 255 ?_;refine D.ef 8 511 ?_;refine Z.cl (ycJ gq x0.gp x1.gp x2.gp A cc r (.blk ge 63 e.cells::.blk gp 179 (plC c a gq 7 s b)::F) _ (propR x0 e) x1 x2 ([apM (propR x0 e) 1 x0.log.length A1 c1,apM (propR x0 e) 2 x0.log.length A2 c2]) com' nA' Ad' nc' dc' 4 (.sl 345 10 (.slice A1 ((propR x0 e).log.drop x0.log.length).length c1) (((propR x0 e).log.drop x0.log.length).map Lg.cells)::.sl 345 10 (.slice A2 ((propR x0 e).log.drop x0.log.length).length c2) (((propR x0 e).log.drop x0.log.length).map Lg.cells)::.blk ge 63 e.cells::.blk gp 179 (plC c a gq 7 s b)::F) oM rfl rfl rfl (flp r _ x0 x1 x2 e he hsh L N' hp hll oM A1 A2 c1 c2) hcl' _ (hS.sub (L':=.blk gq 248 [.slice A 3 cc,.slice nA' ([apM (propR x0 e) 1 x0.log.length A1 c1,apM (propR x0 e) 2 x0.log.length A2 c2]).length nc',.slice Ad' com'.length dc']::.sl 249 1 (.slice A 3 cc) ([x0.gp,x1.gp,x2.gp].map ptC)::.sl 341 9 (.slice nA' ([apM (propR x0 e) 1 x0.log.length A1 c1,apM (propR x0 e) 2 x0.log.length A2 c2]).length nc') (([apM (propR x0 e) 1 x0.log.length A1 c1,apM (propR x0 e) 2 x0.log.length A2 c2]).map Ms.cells)::.sl 63 9 (.slice Ad' com'.length dc') (com'.map En.cells)::JN x0.gj x0.t x0.v (propR x0 e).log (propR x0 e).n::.blk x0.gp 331 (propR x0 e).cells::JN x1.gj x1.t x1.v x1.log x1.n::.blk x1.gp 331 x1.cells::JN x2.gj x2.t x2.v x2.log x2.n::.blk x2.gp 331 x2.cells::.sl 345 10 (.slice A1 ((propR x0 e).log.drop x0.log.length).length c1) (((propR x0 e).log.drop x0.log.length).map Lg.cells)::.sl 345 10 (.slice A2 ((propR x0 e).log.drop x0.log.length).length c2) (((propR x0 e).log.drop x0.log.length).map Lg.cells)::.blk ge 63 e.cells::.blk gp 179 (plC c a gq 7 s b)::F) SuF)) rfl ?_;clear hS;rintro e w ⟨y0,y1,y2,com2,nA2,Ad2,nc2,dc2,k,rfl,hk,hcl2,hq,e0,e1,e2,hS⟩
  refine ⟨_,rfl,?_⟩;refine HMs ?_;refine D.dn ?_;have hS2:Sep r [] (Q3 gq true (L++[⟨1,e⟩]) (N'+128)::.blk ge 63 e.cells::.blk gp 179 (plC c a gq 7 s b)::F) w:=by
   refine Sep.Q3_open.2 ⟨⟨y0,y1,y2,com2,A,cc,nA2,nc2,Ad2,dc2⟩,⟨hq,hcl2⟩,?_⟩;simp only [Q3R,List.cons_append,List.nil_append];rw [e0,e1,e2] at hS ⊢;exact hS.sb
  replace hS:=hS2;clear hS2;refine sQ ?_;intro w hS;refine D.startS (Lr:=[.blk gp 179 (plC c a gq 7 s b)]) (hS.sb) 13 13 kR rfl ?_;replace hS:=hS.drew;refine Sh.dp 0 1 ?_;refine Sh.dp 1 3 ?_;refine Sh.dp 2 7 ?_;refine Sh.dp 4 23 ?_;refine Sh.dp 6 87 ?_;refine Sh.dp 7 215 ?_;refine Sh.dp 8 471 ?_;refine Sh.dp 9 983 ?_;refine Sh.dl 3 991 ?_;refine Sh.dl 10 2015 ?_;refine D.ef 5 2047 ?_;refine dQ (yjf gq true (L++[⟨1,e⟩]) (N'+128) _ _ _ (hS.fo (R:=Q3 gq true (L++[⟨1,e⟩]) (N'+128)))) ?_;intro w hS;refine Sh.dp 11 4095 ?_;refine Sh.dp 12 8191 ?_;refine D.dn ?_;refine sQ ?_;intro w hS;refine Dnt Tryz.results68 ?_;refine ⟨?_,?_⟩
  ·simp [Z.packR,hcn]
   omega
  ·obtain ⟨p,⟨hq,hc⟩,hS⟩:=Sep.Q3_open.1 hS;exact Sep.sub (L:=Q3 gq true (L++[⟨1,e⟩]) (N+328)::.blk gp 179 (plC c a gq 7 s b)::F) (Sep.Q3_open.2 ⟨p,⟨Ph1.mono (show Ph1 p.x0 p.x1 p.x2 (L++[⟨1,e⟩]) (N'+128) from hq) oM,hc⟩,hS.sub (by unfold Q3R;simp only [List.cons_append,List.nil_append];exact SuF)⟩) SuF
 | false=>
  rw [if_neg (by decide)];obtain rfl:i=0:=by
   by_cases h:i=1
   ·exact absurd (hst h) (by decide)
   ·omega
  have hL:L=[]:=by
   obtain ⟨p,⟨hq,_⟩,_⟩:=Sep.Q3_open.1 (hS.fo (R:=Q3 gq false L N'));exact hq.2
  subst hL;refine sQ ?_;intro w hS;refine D.startS (Lr:=[.blk ge 63 e.cells,.blk gp 179 (plC c a gq 7 s b)]) (hS.sb) 14 14 kR rfl ?_;replace hS:=hS.drew;refine Sh.dp 0 1 ?_;refine Sh.dp 1 3 ?_;refine D.ef 2 7 ?_;replace hS:=hS.fo (R:=.blk gp 179 (plC c a gq 7 s b));refine Z.cl (yaG gp gq 7 c a s b _ _ _ hS (-1) oM) rfl ?_;clear hS;rintro e w ⟨rfl,hS⟩;refine ⟨_,rfl,?_⟩;rw [hup2];refine HMs ?_;refine Sh.dp 3 15 ?_;refine D.slot 16 rfl NoF (fun hb=>?_)
  (try simp only [JJ] at hb)
  refine D.sk 4 31 ?_;refine D.sk 5 63 ?_;refine D.sk 6 127 ?_;refine D.sk 7 255 ?_;refine D.sk 8 511 ?_;refine D.sk 9 1023 ?_;refine D.sk 10 2047 ?_;refine D.sk 11 4095 ?_;refine D.sk 12 8191 ?_;refine Sh.dp 13 16383 ?_;refine D.dn ?_;refine sQ ?_;intro w hS;refine D.startS (Lr:=[.blk gp 179 (plC c a gq 7 s b)]) (hS.sb) 8 8 kR rfl ?_;replace hS:=hS.drew;refine Sh.dp 0 1 ?_;refine Sh.dp 1 3 ?_;refine Sh.dp 2 7 ?_;refine Sh.dp 4 23 ?_;refine Sh.dl 3 31 ?_;refine D.ef 5 63 ?_;replace hS:=hS.fo (R:=Q3 gq false [] N');replace hS:=hS.fo (R:=.blk gp 179 (plC c a gq 7 s b));refine dQ (yfM gp gq c a s b _ _ _ N' hS hn) ?_;intro w hS
  first|refine D.bu 6 127 rfl D.wantedN kR rfl rfl ?_|refine D.buA 6 127 rfl D.wantedN kR rfl rfl ?_
  refine D.ef 7 255 ?_;replace hS:=hS.fo (R:=Q3 gq false [] N');obtain ⟨⟨x0,x1,x2,com,A,cc,nA,nc,Ad,dc⟩,⟨hp,hcl⟩,hS⟩:=Sep.Q3_open.1 hS;simp only [Q3R,List.cons_append,List.nil_append] at hS hp hcl;replace hp:Ph0 x0 x1 x2:=hp.1;obtain ⟨n0,n1,n2⟩:=hp.nt;refine Z.cl (yh8 gq x0 x1 x2 [] com A nA Ad cc nc dc _ _ _ rfl (hS.sub (L':=.blk gq 248 [.slice A 3 cc,.slice nA ([]:List Ms).length nc,.slice Ad com.length dc]::.sl 249 1 (.slice A 3 cc) ([x0.gp,x1.gp,x2.gp].map ptC)::.sl 341 9 (.slice nA ([]:List Ms).length nc) (([]:List Ms).map Ms.cells)::.sl 63 9 (.slice Ad com.length dc) (com.map En.cells)::JN x0.gj x0.t x0.v x0.log x0.n::.blk x0.gp 331 x0.cells::JN x1.gj x1.t x1.v x1.log x1.n::.blk x1.gp 331 x1.cells::JN x2.gj x2.t x2.v x2.log x2.n::.blk x2.gp 331 x2.cells::.blk ge 63 e.cells::.blk gp 179 (plC c a gq 7 s b)::F) SuF) ⟨0,0,0,0,0,0,0,0,0⟩ hp.i0 (by rw [hp.t0];decide) (by rw [hp.n0];decide) n0 n1 n2 hcl) rfl ?_;clear hS;rintro e w ⟨com',Ad',dc',nA',nc',rfl,hcl',hS⟩;refine ⟨_,rfl,?_⟩;refine HMs ?_;refine D.dn ?_;refine sQ ?_;intro w hS;refine D.startS (Lr:=[.blk gp 179 (plC c a gq 7 s b)]) (hS.sb) 9 9 kR rfl ?_;replace hS:=hS.drew;refine Sh.dp 0 1 ?_;refine Sh.dp 1 3 ?_;refine Sh.dp 2 7 ?_;refine Sh.dp 4 23 ?_;refine Sh.dp 5 55 ?_;refine Sh.dp 6 119 ?_;refine Sh.dl 3 127 ?_;refine Sh.dl 7 255 ?_;refine D.ef 8 511 ?_;refine Z.cl (ycJ gq x0.gp x1.gp x2.gp A cc r (.blk ge 63 e.cells::.blk gp 179 (plC c a gq 7 s b)::F) _ (candR x0) x1 x2 ([voM (candR x0) 1,voM (candR x0) 2]) com' nA' Ad' nc' dc' 8 (.blk ge 63 e.cells::.blk gp 179 (plC c a gq 7 s b)::F) oM rfl rfl rfl (fle r _ x0 x1 x2 hp) hcl' _ (hS.sub (L':=.blk gq 248 [.slice A 3 cc,.slice nA' ([voM (candR x0) 1,voM (candR x0) 2]).length nc',.slice Ad' com'.length dc']::.sl 249 1 (.slice A 3 cc) ([x0.gp,x1.gp,x2.gp].map ptC)::.sl 341 9 (.slice nA' ([voM (candR x0) 1,voM (candR x0) 2]).length nc') (([voM (candR x0) 1,voM (candR x0) 2]).map Ms.cells)::.sl 63 9 (.slice Ad' com'.length dc') (com'.map En.cells)::JN x0.gj (candR x0).t (candR x0).v x0.log (candR x0).n::.blk x0.gp 331 (candR x0).cells::JN x1.gj x1.t x1.v x1.log x1.n::.blk x1.gp 331 x1.cells::JN x2.gj x2.t x2.v x2.log x2.n::.blk x2.gp 331 x2.cells::.blk ge 63 e.cells::.blk gp 179 (plC c a gq 7 s b)::F) SuF)) rfl ?_
  clear hS;rintro e w ⟨y0,y1,y2,com2,nA2,Ad2,nc2,dc2,k,rfl,hk,hcl2,hq,e0,e1,e2,hS⟩;refine ⟨_,rfl,?_⟩;refine HMs ?_;refine D.dn ?_;have hS2:Sep r [] (Q3 gq true [] (N+200)::.blk ge 63 e.cells::.blk gp 179 (plC c a gq 7 s b)::F) w:=by
   refine Sep.Q3_open.2 ⟨⟨y0,y1,y2,com2,A,cc,nA2,nc2,Ad2,dc2⟩,⟨Ph1.mono hq oM,hcl2⟩,?_⟩;simp only [Q3R,List.cons_append,List.nil_append];rw [e0,e1,e2] at hS ⊢;exact hS.sb
  replace hS:=hS2;clear hS2;refine sQ ?_;intro w hS;refine Sh.again (0) [(6,.int .i64 (1:Nat))] ?_;exact ⟨1,true,N+200,rfl,oM,rfl,oM,fun _=>rfl,hS.sb⟩
end
def upK (k3:Bool):Int:=if k3=true then 7 else 1
def nrK (k3:Bool):Nat:=if k3=true then 3 else 1
def QK (k3:Bool) (gq:Nat) (st:Bool) (L:List Lg) (N:Nat):Res:=
 if k3=true then Q3 gq st L N else .ex fun p:Nat=>.all [.pure (p≤N∧(st=false→L=[])∧∀ l,l∈L→l.term=1),Q1 gq (if st=true then 3 else 1) (if st=true then 1 else 0) L p]
def PX (k3:Bool) (gp gq:Nat) (c:Cfg) (s:Sta) (M:Nat):Res:=
 .ex fun p:Bool×List Lg×Nat=>.all [.pure (s.count=p.2.1.length∧p.2.1.length≤M∧p.2.2≤400 * M),PLN gp gq (upK k3) c s,QK k3 gq p.1 p.2.1 p.2.2]
theorem Sep.PX_open {r w:World} {M:List Nat} {F:List Res} {k3:Bool} {gp gq:Nat} {c:Cfg} {s:Sta} {m:Nat}:Sep r M (PX k3 gp gq c s m::F) w↔∃ st L N,(s.count=(L:List Lg).length∧L.length≤m∧N≤400 * m)∧Sep r M (PLN gp gq (upK k3) c s::QK k3 gq st L N::F) w:=by
 simp only [PX,Sep.ex_open,Sep.all_open,List.cons_append,List.nil_append,Sep.pure_open];exact ⟨fun ⟨⟨a,b,c⟩,h⟩=>⟨a,b,c,h⟩,fun ⟨a,b,c,h⟩=>⟨(a,b,c),h⟩⟩
theorem Sep.Q1K_open {r w:World} {M:List Nat} {F:List Res} {gq:Nat} {st:Bool} {L:List Lg} {N:Nat}:Sep r M (QK false gq st L N::F) w↔∃ p,(p≤N∧(st=false→L=[])∧∀ l,l∈L→l.term=1)∧Sep r M (Q1 gq (if st=true then 3 else 1) (if st=true then 1 else 0) L p::F) w:=by
 simp only [QK,if_neg (show ¬ (false=true) by decide),Sep.ex_open,Sep.all_open,List.cons_append,List.nil_append,Sep.pure_open]
section
variable (k3:Bool) (gp gq:Nat) (c:Cfg) (a:CAd) (s:Sta) (b:SAd) (r:World) (F:List Res) (w:World)
theorem yeO (hS:Sep r [] (.blk gp 179 (plC c a gq (upK k3) s b)::F) w) (hn:c.replicas.length=nrK k3):Calls Tryz.prog 67 #[.pointer (some ⟨gp,0,none⟩)] w fun e w'=>e=.returned (.bool true)∧Sep r [] (.blk gp 179 (plC c a gq (upK k3) s b)::F) w':=by
 cases k3 with
 | true=>exact yeN gp gq c a s b r F w hS hn
 | false=>exact yek gp gq c a s b r F w hS hn
theorem ydG (e:En) (st:Bool) (L:List Lg) (N:Nat) (hS:Sep r [] (.blk gp 179 (plC c a gq (upK k3) s b)::QK k3 gq st L N::F) w) (hn:c.replicas.length=nrK k3)
  (he:e.i64) (hsh:shapeP e=true) (hll:L.length < 3000) (hnb:N≤800000) (hcn:s.count=L.length) :
  Calls Tryz.prog 68 #[.pointer (some ⟨gp,0,none⟩),e.val] w fun x w'=>x=.returned (.bool true)∧Sep r [] (.blk gp 179 (plC c a gq (upK k3) s b)::QK k3 gq true (L++[⟨1,e⟩]) (N+328)::F) w':=by
 cases k3 with
 | true=>exact ydF gp gq c a s b r F w e st L N hS hn he hsh hll hnb hcn
 | false=>
  obtain ⟨p,⟨hp,h0,ht⟩,hS⟩:=Sep.Q1K_open.1 (hS.fo (R:=QK false gq st L N));have hlt:(lgAt L ((L.length:Int) - 1)).term≤1:=by rw [last_tm ht];split<;>omega
  have hro:((if st=true then 3 else 1:Int)=3∧(if st=true then 1 else 0:Int)=1)∨((if st=true then 3 else 1:Int)=1∧(if st=true then 1 else 0:Int)=0∧L=[]):=by
   cases st with
   | true=>exact .inl ⟨rfl,rfl⟩
   | false=>exact .inr ⟨rfl,rfl,h0 rfl⟩
  refine (yb5 gp gq c a s b r F w e _ _ L p (hS.sb) hn hro he hsh hlt oM oM hcn).mono ?_;rintro x w' ⟨n',rfl,hn',hS⟩;refine ⟨rfl,Sep.sub (L:=QK false gq true (L++[⟨1,e⟩]) (N+328)::.blk gp 179 (plC c a gq (upK false) s b)::F) (Sep.Q1K_open.2 ⟨n',⟨oM,fun h=>by (cases h),fun l hl=>?_⟩,hS.sb⟩) SuF⟩
  rcases List.mem_append.1 hl with h|h
  ·exact ht l h
  ·obtain rfl:=List.mem_singleton.1 h
   rfl
end
theorem ygY (c:Cfg) (a:CAd) (r:World) (F:List Res) (w:World) (hS:Sep r [] F w) (hr:CfA r F c a) (hv:CfgV c) (hn:c.replicas.length=3) :
  Calls Tryz.prog 19 #[c.val a] w fun e w'=>∃ (gp gq:Nat),e=.returned (.tuple #[.pointer (some ⟨gp,0,none⟩),.int .i64 0])∧Sep r [] (PLN gp gq 7 c (newS c)::Q3 gq false [] 0::F) w':=by
 have h3:=hv.ok.t;have h2:=hv.ok.k;refine Z.enter Tryz.func19 Tryz.ntmps19 rfl rfl ?_
 repeat' first|refine K ?_|refine Sa ?_;clear hS;intro w hS|refine K3 ?_;clear hS;intro g w hS hge|refine KC ?_ ?_<;>intro hb<;>try exact JX|fail
 rename Nat=>g0;refine rQ (ydn c a _ _ _ hS (hr.cons _) hv) ?_;intro w hS;rw [hn];refine cQ (yid _ _ _ hS) rfl ?_;clear hS;rintro e w ⟨gq,rfl,hS⟩;refine eQ ?_;intro w hS;refine cQ (yb4 c a _ _ _ hS (hr.app [_,_]) hv) rfl ?_;clear hS;rintro e w ⟨a',rfl,hS⟩;refine eQ ?_;intro w hS;refine D.startS (Lr:=[.blk g0 55 (c.cl a')]) (hS.sb) 13 13 kR rfl ?_;replace hS:=hS.drew;refine Sh.dp 1 2 ?_;refine Sh.dp 2 6 ?_;refine Sh.dl 0 7 ?_;refine Sh.dl 3 15 ?_;refine Sh.dp 4 31 ?_;refine D.pl 5 63 rfl D.wantedN kR (R.ish (v:=.int .i64 8) rfl rfl (by rw [hn];rfl) oM) ?_
 first|refine D.sum 6 127 rfl D.wantedN kR rfl (by constructor<;>omega) ?_|refine D.sumW 6 127 rfl D.wantedN kR rfl ?_
 refine Sh.dl 7 255 ?_;refine D.ef 8 511 ?_;refine Z.cl (ycu c a' _ _ _ hS oM oM) rfl ?_;clear hS;rintro e w ⟨b',rfl,hS⟩;refine ⟨_,rfl,?_⟩;refine HMs ?_
 first|refine D.bu 9 1023 rfl D.wantedN kR rfl rfl ?_|refine D.buA 9 1023 rfl D.wantedN kR rfl rfl ?_
 refine D.ef 10 2047 ?_;refine Z.bx hS rfl ?_;clear hS;intro gp w hS hge;refine HMs ?_;refine Sh.dp 11 4095 ?_;refine Sh.dp 12 8191 ?_;refine D.dn ?_;refine sQ ?_;intro w hS;refine Dntt Tryz.results19 ?_;exact ⟨gp,gq,rfl,(Sep.sub (L:=PLN gp gq 7 c (newS c)::Q3 gq false [] 0::F) (Sep.PLN_open.2 ⟨a',b',hS.sb⟩) SuF)⟩
theorem ygZ (k3:Bool) (c:Cfg) (a:CAd) (r:World) (F:List Res) (w:World) (hS:Sep r [] F w) (hr:CfA r F c a) (hv:CfgV c) (hn:c.replicas.length=nrK k3) :
  Calls Tryz.prog 19 #[c.val a] w fun e w'=>∃ (gp gq:Nat),e=.returned (.tuple #[.pointer (some ⟨gp,0,none⟩),.int .i64 0])∧Sep r [] (PX k3 gp gq c (newS c) 0::F) w':=by
 cases k3 with
 | true=>
  refine (ygY c a r F w hS hr hv hn).mono ?_;rintro e w' ⟨gp,gq,rfl,hS⟩;exact ⟨gp,gq,rfl,Sep.PX_open.2 ⟨false,[],0,⟨rfl,Nat.le_refl 0,Nat.le_refl 0⟩,hS⟩⟩
 | false=>
  refine (ydp c a r F w hS hr hv hn).mono ?_;rintro e w' ⟨gp,gq,rfl,hS⟩;refine ⟨gp,gq,rfl,Sep.PX_open.2 ⟨false,[],0,⟨rfl,Nat.le_refl 0,Nat.le_refl 0⟩,?_⟩⟩;exact Sep.sub (L:=QK false gq false [] 0::PLN gp gq (upK false) c (newS c)::F) (Sep.Q1K_open.2 ⟨0,⟨Nat.le_refl 0,fun _=>rfl,fun l h=>by (cases h)⟩,hS.sb⟩) SuF
def PlR (c:Cfg) (s:Sta) (e:En) (s':Sta):Prop:=
 (e.kind=1∧accP c s e=true∧s'=effP s e)∨((e.kind=10∨e.kind=11∨e.kind=12)∧validP c e=true∧EffK s e s')
theorem PlR.valid {c:Cfg} {s s':Sta} {e:En} (h:PlR c s e s'):validP c e=true∧(e.kind=1∨e.kind=10∨e.kind=11∨e.kind=12):=by
 rcases h with ⟨hk,h,_⟩|⟨hk,h,_⟩
 ·unfold accP refP at h;simp only [Bool.and_eq_true] at h;exact ⟨h.1.1.1.1,.inl hk⟩
 ·exact ⟨h,.inr hk⟩
theorem PlR.count {c:Cfg} {s s':Sta} {e:En} (h:PlR c s e s'):s'.count=s.count+1:=by
 rcases h with ⟨hk,_,rfl⟩|⟨_,_,⟨_,rfl⟩|⟨_,p,_,rfl⟩⟩
 ·rw [ybj (.inl hk)]
 ·rfl
 ·rfl
theorem PlR.ok {c:Cfg} {s s':Sta} {e:En} (hs:s.ok c) (h:PlR c s e s'):s'.ok c:=by
 have hv:=h.valid.1
 rcases h with ⟨hk,h,rfl⟩|⟨hk,_,h⟩
 ·unfold accP refP kindP at h;simp only [Bool.and_eq_true] at h;refine ybJ hs hk hv ?_;have:=h.1.2;rwa [if_pos hk] at this
 ·exact h.ok hs (validK hv hk).2
theorem ygg {c:Cfg} {e:En} (h:validP c e=true) (hk:e.kind=1∨e.kind=10∨e.kind=11∨e.kind=12):e.i64∧shapeP e=true:=by
 unfold validP at h;rw [Bool.and_eq_true] at h;refine ⟨?_,h.1⟩;have h1:=h.1;unfold shapeP fitsP formP at h1;unfold En.i64 i64ok
 rcases hk with hk|hk|hk|hk
 all_goals
  rw [hk] at h1 ⊢
  simp [fitF,inSp,noSp,zSp] at h1
  omega
theorem yce (c:Cfg) (a:CAd) (s:Sta) (b:SAd) (e:En) (r:World) (F:List Res) (w:World) (hS:Sep r [] F w) (hr:CfR r F c a) (hv:CfgV c) (hs:s.ok c) (hq:StC r F s c b) (hc:0≤s.count∧s.count≤5000) (hk:e.kind=1∨e.kind=0∨e.kind=10∨e.kind=11∨e.kind=12) :
  Calls Tryz.prog 30 #[c.val a,s.vc c b,e.val] w fun x w'=>∃ (cz:Cfg) (s':Sta) (b':SAd) (er:Int) (X:Res),x=.returned (.tuple #[s'.vc cz b',.int .i64 er])∧(er=0→cz=c∧PlR c s e s'∧X=SO c s' b')∧Sep r [] (X::F) w':=by
 rcases hk with hk|hk
 ·refine (yaV c a s b e r F w hS hr hv hs hq hc (.inl hk)).mono ?_;rintro x w' ⟨cz,s',b',er,X,⟨hx,h1,h2⟩,hS⟩;exact ⟨cz,s',b',er,X,hx,fun h=>⟨(h2 h).1,.inl ⟨hk,h1.1 h,(h2 h).2.1⟩,by rw [(h2 h).2.2,(h2 h).2.1]⟩,hS⟩
 ·refine (ycd c a s b e r F w hS hr hv hs hq hc hk).mono ?_;rintro x w' ⟨cz,s',b',er,X,hx,h2,hS⟩;exact ⟨cz,s',b',er,X,hx,fun h=>⟨(h2 h).1,.inr ⟨by have:=(h2 h).2.1.2.2;omega,(h2 h).2.1.1,(h2 h).2.2.1⟩,(h2 h).2.2.2⟩,hS⟩
theorem ycE (k3:Bool) (gp gq:Nat) (c:Cfg) (s:Sta) (e:En) (M:Nat) (r:World) (F:List Res) (w:World) (hS:Sep r [] (PX k3 gp gq c s M::F) w) (hn:c.replicas.length=nrK k3) (hM:M≤2000) (hv:CfgV c) (hs:s.ok c) (hk:e.kind=1∨e.kind=0∨e.kind=10∨e.kind=11∨e.kind=12) :
  Calls Tryz.prog 21 #[.pointer (some ⟨gp,0,none⟩),e.val] w fun x w'=>∃ (a1 er:Int) (s':Sta),x=.returned (.tuple #[.int .i64 a1,.int .i64 er])∧(s'=s∨PlR c s e s')∧Sep r [] (PX k3 gp gq c s' (M+1)::F) w':=by
 obtain ⟨st,L,N,⟨hcn,hLM,hNM⟩,hS⟩:=Sep.PX_open.1 hS;obtain ⟨a,b,hS⟩:=Sep.PLN_open.1 hS;refine Z.enter Tryz.func21 Tryz.ntmps21 rfl rfl ?_;refine aQ1 ?_;intro ge w hS;refine rQ (yeO k3 gp gq c a s b _ _ _ (hS.fo (R:=.blk gp 179 (plC c a gq (upK k3) s b))) hn) ?_;intro w hS;refine Z.cut [6,7,12,13,14,15,16,17,18,19,20,21,22,23,24] (fun w z=>∃ g6 cz s' b' er X,z=[(6,.pointer (some ⟨g6,0,.none⟩)),(7,.int .i64 er)]∧(er=0→cz=c∧PlR c s e s'∧X=SO c s' b')∧Sep r [] (.blk g6 69 (s'.cc cz b')::X::.blk ge 63 e.cells::.blk gp 179 (plC c a gq (upK k3) s b)::CfO c a::SO c s b::QK k3 gq st L N::F) w) ?_ ?_
 ·refine D.startS (Lr:=[.blk ge 63 e.cells,.blk gp 179 (plC c a gq (upK k3) s b)]) (hS.sb) 14 16 kR rfl ?_;replace hS:=hS.drew;refine Sh.dp 0 1 ?_;refine Sh.dp 1 3 ?_;refine Sh.dp 2 7 ?_;refine Sh.dp 4 23 ?_;refine Sh.dp 5 55 ?_;refine Sh.dp 6 119 ?_;refine Sh.dl 3 127 ?_;refine Sh.dl 7 255 ?_;refine Sh.dl 8 511 ?_;refine D.each [9,13] kR rfl ?_;refine D.econs 9 1023 rfl D.wantedN kR (fun _ _ h=>h) ?_ ?_
  ·refine Z.cl (yce c a s b e _ _ _ hS (CfA.of_co AtF).cf hv hs (StC.of_so AtF) oM hk) rfl ?_;clear hS;rintro e w ⟨cz,s',b',er,X,rfl,hz,hS⟩;refine ⟨_,rfl,?_⟩;refine HMs ?_;refine Sh.dp 10 2047 ?_;refine Sh.dp 11 4095 ?_;refine Sh.dp 12 8191 ?_;refine D.ef 13 16383 ?_;refine Z.al hS ?_;clear hS;intro g w hS hge;refine HMs ?_;refine D.ef 14 32767 ?_;refine Z.st hS rfl AtF rfl rfl ?_;clear hS;intro w hS;refine HMl ?_;refine Sh.dp 15 65535 ?_;refine D.dn ?_;refine Sh.cut [(6,_),(7,_)] ?_;exact ⟨_,cz,s',b',er,X,rfl,hz,hS.sb⟩
  refine D.econs 13 8703 rfl D.wantedN kR (fun _ _ h=>h) ?_ ?_
  ·refine Z.al hS ?_;clear hS;intro g w hS hge;refine HMs ?_;refine D.ef 9 9215 ?_;refine Z.cl (yce c a s b e _ _ _ hS (CfA.of_co AtF).cf hv hs (StC.of_so AtF) oM hk) rfl ?_;clear hS;rintro e w ⟨cz,s',b',er,X,rfl,hz,hS⟩;refine ⟨_,rfl,?_⟩;refine HMs ?_;refine Sh.dp 10 10239 ?_;refine Sh.dp 11 12287 ?_;refine Sh.dp 12 16383 ?_;refine D.ef 14 32767 ?_;refine Z.st hS rfl AtF rfl rfl ?_;clear hS;intro w hS;refine HMl ?_;refine Sh.dp 15 65535 ?_;refine D.dn ?_;refine Sh.cut [(6,_),(7,_)] ?_;exact ⟨_,cz,s',b',er,X,rfl,hz,hS.sb⟩
  exact D.enil
 clear hS;rintro f0 w _ ⟨g6,cz,s',b',er,X,rfl,hz,hS⟩
 by_cases h0:er=0
 rotate_left
 ·refine sQ ?_;intro w hS;refine Dntt Tryz.results21 ?_;exact ⟨_,_,s,rfl,.inl rfl,Sep.PX_open.2 ⟨st,L,N,⟨hcn,oM,oM⟩,Sep.sub (L:=PLN gp gq (upK k3) c s::QK k3 gq st L N::F) (Sep.PLN_open.2 ⟨a,b,hS.sb⟩) SuF⟩⟩
 subst h0;obtain ⟨hcz,hR,hX⟩:=hz rfl;subst cz;subst X;obtain ⟨hv1,hv2⟩:=hR.valid;obtain ⟨he,hsh⟩:=ygg hv1 hv2;refine sQ ?_;intro w hS;replace hS:=hS.fo (R:=QK k3 gq st L N);replace hS:=hS.fo (R:=.blk gp 179 (plC c a gq (upK k3) s b));refine cQ (ydG k3 gp gq c a s b _ _ _ e st L N hS hn he hsh oM oM hcn) rfl ?_;clear hS;rintro e w ⟨rfl,hS⟩;refine eQ ?_;intro w hS;refine Dntt Tryz.results21 ?_;have hcn2:=hR.count;exact ⟨_,_,s',rfl,.inr hR,Sep.PX_open.2 ⟨true,L++[⟨1,e⟩],N+328,⟨by rw [hcn2,hcn];simp,by simp;omega,oM⟩,Sep.sub (L:=PLN gp gq (upK k3) c s'::QK k3 gq true (L++[⟨1,e⟩]) (N+328)::F) (Sep.PLN_open.2 ⟨a,b',hS.sb⟩) SuF⟩⟩
theorem yaH (k3:Bool) (gp gq:Nat) (c:Cfg) (s:Sta) (M:Nat) (r:World) (F:List Res) (w:World) (hS:Sep r [] (PX k3 gp gq c s M::F) w) (hv:CfgV c) (hs:s.ok c) :
  Calls Tryz.prog 22 #[.pointer (some ⟨gp,0,none⟩)] w fun e w'=>∃ b',e=.returned (s.vc c b')∧Sep r [] (SO c s b'::PX k3 gp gq c s M::F) w':=by
 obtain ⟨st,L,N,hx,hS⟩:=Sep.PX_open.1 hS;obtain ⟨a,b,hS⟩:=Sep.PLN_open.1 hS;refine (ycF gp gq (upK k3) c a s b r _ w hS hs (StC.of_so AtF) hv).mono ?_;rintro e w' ⟨b',rfl,hS⟩;exact ⟨b',rfl,Sep.sub (L:=PX k3 gp gq c s M::SO c s b'::F) (Sep.PX_open.2 ⟨st,L,N,hx,Sep.sub (L:=PLN gp gq (upK k3) c s::QK k3 gq st L N::SO c s b'::F) (Sep.PLN_open.2 ⟨a,b,hS.sb⟩) SuF⟩) SuF⟩
def upI (n:Nat):List Int:=(List.range n).map fun i:Nat=>(i:Int)
theorem yev (n:Nat):(upI n).length=n:=by simp [upI]
theorem yhq (n:Nat):upI (n+1)=upI n++[(n:Int)]:=by
 unfold upI;rw [List.range_succ,List.map_append]
 rfl
def allC (c:Cfg):List Int:=upI c.cells.length
theorem allC_nodup (c:Cfg):(allC c).Nodup:=by
 unfold allC upI;refine List.Pairwise.map _ (fun a b hab=>?_) List.nodup_range;omega
theorem allC_ok (c:Cfg):mkOk c (allC c)=true:=by
 unfold mkOk;rw [Bool.and_eq_true,decide_eq_true_eq,List.all_eq_true];refine ⟨fun x hx=>?_,allC_nodup c⟩;unfold allC upI at hx;obtain ⟨i,hi,rfl⟩:=List.mem_map.1 hx;rw [List.mem_range] at hi;unfold inC;rw [decide_eq_true_eq];omega
structure RoW (c:Cfg) (k0:Int) (W:List Wv):Prop where
 k:0≤k0∧k0 < 7
 w:WvK c W
 ne:∀ x,x∈W→x.l≠[]
 nd:(flatW W).Nodup
 f:∀ h:0 < W.length,(W[0]).l=[k0]
theorem yg7 {c:Cfg} {s:Sta} {W:List Wv} (hM:CfgM c) (h:W.map Wv.l=(mkR c s (allC c)).1):∃ k0,RoW c k0 W:=by
 have hk:=hM.k;have hb:=hM.b1;have h7:(allC c).length≤7:=by rw [allC,yev];exact hk
 obtain ⟨hb1,hb2⟩:=yiI (s:=s) (l:=allC c) hb;rw [ydj (allC_ok c)] at h hb1 hb2;have hmd:=mkW_made (s:=s) hb (srt (allC c));have hp:(flatW W).Perm (allC c):=by
  unfold flatW;rw [h];exact hmd.perm.trans (srt_perm _)
 have hwl:W.length≤7:=by
  have e:=congrArg List.length h;rw [List.length_map] at e;simp only at e hb1;omega
 have hml:∀ x,x∈W→x.l∈mkW c s (srt (allC c)):=fun x hx=>by
  have e:x.l∈W.map Wv.l:=List.mem_map_of_mem hx;rw [h] at e;exact e
 have hin:∀ k,k∈flatW W→0≤k∧k < c.cells.length:=fun k hk2=>by
  have h1:=hp.mem_iff.1 hk2;unfold allC upI at h1;obtain ⟨i,hi,rfl⟩:=List.mem_map.1 h1;rw [List.mem_range] at hi;omega
 have hmem:∀ x,x∈W→∀ k,k∈x.l→k∈flatW W:=fun x hx k hk2=>List.mem_flatten.2 ⟨x.l,List.mem_map_of_mem hx,hk2⟩
 have hW:WvK c W:=⟨oM,fun x hx=>by have:=hb2 _ (hml x hx);omega,fun x hx k hk2=>hin k (hmem x hx k hk2)⟩;have hne:∀ x,x∈W→x.l≠[]:=fun x hx=>hmd.ne _ (hml x hx)
 have hnd:(flatW W).Nodup:=hp.nodup_iff.2 (allC_nodup c)
 cases W with
 | nil=>exact ⟨0,oM,hW,hne,hnd,fun h=>absurd h (by simp)⟩
 | cons x t=>
  have h1:=hmd.first x.l (t.map Wv.l) h.symm;obtain ⟨k0,hk0⟩:=List.length_eq_one_iff.1 h1;have h2:=hin k0 (hmem x (by simp) k0 (by rw [hk0];simp));exact ⟨k0,oM,hW,hne,hnd,fun _=>hk0⟩
def InvA (c:Cfg) (s:Sta):Prop:=∀ V k0,0≤k0→Inv V k0 c s
theorem InvA.new {c:Cfg} (hv:1≤c.versions.length):InvA c (newS c):=fun _ _ hk=>Inv.new hk hv
theorem InvA.ok {c:Cfg} {s:Sta} (h:InvA c s):s.ok c:=(h 1 0 (Int.le_refl 0)).ok
theorem InvA.place {c:Cfg} {s s':Sta} {e:En} (h:InvA c s) (hk:e.kind=1) (hR:s'=s∨PlR c s e s'):InvA c s':=by
 rcases hR with rfl|hR
 ·exact h
 have hok:=hR.ok h.ok
 rcases hR with ⟨_,_,rfl⟩|⟨hk2,_⟩
 ·exact fun V k0 h0=>(h V k0 h0).place hk hok
 ·omega
theorem Inv.prop {V k0:Int} {c:Cfg} {s s':Sta} {e:En} (h:Inv V k0 c s) (hx:NxOk V k0 s e) (hR:s'=s∨PlR c s e s'):Inv V k0 c s':=by
 rcases hR with rfl|hR
 ·exact h
 have hok:=hR.ok h.ok
 rcases hR with ⟨hk,_,rfl⟩|⟨hk2,hv,hE⟩
 ·exact h.place hk hok
 ·exact h.next hx hk2 hE hok hv
def has4 (s i:Int):Bool:=decide (0≤i∧i < 62) && !decide ((s.fdiv (2 ^ i.toNat)).tmod 2=0)
theorem ygH:∀ k:Fin 7,∀ i:Fin 62,has4 (2 ^ k.val) (i.val:Int)=true→i.val=k.val:=by decide
theorem yc8 {k i:Int} (hk:0≤k∧k < 7) (h:has4 (2 ^ k.toNat) i=true):i=k:=by
 have h0:0≤i∧i < 62:=by
  unfold has4 at h;rw [Bool.and_eq_true,decide_eq_true_eq] at h;exact h.1
 have h2:=ygH ⟨k.toNat,oM⟩ ⟨i.toNat,oM⟩;simp only at h2;rw [Int.toNat_of_nonneg h0.1] at h2;have:=h2 h;omega
theorem yft (i:Int):has4 0 i=false:=by
 unfold has4
 simp
theorem yf4 {c:Cfg} {s:Sta} {k m:Int} (hs:s.ok c) (hk:0≤k∧k < 7) (hm:m=0∨m=2 ^ k.toNat) {x:TS} (hx:x∈s.tenants):¬ (has4 m x.home=true∧has4 m x.standby=true):=by
 rintro ⟨h1,h2⟩
 rcases hm with rfl|rfl
 ·rw [yft] at h1;exact absurd h1 (by decide)
 ·have e1:=yc8 hk h1;have e2:=yc8 hk h2;have:=(hs.t x hx).hs oM;omega
theorem yhQ {k:Int} (hk:0≤k∧k < 7):bitZ .i64 (· ||| ·) 0 (IntKind.i64.wrap (1 * 2 ^ min (IntKind.u64.wrap (modM k 62)).toNat IntKind.i64.bits))=2 ^ k.toNat:=by
 rcases (by omega:k=0∨k=1∨k=2∨k=3∨k=4∨k=5∨k=6) with rfl|rfl|rfl|rfl|rfl|rfl|rfl<;>decide
theorem yd0 (s i:Int) (r:World) (F:List Res) (w:World) (hS:Sep r [] F w) :
  Calls Tryz.prog 83 #[.int .i64 s,.int .i64 i] w fun e w'=>e=.returned (.bool (has4 s i))∧Sep r [] F w':=by
 have hu:∀ x:Int,0≤x→x < 62→0≤IntKind.u64.wrap x:=fun x h0 h1=>by
  simp [IntKind.wrap,IntKind.signed,IntKind.bits]
  omega
 have hw:∀ x:Int,0≤x→x < 62→min (IntKind.u64.wrap x).toNat IntKind.i64.bits=x.toNat:=fun x h0 h1=>by
  have e:IntKind.u64.wrap x=x:=by
   simp [IntKind.wrap,IntKind.signed,IntKind.bits]
   omega
  rw [e]
  show min x.toNat 64=x.toNat
  omega
 refine Z.enter Tryz.func83 Tryz.ntmps83 rfl rfl ?_
 repeat' first|refine K ?_|refine Sa ?_;clear hS;intro w hS|refine K3 ?_;clear hS;intro g w hS hge|refine KC ?_ ?_<;>intro hb<;>try exact JX|fail
 ·have:=hu i oM oM;refine sQ ?_;intro w hS;refine Dnt Tryz.results83 ?_;refine ⟨?_,hS⟩;rw [hw i oM oM];unfold has4;rw [decide_eq_true (show 0≤i∧i < 62 by omega),Bool.true_and]
  rfl
 ·refine Dnt Tryz.results83 ?_;refine ⟨?_,hS⟩;unfold has4;rw [decide_eq_false (show ¬ (0≤i∧i < 62) by omega),Bool.false_and]
  rfl
 ·refine Dnt Tryz.results83 ?_;refine ⟨?_,hS⟩;unfold has4;rw [decide_eq_false (show ¬ (0≤i∧i < 62) by omega),Bool.false_and]
  rfl
theorem ybc (c:Cfg) (a:CAd) (s:Sta) (b:SAd) (V k0 tk:Int) (bk:Bool) (B:Option Addr) (C:Nat) (W:List Wv) (r:World) (F:List Res) (w:World) (hS:Sep r [] F w) (hr:CfR r F c a) (hv:CfgV c) (hI:Inv V k0 c s) (hq:StC r F s c b) (hw:WvR r F B C W) (hR:RoW c k0 W) (hc:0≤s.count∧s.count≤5000) (hV:1≤V∧V < 64) :
  Calls Tryz.prog 25 #[c.val a,s.vc c b,.agg #[.int .i64 V,.int .i64 0,.slice B W.length C],.bool bk,.int .i64 tk] w fun y w'=>∃ (e:En) (er:Int),y=.returned (.tuple #[e.val,.int .i64 er])∧NxOk V k0 s e∧Sep r [] F w':=by
 have hW:=hR.w;have hwn:=hW.n;have hs:=hI.ok;have hbk:=hv.ok.e;have hV2:0≤V∧V < 64:=by omega
 refine Z.enter Tryz.func25 Tryz.ntmps25 rfl rfl ?_
 cases bk with
 | true=>
  repeat' first|refine K ?_|refine Sa ?_;clear hS;intro w hS|refine K3 ?_;clear hS;intro g w hS hge|refine KC ?_ ?_<;>intro hb<;>try exact JX|fail
  refine cQ (yg8 c a s b V tk B C W _ _ _ hS (hr.app [_,_,_,_]) hv hs (hq.ap [_,_,_,_]) (hw.app [_,_,_,_]) hW hR.nd hc oM hI.cl) rfl ?_;clear hS;rintro e w ⟨e,er,rfl,hk,hS⟩;refine eQ ?_;intro w hS;refine Dct Tryz.results25 ?_;exact ⟨e,er,rfl,hk.imp id fun h=>.inl ⟨h.1,.inl h.2⟩,hS.sb⟩
 | false=>
 repeat' first|refine K ?_|refine Sa ?_;clear hS;intro w hS|refine K3 ?_;clear hS;intro g w hS hge|refine KC ?_ ?_<;>intro hb<;>try exact JX|fail
 rename_i gc _ _ gs _ _ gr _ _;rename Nat=>gz;refine cQ (yha c s b V B C W _ _ _ hS hv hs (hq.ap [_,_,_,_]) (hw.app [_,_,_,_]) hW) rfl ?_;clear hS;rintro e w ⟨i0,rfl,hi0,hS⟩;refine eQ ?_;intro w hS;refine Z.lpS [11,13,14,16,17,32,33,34,35,36,37,38,39,40,41,42,43,44,45,46,47,48,49,50,51,52,53,54,55,56,57,58,59,60,61,62,63,64,65,66,67,68,69,70,71,72,73,74,75,76,77,78,79,80,81] (fun m w z=>∃ i:Nat,z=[(32,.int .i64 i)]∧i≤W.length∧(0 < i→hasB s.proven V=true)∧m=W.length - i∧Sep r [] (.blk gz 63 (En.mk 0 0 0 0 0 0 0 0 0).cells::.blk gr 75 [.int .i64 V,.int .i64 0,.slice B W.length C]::.blk gs 69 (s.cc c b)::.blk gc 55 (c.cl a)::F) w) _ [(32,.int .i64 (0:Nat))] TrF ⟨0,rfl,oM,fun h=>absurd h oM,rfl,hS.sb⟩ ?_;clear hS;rintro m f0 w _ ⟨i,rfl,hi,hpi,rfl,hS⟩
 by_cases hlt:i < W.length
 rotate_left
 ·refine sQ ?_;intro w hS;refine Dct Tryz.results25 ?_;exact ⟨⟨0,0,0,0,0,0,0,0,0⟩,6,rfl,.inl rfl,hS.sb⟩
 obtain ⟨gb,o,hB,hra⟩:=hw.get [_,_,_,_] hS hlt;subst hB;have hxl:=hW.l _ (List.getElem_mem hlt);have hxk:=hW.k _ (List.getElem_mem hlt);have hxr:=hw.inn _ (List.getElem_mem hlt);have hxf:∀ k,k∈(W[i]).l→hasB s.proven V=true∨k=k0:=by
  intro k hk
  rcases Nat.eq_zero_or_pos i with h0|h0
  ·subst h0;rw [hR.f hlt] at hk;exact .inr (List.mem_singleton.1 hk)
  ·exact .inl (hpi h0)
 generalize W[i]=x at *;obtain ⟨xl,xA,xc⟩:=x;simp only at hxl hxk hxr hxf
 by_cases hii:i=i0
 ·refine sQ ?_;intro w hS;refine cQ (yeX c a s b V tk (some ⟨gb,o,none⟩) C W (⟨xl,xA,xc⟩:Wv) _ _ _ hS (hr.app [_,_,_,_]) hv hs (hq.ap [_,_,_,_]) (hw.app [_,_,_,_]) hxl hxk (hxr.app [_,_,_,_]) hc) rfl ?_;clear hS;rintro e w ⟨e,er,rfl,hk,hS⟩;refine eQ ?_;intro w hS;refine Dct Tryz.results25 ?_;exact ⟨e,er,rfl,hk.imp id fun h=>.inl ⟨h.1,.inr ⟨h.2.1,hxf _ h.2.2⟩⟩,hS.sb⟩
 refine sQ ?_;intro w hS;refine Z.lpS [11,16,50,51,52,53,54,55,56,57,58,59,60,61,62,63,64] (fun m w z=>∃ j:Nat,z=[(50,.int .i64 j)]∧j≤xl.length∧m=xl.length - j∧Sep r [] (.blk gz 63 (En.mk 0 0 0 0 0 0 0 0 0).cells::.blk gr 75 [.int .i64 V,.int .i64 0,.slice (some ⟨gb,o,none⟩) W.length C]::.blk gs 69 (s.cc c b)::.blk gc 55 (c.cl a)::F) w) _ [(50,.int .i64 (0:Nat))] TrF ⟨0,rfl,oM,rfl,hS.sb⟩ ?_;clear hS;rintro m f1 w _ ⟨j,rfl,hj,rfl,hS⟩
 by_cases hjl:j < xl.length
 ·obtain ⟨gx,ox,hx,hrx⟩:=yaF hxr [_,_,_,_] hS hjl;subst hx;have hkk:=hxk _ (List.getElem_mem hjl);generalize xl[j]=k at *;have hsn:=hI.sn _ (cel_mem (s:=s) (k:=k) (by have:=hs.kl;omega));refine sQ ?_;intro w hS;refine D.startS (Lr:=[.blk gs 69 (s.cc c b),.blk gc 55 (c.cl a)]) (hS.sb) 9 9 kR rfl ?_;replace hS:=hS.drew;refine Sh.dp 1 2 ?_;refine Sh.dp 4 18 ?_;refine Sh.dp 7 146 ?_;refine Sh.dl 0 147 ?_;refine Sh.dl 5 179 ?_;refine D.ef 2 183 ?_;refine Z.cl (yaQ c s b k _ _ _ hS hv hs (hq.ap [_,_,_,_]) hkk) rfl ?_;clear hS;rintro e w ⟨rfl,hS⟩;refine ⟨_,rfl,?_⟩;generalize celP s k=u at *;refine HMs ?_;refine Sh.dp 3 191 ?_
  first|refine D.sum 6 255 rfl D.wantedN kR rfl (by constructor<;>omega) ?_|refine D.sumW 6 255 rfl D.wantedN kR rfl ?_
  refine Sh.dp 8 511 ?_;refine D.dn ?_
  repeat' first|refine K ?_|refine Sa ?_;clear hS;intro w hS|refine K3 ?_;clear hS;intro g w hS hge|refine KC ?_ ?_<;>intro hb<;>try exact JX|fail
  ·refine Dct Tryz.results25 ?_;exact ⟨⟨0,0,0,0,0,0,0,0,0⟩,4,rfl,.inl rfl,hS.sb⟩
  ·refine Sh.again (xl.length - (j+1)) [(50,.int .i64 (j+1:Nat))] ?_;exact ⟨j+1,rfl,oM,rfl,hS.sb⟩
 refine sQ ?_;intro w hS;refine cQ (yg9 c s b V _ _ _ hS hV2) rfl ?_;clear hS;rintro e w ⟨rfl,hS⟩;refine ⟨_,rfl,?_⟩
 cases hpv:hasB s.proven V with
 | true=>
  refine sQ ?_;intro w hS;refine Sh.again (W.length - (i+1)) [(32,.int .i64 (i+1:Nat))] ?_;exact ⟨i+1,rfl,oM,fun _=>rfl,rfl,hS.sb⟩
 | false=>
  refine sQ ?_;intro w hS;refine cQ (yaZ 12 tk (-1) V _ _ _ hS) rfl ?_;clear hS;rintro e w ⟨rfl,hS⟩;refine ⟨_,rfl,?_⟩
  repeat' first|refine K ?_|refine Sa ?_;clear hS;intro w hS|refine K3 ?_;clear hS;intro g w hS hge|refine KC ?_ ?_<;>intro hb<;>try exact JX|fail
  refine cQ (yaz c a s b (⟨12,tk,-1,-1,-1,0,0,0,V⟩:En) _ _ _ hS (hr.app [_,_,_,_,_]) hv hs (hq.ap [_,_,_,_,_]) hc (.inr (.inr (.inr rfl)))) rfl ?_;clear hS;rintro e w ⟨er,rfl,hS⟩;refine ⟨_,rfl,?_⟩
  by_cases h0:er=0
  ·refine sQ ?_;intro w hS;refine Dct Tryz.results25 ?_;exact ⟨(⟨12,tk,-1,-1,-1,0,0,0,V⟩:En),5,rfl,.inr (.inr rfl),hS.sb⟩
  ·refine sQ ?_;intro w hS;refine Dct Tryz.results25 ?_;exact ⟨⟨0,0,0,0,0,0,0,0,0⟩,4,rfl,.inl rfl,hS.sb⟩
theorem ygc (V k0:Int) (c:Cfg) (s:Sta) (b:SAd) (r:World) (F:List Res) (w:World) (hS:Sep r [] F w) (hv:CfgV c) (hI:Inv V k0 c s) (hk:0≤k0∧k0 < 7) (hq:StC r F s c b) :
  Calls Tryz.prog 27 #[s.vc c b] w fun e w'=>e=.returned (.bool true)∧Sep r [] F w':=by
 have hs:=hI.ok;have hun:=hI.unp2;have htl:=hv.ok.t;have hstl:=hs.tl;have hor:=yhQ hk;refine Z.enter Tryz.func27 Tryz.ntmps27 rfl rfl ?_;refine aQ1 ?_;intro gs w hS;refine cQ (ycv c s b _ _ _ hS (hq.ap [_]) hv hs) rfl ?_;clear hS;rintro e w ⟨A,cap,rfl,hul,hS⟩;refine ⟨_,rfl,?_⟩;generalize unpP s=x at *;refine sQ ?_;intro w hS;refine Z.lpS [3,5,10,11,12,13,14,15,16,17,18,19,20,21,22,23,24] (fun m w z=>∃ (i:Nat) (M:Int),z=[(3,.int .i64 M),(5,.int .i64 i)]∧i≤x.length∧((i=0→M=0)∧(M=0∨M=2 ^ k0.toNat))∧m=x.length - i∧Sep r [] (.sl 3 1 (.slice A x.length cap) (x.map ztC)::.blk gs 69 (s.cc c b)::F) w) _ [(3,.int .i64 0),(5,.int .i64 (0:Nat))] TrF ⟨0,0,rfl,oM,⟨fun _=>rfl,.inl rfl⟩,rfl,hS.sb⟩ ?_;clear hS;rintro m f0 w _ ⟨i,M,rfl,hi,hM,rfl,hS⟩
 by_cases hlt:i < x.length
 ·have hx:x=[k0]:=by
   rcases hun with h|h
   ·subst h;exact absurd hlt (by simp)
   ·exact h
  subst hx;have hi0:i=0:=by simpa using hlt
  subst hi0;obtain ⟨gx,ox,hxe,_,hrx⟩:=(hS.slrows (e:=3) (v:=.slice A [k0].length cap) AtF).mat oM (q:=0) (by simp);subst hxe;have hra2:w.rangeAt gx (ox+0 * 1) (ztC k0):=by simpa using hrx
  clear hrx;have hu:=ycw (modM k0 62);obtain rfl:M=0:=hM.1 rfl;refine sQ ?_;intro w hS;refine cQ (yau k0 62 _ _ _ hS oM oM) rfl ?_;clear hS;rintro e w ⟨rfl,hS⟩;refine eQ ?_;intro w hS;rw [hor];refine Sh.again ([k0].length - (0+1)) [(3,_),(5,.int .i64 (0+1:Nat))] ?_;exact ⟨0+1,_,rfl,by simp,⟨fun h=>absurd h oM,.inr rfl⟩,rfl,hS.sb⟩
 have hM2:M=0∨M=2 ^ k0.toNat:=hM.2;clear hM hor hun;refine sQ ?_;intro w hS;refine Z.lpS [2,6,7,25,26,27,28,29,30,31,32,33,34,35,36,37,38,39,40,41,42,43,44,45,46,47,48,49,50] (fun m w z=>∃ j:Nat,z=[(6,.int .i64 j)]∧j≤s.tenants.length∧m=s.tenants.length - j∧Sep r [] (.sl 3 1 (.slice A x.length cap) (x.map ztC)::.blk gs 69 (s.cc c b)::F) w) _ [(6,.int .i64 (0:Nat))] TrF ⟨0,rfl,oM,rfl,hS.sb⟩ ?_;clear hS;rintro m f1 w _ ⟨j,rfl,hj,rfl,hS⟩
 by_cases hjl:j < s.tenants.length
 rotate_left
 ·refine sQ ?_;intro w hS;refine Dnt Tryz.results27 ?_;exact ⟨rfl,hS.sb⟩
 obtain ⟨gb,o,hA,hra⟩:=yax (hq.str hs) [_,_] hS hjl;have hsp:=yf4 hs hk hM2 (List.getElem_mem hjl);generalize s.tenants[j]=y at *;obtain ⟨pl,y1,ho,sb,y2,y3,y4,y5,y6,y7,y8,y9⟩:=y;simp only at hsp;obtain ⟨sA,sc,qA,qc⟩:=b;simp only at hA;subst hA
 cases pl
 ·repeat' first|refine K ?_|refine Sa ?_;clear hS;intro w hS|refine K3 ?_;clear hS;intro g w hS hge|refine KC ?_ ?_<;>intro hb<;>try exact JX|fail
  refine Sh.again (s.tenants.length - (j+1)) [(6,.int .i64 (j+1:Nat))] ?_;exact ⟨j+1,rfl,oM,rfl,hS.sb⟩
 repeat' first|refine K ?_|refine Sa ?_;clear hS;intro w hS|refine K3 ?_;clear hS;intro g w hS hge|refine KC ?_ ?_<;>intro hb<;>try exact JX|fail
 refine cQ (yd0 M ho _ _ _ hS) rfl ?_;clear hS;rintro e w ⟨rfl,hS⟩;refine ⟨_,rfl,?_⟩
 cases h1:has4 M ho with
 | false=>
  refine sQ ?_;intro w hS;refine Sh.again (s.tenants.length - (j+1)) [(6,.int .i64 (j+1:Nat))] ?_;exact ⟨j+1,rfl,oM,rfl,hS.sb⟩
 | true=>
  refine sQ ?_;intro w hS;refine cQ (yd0 M sb _ _ _ hS) rfl ?_;clear hS;rintro e w ⟨rfl,hS⟩;refine ⟨_,rfl,?_⟩
  cases h2:has4 M sb with
  | true=>exact absurd ⟨h1,h2⟩ hsp
  | false=>
   refine sQ ?_;intro w hS;refine Sh.again (s.tenants.length - (j+1)) [(6,.int .i64 (j+1:Nat))] ?_;exact ⟨j+1,rfl,oM,rfl,hS.sb⟩
end Go.Proofs.YtfmnjbhncnldmaaGreat
