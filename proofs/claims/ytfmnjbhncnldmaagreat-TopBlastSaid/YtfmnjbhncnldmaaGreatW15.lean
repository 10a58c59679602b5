import Derived.Test.YtfmnjbhncnldmaaGreatW03
import Derived.Test.YtfmnjbhncnldmaaGreatW12
import Derived.Test.YtfmnjbhncnldmaaGreatW14
set_option maxHeartbeats 4000000
set_option linter.unusedSimpArgs false
set_option linter.unusedVariables false
namespace Go.Proofs.YtfmnjbhncnldmaaGreat
open Go.RowKit
attribute [local irreducible] Res.blk Res.sl Res.all Res.ex Res.pure Res.star
theorem en_clone (l:List En) (v:Value) (r:World) (F:List Res) (w:World) (hS:Sep r [] F w) (hrd:Reads r F 9 v (l.map En.cells)) (hl:l.length≤100000) :
  Calls Tryz.prog 205 #[v] w fun e w'=>∃ A c,e=.returned (.slice A l.length c)∧Sep r [] (.sl 63 9 (.slice A l.length c) (l.map En.cells)::F) w':=by
 obtain ⟨_,A,c,hv,hnil,hc,_⟩:=hrd [] w hS;simp only [List.length_map] at hv hc;subst hv
 cases A with
 | none=>
  have hl0:l=[]:=by have:=hnil rfl;exact List.eq_nil_of_length_eq_zero oM
  subst hl0;refine Z.enter Tryz.func205 Tryz.ntmps205 rfl rfl ?_;refine sQ ?_;intro w hS;refine Dnt Tryz.results205 ?_;exact ⟨none,0,rfl,Z.nilsl hS _ _ none⟩
 | some a=>
  refine Z.enter Tryz.func205 Tryz.ntmps205 rfl rfl ?_
  repeat' first|refine K ?_|refine Sa ?_;intro w hS|refine K3 ?_;intro g w hS hge|refine KC ?_ ?_<;>intro hb<;>try exact JX|fail
  refine Z.eff (Z.ap0m hS rfl rfl rfl (hrd [_] _ hS) LnF LnF ?_) rfl;clear hS;intro A' c' w hS;refine sQ ?_;intro w hS;refine Dnt Tryz.results205 ?_;exact ⟨_,_,rfl,hS.sb⟩
section
variable (gq gp gj n:Nat) (t v:Int) (log:List Lg) (com:List En) (ro vo nx:Int) (A Ad:Option Addr) (c dc:Nat) (r:World) (F:List Res) (w:World) (hS:Sep r [] (.blk gq 248 [.slice A 1 c,(.slice none 0 0),.slice Ad com.length dc]::.sl 249 1 (.slice A 1 c) ([gp].map ptC)::.sl 63 9 (.slice Ad com.length dc) (com.map En.cells)::JN gj t v log n::.blk gp 331 (rpC gj ro log.length vo nx)::F) w)
include hS
theorem yen (hl:log.length≤5000) (hcl:com.length≤log.length) (hce:com.length=log.length→com=log.map Lg.e) :
  Calls Tryz.prog 236 #[.pointer (some ⟨gq,0,none⟩)] w fun e w'=>∃ (Ad2:Option Addr) (dc2:Nat),e=.returned (.tuple #[])∧Sep r [] (.blk gq 248 [.slice A 1 c,(.slice none 0 0),.slice Ad2 log.length dc2]::.sl 249 1 (.slice A 1 c) ([gp].map ptC)::.sl 63 9 (.slice Ad2 log.length dc2) ((log.map Lg.e).map En.cells)::JN gj t v log n::.blk gp 331 (rpC gj ro log.length vo nx)::F) w':=by
 refine Z.enter Tryz.func236 Tryz.ntmps236 rfl rfl ?_;refine sQ ?_;intro w hS;refine Z.lpS [3,4,6,12,13,14,15,16,17,18,19,20,21,22,23,24,25,26,27,28,29,30,31,32,33,34,35,36,37,38,39,40,41,42,43,44,45,46,47] (fun m w z=>∃ (i:Nat),z=[(12,.int .i64 i)]∧i≤1∧m=1 - i∧((i=0∧Sep r [] (.blk gq 248 [.slice A 1 c,(.slice none 0 0),.slice Ad com.length dc]::.sl 249 1 (.slice A 1 c) ([gp].map ptC)::.sl 63 9 (.slice Ad com.length dc) (com.map En.cells)::JN gj t v log n::.blk gp 331 (rpC gj ro log.length vo nx)::F) w)∨(i=1∧∃ (Ad2:Option Addr) (dc2:Nat),Sep r [] (.blk gq 248 [.slice A 1 c,(.slice none 0 0),.slice Ad2 log.length dc2]::.sl 249 1 (.slice A 1 c) ([gp].map ptC)::.sl 63 9 (.slice Ad2 log.length dc2) ((log.map Lg.e).map En.cells)::JN gj t v log n::.blk gp 331 (rpC gj ro log.length vo nx)::F) w))) _ [(12,.int .i64 (0:Nat))] TrF ⟨0,rfl,oM,rfl,.inl ⟨rfl,hS⟩⟩ ?_;clear hS;rintro m f0 w _ ⟨i,rfl,hi,rfl,⟨rfl,hS⟩|⟨rfl,Ad2,dc2,hS⟩⟩
 ·obtain ⟨ga,oa,hAe,_,hra⟩:=(hS.slrows (e:=249) (v:=.slice A 1 c) AtF).mat (by simp) (q:=0) (by simp);subst hAe;have hra2:w.rangeAt ga (oa+0 * 1) (ptC gp):=by simpa using hra
  clear hra;refine sQ ?_;intro w hS;refine D.startS (Lr:=[.blk gq 248 [.slice (some ⟨ga,oa,none⟩) 1 c,(.slice none 0 0),.slice Ad com.length dc]]) (hS.sb) 8 8 kR rfl ?_;replace hS:=hS.drew;refine Sh.dp 0 1 ?_;refine Sh.dp 2 5 ?_;refine Sh.dp 3 13 ?_;refine Sh.dp 4 29 ?_;refine Sh.dl 5 61 ?_;refine Sh.dp 6 125 ?_;refine D.ef 1 127 ?_;refine dQ (yaT gp gj n t v log ro log.length vo nx _ _ _ ((hS.fo (R:=.blk gp 331 (rpC gj ro log.length vo nx))).fo (R:=JN gj t v log n))) ?_;intro w hS;refine Sh.dp 7 255 ?_;refine D.dn ?_
  repeat' first|refine K ?_|refine Sa ?_;intro w hS|refine K3 ?_;intro g w hS hge|refine KC ?_ ?_<;>intro hb<;>try exact JX|fail
  ·refine Sh.again (0) [(12,.int .i64 (1:Nat))] ?_;have he:=hce oM;rw [← he];rw [show log.length=com.length by omega];exact ⟨1,rfl,oM,rfl,.inr ⟨rfl,Ad,dc,by rw [show com.length=log.length by omega] at hS ⊢;exact hS.sb⟩⟩
  refine rQ (yaT gp gj n t v log ro log.length vo nx _ _ _ hS) ?_;intro w hS;refine Z.eff (Z.mks (l:=0) (c:=log.length) hS rfl rfl rfl (Nat.zero_le _) (by show 72 * log.length≤281474976710656;omega) (by unfold maxLen;omega) ?_) rfl;clear hS;intro gz w hS _;replace hS:=ybn (sz:=9) (c:=log.length) hS (by unfold maxLen;omega) (by rw [zerosL_ln];rfl);refine sQ ?_;intro w hS;refine cQ (yfW gp gj n t v log ro log.length vo nx _ _ _ ((hS.fo (R:=.blk gp 331 (rpC gj ro log.length vo nx))).fo (R:=JN gj t v log n)) hl) rfl ?_;clear hS;rintro e w ⟨Al,cl,rfl,hS⟩;refine ⟨_,rfl,?_⟩;have hlcl:log.length≤cl:=by
   obtain ⟨_,_,e1,e2⟩:=(hS.slrows (e:=345) (v:=.slice Al log.length cl) .here).mform
   injection e1 with _ _ e3
   subst e3
   simpa using e2
  refine sQ ?_;intro w hS;refine rQ (yaT gp gj n t v log ro log.length vo nx _ _ _ ((hS.fo (R:=.blk gp 331 (rpC gj ro log.length vo nx))).fo (R:=JN gj t v log n))) ?_;intro w hS;refine Z.lpS [4,6,33,34,35,36,37,38,39,40,41,42] (fun m w z=>∃ (i:Nat) (o:List En) (Ae:Option Addr) (ce:Nat),z=[(4,.slice Ae o.length ce),(33,.int .i64 i)]∧i≤log.length∧o=(log.take i).map Lg.e∧m=log.length - i∧Sep r [] (.sl 63 9 (.slice Ae o.length ce) (o.map En.cells)::.sl 345 10 (.slice Al log.length cl) (log.map Lg.cells)::.blk gq 248 [.slice (some ⟨ga,oa,none⟩) 1 c,(.slice none 0 0),.slice Ad com.length dc]::.sl 249 1 (.slice (some ⟨ga,oa,none⟩) 1 c) ([gp].map ptC)::JN gj t v log n::.blk gp 331 (rpC gj ro log.length vo nx)::F) w) _ [(4,.slice (some ⟨gz,0,none⟩) 0 log.length),(33,.int .i64 (0:Nat))] TrF ⟨0,[],_,_,rfl,oM,by simp,rfl,hS.sb⟩ ?_;clear hS;rintro m f1 w _ ⟨i,o,Ae,ce,rfl,hi,ho,rfl,hS⟩;have hol:o.length=i:=by rw [ho];simp;omega
  by_cases hlt:i < log.length
  ·obtain ⟨gl,ol,hAl,_,hrl⟩:=(hS.slrows (e:=345) (v:=.slice Al log.length cl) AtF).mat oM (q:=i) (by simpa using hlt);subst hAl;have hrl2:w.rangeAt gl (ol+i * 10) log[i].cells:=by simpa using hrl
   clear hrl;have hsucc:(log.take (i+1)).map Lg.e=o++[log[i].e]:=by rw [List.take_succ_eq_append_getElem hlt,List.map_append,← ho];rfl
   generalize log[i]=x at *
   repeat' first|refine K ?_|refine Sa ?_;intro w hS|refine K3 ?_;intro g w hS hge|refine KC ?_ ?_<;>intro hb<;>try exact JX|fail
   refine Z.eff (Z.apm (fc:=En.cells) (l:=o) (l':=[x.e]) hS rfl rfl rfl AtF (hS.lit1 AtF rfl rfl) LnF LnF ?_) rfl;clear hS;intro A2 c2 w hS;rw [← List.length_append] at hS ⊢;refine sQ ?_;intro w hS;refine Sh.again (log.length - (i+1)) [(4,_),(33,.int .i64 (i+1:Nat))] ?_;exact ⟨i+1,o++[x.e],A2,c2,rfl,oM,hsucc.symm,rfl,hS.sb⟩
  ·obtain rfl:i=log.length:=by omega
   rw [List.take_length] at ho;subst ho;rw [hol] at hS ⊢;refine sQ ?_;intro w hS;refine Sh.again (0) [(12,.int .i64 (1:Nat))] ?_;exact ⟨1,rfl,oM,rfl,.inr ⟨rfl,Ae,ce,hS.sb⟩⟩
 ·refine sQ ?_;intro w hS;refine Dn Tryz.results236 ?_;exact ⟨Ad2,dc2,rfl,hS⟩
theorem yiU (hl:log.length≤5000) :
  Calls Tryz.prog 239 #[.pointer (some ⟨gq,0,none⟩),.int .i64 0] w fun e w'=>∃ (Al:Option Addr) (cl:Nat),e=.returned (.slice Al log.length cl)∧Sep r [] (.sl 345 10 (.slice Al log.length cl) (log.map Lg.cells)::(.blk gq 248 [.slice A 1 c,(.slice none 0 0),.slice Ad com.length dc]::.sl 249 1 (.slice A 1 c) ([gp].map ptC)::.sl 63 9 (.slice Ad com.length dc) (com.map En.cells)::JN gj t v log n::.blk gp 331 (rpC gj ro log.length vo nx)::F)) w':=by
 refine Z.enter Tryz.func239 Tryz.ntmps239 rfl rfl ?_;refine sQ ?_;intro w hS;refine cQ (yb6 gq gp A Ad c com.length dc _ _ _ hS 0) rfl ?_;clear hS;rintro e w ⟨rfl,hS⟩;refine ⟨_,rfl,?_⟩;obtain ⟨ga,oa,hAe,_,hra⟩:=(hS.slrows (e:=249) (v:=.slice A 1 c) AtF).mat (by simp) (q:=0) (by simp);subst hAe;have hra2:w.rangeAt ga (oa+0 * 1) (ptC gp):=by simpa using hra
 clear hra;refine sQ ?_;intro w hS;refine cQ (yfW gp gj n t v log ro log.length vo nx _ _ _ ((hS.fo (R:=.blk gp 331 (rpC gj ro log.length vo nx))).fo (R:=JN gj t v log n)) hl) rfl ?_;clear hS;rintro e w ⟨Al,cl,rfl,hS⟩;refine eQ ?_;intro w hS;refine Dnt Tryz.results239 ?_;exact ⟨Al,cl,rfl,hS.sb⟩
theorem ydq (hl:com.length≤5000) :
  Calls Tryz.prog 111 #[.pointer (some ⟨gq,0,none⟩)] w fun e w'=>∃ (Al:Option Addr) (cl:Nat),e=.returned (.slice Al com.length cl)∧Sep r [] (.sl 63 9 (.slice Al com.length cl) (com.map En.cells)::(.blk gq 248 [.slice A 1 c,(.slice none 0 0),.slice Ad com.length dc]::.sl 249 1 (.slice A 1 c) ([gp].map ptC)::.sl 63 9 (.slice Ad com.length dc) (com.map En.cells)::JN gj t v log n::.blk gp 331 (rpC gj ro log.length vo nx)::F)) w':=by
 refine Z.enter Tryz.func111 Tryz.ntmps111 rfl rfl ?_;refine sQ ?_;intro w hS;refine cQ (en_clone com _ _ _ _ hS (Reads.of_at (e:=63) (v:=.slice Ad com.length dc) AtF) oM) rfl ?_;clear hS;rintro e w ⟨Al,cl,rfl,hS⟩;refine eQ ?_;intro w hS;refine Dnt Tryz.results111 ?_;exact ⟨Al,cl,rfl,hS.sb⟩
theorem yg4 (up:Int):Calls Tryz.prog 151 #[.pointer (some ⟨gq,0,none⟩),.int .i64 up] w fun e w'=>e=.returned (.int .i64 0)∧Sep r [] (.blk gq 248 [.slice A 1 c,(.slice none 0 0),.slice Ad com.length dc]::.sl 249 1 (.slice A 1 c) ([gp].map ptC)::.sl 63 9 (.slice Ad com.length dc) (com.map En.cells)::JN gj t v log n::.blk gp 331 (rpC gj ro log.length vo nx)::F) w':=by
 refine Z.enter Tryz.func151 Tryz.ntmps151 rfl rfl ?_;refine sQ ?_;intro w hS;refine Z.lpS [5,6,7,8,9,10,11,12,13,14,15,16,17,18,19,20,21,22,23,24,25,26,27,28,29,30,31,32,33,34,35,36,37,38,39,40,41,42,43,44,45,46,47,48,49,50,51,52,53,54,55,56] (fun m w z=>z=[(5,.int .i64 0)]∧Sep r [] (.blk gq 248 [.slice A 1 c,(.slice none 0 0),.slice Ad com.length dc]::.sl 249 1 (.slice A 1 c) ([gp].map ptC)::.sl 63 9 (.slice Ad com.length dc) (com.map En.cells)::JN gj t v log n::.blk gp 331 (rpC gj ro log.length vo nx)::F) w) 0 [(5,.int .i64 0)] TrF ⟨rfl,hS⟩ ?_;clear hS;rintro m f0 w _ ⟨rfl,hS⟩;refine sQ ?_;intro w hS;refine Dnt Tryz.results151 ?_;exact ⟨rfl,hS⟩
end
structure QP1 where
 gp:Nat
 gj:Nat
 v:Int
 vo:Int
 nx:Int
 A:Option Addr
 c:Nat
 Ad:Option Addr
 dc:Nat
def Q1R (gq:Nat) (ro t:Int) (log:List Lg) (n:Nat) (p:QP1):List Res:=
 [.blk gq 248 [.slice p.A 1 p.c,(.slice none 0 0),.slice p.Ad (log.map Lg.e).length p.dc],.sl 249 1 (.slice p.A 1 p.c) ([p.gp].map ptC),.sl 63 9 (.slice p.Ad (log.map Lg.e).length p.dc) ((log.map Lg.e).map En.cells),JN p.gj t p.v log n,.blk p.gp 331 (rpC p.gj ro log.length p.vo p.nx)]
def Q1 (gq:Nat) (ro t:Int) (log:List Lg) (n:Nat):Res:=.ex fun p:QP1=>.all (Q1R gq ro t log n p)
theorem Sep.Q1_open {r w:World} {M:List Nat} {F:List Res} {gq:Nat} {ro t:Int} {log:List Lg} {n:Nat}:Sep r M (Q1 gq ro t log n::F) w↔∃ p,Sep r M (Q1R gq ro t log n p++F) w:=by
 simp only [Q1,Sep.ex_open,Sep.all_open]
section
variable (gq n:Nat) (ro t:Int) (log:List Lg) (r:World) (F:List Res) (w:World) (hS:Sep r [] (Q1 gq ro t log n::F) w)
include hS
theorem yiS (e:En) (ht:0≤t∧t < 1073741824) (hn:n≤1000000000) (hl:log.length≤5000) :
  Calls Tryz.prog 150 #[.pointer (some ⟨gq,0,none⟩),.agg (acC 1 0 e).toArray] w fun x w'=>x=.returned (.int .i64 0)∧Sep r [] (Q1 gq 3 (t+1) log (n+48)::F) w':=by
 obtain ⟨⟨gp,gj,v,vo,nx,A,c,Ad,dc⟩,hS⟩:=Sep.Q1_open.1 hS;simp only [Q1R,List.cons_append,List.nil_append] at hS;have hl2:(log.map Lg.e).length=log.length:=by simp
 refine Z.enter Tryz.func150 Tryz.ntmps150 rfl rfl ?_;refine aQ1 ?_;intro gb w hS;refine cQ (yeo gq gp A Ad c _ dc _ _ _ ((hS.fo (R:=.sl 249 1 (.slice A 1 c) ([gp].map ptC))).fo (R:=.blk gq 248 [.slice A 1 c,(.slice none 0 0),.slice Ad (log.map Lg.e).length dc])) 1 e (.inl rfl)) rfl ?_;clear hS;rintro e w ⟨rfl,hS⟩;refine ⟨_,rfl,?_⟩;obtain ⟨ga,oa,hAe,_,hra⟩:=(hS.slrows (e:=249) (v:=.slice A 1 c) AtF).mat (by simp) (q:=0) (by simp);subst hAe;have hra2:w.rangeAt ga (oa+0 * 1) (ptC gp):=by simpa using hra
 clear hra;refine sQ ?_;intro w hS;refine D.startS (Lr:=[.blk gq 248 [.slice (some ⟨ga,oa,none⟩) 1 c,(.slice none 0 0),.slice Ad (log.map Lg.e).length dc],.sl 249 1 (.slice (some ⟨ga,oa,none⟩) 1 c) ([gp].map ptC),.blk gb 269 (acC 1 0 e)]) (hS.sb) 11 11 kR rfl ?_;replace hS:=hS.drew;refine Sh.dp 0 1 ?_;refine Sh.dp 1 3 ?_;refine Sh.dp 2 7 ?_;refine Sh.dp 3 15 ?_;refine Sh.dp 5 47 ?_;refine Sh.dl 4 63 ?_;refine Sh.dl 6 127 ?_
 first|refine D.ixn 7 255 rfl D.wantedN kR rfl rfl rfl oM ?_|refine D.ix 7 255 rfl D.wantedN kR rfl rfl rfl oM ?_|refine D.ia 7 255 rfl D.wantedN kR rfl rfl rfl oM ?_
 refine D.ldR 8 511 rfl D.wantedN kR rfl (fun W h=>by have h1:=(h.slrows (e:=249) (v:=.slice (some ⟨ga,oa,none⟩) 1 c) AtF).elem (q:=0) oM (by simp);simpa using h1) rfl ?_;refine D.ef 9 1023 ?_;refine dQ (ydI gp gj n t v log ro log.length vo nx _ _ _ ((hS.fo (R:=.blk gp 331 (rpC gj ro log.length vo nx))).fo (R:=JN gj t v log n)) ht hn) ?_;intro w hS;refine D.ef 10 2047 ?_;refine dQ (yep gq gp (some ⟨ga,oa,none⟩) Ad c _ dc _ _ _ ((hS.fo (R:=.sl 249 1 (.slice (some ⟨ga,oa,none⟩) 1 c) ([gp].map ptC))).fo (R:=.blk gq 248 [.slice (some ⟨ga,oa,none⟩) 1 c,(.slice none 0 0),.slice Ad (log.map Lg.e).length dc]))) ?_;intro w hS;refine D.dn ?_;refine sQ ?_;intro w hS;refine cQ (yen gq gp gj (n+48) (t+1) 0 log (log.map Lg.e) 3 1 log.length (some ⟨ga,oa,none⟩) Ad c dc _ _ _ (hS.sub (L':=.blk gq 248 [.slice (some ⟨ga,oa,none⟩) 1 c,(.slice none 0 0),.slice Ad (log.map Lg.e).length dc]::.sl 249 1 (.slice (some ⟨ga,oa,none⟩) 1 c) ([gp].map ptC)::.sl 63 9 (.slice Ad (log.map Lg.e).length dc) ((log.map Lg.e).map En.cells)::JN gj (t+1) 0 log (n+48)::.blk gp 331 (rpC gj 3 log.length 1 log.length)::F) SuF) hl oM (fun _=>rfl)) rfl ?_;clear hS;rintro e w ⟨Ad2,dc2,rfl,hS⟩;refine eQ ?_;intro w hS;refine Dnt Tryz.results150 ?_;refine ⟨rfl,Sep.Q1_open.2 ⟨⟨gp,gj,0,1,log.length,some ⟨ga,oa,none⟩,c,Ad2,dc2⟩,?_⟩⟩;simp only [Q1R,List.cons_append,List.nil_append];rw [hl2];exact hS.sb
theorem yiT (e:En) (he:e.i64) (h3:ro=3) (h1:1≤t∧t≤1073741824) (h2:shapeP e=true) (h4:(lgAt log (log.length - 1)).term≤t) (h5:log.length < 4096) (hn:n≤1000000000) :
  Calls Tryz.prog 150 #[.pointer (some ⟨gq,0,none⟩),.agg (acC 2 0 e).toArray] w fun x w'=>x=.returned (.int .i64 0)∧Sep r [] (Q1 gq 3 t (log++[⟨t,e⟩]) (n+128)::F) w':=by
 subst h3;obtain ⟨⟨gp,gj,v,vo,nx,A,c,Ad,dc⟩,hS⟩:=Sep.Q1_open.1 hS;simp only [Q1R,List.cons_append,List.nil_append] at hS;have hl2:∀ l:List Lg,(l.map Lg.e).length=l.length:=fun l=>by simp
 have hl3:((log++[(⟨t,e⟩:Lg)]).length:Int)=log.length+1:=by simp
 refine Z.enter Tryz.func150 Tryz.ntmps150 rfl rfl ?_;refine aQ1 ?_;intro gb w hS;refine cQ (yeo gq gp A Ad c _ dc _ _ _ ((hS.fo (R:=.sl 249 1 (.slice A 1 c) ([gp].map ptC))).fo (R:=.blk gq 248 [.slice A 1 c,(.slice none 0 0),.slice Ad (log.map Lg.e).length dc])) 2 e (.inr rfl)) rfl ?_;clear hS;rintro e w ⟨rfl,hS⟩;refine ⟨_,rfl,?_⟩;obtain ⟨ga,oa,hAe,_,hra⟩:=(hS.slrows (e:=249) (v:=.slice A 1 c) AtF).mat (by simp) (q:=0) (by simp);subst hAe;have hra2:w.rangeAt ga (oa+0 * 1) (ptC gp):=by simpa using hra
 clear hra;refine sQ ?_;intro w hS;refine D.startS (Lr:=[.blk gq 248 [.slice (some ⟨ga,oa,none⟩) 1 c,(.slice none 0 0),.slice Ad (log.map Lg.e).length dc],.sl 249 1 (.slice (some ⟨ga,oa,none⟩) 1 c) ([gp].map ptC),.blk gb 269 (acC 2 0 e)]) (hS.sb) 16 16 kR rfl ?_;replace hS:=hS.drew;refine Sh.dp 0 1 ?_;refine Sh.dp 1 3 ?_;refine Sh.dp 2 7 ?_;refine Sh.dp 4 23 ?_;refine Sh.dp 8 279 ?_;refine Sh.dl 3 287 ?_;refine Sh.dl 5 319 ?_
 first|refine D.ixn 6 383 rfl D.wantedN kR rfl rfl rfl oM ?_|refine D.ix 6 383 rfl D.wantedN kR rfl rfl rfl oM ?_|refine D.ia 6 383 rfl D.wantedN kR rfl rfl rfl oM ?_
 refine D.ldR 7 511 rfl D.wantedN kR rfl (fun W h=>by have h1:=(h.slrows (e:=249) (v:=.slice (some ⟨ga,oa,none⟩) 1 c) AtF).elem (q:=0) oM (by simp);simpa using h1) rfl ?_;refine Sh.dl 9 1023 ?_;refine D.ef 10 2047 ?_;refine Z.cl (yeY gp gj n t v log 3 log.length vo nx _ _ _ ((hS.fo (R:=.blk gp 331 (rpC gj 3 log.length vo nx))).fo (R:=JN gj t v log n)) e he rfl h1 h2 h4 h5 oM hn) rfl ?_;clear hS;rintro e w ⟨rfl,hS⟩;refine ⟨_,rfl,?_⟩;refine HMs ?_;refine Sh.dp 11 4095 ?_;refine Sh.dp 12 8191 ?_;refine Sh.dp 13 16383 ?_;refine Sh.dp 14 32767 ?_;refine Sh.dp 15 65535 ?_;refine D.dn ?_;rw [← hl3] at hS;refine sQ ?_;intro w hS;refine rQ (yep gq gp (some ⟨ga,oa,none⟩) Ad c _ dc _ _ _ ((hS.fo (R:=.sl 249 1 (.slice (some ⟨ga,oa,none⟩) 1 c) ([gp].map ptC))).fo (R:=.blk gq 248 [.slice (some ⟨ga,oa,none⟩) 1 c,(.slice none 0 0),.slice Ad (log.map Lg.e).length dc]))) ?_;intro w hS;refine cQ (yen gq gp gj (n+128) t v (log++[⟨t,e⟩]) (log.map Lg.e) 3 vo nx (some ⟨ga,oa,none⟩) Ad c dc _ _ _ (hS.sub (L':=.blk gq 248 [.slice (some ⟨ga,oa,none⟩) 1 c,(.slice none 0 0),.slice Ad (log.map Lg.e).length dc]::.sl 249 1 (.slice (some ⟨ga,oa,none⟩) 1 c) ([gp].map ptC)::.sl 63 9 (.slice Ad (log.map Lg.e).length dc) ((log.map Lg.e).map En.cells)::JN gj t v (log++[⟨t,e⟩]) (n+128)::.blk gp 331 (rpC gj 3 (log++[(⟨t,e⟩:Lg)]).length vo nx)::F) SuF) (by simp;omega) (by simp) (fun h=>by simp at h)) rfl ?_;clear hS;rintro e w ⟨Ad2,dc2,rfl,hS⟩;refine eQ ?_;intro w hS;refine Dnt Tryz.results150 ?_;refine ⟨rfl,Sep.Q1_open.2 ⟨⟨gp,gj,v,vo,nx,some ⟨ga,oa,none⟩,c,Ad2,dc2⟩,?_⟩⟩;simp only [Q1R,List.cons_append,List.nil_append];rw [hl2];exact hS.sb
theorem yeR:Calls Tryz.prog 148 #[.pointer (some ⟨gq,0,none⟩)] w fun e w'=>e=.returned (.int .i64 (if ro=3 then 0 else -1))∧Sep r [] (Q1 gq ro t log n::F) w':=by
 obtain ⟨⟨gp,gj,v,vo,nx,A,c,Ad,dc⟩,hS⟩:=Sep.Q1_open.1 hS;refine (yfV gq gp gj n t v log ro log.length vo nx A Ad c (log.map Lg.e).length dc r (.sl 63 9 (.slice Ad (log.map Lg.e).length dc) ((log.map Lg.e).map En.cells)::F) w (hS.sb)).mono fun x w' ⟨hx,hS⟩=>⟨hx,Sep.Q1_open.2 ⟨⟨gp,gj,v,vo,nx,A,c,Ad,dc⟩,hS.sb⟩⟩
theorem yeP:Calls Tryz.prog 152 #[.pointer (some ⟨gq,0,none⟩),.int .i64 0] w fun e w'=>e=.returned (.int .i64 (log.length:Nat))∧Sep r [] (Q1 gq ro t log n::F) w':=by
 obtain ⟨⟨gp,gj,v,vo,nx,A,c,Ad,dc⟩,hS⟩:=Sep.Q1_open.1 hS;refine (yfU gq gp gj n t v log ro log.length vo nx A Ad c (log.map Lg.e).length dc r (.sl 63 9 (.slice Ad (log.map Lg.e).length dc) ((log.map Lg.e).map En.cells)::F) w (hS.sb)).mono fun x w' ⟨hx,hS⟩=>⟨hx,Sep.Q1_open.2 ⟨⟨gp,gj,v,vo,nx,A,c,Ad,dc⟩,hS.sb⟩⟩
theorem yia (hl:log.length≤5000):Calls Tryz.prog 239 #[.pointer (some ⟨gq,0,none⟩),.int .i64 0] w fun e w'=>∃ (Al:Option Addr) (cl:Nat),e=.returned (.slice Al log.length cl)∧Sep r [] (.sl 345 10 (.slice Al log.length cl) (log.map Lg.cells)::Q1 gq ro t log n::F) w':=by
 obtain ⟨⟨gp,gj,v,vo,nx,A,c,Ad,dc⟩,hS⟩:=Sep.Q1_open.1 hS;refine (yiU gq gp gj n t v log (log.map Lg.e) ro vo nx A Ad c dc r F w (hS.sb) hl).mono fun x w' ⟨Al,cl,hx,hS⟩=>⟨Al,cl,hx,?_⟩
 refine Sep.sub (L:=Q1 gq ro t log n::.sl 345 10 (.slice Al log.length cl) (log.map Lg.cells)::F) (Sep.Q1_open.2 ⟨⟨gp,gj,v,vo,nx,A,c,Ad,dc⟩,?_⟩) SuF;simp only [Q1R,List.cons_append,List.nil_append];exact hS.sb
theorem ycU (hl:log.length≤5000):Calls Tryz.prog 111 #[.pointer (some ⟨gq,0,none⟩)] w fun e w'=>∃ (Al:Option Addr) (cl:Nat),e=.returned (.slice Al (log.map Lg.e).length cl)∧Sep r [] (.sl 63 9 (.slice Al (log.map Lg.e).length cl) ((log.map Lg.e).map En.cells)::Q1 gq ro t log n::F) w':=by
 obtain ⟨⟨gp,gj,v,vo,nx,A,c,Ad,dc⟩,hS⟩:=Sep.Q1_open.1 hS;refine (ydq gq gp gj n t v log (log.map Lg.e) ro vo nx A Ad c dc r F w (hS.sb) (by simpa using hl)).mono fun x w' ⟨Al,cl,hx,hS⟩=>⟨Al,cl,hx,?_⟩
 refine Sep.sub (L:=Q1 gq ro t log n::.sl 63 9 (.slice Al (log.map Lg.e).length cl) ((log.map Lg.e).map En.cells)::F) (Sep.Q1_open.2 ⟨⟨gp,gj,v,vo,nx,A,c,Ad,dc⟩,?_⟩) SuF;simp only [Q1R,List.cons_append,List.nil_append];exact hS.sb
theorem ycI (up:Int):Calls Tryz.prog 151 #[.pointer (some ⟨gq,0,none⟩),.int .i64 up] w fun e w'=>e=.returned (.int .i64 0)∧Sep r [] (Q1 gq ro t log n::F) w':=by
 obtain ⟨⟨gp,gj,v,vo,nx,A,c,Ad,dc⟩,hS⟩:=Sep.Q1_open.1 hS;refine (yg4 gq gp gj n t v log (log.map Lg.e) ro vo nx A Ad c dc r F w (hS.sb) up).mono fun x w' ⟨hx,hS⟩=>⟨hx,Sep.Q1_open.2 ⟨⟨gp,gj,v,vo,nx,A,c,Ad,dc⟩,?_⟩⟩
 simp only [Q1R,List.cons_append,List.nil_append];exact hS.sb
end
def newS (c:Cfg):Sta:=⟨0,0,List.replicate c.tenants.length TS.fresh,List.replicate c.cells.length ⟨1,0,0,0⟩,1,0,0,0⟩
theorem newS_ok {c:Cfg} (hv:1≤c.versions.length):(newS c).ok c:=by
 refine ⟨by simp [newS],by simp [newS],fun x hx=>?_,fun x hx=>?_⟩
 ·have:=List.eq_of_mem_replicate hx;subst this;exact TS.fresh_ok _
 ·have:=List.eq_of_mem_replicate hx;subst this;exact ⟨⟨by show (0:Int)≤0;omega,by show (0:Int) < _;omega⟩,⟨by show (0:Int)≤0;omega,by show (0:Int) < _;omega⟩⟩
theorem zerosL_gen {α:Type} (fc:α→List Value) (z:α) (n:Nat):Z.zerosL (fc z) n=((List.replicate n z).map fc).flatten:=by
 induction n with
 | zero=>rfl
 | succ n ih=>rw [List.replicate_succ,List.map_cons,List.flatten_cons,← ih];rfl
def TS.zero:TS:=⟨false,false,0,0,0,0,0,⟨0,0,0,0,0⟩⟩
theorem yin (l:List TS):∀ row,row∈l.map TS.cells→row.length=12∧∀ u,u∈row→u.oneCell'=true:=by
 intro row hr;obtain ⟨x,_,rfl⟩:=List.mem_map.1 hr;exact ⟨rfl,by simp [TS.cells,Value.oneCell']⟩
theorem yir (l:List CS):∀ row,row∈l.map CS.cells→row.length=4∧∀ u,u∈row→u.oneCell'=true:=by
 intro row hr;obtain ⟨x,_,rfl⟩:=List.mem_map.1 hr;exact ⟨rfl,by simp [CS.cells,Value.oneCell']⟩
theorem yec {α:Type} {r w:World} {M:List Nat} {F:List Res} {g e sz n:Nat} (fc:α→List Value) (z:α) (h:Sep r M (.blk g e (Z.zerosL (fc z) n)::F) w) (hm:n≤maxLen) (hok:∀ l:List α,∀ row,row∈l.map fc→row.length=sz∧∀ u,u∈row→u.oneCell'=true) :
  Sep r M (.sl e sz (.slice (some ⟨g,0,none⟩) n n) ((List.replicate n z).map fc)::F) w:=by
 rcases Nat.eq_zero_or_pos n with rfl|hp
 ·exact Z.nilsl h.tail e sz _
 ·exact mk_sl h (by simp) hp hm (hok _) (zerosL_gen fc z n)
theorem ycu (c:Cfg) (a:CAd) (r:World) (F:List Res) (w:World) (hS:Sep r [] F w) (h1:c.tenants.length≤1000) (h2:c.cells.length≤1000) :
  Calls Tryz.prog 29 #[c.val a] w fun e w'=>∃ (b':SAd),e=.returned ((newS c).vc c b')∧Sep r [] (SO c (newS c) b'::F) w':=by
 refine Z.enter Tryz.func29 Tryz.ntmps29 rfl rfl ?_
 repeat' first|refine K ?_|refine Sa ?_;clear hS;intro w hS|refine K3 ?_;clear hS;intro g w hS hge|refine KC ?_ ?_<;>intro hb<;>try exact JX|fail
 rename_i gc _ _;rename Nat=>gr;refine Z.cut [3,6,7,8,9,10,11,12,13,14] (fun w z=>∃ g1 g2 g3:Nat,z=[(3,.pointer (some ⟨g3,0,none⟩))]∧Sep r [] (.blk g2 186 (Z.zerosL (⟨0,0,0,0⟩:CS).cells c.cells.length)::.blk g1 183 (Z.zerosL TS.zero.cells c.tenants.length)::.blk g3 69 ((newS c).cc c ⟨some ⟨g1,0,none⟩,c.tenants.length,some ⟨g2,0,none⟩,c.cells.length⟩)::.blk gr 69 (Sta.zero.cl SAd.zero)::F) w) ?_ ?_
 ·refine D.startS hS 10 11 kR rfl ?_;replace hS:=hS.drew;refine Sh.dp 0 1 ?_;refine Sh.dp 4 17 ?_;refine Sh.dl 1 19 ?_;refine Sh.dp 2 23 ?_;refine Sh.dl 5 55 ?_;refine Sh.dp 6 119 ?_;refine D.each [3,7,9] kR rfl ?_;refine D.econs 3 127 rfl D.wantedN kR (fun _ _ h=>h) ?_ ?_
  ·refine Z.mks (l:=c.tenants.length) (c:=c.tenants.length) hS rfl rfl rfl (Nat.le_refl _) (by show 88 * c.tenants.length≤281474976710656;omega) (by unfold maxLen;omega) ?_;clear hS;intro g1 w hS hge1;refine HMs ?_;refine D.each [7,9] kR rfl ?_;refine D.econs 7 255 rfl D.wantedN kR (fun _ _ h=>h) ?_ ?_
   ·refine Z.mks (l:=c.cells.length) (c:=c.cells.length) hS rfl rfl rfl (Nat.le_refl _) (by show 32 * c.cells.length≤281474976710656;omega) (by unfold maxLen;omega) ?_;clear hS;intro g2 w hS hge2;refine HMs ?_
    first|refine D.bu 8 511 rfl D.wantedN kR rfl rfl ?_|refine D.buA 8 511 rfl D.wantedN kR rfl rfl ?_
    refine D.ef 9 1023 ?_;refine Z.al hS ?_;clear hS;intro g3 w hS hge3;refine HMs ?_;refine D.ef 10 2047 ?_;refine Z.st hS rfl AtF rfl rfl ?_;clear hS;intro w hS;refine HMl ?_;refine D.dn ?_;refine Sh.cut [(3,_)] ?_;exact ⟨g1,g2,g3,rfl,hS.sb⟩
   refine D.econs 9 639 rfl D.wantedN kR (fun _ _ h=>h) ?_ ?_
   ·refine Z.al hS ?_;clear hS;intro g3 w hS hge3;refine HMs ?_;refine D.ef 7 767 ?_;refine Z.mks (l:=c.cells.length) (c:=c.cells.length) hS rfl rfl rfl (Nat.le_refl _) (by show 32 * c.cells.length≤281474976710656;omega) (by unfold maxLen;omega) ?_;clear hS;intro g2 w hS hge2;refine HMs ?_
    first|refine D.bu 8 1023 rfl D.wantedN kR rfl rfl ?_|refine D.buA 8 1023 rfl D.wantedN kR rfl rfl ?_
    refine D.ef 10 2047 ?_;refine Z.st hS rfl AtF rfl rfl ?_;clear hS;intro w hS;refine HMl ?_;refine D.dn ?_;refine Sh.cut [(3,_)] ?_;exact ⟨g1,g2,g3,rfl,hS.sb⟩
   exact D.enil
  refine D.econs 7 247 rfl D.wantedN kR (fun _ _ h=>h) ?_ ?_
  ·refine Z.mks (l:=c.cells.length) (c:=c.cells.length) hS rfl rfl rfl (Nat.le_refl _) (by show 32 * c.cells.length≤281474976710656;omega) (by unfold maxLen;omega) ?_;clear hS;intro g2 w hS hge2;refine HMs ?_;refine D.each [3,9] kR rfl ?_;refine D.econs 3 255 rfl D.wantedN kR (fun _ _ h=>h) ?_ ?_
   ·refine Z.mks (l:=c.tenants.length) (c:=c.tenants.length) hS rfl rfl rfl (Nat.le_refl _) (by show 88 * c.tenants.length≤281474976710656;omega) (by unfold maxLen;omega) ?_;clear hS;intro g1 w hS hge1;refine HMs ?_
    first|refine D.bu 8 511 rfl D.wantedN kR rfl rfl ?_|refine D.buA 8 511 rfl D.wantedN kR rfl rfl ?_
    refine D.ef 9 1023 ?_;refine Z.al hS ?_;clear hS;intro g3 w hS hge3;refine HMs ?_;refine D.ef 10 2047 ?_;refine Z.st hS rfl AtF rfl rfl ?_;clear hS;intro w hS;refine HMl ?_;refine D.dn ?_;refine Sh.cut [(3,_)] ?_;exact ⟨g1,g2,g3,rfl,hS.sb⟩
   refine D.econs 9 759 rfl D.wantedN kR (fun _ _ h=>h) ?_ ?_
   ·refine Z.al hS ?_;clear hS;intro g3 w hS hge3;refine HMs ?_;refine D.ef 3 767 ?_;refine Z.mks (l:=c.tenants.length) (c:=c.tenants.length) hS rfl rfl rfl (Nat.le_refl _) (by show 88 * c.tenants.length≤281474976710656;omega) (by unfold maxLen;omega) ?_;clear hS;intro g1 w hS hge1;refine HMs ?_
    first|refine D.bu 8 1023 rfl D.wantedN kR rfl rfl ?_|refine D.buA 8 1023 rfl D.wantedN kR rfl rfl ?_
    refine D.ef 10 2047 ?_;refine Z.st hS rfl AtF rfl rfl ?_;clear hS;intro w hS;refine HMl ?_;refine D.dn ?_;refine Sh.cut [(3,_)] ?_;exact ⟨g1,g2,g3,rfl,hS.sb⟩
   exact D.enil
  refine D.econs 9 631 rfl D.wantedN kR (fun _ _ h=>h) ?_ ?_
  ·refine Z.al hS ?_;clear hS;intro g3 w hS hge3;refine HMs ?_;refine D.each [3,7] kR rfl ?_;refine D.econs 3 639 rfl D.wantedN kR (fun _ _ h=>h) ?_ ?_
   ·refine Z.mks (l:=c.tenants.length) (c:=c.tenants.length) hS rfl rfl rfl (Nat.le_refl _) (by show 88 * c.tenants.length≤281474976710656;omega) (by unfold maxLen;omega) ?_;clear hS;intro g1 w hS hge1;refine HMs ?_;refine D.ef 7 767 ?_;refine Z.mks (l:=c.cells.length) (c:=c.cells.length) hS rfl rfl rfl (Nat.le_refl _) (by show 32 * c.cells.length≤281474976710656;omega) (by unfold maxLen;omega) ?_;clear hS;intro g2 w hS hge2;refine HMs ?_
    first|refine D.bu 8 1023 rfl D.wantedN kR rfl rfl ?_|refine D.buA 8 1023 rfl D.wantedN kR rfl rfl ?_
    refine D.ef 10 2047 ?_;refine Z.st hS rfl AtF rfl rfl ?_;clear hS;intro w hS;refine HMl ?_;refine D.dn ?_;refine Sh.cut [(3,_)] ?_;exact ⟨g1,g2,g3,rfl,hS.sb⟩
   refine D.econs 7 759 rfl D.wantedN kR (fun _ _ h=>h) ?_ ?_
   ·refine Z.mks (l:=c.cells.length) (c:=c.cells.length) hS rfl rfl rfl (Nat.le_refl _) (by show 32 * c.cells.length≤281474976710656;omega) (by unfold maxLen;omega) ?_;clear hS;intro g2 w hS hge2;refine HMs ?_;refine D.ef 3 767 ?_;refine Z.mks (l:=c.tenants.length) (c:=c.tenants.length) hS rfl rfl rfl (Nat.le_refl _) (by show 88 * c.tenants.length≤281474976710656;omega) (by unfold maxLen;omega) ?_;clear hS;intro g1 w hS hge1;refine HMs ?_
    first|refine D.bu 8 1023 rfl D.wantedN kR rfl rfl ?_|refine D.buA 8 1023 rfl D.wantedN kR rfl rfl ?_
    refine D.ef 10 2047 ?_;refine Z.st hS rfl AtF rfl rfl ?_;clear hS;intro w hS;refine HMl ?_;refine D.dn ?_;refine Sh.cut [(3,_)] ?_;exact ⟨g1,g2,g3,rfl,hS.sb⟩
   exact D.enil
  exact D.enil
 clear hS;rintro f0 w _ ⟨g1,g2,g3,rfl,hS⟩;replace hS:=yec (e:=186) (sz:=4) CS.cells ⟨0,0,0,0⟩ hS (by unfold maxLen;omega) yir;replace hS:=hS.fo (R:=.blk g1 _ _);replace hS:=yec (e:=183) (sz:=12) TS.cells TS.zero hS (by unfold maxLen;omega) yin;refine sQ ?_;intro w hS;refine Z.lpS [4,18,19,20,21,22,23,24,25,26,27] (fun m w z=>∃ (i:Nat) (ts:List TS),z=[(18,.int .i64 i)]∧ts.length=c.tenants.length∧(∀ j (hj:j < ts.length),j < i→ts[j]=TS.fresh)∧i≤c.tenants.length∧m=c.tenants.length - i∧Sep r [] (.sl 183 12 (.slice (some ⟨g1,0,none⟩) c.tenants.length c.tenants.length) (ts.map TS.cells)::.sl 186 4 (.slice (some ⟨g2,0,none⟩) c.cells.length c.cells.length) ((List.replicate c.cells.length (⟨0,0,0,0⟩:CS)).map CS.cells)::.blk g3 69 ((newS c).cc c ⟨some ⟨g1,0,none⟩,c.tenants.length,some ⟨g2,0,none⟩,c.cells.length⟩)::.blk gr 69 (Sta.zero.cl SAd.zero)::F) w) _ [(18,.int .i64 (0:Nat))] TrF ⟨0,List.replicate c.tenants.length TS.zero,rfl,by simp,fun j _ h=>absurd h oM,oM,rfl,hS⟩ ?_;clear hS;rintro m f1 w _ ⟨i,ts,rfl,htl,hts,hi,rfl,hS⟩
 by_cases hlt:i < c.tenants.length
 ·refine sQ ?_;intro w hS;refine Z.eff (Z.stEm TS.fresh hS rfl AtF oM rfl rfl rfl rfl ?_) rfl;clear hS;intro w hS;refine sQ ?_;intro w hS;refine Sh.again (c.tenants.length - (i+1)) [(18,.int .i64 (i+1:Nat))] ?_;refine ⟨i+1,ts.set i TS.fresh,rfl,by simp [htl],fun j hj hji=>?_,oM,rfl,hS.sb⟩;rw [List.getElem_set]
  split
  ·rfl
  ·exact hts j (by simpa using hj) oM
 have hte:ts=List.replicate c.tenants.length TS.fresh:=List.eq_replicate_iff.2 ⟨htl,fun x hx=>by
  obtain ⟨j,hj,rfl⟩:=List.mem_iff_getElem.1 hx;exact hts j hj oM⟩
 subst hte;refine sQ ?_;intro w hS;clear hts htl;refine Z.lpS [5,31,32,33,34,35,36,37,38,39] (fun m w z=>∃ (i:Nat) (ks:List CS),z=[(31,.int .i64 i)]∧ks.length=c.cells.length∧(∀ j (hj:j < ks.length),ks[j]=if j < i then (⟨1,0,0,0⟩:CS) else ⟨0,0,0,0⟩)∧i≤c.cells.length∧m=c.cells.length - i∧Sep r [] (.sl 186 4 (.slice (some ⟨g2,0,none⟩) c.cells.length c.cells.length) (ks.map CS.cells)::.sl 183 12 (.slice (some ⟨g1,0,none⟩) c.tenants.length c.tenants.length) ((List.replicate c.tenants.length TS.fresh).map TS.cells)::.blk g3 69 ((newS c).cc c ⟨some ⟨g1,0,none⟩,c.tenants.length,some ⟨g2,0,none⟩,c.cells.length⟩)::.blk gr 69 (Sta.zero.cl SAd.zero)::F) w) _ [(31,.int .i64 (0:Nat))] TrF ⟨0,List.replicate c.cells.length ⟨0,0,0,0⟩,rfl,by simp,fun j hj=>by simp,oM,rfl,hS.sb⟩ ?_;clear hS;rintro m f1 w _ ⟨i,ks,rfl,hkl,hks,hi,rfl,hS⟩
 by_cases hlt:i < c.cells.length
 ·have hik:i < ks.length:=by omega
  have hki:=hks i hik;rw [if_neg oM] at hki;refine sQ ?_;intro w hS;refine Z.eff (Z.stF (j:=0) (fc:=CS.cells) ⟨1,0,0,0⟩ hS rfl AtF hik rfl rfl rfl oM (by rw [hki];rfl) ?_) rfl;clear hS;intro w hS;refine sQ ?_;intro w hS;refine Sh.again (c.cells.length - (i+1)) [(31,.int .i64 (i+1:Nat))] ?_;refine ⟨i+1,ks.set i ⟨1,0,0,0⟩,rfl,by simp [hkl],fun j hj=>?_,oM,rfl,hS.sb⟩;rw [List.getElem_set]
  split
  ·rw [if_pos oM]
  ·rw [hks j (by simpa using hj)]
   by_cases hji:j < i
   ·rw [if_pos hji,if_pos oM]
   ·rw [if_neg hji,if_neg oM]
 have hke:ks=List.replicate c.cells.length ⟨1,0,0,0⟩:=List.eq_replicate_iff.2 ⟨hkl,fun x hx=>by
  obtain ⟨j,hj,rfl⟩:=List.mem_iff_getElem.1 hx;rw [hks j hj,if_pos oM]⟩
 subst hke;refine sQ ?_;intro w hS;refine Dnc Tryz.results29 ?_;exact ⟨⟨some ⟨g1,0,none⟩,c.tenants.length,some ⟨g2,0,none⟩,c.cells.length⟩,rfl,(Sep.all_open (Ls:=[_,_])).2 (hS.sb)⟩
theorem znq_clone (l:List Int) (v:Value) (r:World) (F:List Res) (w:World) (hS:Sep r [] F w) (hrd:Reads r F 1 v (l.map ztC)) (hl:l.length≤100000) :
  Calls Tryz.prog 123 #[v] w fun e w'=>∃ A c,e=.returned (.slice A l.length c)∧Sep r [] (.sl 166 1 (.slice A l.length c) (l.map ztC)::F) w':=by
 obtain ⟨_,A,c,hv,hnil,hc,_⟩:=hrd [] w hS;simp only [List.length_map] at hv hc;subst hv
 cases A with
 | none=>
  have hl0:l=[]:=by have:=hnil rfl;exact List.eq_nil_of_length_eq_zero oM
  subst hl0;refine Z.enter Tryz.func123 Tryz.ntmps123 rfl rfl ?_;refine sQ ?_;intro w hS;refine Dnt Tryz.results123 ?_;exact ⟨none,0,rfl,Z.nilsl hS _ _ none⟩
 | some a=>
  refine Z.enter Tryz.func123 Tryz.ntmps123 rfl rfl ?_
  repeat' first|refine K ?_|refine Sa ?_;intro w hS|refine K3 ?_;intro g w hS hge|refine KC ?_ ?_<;>intro hb<;>try exact JX|fail
  refine Z.eff (Z.ap0m hS rfl rfl rfl (hrd [_] _ hS) LnF LnF ?_) rfl;clear hS;intro A' c' w hS;refine sQ ?_;intro w hS;refine Dnt Tryz.results123 ?_;exact ⟨_,_,rfl,hS.sb⟩
theorem clq_clone (l:List Cl) (v:Value) (r:World) (F:List Res) (w:World) (hS:Sep r [] F w) (hrd:Reads r F 2 v (l.map Cl.cells)) (hl:l.length≤100000) :
  Calls Tryz.prog 124 #[v] w fun e w'=>∃ A c,e=.returned (.slice A l.length c)∧Sep r [] (.sl 168 2 (.slice A l.length c) (l.map Cl.cells)::F) w':=by
 obtain ⟨_,A,c,hv,hnil,hc,_⟩:=hrd [] w hS;simp only [List.length_map] at hv hc;subst hv
 cases A with
 | none=>
  have hl0:l=[]:=by have:=hnil rfl;exact List.eq_nil_of_length_eq_zero oM
  subst hl0;refine Z.enter Tryz.func124 Tryz.ntmps124 rfl rfl ?_;refine sQ ?_;intro w hS;refine Dnt Tryz.results124 ?_;exact ⟨none,0,rfl,Z.nilsl hS _ _ none⟩
 | some a=>
  refine Z.enter Tryz.func124 Tryz.ntmps124 rfl rfl ?_
  repeat' first|refine K ?_|refine Sa ?_;intro w hS|refine K3 ?_;intro g w hS hge|refine KC ?_ ?_<;>intro hb<;>try exact JX|fail
  refine Z.eff (Z.ap0m hS rfl rfl rfl (hrd [_] _ hS) LnF LnF ?_) rfl;clear hS;intro A' c' w hS;refine sQ ?_;intro w hS;refine Dnt Tryz.results124 ?_;exact ⟨_,_,rfl,hS.sb⟩
theorem tnq_clone (l:List Tn) (v:Value) (r:World) (F:List Res) (w:World) (hS:Sep r [] F w) (hrd:Reads r F 7 v (l.map Tn.cells)) (hl:l.length≤100000) :
  Calls Tryz.prog 125 #[v] w fun e w'=>∃ A c,e=.returned (.slice A l.length c)∧Sep r [] (.sl 170 7 (.slice A l.length c) (l.map Tn.cells)::F) w':=by
 obtain ⟨_,A,c,hv,hnil,hc,_⟩:=hrd [] w hS;simp only [List.length_map] at hv hc;subst hv
 cases A with
 | none=>
  have hl0:l=[]:=by have:=hnil rfl;exact List.eq_nil_of_length_eq_zero oM
  subst hl0;refine Z.enter Tryz.func125 Tryz.ntmps125 rfl rfl ?_;refine sQ ?_;intro w hS;refine Dnt Tryz.results125 ?_;exact ⟨none,0,rfl,Z.nilsl hS _ _ none⟩
 | some a=>
  refine Z.enter Tryz.func125 Tryz.ntmps125 rfl rfl ?_
  repeat' first|refine K ?_|refine Sa ?_;intro w hS|refine K3 ?_;intro g w hS hge|refine KC ?_ ?_<;>intro hb<;>try exact JX|fail
  refine Z.eff (Z.ap0m hS rfl rfl rfl (hrd [_] _ hS) LnF LnF ?_) rfl;clear hS;intro A' c' w hS;refine sQ ?_;intro w hS;refine Dnt Tryz.results125 ?_;exact ⟨_,_,rfl,hS.sb⟩
theorem vsq_clone (l:List Vs) (v:Value) (r:World) (F:List Res) (w:World) (hS:Sep r [] F w) (hrd:Reads r F 2 v (l.map Vs.cells)) (hl:l.length≤100000) :
  Calls Tryz.prog 126 #[v] w fun e w'=>∃ A c,e=.returned (.slice A l.length c)∧Sep r [] (.sl 172 2 (.slice A l.length c) (l.map Vs.cells)::F) w':=by
 obtain ⟨_,A,c,hv,hnil,hc,_⟩:=hrd [] w hS;simp only [List.length_map] at hv hc;subst hv
 cases A with
 | none=>
  have hl0:l=[]:=by have:=hnil rfl;exact List.eq_nil_of_length_eq_zero oM
  subst hl0;refine Z.enter Tryz.func126 Tryz.ntmps126 rfl rfl ?_;refine sQ ?_;intro w hS;refine Dnt Tryz.results126 ?_;exact ⟨none,0,rfl,Z.nilsl hS _ _ none⟩
 | some a=>
  refine Z.enter Tryz.func126 Tryz.ntmps126 rfl rfl ?_
  repeat' first|refine K ?_|refine Sa ?_;intro w hS|refine K3 ?_;intro g w hS hge|refine KC ?_ ?_<;>intro hb<;>try exact JX|fail
  refine Z.eff (Z.ap0m hS rfl rfl rfl (hrd [_] _ hS) LnF LnF ?_) rfl;clear hS;intro A' c' w hS;refine sQ ?_;intro w hS;refine Dnt Tryz.results126 ?_;exact ⟨_,_,rfl,hS.sb⟩
theorem inq_clone (l:List Int) (v:Value) (r:World) (F:List Res) (w:World) (hS:Sep r [] F w) (hrd:Reads r F 1 v (l.map ztC)) (hl:l.length≤100000) :
  Calls Tryz.prog 71 #[v] w fun e w'=>∃ A c,e=.returned (.slice A l.length c)∧Sep r [] (.sl 3 1 (.slice A l.length c) (l.map ztC)::F) w':=by
 obtain ⟨_,A,c,hv,hnil,hc,_⟩:=hrd [] w hS;simp only [List.length_map] at hv hc;subst hv
 cases A with
 | none=>
  have hl0:l=[]:=by have:=hnil rfl;exact List.eq_nil_of_length_eq_zero oM
  subst hl0;refine Z.enter Tryz.func71 Tryz.ntmps71 rfl rfl ?_;refine sQ ?_;intro w hS;refine Dnt Tryz.results71 ?_;exact ⟨none,0,rfl,Z.nilsl hS _ _ none⟩
 | some a=>
  refine Z.enter Tryz.func71 Tryz.ntmps71 rfl rfl ?_
  repeat' first|refine K ?_|refine Sa ?_;intro w hS|refine K3 ?_;intro g w hS hge|refine KC ?_ ?_<;>intro hb<;>try exact JX|fail
  refine Z.eff (Z.ap0m hS rfl rfl rfl (hrd [_] _ hS) LnF LnF ?_) rfl;clear hS;intro A' c' w hS;refine sQ ?_;intro w hS;refine Dnt Tryz.results71 ?_;exact ⟨_,_,rfl,hS.sb⟩
def CfO (c:Cfg) (a:CAd):Res:=.all [.sl 166 1 (.slice a.zA c.zones.length a.zc) (c.zones.map ztC),.sl 168 2 (.slice a.kA c.cells.length a.kc) (c.cells.map Cl.cells),.sl 170 7 (.slice a.tA c.tenants.length a.tc) (c.tenants.map Tn.cells),.sl 172 2 (.slice a.vA c.versions.length a.vc) (c.versions.map Vs.cells),.sl 3 1 (.slice a.rA c.replicas.length a.rc) (c.replicas.map ztC),.sl 3 1 (.slice a.oA c.observers.length a.oc) (c.observers.map ztC)]
theorem at_left {L k:List Res} {R:Res} (h:At L k R) (F:List Res):At (L++F) (k++F) R:=by
 induction h with
 | here=>exact .here
 | next _ ih=>exact .next ih
theorem Reads.of_all {r:World} {F k:List Res} {Ls:List Res} {e sz:Nat} {v:Value} {rows:List (List Value)} (h:At F k (.all Ls)) {k2:List Res} (h2:At Ls k2 (.sl e sz v rows)):Reads r F sz v rows:=
 fun L _ hW=>(Sep.all_open.1 (hW.focus (at_app L h))).slrows (at_left h2 _)
theorem CfA.of_co {r:World} {F k:List Res} {c:Cfg} {a:CAd} (h:At F k (CfO c a)):CfA r F c a:=
 ⟨⟨Reads.of_all h .here,Reads.of_all h (.next .here),Reads.of_all h (.next (.next .here)),Reads.of_all h (.next (.next (.next .here)))⟩,Reads.of_all h (.next (.next (.next (.next .here)))),Reads.of_all h (.next (.next (.next (.next (.next .here)))))⟩
theorem yb4 (c:Cfg) (a:CAd) (r:World) (F:List Res) (w:World) (hS:Sep r [] F w) (hr:CfA r F c a) (hv:CfgV c) :
  Calls Tryz.prog 62 #[c.val a] w fun e w'=>∃ a',e=.returned (c.val a')∧Sep r [] (CfO c a'::F) w':=by
 have h1:=hv.ok.z;have h2:=hv.ok.k;have h3:=hv.ok.t;have h4:=hv.ok.v;have h5:=hv.rl;have h6:=hv.ol;refine Z.enter Tryz.func62 Tryz.ntmps62 rfl rfl ?_;refine aQ2 ?_;intro _ g w hS;refine cQ (znq_clone c.zones _ _ _ _ hS (hr.cf.z.app [_,_]) oM) rfl ?_;clear hS;rintro e w ⟨zA,zc,rfl,hS⟩;refine eQ ?_;intro w hS;refine cQ (clq_clone c.cells _ _ _ _ hS (hr.cf.k.app [_,_,_]) oM) rfl ?_;clear hS;rintro e w ⟨kA,kc,rfl,hS⟩;refine eQ ?_;intro w hS;refine cQ (tnq_clone c.tenants _ _ _ _ hS (hr.cf.t.app [_,_,_,_]) oM) rfl ?_;clear hS;rintro e w ⟨tA,tc,rfl,hS⟩;refine eQ ?_;intro w hS;refine cQ (vsq_clone c.versions _ _ _ _ hS (hr.cf.v.app [_,_,_,_,_]) oM) rfl ?_;clear hS;rintro e w ⟨vA,vc,rfl,hS⟩;refine eQ ?_;intro w hS;refine cQ (inq_clone c.replicas _ _ _ _ hS (hr.rp.app [_,_,_,_,_,_]) oM) rfl ?_;clear hS;rintro e w ⟨rA,rc,rfl,hS⟩;refine eQ ?_;intro w hS;refine cQ (inq_clone c.observers _ _ _ _ hS (hr.ob.app [_,_,_,_,_,_,_]) oM) rfl ?_;clear hS;rintro e w ⟨oA,oc,rfl,hS⟩;refine eQ ?_;intro w hS;refine Dnc Tryz.results62 ?_;exact ⟨⟨zA,zc,kA,kc,tA,tc,vA,vc,rA,rc,oA,oc⟩,rfl,(Sep.all_open (Ls:=[_,_,_,_,_,_])).2 (hS.sb)⟩
end Go.Proofs.YtfmnjbhncnldmaaGreat
