import Derived.Test.YtfmnjbhncnldmaaGreatW25
import Derived.Test.YtfmnjbhncnldmaaGreatW27
set_option maxHeartbeats 8000000
set_option linter.unusedSimpArgs false
set_option linter.unusedVariables false
namespace Go.Proofs.YtfmnjbhncnldmaaGreat
open Go.RowKit
attribute [local irreducible] Res.blk Res.sl Res.all Res.ex Res.pure Res.star
def c2:Cfg:=⟨2,[0,1],[⟨0,9⟩,⟨1,9⟩],[⟨5,2,0,0,3,0,false⟩],[⟨0,0⟩],[0],[0],1,20,0⟩
theorem c2_ok:c2.ok:=by
 refine ⟨by decide,by decide,by decide,by decide,by decide,by decide,by decide,by decide,?_⟩;intro x hx
 simp [c2] at hx
 rcases hx with rfl|rfl<;>decide
theorem ybI:CfgV c2:=by
 refine ⟨c2_ok,?_,?_,by decide,by decide,?_,?_,?_,?_⟩
 ·intro z hz
  simp [c2] at hz
  rcases hz with rfl|rfl<;>decide
 ·intro x hx
  simp [c2] at hx
  rcases hx with rfl|rfl<;>decide
 ·intro z hz
  simp [c2] at hz
  subst hz
  decide
 ·intro z hz
  simp [c2] at hz
  subst hz
  decide
 ·intro i h;have h0:i=0:=by simp [c2] at h;exact h
  subst h0;exact ⟨Int.le_refl 0,Int.le_refl 0,(by decide:(0:Int)≤30),fun _=>rfl⟩
 ·intro t ht
  simp [c2] at ht
  subst ht
  decide
theorem zt_row (l:List Int):∀ row,row∈l.map ztC→row.length=1∧∀ u,u∈row→u.oneCell'=true:=by
 intro row hr;obtain ⟨x,_,rfl⟩:=List.mem_map.1 hr;exact ⟨rfl,by simp [ztC,Value.oneCell']⟩
theorem cl_row (l:List Cl):∀ row,row∈l.map Cl.cells→row.length=2∧∀ u,u∈row→u.oneCell'=true:=by
 intro row hr;obtain ⟨x,_,rfl⟩:=List.mem_map.1 hr;exact ⟨rfl,by simp [Cl.cells,Value.oneCell']⟩
theorem tn_row (l:List Tn):∀ row,row∈l.map Tn.cells→row.length=7∧∀ u,u∈row→u.oneCell'=true:=by
 intro row hr;obtain ⟨x,_,rfl⟩:=List.mem_map.1 hr;exact ⟨rfl,by simp [Tn.cells,Value.oneCell']⟩
theorem vs_row (l:List Vs):∀ row,row∈l.map Vs.cells→row.length=2∧∀ u,u∈row→u.oneCell'=true:=by
 intro row hr;obtain ⟨x,_,rfl⟩:=List.mem_map.1 hr;exact ⟨rfl,by simp [Vs.cells,Value.oneCell']⟩
theorem yji (r:World) (F:List Res) (w:World) (hS:Sep r [] F w) :
  Calls Tryz.prog 41 #[] w fun y w'=>∃ a,y=.returned (c2.val a)∧Sep r [] (CfO c2 a::F) w':=by
 refine Z.enter Tryz.func41 Tryz.ntmps41 rfl rfl ?_
 repeat' first|refine K ?_|refine Sa ?_;clear hS;intro w hS|refine K3 ?_;clear hS;intro g w hS hge|refine KC ?_ ?_<;>intro hb<;>try exact JX|fail
 rename_i gr _ _ gz _ _ gk _ _ gt _ _ gv _ _ go _ _ _;refine Dnc Tryz.results41 ?_;replace hS:=mk_sl (sz:=1) (n:=1) (rows:=[0].map ztC) (hS.fo (R:=.blk g _ _)) rfl oM (by decide) (zt_row _) rfl;replace hS:=mk_sl (sz:=1) (n:=1) (rows:=[0].map ztC) (hS.fo (R:=.blk go _ _)) rfl oM (by decide) (zt_row _) rfl;replace hS:=mk_sl (sz:=2) (n:=1) (rows:=[(⟨0,0⟩:Vs)].map Vs.cells) (hS.fo (R:=.blk gv _ _)) rfl oM (by decide) (vs_row _) rfl;replace hS:=mk_sl (sz:=7) (n:=1) (rows:=[(⟨5,2,0,0,3,0,false⟩:Tn)].map Tn.cells) (hS.fo (R:=.blk gt _ _)) rfl oM (by decide) (tn_row _) rfl;replace hS:=mk_sl (sz:=2) (n:=2) (rows:=[(⟨0,9⟩:Cl),⟨1,9⟩].map Cl.cells) (hS.fo (R:=.blk gk _ _)) rfl oM (by decide) (cl_row _) rfl;replace hS:=mk_sl (sz:=1) (n:=2) (rows:=[0,1].map ztC) (hS.fo (R:=.blk gz _ _)) rfl oM (by decide) (zt_row _) rfl;exact ⟨⟨some ⟨gz,0,none⟩,2,some ⟨gk,0,none⟩,2,some ⟨gt,0,none⟩,1,some ⟨gv,0,none⟩,1,some ⟨go,0,none⟩,1,some ⟨g,0,none⟩,1⟩,rfl,(Sep.all_open (Ls:=[_,_,_,_,_,_])).2 (hS.sb)⟩
structure Sv where
 A:Option Addr
 n:Nat
 c:Nat
def Sv.cells (x:Sv):List Value:=[.slice x.A x.n x.c]
def SIM (gs gp gq:Nat) (s:Sta) (log:List Lg) (ro t:Int) (k:Nat) (G:Ga) (c:Cp) (sp:List Sp):Res:=
 .ex fun p:CAd×(Option Addr×Nat)×(Option Addr×Nat)×(Option Addr×Nat)×(Nat×Nat×Nat×Nat)=>.all
  [.blk gs 119 (c2.cl p.1++[.pointer (some ⟨gp,0,none⟩),.slice p.2.1.1 1 p.2.1.2,.slice p.2.2.1.1 sp.length p.2.2.1.2,.slice none 0 0,.int .i64 0]),
   CfO c2 p.1,.sl 36 1 (.slice p.2.1.1 1 p.2.1.2) ([(⟨p.2.2.2.1.1,2,p.2.2.2.1.2⟩:Sv)].map Sv.cells),.sl 34 1 (.slice p.2.2.2.1.1 2 p.2.2.2.1.2) ([p.2.2.2.2.1,p.2.2.2.2.2.1].map ptC),
   .sl 124 7 (.slice p.2.2.1.1 sp.length p.2.2.1.2) (sp.map Sp.cells),PLN gp gq 1 c2 s,Q1 gq ro t log k,
   PC p.2.2.2.2.1 0 0 (.pointer (some ⟨p.2.2.2.2.2.2.1,0,.none⟩)) c,GP p.2.2.2.2.2.2.1 G]
theorem yhA (a:CAd) (r:World) (F:List Res) (w:World) (hS:Sep r [] (CfO c2 a::F) w) :
  Calls Tryz.prog 40 #[c2.val a] w fun y w'=>∃ gs gp gq,y=.returned (.pointer (some ⟨gs,0,none⟩))∧Sep r [] (SIM gs gp gq (newS c2) [] 1 0 0 ⟨0,0,[]⟩ .zero []::F) w':=by
 refine Z.enter Tryz.func40 Tryz.ntmps40 rfl rfl ?_;refine aQ1 ?_;intro gc w hS;refine cQ (ydp c2 a _ _ _ hS (CfA.of_co AtF) ybI rfl) rfl ?_;clear hS;rintro e w ⟨gp,gq,rfl,hS⟩;refine ⟨_,rfl,?_⟩
 repeat' first|refine K ?_|refine Sa ?_;clear hS;intro w hS|refine K3 ?_;clear hS;intro g w hS hge|refine KC ?_ ?_<;>intro hb<;>try exact JX|fail
 rename Nat=>gs;refine Z.unr 2 ?_;refine sQ ?_;intro w hS;refine Z.unr 3 ?_;refine sQ ?_;intro w hS;replace hS:=hS.sub (L':=.blk gs 119 (c2.cl a++[.pointer (some ⟨gp,0,none⟩),.slice none 0 0,.slice none 0 0,.slice none 0 0,.int .i64 0])::PLN gp gq 1 c2 (newS c2)::Q1 gq 1 0 [] 0::.blk gc 55 (c2.cl a)::CfO c2 a::F) SuF;replace hS:=Z.nilsl hS 34 1 none;refine cQ (yeh 0 0 _ _ _ hS) rfl ?_;clear hS;rintro e w ⟨x0,g0,rfl,hS⟩;refine ⟨_,rfl,?_⟩;replace hS:=(Sep.gate0 (hS.focus (R:=.blk g0 _ _) AtF)).focus (R:=PC x0 _ _ _ _) AtF;refine sQ ?_;intro w hS;refine cQ (ybP x0 g0 0 0 .zero _ _ _ hS) rfl ?_;clear hS;rintro e w ⟨rfl,hS⟩;refine ⟨_,rfl,?_⟩
 repeat' first|refine K ?_|refine Sa ?_;clear hS;intro w hS|refine K3 ?_;clear hS;intro g w hS hge|refine KC ?_ ?_<;>intro hb<;>try exact JX|fail
 refine Z.eff (Z.apm (fc:=ptC) (l:=[]) (l':=[x0]) hS rfl rfl rfl AtF (hS.lit1 AtF rfl rfl) LnF LnF ?_) rfl;clear hS;intro Ar cr w hS;refine sQ ?_;intro w hS;refine cQ (yeh 1 0 _ _ _ hS) rfl ?_;clear hS;rintro e w ⟨x1,g1,rfl,hS⟩;refine ⟨_,rfl,?_⟩;replace hS:=(Sep.gate0 (hS.focus (R:=.blk g1 _ _) AtF)).focus (R:=PC x1 _ _ _ _) AtF;refine sQ ?_;intro w hS;refine cQ (ybP x1 g1 1 0 .zero _ _ _ hS) rfl ?_;clear hS;rintro e w ⟨rfl,hS⟩;refine ⟨_,rfl,?_⟩
 repeat' first|refine K ?_|refine Sa ?_;clear hS;intro w hS|refine K3 ?_;clear hS;intro g w hS hge|refine KC ?_ ?_<;>intro hb<;>try exact JX|fail
 refine Z.eff (Z.apm (fc:=ptC) (l:=[x0]) (l':=[x1]) hS rfl rfl rfl AtF (hS.lit1 AtF rfl rfl) LnF LnF ?_) rfl;clear hS;intro Ar2 cr2 w hS
 repeat' first|refine K ?_|refine Sa ?_;intro w hS|refine K3 ?_;intro g w hS hge|refine KC ?_ ?_<;>intro hb<;>try exact JX|fail
 replace hS:=Z.nilsl hS 36 1 none;refine Z.eff (Z.apm (fc:=Sv.cells) (l:=[]) (l':=[(⟨Ar2,2,cr2⟩:Sv)]) hS rfl rfl rfl AtF (hS.lit1 AtF rfl rfl) LnF LnF ?_) rfl;clear hS;intro Ac cc w hS;refine sQ ?_;intro w hS;replace hS:=hS.sub (L':=PLN gp gq 1 c2 (newS c2)::.blk gs 119 (c2.cl a++[.pointer (some ⟨gp,0,none⟩),.slice Ac 1 cc,.slice none 0 0,.slice none 0 0,.int .i64 0])::.sl 36 1 (.slice Ac 1 cc) ([(⟨Ar2,2,cr2⟩:Sv)].map Sv.cells)::.sl 34 1 (.slice Ar2 2 cr2) ([x0,x1].map ptC)::PC x0 0 0 (.pointer (some ⟨g0,0,.none⟩)) .zero::GP g0 ⟨0,0,[]⟩::Q1 gq 1 0 [] 0::.blk gc 55 (c2.cl a)::CfO c2 a::F) SuF;obtain ⟨a',b,hS⟩:=Sep.PLN_open.1 hS;refine cQ (ycF gp gq 1 c2 a' (newS c2) b _ _ _ hS (newS_ok (by decide)) (StC.of_so AtF) ybI) rfl ?_;clear hS;rintro e w ⟨b2,rfl,hS⟩;refine ⟨_,rfl,?_⟩;replace hS:=Sep.PLN_open.2 ⟨a',b,hS.sub (L':=.blk gp 179 (plC c2 a' gq 1 (newS c2) b)::CfO c2 a'::SO c2 (newS c2) b::.blk gs 119 (c2.cl a++[.pointer (some ⟨gp,0,none⟩),.slice Ac 1 cc,.slice none 0 0,.slice none 0 0,.int .i64 0])::.sl 36 1 (.slice Ac 1 cc) ([(⟨Ar2,2,cr2⟩:Sv)].map Sv.cells)::.sl 34 1 (.slice Ar2 2 cr2) ([x0,x1].map ptC)::PC x0 0 0 (.pointer (some ⟨g0,0,.none⟩)) .zero::GP g0 ⟨0,0,[]⟩::Q1 gq 1 0 [] 0::.blk gc 55 (c2.cl a)::CfO c2 a::F) SuF⟩
 repeat' first|refine K ?_|refine Sa ?_;intro w hS|refine K3 ?_;intro g w hS hge|refine KC ?_ ?_<;>intro hb<;>try exact JX|fail
 refine Dnt Tryz.results40 ?_;refine ⟨gs,gp,gq,rfl,?_⟩;replace hS:=Z.nilsl hS 124 7 none;simp only [SIM,Sep.ex_open,Sep.all_open,List.cons_append,List.nil_append];exact ⟨⟨a,(Ac,cc),(none,0),(Ar2,cr2),x0,x1,g0,g1⟩,hS.sb⟩
structure PrOk (s:Sta) (log:List Lg) (ro t:Int) (k:Nat) (e:En):Prop where
 ro:(ro=3∧t=1)∨(ro=1∧t=0∧log=[])
 i:e.i64
 lt:(lgAt log (log.length - 1)).term≤1
 ll:log.length < 4096
 nb:k≤1000000
 cn:s.count=log.length
 ok:s.ok c2
 acc:accP c2 s e=true
 kd:e.kind=1∨(e.kind=2∧validP c2 e=true∧s.count < 4096∧s.tick≤e.tick∧GrOk c2 s e)
theorem yeZ (gs gp gq:Nat) (s:Sta) (log:List Lg) (ro t:Int) (k:Nat) (G:Ga) (c:Cp) (sp:List Sp) (e:En) (r:World) (F:List Res) (w:World) (hS:Sep r [] (SIM gs gp gq s log ro t k G c sp::F) w) (ho:PrOk s log ro t k e) (hk:e.kind=1) :
  Calls Tryz.prog 42 #[.pointer (some ⟨gs,0,none⟩),e.val] w fun y w'=>∃ k',y=.returned (.bool true)∧k'≤k+176∧Sep r [] (SIM gs gp gq (effP s e) (log++[⟨1,e⟩]) 3 1 k' G c sp::F) w':=by
 simp only [SIM,Sep.ex_open,Sep.all_open,List.cons_append,List.nil_append] at hS;obtain ⟨⟨a,⟨Ac,cc⟩,⟨Ag,cg⟩,⟨Ar,cr⟩,x0,x1,g0,g1⟩,hS⟩:=hS
 dsimp only at hS
 refine Z.enter Tryz.func42 Tryz.ntmps42 rfl rfl ?_;refine aQ1 ?_;intro ge w hS;refine D.startS (Lr:=[.blk ge 63 e.cells,.blk gs 119 (c2.cl a++[.pointer (some ⟨gp,0,none⟩),.slice Ac 1 cc,.slice Ag sp.length cg,.slice none 0 0,.int .i64 0])]) (hS.sb) 11 11 kR rfl ?_;replace hS:=hS.drew;refine Sh.dp 0 1 ?_;refine Sh.dp 1 3 ?_;refine Sh.dp 2 7 ?_;refine Sh.dl 3 15 ?_;refine Sh.dl 4 31 ?_;refine D.ef 5 63 ?_;replace hS:=hS.fo (R:=Q1 gq ro t log k);replace hS:=hS.fo (R:=PLN gp gq 1 c2 s);refine Z.cl (ybC gp gq c2 s e ro t log k _ _ _ hS rfl ho.ro ho.i ho.lt ho.ll ho.nb ho.cn ybI ho.ok ho.acc ho.kd) rfl ?_;clear hS;rintro e w ⟨k',rfl,hk',hS⟩;refine ⟨_,rfl,?_⟩;refine HMs ?_;refine Sh.dp 6 127 ?_;refine Sh.dp 7 255 ?_;refine Sh.dp 8 511 ?_;refine Sh.dp 9 1023 ?_;refine Sh.dp 10 2047 ?_;refine D.dn ?_;refine sQ ?_;intro w hS;refine Dnt Tryz.results42 ?_;refine ⟨k',rfl,hk',?_⟩;simp only [SIM,Sep.ex_open,Sep.all_open,List.cons_append,List.nil_append];exact ⟨⟨a,(Ac,cc),(Ag,cg),(Ar,cr),x0,x1,g0,g1⟩,hS.sb⟩
theorem ye0 (gs gp gq:Nat) (s:Sta) (log:List Lg) (ro t:Int) (k:Nat) (G:Ga) (c:Cp) (sp:List Sp) (e:En) (r:World) (F:List Res) (w:World) (hS:Sep r [] (SIM gs gp gq s log ro t k G c sp::F) w) (ho:PrOk s log ro t k e) (hk:e.kind=2) (hsl:sp.length≤100) :
  Calls Tryz.prog 42 #[.pointer (some ⟨gs,0,none⟩),e.val] w fun y w'=>∃ k',y=.returned (.bool true)∧k'≤k+176∧Sep r [] (SIM gs gp gq (effP s e) (log++[⟨1,e⟩]) 3 1 k' G c (sp++[spOf s.count e])::F) w':=by
 simp only [SIM,Sep.ex_open,Sep.all_open,List.cons_append,List.nil_append] at hS;obtain ⟨⟨a,⟨Ac,cc⟩,⟨Ag,cg⟩,⟨Ar,cr⟩,x0,x1,g0,g1⟩,hS⟩:=hS
 dsimp only at hS
 refine Z.enter Tryz.func42 Tryz.ntmps42 rfl rfl ?_;refine aQ1 ?_;intro ge w hS;refine D.startS (Lr:=[.blk ge 63 e.cells,.blk gs 119 (c2.cl a++[.pointer (some ⟨gp,0,none⟩),.slice Ac 1 cc,.slice Ag sp.length cg,.slice none 0 0,.int .i64 0])]) (hS.sb) 11 11 kR rfl ?_;replace hS:=hS.drew;refine Sh.dp 0 1 ?_;refine Sh.dp 1 3 ?_;refine Sh.dp 2 7 ?_;refine Sh.dl 3 15 ?_;refine Sh.dl 4 31 ?_;refine D.ef 5 63 ?_;replace hS:=hS.fo (R:=Q1 gq ro t log k);replace hS:=hS.fo (R:=PLN gp gq 1 c2 s);refine Z.cl (ybC gp gq c2 s e ro t log k _ _ _ hS rfl ho.ro ho.i ho.lt ho.ll ho.nb ho.cn ybI ho.ok ho.acc ho.kd) rfl ?_;clear hS;rintro e w ⟨k',rfl,hk',hS⟩;refine ⟨_,rfl,?_⟩;refine HMs ?_;refine Sh.dp 6 127 ?_;refine Sh.dp 7 255 ?_;refine Sh.dp 8 511 ?_;refine Sh.dp 9 1023 ?_;refine Sh.dp 10 2047 ?_;refine D.dn ?_;refine sQ ?_;intro w hS;refine D.startS (Lr:=[.blk ge 63 e.cells]) (hS.sb) 24 25 kR rfl ?_;replace hS:=hS.drew;refine Sh.dp 0 1 ?_;refine Sh.dp 1 3 ?_;refine Sh.dp 2 7 ?_;refine Sh.dp 3 15 ?_;refine Sh.dp 5 47 ?_;refine Sh.dp 7 175 ?_;refine Sh.dp 8 431 ?_;refine Sh.dp 10 1455 ?_;refine Sh.dp 12 5551 ?_;refine Sh.dp 14 21935 ?_;refine Sh.dp 16 87471 ?_;refine Sh.dl 6 87535 ?_;refine Sh.dl 9 88047 ?_;refine Sh.dl 11 90095 ?_;refine Sh.dl 13 98287 ?_;refine Sh.dl 15 131055 ?_;refine Sh.dl 17 262127 ?_
 first|refine D.bu 18 524271 rfl D.wantedN kR rfl rfl ?_|refine D.buA 18 524271 rfl D.wantedN kR rfl rfl ?_
 first|refine D.bu 19 1048559 rfl D.wantedN kR rfl rfl ?_|refine D.buA 19 1048559 rfl D.wantedN kR rfl rfl ?_
 refine D.each [4,20] kR rfl ?_;refine D.econs 4 1048575 rfl D.wantedN kR (fun _ _ h=>h) ?_ ?_
 ·refine Z.ld hS rfl AtF rfl ?_;refine HMs ?_;refine D.ef 20 2097151 ?_;refine Z.bs hS rfl rfl rfl ?_;clear hS;intro g w hS hge;refine HMs ?_;refine D.ef 21 4194303 ?_;refine Z.apm (fc:=Sp.cells) (l:=sp) (l':=[spOf s.count e]) hS rfl rfl rfl AtF (hS.lit1 AtF rfl rfl) LnF LnF ?_;clear hS;intro A2 c2' w hS;rw [← List.length_append] at hS ⊢;refine HMs ?_;refine Sh.dp 22 8388607 ?_;refine Sh.dp 23 16777215 ?_;refine D.ef 24 33554431 ?_;refine Z.st hS rfl AtF rfl rfl ?_;clear hS;intro w hS;refine HMl ?_;refine D.dn ?_;refine sQ ?_;intro w hS;refine Dnt Tryz.results42 ?_;refine ⟨k',rfl,hk',?_⟩;simp only [SIM,Sep.ex_open,Sep.all_open,List.cons_append,List.nil_append];exact ⟨⟨a,(Ac,cc),(A2,c2'),(Ar,cr),x0,x1,g0,g1⟩,hS.sb⟩
 refine D.econs 20 2097135 rfl D.wantedN kR (fun _ _ h=>h) ?_ ?_
 ·refine Z.bs hS rfl rfl rfl ?_;clear hS;intro g w hS hge;refine HMs ?_;refine D.ef 4 2097151 ?_;refine Z.ld hS rfl AtF rfl ?_;refine HMs ?_;refine D.ef 21 4194303 ?_;refine Z.apm (fc:=Sp.cells) (l:=sp) (l':=[spOf s.count e]) hS rfl rfl rfl AtF (hS.lit1 AtF rfl rfl) LnF LnF ?_;clear hS;intro A2 c2' w hS;rw [← List.length_append] at hS ⊢;refine HMs ?_;refine Sh.dp 22 8388607 ?_;refine Sh.dp 23 16777215 ?_;refine D.ef 24 33554431 ?_;refine Z.st hS rfl AtF rfl rfl ?_;clear hS;intro w hS;refine HMl ?_;refine D.dn ?_;refine sQ ?_;intro w hS;refine Dnt Tryz.results42 ?_;refine ⟨k',rfl,hk',?_⟩;simp only [SIM,Sep.ex_open,Sep.all_open,List.cons_append,List.nil_append];exact ⟨⟨a,(Ac,cc),(A2,c2'),(Ar,cr),x0,x1,g0,g1⟩,hS.sb⟩
 exact D.enil
def ea0:En:=⟨1,0,0,0,1,0,0,0,0⟩
def ea1:En:=⟨2,0,0,0,-1,1,0,20,0⟩
def sa1:Sta:=effP (newS c2) ea0
def ga1:Ga:=⟨0,0,[⟨0,1,0,0,20⟩]⟩
theorem ea_i64:ea0.i64∧ea1.i64:=by
 constructor<;>(refine ⟨?_,?_,?_,?_,?_,?_,?_,?_,?_⟩<;>(unfold i64ok;decide))
theorem ea0_acc:accP c2 (newS c2) ea0=true:=by kernel_rfl
theorem ea1_acc:accP c2 sa1 ea1=true:=by kernel_rfl
theorem ea1_val:validP c2 ea1=true:=by kernel_rfl
theorem yik:tenP sa1 0=⟨true,false,0,1,-1,-1,0,⟨-1,0,0,0,0⟩⟩:=by kernel_rfl
theorem yij:celP sa1 0=⟨1,0,0,0⟩:=by kernel_rfl
theorem newS2_ok:(newS c2).ok c2:=newS_ok (by decide)
theorem sa1_ok:sa1.ok c2:=ybJ newS2_ok rfl kR kR
theorem ea1_gr:GrOk c2 sa1 ea1:=by
 have h1:tenP sa1 ea1.tenant=_:=yik;have h2:celP sa1 ea1.cell=_:=yij;refine ⟨?_,?_,?_,?_,?_,?_,?_,?_,?_,?_,?_,?_,?_,?_⟩<;>(try rw [h1])<;>(try rw [h2])<;>decide
theorem yci:∀ i (h:i < [ea0,ea1].length),StepOk c2 (stN c2 [ea0,ea1] i) [ea0,ea1][i]
 | 0,_=>⟨newS2_ok,⟨Int.le_refl 0,(by decide:(0:Int)≤5000)⟩,ea0_acc,.inl rfl⟩
 | 1,_=>⟨sa1_ok,⟨(by decide:(0:Int)≤1),(by decide:(1:Int)≤5000)⟩,ea1_acc,.inr ⟨rfl,ea1_val,(by decide:(1:Int) < 4096),Int.le_refl 0,ea1_gr⟩⟩
theorem yix:PrOk (newS c2) [] 1 0 0 ea0:=⟨.inr ⟨rfl,rfl,rfl⟩,ea_i64.1,by decide,by decide,by decide,rfl,newS2_ok,ea0_acc,.inl rfl⟩
theorem ea1_pr {k:Nat} (hk:k≤1000000):PrOk sa1 [⟨1,ea0⟩] 3 1 k ea1:=⟨.inl ⟨rfl,rfl⟩,ea_i64.2,by decide,by decide,hk,rfl,sa1_ok,ea1_acc,.inr ⟨rfl,ea1_val,(by decide:(1:Int) < 4096),Int.le_refl 0,ea1_gr⟩⟩
theorem ygE:giveP ⟨0,0,[]⟩ ⟨0,1,0,0,20⟩=(ga1,0):=by kernel_rfl
theorem yed:modM 0 1=0:=by decide
theorem yfl (gs gp gq:Nat) (s:Sta) (log:List Lg) (ro t:Int) (k:Nat) (c:Cp) (r:World) (F:List Res) (w:World) (hS:Sep r [] (SIM gs gp gq s log ro t k ⟨0,0,[]⟩ c [(spOf 1 ea1)]::F) w) :
  Calls Tryz.prog 43 #[.pointer (some ⟨gs,0,none⟩),.int .i64 0] w fun y w'=>y=.returned (.tuple #[])∧Sep r [] (SIM gs gp gq s log ro t k ga1 c [(spOf 1 ea1)]::F) w':=by
 simp only [SIM,Sep.ex_open,Sep.all_open,List.cons_append,List.nil_append] at hS;obtain ⟨⟨a,⟨Ac,cc⟩,⟨Ag,cg⟩,⟨Ar,cr⟩,x0,x1,g0,g1⟩,hS⟩:=hS
 dsimp only at hS
 simp only [List.length_cons,List.length_nil,Nat.zero_add] at hS;obtain ⟨gsp,osp,hA,_,hra⟩:=(hS.slrows (e:=124) (v:=.slice Ag 1 cg) AtF).mat oM (q:=0) (by simp);subst hA;obtain ⟨gcp,ocp,hB,_,hrb⟩:=(hS.slrows (e:=36) (v:=.slice Ac 1 cc) AtF).mat oM (q:=0) (by simp);subst hB;obtain ⟨grw,orw,hC,_,hrc⟩:=(hS.slrows (e:=34) (v:=.slice Ar 2 cr) AtF).mat oM (q:=0) (by simp);subst hC;clear hra hrb hrc;refine Z.enter Tryz.func43 Tryz.ntmps43 rfl rfl ?_;refine sQ ?_;intro w hS;refine Z.cut [4,11,12,13,14,15,16,17,18,19,20,21,22,23] (fun w z=>∃ g4,z=[(4,.pointer (some ⟨g4,0,.none⟩))]∧Sep r [] (.blk g4 124 (spOf 1 ea1).cells::.blk gs 119 (c2.cl a++[.pointer (some ⟨gp,0,none⟩),.slice (some ⟨gcp,ocp,none⟩) 1 cc,.slice (some ⟨gsp,osp,none⟩) 1 cg,.slice none 0 0,.int .i64 0])::CfO c2 a::.sl 36 1 (.slice (some ⟨gcp,ocp,none⟩) 1 cc) ([(⟨some ⟨grw,orw,none⟩,2,cr⟩:Sv)].map Sv.cells)::.sl 34 1 (.slice (some ⟨grw,orw,none⟩) 2 cr) ([x0,x1].map ptC)::.sl 124 7 (.slice (some ⟨gsp,osp,none⟩) 1 cg) ([(spOf 1 ea1)].map Sp.cells)::PLN gp gq 1 c2 s::Q1 gq ro t log k::PC x0 0 0 (.pointer (some ⟨g0,0,.none⟩)) c::GP g0 ⟨0,0,[]⟩::F) w) ?_ ?_
 ·refine D.startS (Lr:=[.blk gs 119 _,.sl 124 7 (.slice (some ⟨gsp,osp,none⟩) 1 cg) ([(spOf 1 ea1)].map Sp.cells)]) (hS.sb) 14 15 kR rfl ?_;replace hS:=hS.drew;refine Sh.dp 0 1 ?_;refine Sh.dp 1 3 ?_;refine Sh.dp 2 7 ?_;refine Sh.dp 4 23 ?_;refine Sh.dp 5 55 ?_;refine Sh.dp 6 119 ?_;refine Sh.dp 7 247 ?_;refine Sh.dl 3 255 ?_;refine Sh.dl 8 511 ?_;refine Sh.dp 9 1023 ?_;refine D.each [10,13] kR rfl ?_;refine D.econs 10 2047 rfl D.wantedN kR (fun _ _ h=>h) ?_ ?_
  ·refine Z.cl (yau 0 1 _ _ _ hS oM oM) rfl ?_;clear hS;rintro e w ⟨rfl,hS⟩;refine ⟨_,rfl,?_⟩;rw [yed];refine HMs ?_
   first|refine D.ixn 11 4095 rfl D.wantedN kR rfl rfl rfl oM ?_|refine D.ix 11 4095 rfl D.wantedN kR rfl rfl rfl oM ?_|refine D.ia 11 4095 rfl D.wantedN kR rfl rfl rfl oM ?_
   refine D.ldR 12 8191 rfl D.wantedN kR rfl (fun W h=>by have h1:=(h.slrows (e:=124) (v:=.slice (some ⟨gsp,osp,none⟩) 1 cg) AtF).elem (q:=0) oM (by simp);simpa using h1) rfl ?_;refine D.ef 13 16383 ?_;refine Z.al hS ?_;clear hS;intro g w hS hge;refine HMs ?_;refine D.ef 14 32767 ?_;refine Z.st hS rfl AtF rfl rfl ?_;clear hS;intro w hS;refine HMl ?_;refine D.dn ?_;refine Sh.cut [(4,_)] ?_;exact ⟨_,rfl,hS.sb⟩
  refine D.econs 13 9215 rfl D.wantedN kR (fun _ _ h=>h) ?_ ?_
  ·refine Z.al hS ?_;clear hS;intro g w hS hge;refine HMs ?_;refine D.ef 10 10239 ?_;refine Z.cl (yau 0 1 _ _ _ hS oM oM) rfl ?_;clear hS;rintro e w ⟨rfl,hS⟩;refine ⟨_,rfl,?_⟩;rw [yed];refine HMs ?_
   first|refine D.ixn 11 12287 rfl D.wantedN kR rfl rfl rfl oM ?_|refine D.ix 11 12287 rfl D.wantedN kR rfl rfl rfl oM ?_|refine D.ia 11 12287 rfl D.wantedN kR rfl rfl rfl oM ?_
   refine D.ldR 12 16383 rfl D.wantedN kR rfl (fun W h=>by have h1:=(h.slrows (e:=124) (v:=.slice (some ⟨gsp,osp,none⟩) 1 cg) AtF).elem (q:=0) oM (by simp);simpa using h1) rfl ?_;refine D.ef 14 32767 ?_;refine Z.st hS rfl AtF rfl rfl ?_;clear hS;intro w hS;refine HMl ?_;refine D.dn ?_;refine Sh.cut [(4,_)] ?_;exact ⟨_,rfl,hS.sb⟩
  exact D.enil
 clear hS;rintro f0 w _ ⟨g4,rfl,hS⟩;have hsc:(spOf 1 ea1).cells=[.int .i64 0,.int .i64 1,.int .i64 0,.int .i64 1,.int .i64 0,.int .i64 0,.int .i64 20]:=rfl;replace hS:=hS.fo (R:=.blk g4 124 (spOf 1 ea1).cells);rw [hsc] at hS;refine sQ ?_;intro w hS;refine D.startS (Lr:=[.blk g4 124 [.int .i64 0,.int .i64 1,.int .i64 0,.int .i64 1,.int .i64 0,.int .i64 0,.int .i64 20],.blk gs 119 _,.sl 36 1 (.slice (some ⟨gcp,ocp,none⟩) 1 cc) ([(⟨some ⟨grw,orw,none⟩,2,cr⟩:Sv)].map Sv.cells),.sl 34 1 (.slice (some ⟨grw,orw,none⟩) 2 cr) ([x0,x1].map ptC)]) (hS.sb) 17 17 kR rfl ?_;replace hS:=hS.drew;refine Sh.dp 0 1 ?_;refine Sh.dp 1 3 ?_;refine Sh.dp 2 7 ?_;refine Sh.dp 4 23 ?_;refine Sh.dp 8 279 ?_;refine Sh.dp 9 791 ?_;refine Sh.dp 14 17175 ?_;refine Sh.dl 3 17183 ?_;refine Sh.dl 5 17215 ?_
 first|refine D.ixn 6 17279 rfl D.wantedN kR rfl rfl rfl oM ?_|refine D.ix 6 17279 rfl D.wantedN kR rfl rfl rfl oM ?_|refine D.ia 6 17279 rfl D.wantedN kR rfl rfl rfl oM ?_
 refine D.ldR 7 17407 rfl D.wantedN kR rfl (fun W h=>(show W.rangeAt gcp (ocp+0 * 1) [.slice (some ⟨grw,orw,none⟩) 2 cr] from by have h1:=(h.slrows (e:=36) (v:=.slice (some ⟨gcp,ocp,none⟩) 1 cc) AtF).elem (q:=0) oM (by simp);simpa [Sv.cells] using h1)) rfl ?_;refine Sh.dl 10 18431 ?_
 first|refine D.ixn 11 20479 rfl D.wantedN kR rfl rfl rfl oM ?_|refine D.ix 11 20479 rfl D.wantedN kR rfl rfl rfl oM ?_|refine D.ia 11 20479 rfl D.wantedN kR rfl rfl rfl oM ?_
 refine D.ldR 12 24575 rfl D.wantedN kR rfl (fun W h=>by have h1:=(h.slrows (e:=34) (v:=.slice (some ⟨grw,orw,none⟩) 2 cr) AtF).elem (q:=0) oM (by simp);simpa using h1) rfl ?_;refine Sh.dl 15 57343 ?_;refine D.ef 13 65535 ?_;replace hS:=hS.fo (R:=PC x0 0 0 _ _);refine dQ (ybP x0 g0 0 0 c _ _ _ hS) ?_;intro w hS;refine D.ef 16 131071 ?_;replace hS:=hS.fo (R:=GP g0 _);refine Z.cl (yhH g0 ⟨0,0,[]⟩ ⟨0,1,0,0,20⟩ _ _ _ hS (by simp) (by simp)) rfl ?_;clear hS;rintro e w ⟨rfl,hS⟩;refine ⟨_,rfl,?_⟩;rw [ygE] at hS;refine HMs ?_;refine D.dn ?_;refine sQ ?_;intro w hS;refine Dn Tryz.results43 ?_;refine ⟨rfl,?_⟩;simp only [SIM,Sep.ex_open,Sep.all_open,List.cons_append,List.nil_append];exact ⟨⟨a,(_,cc),(_,cg),(_,cr),x0,x1,g0,g1⟩,hS.sb⟩
def reqA:Rq:=⟨0,1,1,2,0,⟨#[97]⟩,⟨#[98]⟩⟩
def cellA:Cp:=(exP .zero 0 1 3 reqA).c
theorem exA:exP .zero 0 (accs ga1.ws 0 3 0) 3 reqA=⟨cellA,⟨0,1,0,⟨#[]⟩⟩⟩:=by kernel_rfl
theorem yiA:∀ y,y∈ga1.ws→1≤y.epoch∧y.epoch≤1048576:=by
 intro y hy
 rcases List.mem_cons.1 hy with rfl|hy
 ·decide
 ·cases hy
theorem ybs (r:World) (F:List Res) (w:World) (hS:Sep r [] F w) :
  Calls Tryz.prog 9 #[] w fun y w'=>y=.returned (.bool true)∧Sep r [] F w':=by
 refine Z.enter Tryz.func9 Tryz.ntmps9 rfl rfl ?_;refine sQ ?_;intro w hS;refine cQ (yji _ _ _ hS) rfl ?_;clear hS;rintro e w ⟨a0,rfl,hS⟩;refine eQ ?_;intro w hS;refine cQ (yhA a0 _ _ _ hS) rfl ?_;clear hS;rintro e w ⟨gs,gp,gq,rfl,hS⟩;refine eQ ?_;intro w hS;refine cQ (yeZ gs gp gq (newS c2) [] 1 0 0 ⟨0,0,[]⟩ .zero [] ea0 _ _ _ hS yix rfl) rfl ?_;clear hS;rintro e w ⟨k1,rfl,hk1,hS⟩;refine eQ ?_;intro w hS;refine cQ (ye0 gs gp gq sa1 [⟨1,ea0⟩] 3 1 k1 ⟨0,0,[]⟩ .zero [] ea1 _ _ _ hS (ea1_pr oM) rfl (by simp)) rfl ?_;clear hS;rintro e w ⟨k2,rfl,hk2,hS⟩;refine eQ ?_;intro w hS;refine cQ (yfl gs gp gq _ _ 3 1 k2 .zero _ _ _ hS) rfl ?_;clear hS;rintro e w ⟨rfl,hS⟩;refine ⟨_,rfl,?_⟩;simp only [SIM,Sep.ex_open,Sep.all_open,List.cons_append,List.nil_append] at hS;obtain ⟨⟨a,⟨Ac,cc⟩,⟨Ag,cg⟩,⟨Ar,cr⟩,x0,x1,g0,g1⟩,hS⟩:=hS
 dsimp only at hS
 obtain ⟨gcp,ocp,hB,_,hrb⟩:=(hS.slrows (e:=36) (v:=.slice Ac 1 cc) AtF).mat oM (q:=0) (by simp);subst hB;obtain ⟨grw,orw,hC,_,hrc⟩:=(hS.slrows (e:=34) (v:=.slice Ar 2 cr) AtF).mat oM (q:=0) (by simp);subst hC;have hb1:w.rangeAt gcp (ocp+0 * 1) [.slice (some ⟨grw,orw,none⟩) 2 cr]:=by simpa [Sv.cells] using hrb
 have hb2:w.rangeAt grw (orw+0 * 1) (ptC x0):=by simpa using hrc
 clear hrb hrc;refine sQ ?_;intro w hS;replace hS:=hS.fo (R:=GP g0 _);replace hS:=hS.fo (R:=PC x0 0 0 _ _);refine cQ (yhX x0 g0 0 0 .zero ga1 0 3 reqA _ _ _ hS CG.zero yiA (by simp [ga1]) (by simp [Cp.zero])) rfl ?_;clear hS;rintro e w ⟨rfl,hS⟩;refine ⟨_,rfl,?_⟩;rw [exA] at hS ⊢
 repeat' first|refine K ?_|refine Sa ?_;clear hS;intro w hS|refine K3 ?_;clear hS;intro g w hS hge|refine KC ?_ ?_<;>intro hb<;>try exact JX|fail
 rename Nat=>g2;have hlg:([⟨1,ea0⟩,⟨1,ea1⟩]:List Lg).map Lg.e=[ea0,ea1]:=rfl;replace hS:=hS.sub (L':=.blk g2 114 [.int .i64 0,.int .i64 1,.int .i64 0,.string ⟨#[]⟩]::.blk gs 119 (c2.cl a++[.pointer (some ⟨gp,0,none⟩),.slice (some ⟨gcp,ocp,none⟩) 1 cc,.slice Ag [spOf 1 ea1].length cg,.slice none 0 0,.int .i64 0])::CfO c2 a::PLN gp gq 1 c2 (effP sa1 ea1)::Q1 gq 3 1 [⟨1,ea0⟩,⟨1,ea1⟩] k2::F) SuF;refine Z.cut [3,4,33,34,35,36,37,38,39,40,41,42,43,44,45] (fun w z=>∃ g3,z=[(3,.pointer (some ⟨g3,0,.none⟩)),(4,.bool true)]∧Sep r [] (.blk g3 124 (spOf 1 ea1).cells::.blk g2 114 [.int .i64 0,.int .i64 1,.int .i64 0,.string ⟨#[]⟩]::F) w) ?_ ?_
 ·refine D.startS (Lr:=[.blk gs 119 (c2.cl a++[.pointer (some ⟨gp,0,none⟩),.slice (some ⟨gcp,ocp,none⟩) 1 cc,.slice Ag [spOf 1 ea1].length cg,.slice none 0 0,.int .i64 0])]) (hS.sb) 14 16 kR rfl ?_;replace hS:=hS.drew;refine Sh.dp 0 1 ?_;refine Sh.dp 1 3 ?_;refine Sh.dp 2 7 ?_;refine Sh.dp 4 23 ?_;refine Sh.dp 5 55 ?_;refine Sh.dp 6 119 ?_;refine Sh.dl 3 127 ?_;refine Sh.dl 7 255 ?_;refine D.each [8,13] kR rfl ?_;refine D.econs 8 511 rfl D.wantedN kR (fun _ _ h=>h) ?_ ?_
  ·replace hS:=hS.fo (R:=Q1 gq 3 1 [⟨1,ea0⟩,⟨1,ea1⟩] k2);replace hS:=hS.fo (R:=PLN gp gq 1 c2 (effP sa1 ea1));refine Z.cl (ybB gp gq c2 _ 3 1 [⟨1,ea0⟩,⟨1,ea1⟩] k2 _ _ _ hS (by simp)) rfl ?_;clear hS;rintro e w ⟨Al,cl,rfl,hS⟩;refine ⟨_,rfl,?_⟩;rw [hlg] at hS ⊢;refine HMs ?_;refine D.each [9,13] kR rfl ?_;refine D.econs 9 1023 rfl D.wantedN kR (fun _ _ h=>h) ?_ ?_
   ·refine Z.cl (ya1 c2 a ea0 ea1 (.slice Al [ea0,ea1].length cl) 0 3 _ _ _ hS (CfA.of_co AtF).cf ybI (Reads.of_at (e:=63) (v:=.slice Al [ea0,ea1].length cl) AtF) yci rfl rfl rfl (by decide)) rfl ?_;clear hS;rintro e w ⟨rfl,hS⟩;refine ⟨_,rfl,?_⟩;refine HMs ?_;refine Sh.dp 10 2047 ?_;refine Sh.dp 11 4095 ?_;refine Sh.dp 12 8191 ?_;refine D.ef 13 16383 ?_;refine Z.al hS ?_;clear hS;intro g w hS hge;refine HMs ?_;refine D.ef 14 32767 ?_;refine Z.st hS rfl AtF rfl rfl ?_;clear hS;intro w hS;refine HMl ?_;refine Sh.dp 15 65535 ?_;refine D.dn ?_;refine Sh.cut [(3,_),(4,_)] ?_;exact ⟨_,rfl,hS.sb⟩
   refine D.econs 13 8703 rfl D.wantedN kR (fun _ _ h=>h) ?_ ?_
   ·refine Z.al hS ?_;clear hS;intro g w hS hge;refine HMs ?_;refine D.ef 9 9215 ?_;refine Z.cl (ya1 c2 a ea0 ea1 (.slice Al [ea0,ea1].length cl) 0 3 _ _ _ hS (CfA.of_co AtF).cf ybI (Reads.of_at (e:=63) (v:=.slice Al [ea0,ea1].length cl) AtF) yci rfl rfl rfl (by decide)) rfl ?_;clear hS;rintro e w ⟨rfl,hS⟩;refine ⟨_,rfl,?_⟩;refine HMs ?_;refine Sh.dp 10 10239 ?_;refine Sh.dp 11 12287 ?_;refine Sh.dp 12 16383 ?_;refine D.ef 14 32767 ?_;refine Z.st hS rfl AtF rfl rfl ?_;clear hS;intro w hS;refine HMl ?_;refine Sh.dp 15 65535 ?_;refine D.dn ?_;refine Sh.cut [(3,_),(4,_)] ?_;exact ⟨_,rfl,hS.sb⟩
   exact D.enil
  refine D.econs 13 8447 rfl D.wantedN kR (fun _ _ h=>h) ?_ ?_
  ·refine Z.al hS ?_;clear hS;intro g w hS hge;refine HMs ?_;refine D.ef 8 8703 ?_;replace hS:=hS.fo (R:=Q1 gq 3 1 [⟨1,ea0⟩,⟨1,ea1⟩] k2);replace hS:=hS.fo (R:=PLN gp gq 1 c2 (effP sa1 ea1));refine Z.cl (ybB gp gq c2 _ 3 1 [⟨1,ea0⟩,⟨1,ea1⟩] k2 _ _ _ hS (by simp)) rfl ?_;clear hS;rintro e w ⟨Al,cl,rfl,hS⟩;refine ⟨_,rfl,?_⟩;rw [hlg] at hS ⊢;refine HMs ?_;refine D.ef 9 9215 ?_;refine Z.cl (ya1 c2 a ea0 ea1 (.slice Al [ea0,ea1].length cl) 0 3 _ _ _ hS (CfA.of_co AtF).cf ybI (Reads.of_at (e:=63) (v:=.slice Al [ea0,ea1].length cl) AtF) yci rfl rfl rfl (by decide)) rfl ?_;clear hS;rintro e w ⟨rfl,hS⟩;refine ⟨_,rfl,?_⟩;refine HMs ?_;refine Sh.dp 10 10239 ?_;refine Sh.dp 11 12287 ?_;refine Sh.dp 12 16383 ?_;refine D.ef 14 32767 ?_;refine Z.st hS rfl AtF rfl rfl ?_;clear hS;intro w hS;refine HMl ?_;refine Sh.dp 15 65535 ?_;refine D.dn ?_;refine Sh.cut [(3,_),(4,_)] ?_;exact ⟨_,rfl,hS.sb⟩
  exact D.enil
 clear hS;rintro f0 w _ ⟨g3,rfl,hS⟩;have hsc:(spOf 1 ea1).cells=[.int .i64 0,.int .i64 1,.int .i64 0,.int .i64 1,.int .i64 0,.int .i64 0,.int .i64 20]:=rfl;rw [hsc] at hS;refine sQ ?_;intro w hS;refine Dnt Tryz.results9 ?_;exact ⟨rfl,hS.sb⟩
end Go.Proofs.YtfmnjbhncnldmaaGreat
