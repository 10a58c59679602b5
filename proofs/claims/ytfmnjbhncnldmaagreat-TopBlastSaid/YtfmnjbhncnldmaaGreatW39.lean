import Derived.Test.YtfmnjbhncnldmaaGreatW26
import Derived.Test.YtfmnjbhncnldmaaGreatW28
import Derived.Test.YtfmnjbhncnldmaaGreatW38
set_option maxHeartbeats 4000000
set_option linter.unusedSimpArgs false
set_option linter.unusedVariables false
namespace Go.Proofs.YtfmnjbhncnldmaaGreat
open Go.RowKit
attribute [local irreducible] Res.blk Res.sl Res.all Res.ex Res.pure Res.star
theorem reads0 (e:Nat) {r:World} {F:List Res} {sz:Nat}:Reads r F sz (.slice none 0 0) []:=fun _ _ h=>(Z.nilsl h e sz none).slrows .here
section
variable (r:World) (F:List Res) (Q:Rp→Rp→Rp→Prop) (m:Nat) (x0 x1 x2:Rp) (rest:List Ms) (E:List Res)
theorem ydW (L:List Lg) (pv cm:Int) (el:List Lg) (A:Option Addr) (c:Nat) (hx:x1.id=1∧x1.t=1∧x1.ro=1∧x1.log=L) (hco:0≤x1.co∧x1.co≤L.length) (hn:x1.n≤1000000) (hel:el.length≤1) (hsh:∀ l,l∈el→l.e.i64∧shapeP l.e=true∧l.term=1) (hpv:pv=if L=[] then 0 else 1) (htm:∀ l,l∈L→l.term=1) (hL:L.length < 4000) (hcm:0≤cm∧cm≤4096) (hrl:rest.length≤50) (hrd:Reads r E 10 (.slice A el.length c) (el.map Lg.cells)) (n0:NtOk x0) (n2:NtOk x2)
  (hk:∀ A1 c1,FlOk r F Q m x0 (takenR x1 el cm) x2 (rest++[(⟨4,1,0,1,(L.length:Int)+el.length,0,0,true,[],none,0⟩:Ms)]) (.sl 341 9 (.slice A1 1 c1) ([(⟨4,1,0,1,(L.length:Int)+el.length,0,0,true,[],none,0⟩:Ms)].map Ms.cells)::E)) :
  FlOk r F Q (m+1) x0 x1 x2 (⟨3,0,1,1,L.length,pv,cm,false,el,A,c⟩::rest) E:=by
 obtain ⟨e1,e2,e3,rfl⟩:=hx;have hlt:=last_tm htm;refine ⟨3,0,1,1,x1.log.length,pv,cm,false,el,A,c,rest,x1.gp,rfl,hrl,oM,oM,rfl,⟨fun K1 K2 K3 K4 K5 w hS=>?_⟩⟩;have hS2:=(hS.fo (R:=.blk x1.gp 331 x1.cells)).fo (R:=JN x1.gj x1.t x1.v x1.log x1.n);have hp2:(x1.log=[]∧pv=0)∨(0 < x1.log.length∧pv=1):=by
  by_cases h:x1.log=[]
  ·exact .inl ⟨h,by rw [hpv,if_pos h]⟩
  ·exact .inr ⟨List.length_pos_iff.2 h,by rw [hpv,if_neg h]⟩
 have hpv3:(x1.log.length:Int)=0∧pv=0∨0 < (x1.log.length:Int)∧pv=1:=hp2.elim (fun h=>.inl ⟨by rw [h.1];rfl,h.2⟩) (fun h=>.inr ⟨oM,h.2⟩);refine (yb9 x1 _ _ _ hS2 0 1 1 pv cm false el A c ⟨e1.symm,by rw [e1];decide,rfl,oM,oM,hcm,hel,fun l h=>(hsh l h).2⟩ e3 (fun h=>by rw [hlt,hpv]) hco hsh e2 hn oM (((((((((hrd.cons _).cons _).cons _).cons _).cons _).cons _).cons _).cons _).cons _)).mono ?_;rintro e w' ⟨A1,c1,rfl,hS⟩;have hst:stM x1 0 ((x1.log.length:Int)+el.length) true=⟨4,1,0,1,(x1.log.length:Int)+el.length,0,0,true,[],none,0⟩:=by simp [stM,e1,e2]
 rw [hst] at hS;refine ⟨_,[_],x0,(takenR x1 el cm),x2,_,rfl,Nat.le_of_ble_eq_true rfl,Reads.of_at (e:=341) (v:=.slice A1 1 c1) .here,rfl,rfl,rfl,n0,?n,n2,hS.sb,hk A1 c1⟩;refine ⟨?_,?_⟩
 ·show 0≤max x1.co (min cm ((x1.log.length:Int)+el.length))∧max x1.co (min cm ((x1.log.length:Int)+el.length))≤((x1.log++el).length:Int)
  rw [List.length_append];omega
 ·show (x1.log++el).length≤5000
  rw [List.length_append];omega
theorem ydX (L:List Lg) (pv cm:Int) (el:List Lg) (A:Option Addr) (c:Nat) (hx:x2.id=2∧x2.t=1∧x2.ro=1∧x2.log=L) (hco:0≤x2.co∧x2.co≤L.length) (hn:x2.n≤1000000) (hel:el.length≤1) (hsh:∀ l,l∈el→l.e.i64∧shapeP l.e=true∧l.term=1) (hpv:pv=if L=[] then 0 else 1) (htm:∀ l,l∈L→l.term=1) (hL:L.length < 4000) (hcm:0≤cm∧cm≤4096) (hrl:rest.length≤50) (hrd:Reads r E 10 (.slice A el.length c) (el.map Lg.cells)) (n0:NtOk x0) (n2:NtOk x1)
  (hk:∀ A1 c1,FlOk r F Q m x0 x1 (takenR x2 el cm) (rest++[(⟨4,2,0,1,(L.length:Int)+el.length,0,0,true,[],none,0⟩:Ms)]) (.sl 341 9 (.slice A1 1 c1) ([(⟨4,2,0,1,(L.length:Int)+el.length,0,0,true,[],none,0⟩:Ms)].map Ms.cells)::E)) :
  FlOk r F Q (m+1) x0 x1 x2 (⟨3,0,2,1,L.length,pv,cm,false,el,A,c⟩::rest) E:=by
 obtain ⟨e1,e2,e3,rfl⟩:=hx;have hlt:=last_tm htm;refine ⟨3,0,2,1,x2.log.length,pv,cm,false,el,A,c,rest,x2.gp,rfl,hrl,oM,oM,rfl,⟨fun K1 K2 K3 K4 K5 w hS=>?_⟩⟩;have hS2:=(hS.fo (R:=.blk x2.gp 331 x2.cells)).fo (R:=JN x2.gj x2.t x2.v x2.log x2.n);have hp2:(x2.log=[]∧pv=0)∨(0 < x2.log.length∧pv=1):=by
  by_cases h:x2.log=[]
  ·exact .inl ⟨h,by rw [hpv,if_pos h]⟩
  ·exact .inr ⟨List.length_pos_iff.2 h,by rw [hpv,if_neg h]⟩
 have hpv3:(x2.log.length:Int)=0∧pv=0∨0 < (x2.log.length:Int)∧pv=1:=hp2.elim (fun h=>.inl ⟨by rw [h.1];rfl,h.2⟩) (fun h=>.inr ⟨oM,h.2⟩);refine (yb9 x2 _ _ _ hS2 0 2 1 pv cm false el A c ⟨e1.symm,by rw [e1];decide,rfl,oM,oM,hcm,hel,fun l h=>(hsh l h).2⟩ e3 (fun h=>by rw [hlt,hpv]) hco hsh e2 hn oM (((((((((hrd.cons _).cons _).cons _).cons _).cons _).cons _).cons _).cons _).cons _)).mono ?_;rintro e w' ⟨A1,c1,rfl,hS⟩;have hst:stM x2 0 ((x2.log.length:Int)+el.length) true=⟨4,2,0,1,(x2.log.length:Int)+el.length,0,0,true,[],none,0⟩:=by simp [stM,e1,e2]
 rw [hst] at hS;refine ⟨_,[_],x0,x1,(takenR x2 el cm),_,rfl,Nat.le_of_ble_eq_true rfl,Reads.of_at (e:=341) (v:=.slice A1 1 c1) .here,rfl,rfl,rfl,n0,n2,?n,hS.sb,hk A1 c1⟩;refine ⟨?_,?_⟩
 ·show 0≤max x2.co (min cm ((x2.log.length:Int)+el.length))∧max x2.co (min cm ((x2.log.length:Int)+el.length))≤((x2.log++el).length:Int)
  rw [List.length_append];omega
 ·show (x2.log++el).length≤5000
  rw [List.length_append];omega
theorem ydY (ix:Int) (hx:x0.id=0∧x0.t=1∧x0.ro=3) (hix:0≤ix∧ix≤x0.log.length) (hl:x0.log.length≤4000) (hc:0≤x0.co∧(x0.co=x0.log.length∨x0.co+1=x0.log.length)) (hlt:x0.co < x0.log.length→(lgAt x0.log (x0.log.length - 1)).term=x0.t) (hrl:rest.length≤50) (n1:NtOk x1) (n2:NtOk x2)
  (hk:FlOk r F Q m (heardR x0 1 ix) x1 x2 rest E) :
  FlOk r F Q (m+1) x0 x1 x2 (⟨4,1,0,1,ix,0,0,true,[],none,0⟩::rest) E:=by
 obtain ⟨e1,e2,e3⟩:=hx;have hrd:Reads r E 10 (.slice none ([]:List Lg).length 0) (([]:List Lg).map Lg.cells):=reads0 345;refine ⟨4,1,0,1,ix,0,0,true,[],none,0,rest,x0.gp,rfl,hrl,oM,oM,rfl,⟨fun K1 K2 K3 K4 K5 w hS=>?_⟩⟩;have hS2:=(hS.fo (R:=.blk x0.gp 331 x0.cells)).fo (R:=JN x0.gj x0.t x0.v x0.log x0.n);refine (yca x0 _ _ _ hS2 1 0 1 ix 0 0 [] none 0 ⟨e1.symm,by rw [e1];decide,rfl,⟨hix.1,by show ix+0≤4096;omega⟩,oM,oM,by decide,fun l h=>by cases h⟩ (((((((((hrd.cons _).cons _).cons _).cons _).cons _).cons _).cons _).cons _).cons _) e2 e3 e1 hix.2 oM hc hlt).mono ?_;rintro e w' ⟨rfl,hS⟩;refine ⟨_,[],heardR x0 1 ix,x1,x2,E,rfl,by decide,reads0 341,rfl,rfl,rfl,⟨?_,?_⟩,n1,n2,hS.sb,by rw [List.append_nil];exact hk⟩
 ·show 0≤advC (heardN x0 1 ix)∧advC (heardN x0 1 ix)≤(x0.log.length:Int)
  unfold advC
  split
  ·exact ⟨by show (0:Int)≤(x0.log.length:Int);omega,by show (x0.log.length:Int)≤_;omega⟩
  ·exact ⟨by show 0≤x0.co;omega,by show x0.co≤_;omega⟩
 ·show x0.log.length≤5000
  omega
theorem ydZ (ix:Int) (hx:x0.id=0∧x0.t=1∧x0.ro=3) (hix:0≤ix∧ix≤x0.log.length) (hl:x0.log.length≤4000) (hc:0≤x0.co∧(x0.co=x0.log.length∨x0.co+1=x0.log.length)) (hlt:x0.co < x0.log.length→(lgAt x0.log (x0.log.length - 1)).term=x0.t) (hrl:rest.length≤50) (n1:NtOk x1) (n2:NtOk x2)
  (hk:FlOk r F Q m (heardR x0 2 ix) x1 x2 rest E) :
  FlOk r F Q (m+1) x0 x1 x2 (⟨4,2,0,1,ix,0,0,true,[],none,0⟩::rest) E:=by
 obtain ⟨e1,e2,e3⟩:=hx;have hrd:Reads r E 10 (.slice none ([]:List Lg).length 0) (([]:List Lg).map Lg.cells):=reads0 345;refine ⟨4,2,0,1,ix,0,0,true,[],none,0,rest,x0.gp,rfl,hrl,oM,oM,rfl,⟨fun K1 K2 K3 K4 K5 w hS=>?_⟩⟩;have hS2:=(hS.fo (R:=.blk x0.gp 331 x0.cells)).fo (R:=JN x0.gj x0.t x0.v x0.log x0.n);refine (yca x0 _ _ _ hS2 2 0 1 ix 0 0 [] none 0 ⟨e1.symm,by rw [e1];decide,rfl,⟨hix.1,by show ix+0≤4096;omega⟩,oM,oM,by decide,fun l h=>by cases h⟩ (((((((((hrd.cons _).cons _).cons _).cons _).cons _).cons _).cons _).cons _).cons _) e2 e3 e1 hix.2 oM hc hlt).mono ?_;rintro e w' ⟨rfl,hS⟩;refine ⟨_,[],heardR x0 2 ix,x1,x2,E,rfl,by decide,reads0 341,rfl,rfl,rfl,⟨?_,?_⟩,n1,n2,hS.sb,by rw [List.append_nil];exact hk⟩
 ·show 0≤advC (heardN x0 2 ix)∧advC (heardN x0 2 ix)≤(x0.log.length:Int)
  unfold advC
  split
  ·exact ⟨by show (0:Int)≤(x0.log.length:Int);omega,by show (x0.log.length:Int)≤_;omega⟩
  ·exact ⟨by show 0≤x0.co;omega,by show x0.co≤_;omega⟩
 ·show x0.log.length≤5000
  omega
theorem ygz (hx:x1.id=1∧x1.t=0∧x1.log=[]) (hco:x1.co=0) (hn:x1.n≤1000000) (hrl:rest.length≤50) (n0:NtOk x0) (n2:NtOk x2)
  (hk:∀ A1 c1,FlOk r F Q m x0 (votedR x1 0) x2 (rest++[(⟨2,1,0,1,0,0,0,true,[],none,0⟩:Ms)]) (.sl 341 9 (.slice A1 1 c1) ([(⟨2,1,0,1,0,0,0,true,[],none,0⟩:Ms)].map Ms.cells)::E)) :
  FlOk r F Q (m+1) x0 x1 x2 (⟨1,0,1,1,0,0,0,false,[],none,0⟩::rest) E:=by
 obtain ⟨e1,e2,e4⟩:=hx;have hrd:Reads r E 10 (.slice none ([]:List Lg).length 0) (([]:List Lg).map Lg.cells):=reads0 345;refine ⟨1,0,1,1,0,0,0,false,[],none,0,rest,x1.gp,rfl,hrl,oM,oM,rfl,⟨fun K1 K2 K3 K4 K5 w hS=>?_⟩⟩;have hS2:=(hS.fo (R:=.blk x1.gp 331 x1.cells)).fo (R:=JN x1.gj x1.t x1.v x1.log x1.n);refine (ydu x1 _ _ _ hS2 0 1 1 0 0 0 false [] none 0 ⟨e1.symm,by rw [e1];decide,rfl,by decide,by decide,by decide,by decide,fun l h=>by cases h⟩ (((((((((hrd.cons _).cons _).cons _).cons _).cons _).cons _).cons _).cons _).cons _) e2 e4 rfl rfl hn).mono ?_;rintro e w' ⟨A1,c1,rfl,hS⟩;have hst:vdM (votedR x1 0) 0=⟨2,1,0,1,0,0,0,true,[],none,0⟩:=by simp [vdM,votedR,e1]
 rw [hst] at hS;refine ⟨_,[_],x0,(votedR x1 0),x2,_,rfl,Nat.le_of_ble_eq_true rfl,Reads.of_at (e:=341) (v:=.slice A1 1 c1) .here,rfl,rfl,rfl,n0,?n,n2,hS.sb,hk A1 c1⟩;refine ⟨?_,?_⟩
 ·show 0≤x1.co∧x1.co≤(x1.log.length:Int)
  rw [hco,e4]
  decide
 ·show x1.log.length≤5000
  rw [e4]
  decide
theorem ygA (hx:x2.id=2∧x2.t=0∧x2.log=[]) (hco:x2.co=0) (hn:x2.n≤1000000) (hrl:rest.length≤50) (n0:NtOk x0) (n2:NtOk x1)
  (hk:∀ A1 c1,FlOk r F Q m x0 x1 (votedR x2 0) (rest++[(⟨2,2,0,1,0,0,0,true,[],none,0⟩:Ms)]) (.sl 341 9 (.slice A1 1 c1) ([(⟨2,2,0,1,0,0,0,true,[],none,0⟩:Ms)].map Ms.cells)::E)) :
  FlOk r F Q (m+1) x0 x1 x2 (⟨1,0,2,1,0,0,0,false,[],none,0⟩::rest) E:=by
 obtain ⟨e1,e2,e4⟩:=hx;have hrd:Reads r E 10 (.slice none ([]:List Lg).length 0) (([]:List Lg).map Lg.cells):=reads0 345;refine ⟨1,0,2,1,0,0,0,false,[],none,0,rest,x2.gp,rfl,hrl,oM,oM,rfl,⟨fun K1 K2 K3 K4 K5 w hS=>?_⟩⟩;have hS2:=(hS.fo (R:=.blk x2.gp 331 x2.cells)).fo (R:=JN x2.gj x2.t x2.v x2.log x2.n);refine (ydu x2 _ _ _ hS2 0 2 1 0 0 0 false [] none 0 ⟨e1.symm,by rw [e1];decide,rfl,by decide,by decide,by decide,by decide,fun l h=>by cases h⟩ (((((((((hrd.cons _).cons _).cons _).cons _).cons _).cons _).cons _).cons _).cons _) e2 e4 rfl rfl hn).mono ?_;rintro e w' ⟨A1,c1,rfl,hS⟩;have hst:vdM (votedR x2 0) 0=⟨2,2,0,1,0,0,0,true,[],none,0⟩:=by simp [vdM,votedR,e1]
 rw [hst] at hS;refine ⟨_,[_],x0,x1,(votedR x2 0),_,rfl,Nat.le_of_ble_eq_true rfl,Reads.of_at (e:=341) (v:=.slice A1 1 c1) .here,rfl,rfl,rfl,n0,n2,?n,hS.sb,hk A1 c1⟩;refine ⟨?_,?_⟩
 ·show 0≤x2.co∧x2.co≤(x2.log.length:Int)
  rw [hco,e4]
  decide
 ·show x2.log.length≤5000
  rw [e4]
  decide
theorem yfo (hx:x0.id=0∧x0.t=1∧x0.ro=2∧x0.vo=1∧x0.log=[]∧x0.co=0) (hrl:rest.length≤50) (n1:NtOk x1) (n2:NtOk x2)
  (hk:∀ Am cm A1 c1 A2 c2,FlOk r F Q m (elecR x0) x1 x2 (rest++[(⟨3,0,1,1,0,0,0,false,[],A1,c1⟩:Ms),(⟨3,0,2,1,0,0,0,false,[],A2,c2⟩:Ms)]) (.sl 341 9 (.slice Am 2 cm) ([(⟨3,0,1,1,0,0,0,false,[],A1,c1⟩:Ms),(⟨3,0,2,1,0,0,0,false,[],A2,c2⟩:Ms)].map Ms.cells)::.sl 345 10 (.slice A1 ([]:List Lg).length c1) (([]:List Lg).map Lg.cells)::.sl 345 10 (.slice A2 ([]:List Lg).length c2) (([]:List Lg).map Lg.cells)::E)) :
  FlOk r F Q (m+1) x0 x1 x2 (⟨2,1,0,1,0,0,0,true,[],none,0⟩::rest) E:=by
 obtain ⟨e1,e2,e3,e4,e5,e6⟩:=hx;have hrd:Reads r E 10 (.slice none ([]:List Lg).length 0) (([]:List Lg).map Lg.cells):=reads0 345;refine ⟨2,1,0,1,0,0,0,true,[],none,0,rest,x0.gp,rfl,hrl,oM,oM,rfl,⟨fun K1 K2 K3 K4 K5 w hS=>?_⟩⟩;have hS2:=(hS.fo (R:=.blk x0.gp 331 x0.cells)).fo (R:=JN x0.gj x0.t x0.v x0.log x0.n);refine (yeW x0 _ _ _ hS2 0 1 0 0 0 [] none 0 ⟨e1.symm,by rw [e1];decide,rfl,by decide,by decide,by decide,by decide,fun l h=>by cases h⟩ (((((((((hrd.cons _).cons _).cons _).cons _).cons _).cons _).cons _).cons _).cons _) e2 e3 e1 e4 e5).mono ?_;rintro e w' ⟨Am,cm,A1,c1,A2,c2,rfl,hS⟩;have h1:apM (elecR x0) 1 0 A1 c1=(⟨3,0,1,1,0,0,0,false,[],A1,c1⟩:Ms):=by simp [apM,elecR,leadN,e1,e2,e5,e6,lgAt];try rfl
 have h2:apM (elecR x0) 2 0 A2 c2=(⟨3,0,2,1,0,0,0,false,[],A2,c2⟩:Ms):=by simp [apM,elecR,leadN,e1,e2,e5,e6,lgAt];try rfl
 have h3:(elecR x0).log.drop 0=[]:=by simp [elecR,leadN,e5]
 rw [h1,h2,h3] at hS;refine ⟨_,[_,_],(elecR x0),x1,x2,_,rfl,Nat.le_of_ble_eq_true rfl,Reads.of_at (e:=341) (v:=.slice Am 2 cm) .here,rfl,rfl,rfl,⟨?_,?_⟩,n1,n2,hS.sb,hk Am cm A1 c1 A2 c2⟩
 ·show 0≤x0.co∧x0.co≤(x0.log.length:Int)
  rw [e6,e5]
  decide
 ·show x0.log.length≤5000
  rw [e5]
  decide
theorem yfp (hx:x0.id=0∧x0.t=1∧x0.ro=3) (hrl:rest.length≤50) (n0:NtOk x0) (n1:NtOk x1) (n2:NtOk x2)
  (hk:FlOk r F Q m x0 x1 x2 rest E) :
  FlOk r F Q (m+1) x0 x1 x2 (⟨2,2,0,1,0,0,0,true,[],none,0⟩::rest) E:=by
 obtain ⟨e1,e2,e3⟩:=hx;have hrd:Reads r E 10 (.slice none ([]:List Lg).length 0) (([]:List Lg).map Lg.cells):=reads0 345;refine ⟨2,2,0,1,0,0,0,true,[],none,0,rest,x0.gp,rfl,hrl,oM,oM,rfl,⟨fun K1 K2 K3 K4 K5 w hS=>?_⟩⟩;have hS2:=(hS.fo (R:=.blk x0.gp 331 x0.cells)).fo (R:=JN x0.gj x0.t x0.v x0.log x0.n);refine (yeV x0 _ _ _ hS2 2 0 1 0 0 0 true [] none 0 ⟨e1.symm,by rw [e1];decide,rfl,by decide,by decide,by decide,by decide,fun l h=>by cases h⟩ (((((((((hrd.cons _).cons _).cons _).cons _).cons _).cons _).cons _).cons _).cons _) e2 e3).mono ?_;rintro e w' ⟨rfl,hS⟩;exact ⟨_,[],x0,x1,x2,E,rfl,by decide,reads0 341,rfl,rfl,rfl,n0,n1,n2,hS.sb,by rw [List.append_nil];exact hk⟩
end
section
variable (r:World) (F:List Res) (x0 x1 x2:Rp)
theorem Ph1.nt {x0 x1 x2:Rp} {L:List Lg} {N:Nat} (h:Ph1 x0 x1 x2 L N) (hL:L.length≤4000):NtOk x0∧NtOk x1∧NtOk x2:=by
 have h0:=h.l0;have h1:=h.l1;have h2:=h.l2;have c0:=h.c0;have c1:=h.c1;have c2:=h.c2;refine ⟨⟨?_,?_⟩,⟨?_,?_⟩,⟨?_,?_⟩⟩
 ·rw [h0];omega
 ·rw [h0];omega
 ·rw [h1];omega
 ·rw [h1];omega
 ·rw [h2];omega
 ·rw [h2];omega
theorem ybg {x:Rp} {el:List Lg} {cm:Int} (h:NtOk x) (hcm:0≤cm) (hl:x.log.length+el.length≤5000):NtOk (takenR x el cm):=by
 obtain ⟨h1,h2⟩:=h;refine ⟨?_,?_⟩
 ·show 0≤max x.co (min cm ((x.log.length:Int)+el.length))∧max x.co (min cm ((x.log.length:Int)+el.length))≤((x.log++el).length:Int)
  rw [List.length_append];omega
 ·show (x.log++el).length≤5000
  rw [List.length_append];omega
theorem flp (e:En) (he:e.i64) (h2:shapeP e=true) (L:List Lg) (N:Nat) (hp:Ph1 x0 x1 x2 L N) (hL:L.length < 3000) (hN:N≤900000) (A1 A2:Option Addr) (c1 c2:Nat) :
  FlOk r F (fun y0 y1 y2=>Ph1 y0 y1 y2 (L++[⟨1,e⟩]) (N+128)) 4 (propR x0 e) x1 x2 [apM (propR x0 e) 1 x0.log.length A1 c1,apM (propR x0 e) 2 x0.log.length A2 c2] (.sl 345 10 (.slice A1 ((propR x0 e).log.drop x0.log.length).length c1) (((propR x0 e).log.drop x0.log.length).map Lg.cells)::.sl 345 10 (.slice A2 ((propR x0 e).log.drop x0.log.length).length c2) (((propR x0 e).log.drop x0.log.length).map Lg.cells)::F):=by
 obtain ⟨n0,n1,n2⟩:=hp.nt oM;have hl0:x0.log.length=L.length:=by rw [hp.l0]
 have hl1:x1.log.length=L.length:=by rw [hp.l1]
 have hl2:x2.log.length=L.length:=by rw [hp.l2]
 have hc0:=hp.c0;have hm1:=hp.m01;have hm2:=hp.m02;have hn0:=hp.n0;have hn1:=hp.n1;have hn2:=hp.n2;have hcl:(propR x0 e).log=L++[⟨1,e⟩]:=by show x0.log++[⟨x0.t,e⟩]=_;rw [hp.l0,hp.t0]
 have hd:(propR x0 e).log.drop x0.log.length=[⟨1,e⟩]:=by rw [hcl,hl0];simp
 have hlt:∀ k A c,apM (propR x0 e) k x0.log.length A c=⟨3,0,k,1,L.length,if L=[] then 0 else 1,L.length,false,[⟨1,e⟩],A,c⟩:=by
  intro k A c;unfold apM;rw [hd,hcl,hl0,lgAt_app,last_tm hp.tm]
  show (⟨3,x0.id,k,x0.t,_,_,x0.co,_,_,_,_⟩:Ms)=_
  rw [hp.i0,hp.t0,hp.c0]
 rw [hlt,hlt,hd];have hsh:∀ l,l∈[(⟨1,e⟩:Lg)]→l.e.i64∧shapeP l.e=true∧l.term=1:=by
  intro l hl;obtain rfl:=List.mem_singleton.1 hl;exact ⟨he,h2,rfl⟩
 have nc:NtOk (propR x0 e):=⟨by rw [hcl,List.length_append];exact ⟨n0.co.1,by show x0.co≤_;simp;omega⟩,by rw [hcl];simp;omega⟩;have nt1:NtOk (takenR x1 [⟨1,e⟩] L.length):=ybg n1 oM (by simp;omega);have nt2:NtOk (takenR x2 [⟨1,e⟩] L.length):=ybg n2 oM (by simp;omega);have hcL:((propR x0 e).log.length:Int)=L.length+1:=by rw [hcl];simp
 have hcd:(lgAt (propR x0 e).log ((propR x0 e).log.length - 1)).term=(propR x0 e).t:=by
  rw [hcL,hcl]
  show _=x0.t
  rw [hp.t0];unfold lgAt;rw [if_pos (by simp;omega)];have:((L.length:Int)+1 - 1).toNat=L.length:=by omega
  rw [this]
  simp
 refine ydW r F _ 3 (propR x0 e) x1 x2 [_] _ L _ L.length [⟨1,e⟩] A1 c1 ⟨hp.i1,hp.t1,hp.r1,hp.l1⟩ hp.c1 oM (by simp) hsh rfl hp.tm oM oM (by simp) (Reads.of_at (e:=345) (v:=.slice A1 1 c1) AtF) nc n2 (fun B1 d1=>?_);refine ydX r F _ 2 (propR x0 e) _ x2 [_] _ L _ L.length [⟨1,e⟩] A2 c2 ⟨hp.i2,hp.t2,hp.r2,hp.l2⟩ hp.c2 oM (by simp) hsh rfl hp.tm oM oM (by simp) (Reads.of_at (e:=345) (v:=.slice A2 1 c2) AtF) nc nt1 (fun B2 d2=>?_);have hco:(propR x0 e).co=L.length:=hp.c0;refine ydY r F _ 1 (propR x0 e) _ _ [_] _ _ ⟨hp.i0,hp.t0,hp.r0⟩ (by simp only [List.length_singleton];omega) oM ⟨oM,.inr oM⟩ (fun _=>hcd) (by simp) nt1 nt2 ?_;have hy1:(heardR (propR x0 e) 1 ((L.length:Int)+([⟨1,e⟩]:List Lg).length)).co=L.length+1:=by
  show advC _=_
  unfold advC;rw [if_pos]
  ·show ((propR x0 e).log.length:Int)=_
   omega
  ·refine ⟨?_,.inl ?_⟩
   ·show (propR x0 e).co < ((propR x0 e).log.length:Int)
    omega
   ·show ((propR x0 e).log.length:Int)≤max x0.m1 ((L.length:Int)+([⟨1,e⟩]:List Lg).length)
    simp only [List.length_singleton];omega
 refine ydZ r F _ 0 (heardR (propR x0 e) 1 ((L.length:Int)+([⟨1,e⟩]:List Lg).length)) _ _ [] _ _ ⟨hp.i0,hp.t0,hp.r0⟩ ⟨by simp only [List.length_singleton];omega,by show _≤((propR x0 e).log.length:Int);simp only [List.length_singleton];omega⟩ (by show (propR x0 e).log.length≤4000;omega) ⟨oM,.inl (by rw [hy1];show _=((propR x0 e).log.length:Int);omega)⟩ (fun _=>hcd) (by simp) nt1 nt2 ?_;have hy2:(heardR (heardR (propR x0 e) 1 ((L.length:Int)+([⟨1,e⟩]:List Lg).length)) 2 ((L.length:Int)+([⟨1,e⟩]:List Lg).length)).co=L.length+1:=by
  show advC _=_
  unfold advC;rw [if_neg]
  ·show (heardR (propR x0 e) 1 ((L.length:Int)+([⟨1,e⟩]:List Lg).length)).co=_
   exact hy1
  ·intro h;have h1:(heardR (propR x0 e) 1 ((L.length:Int)+([⟨1,e⟩]:List Lg).length)).co < ((propR x0 e).log.length:Int):=h.1;omega
 refine ⟨rfl,.skip (.skip (.skip (.skip .rest))),hp.i0,hp.t0,hp.r0,hcl,by rw [hy2];simp,?_,?_,?_,?_,hp.i1,hp.t1,rfl,by show x1.log++_=_;rw [hp.l1],?_,hp.i2,hp.t2,rfl,by show x2.log++_=_;rw [hp.l2],?_,?_,?_,?_,?_⟩
 ·show max x0.m1 ((L.length:Int)+([⟨1,e⟩]:List Lg).length)=_
  simp only [List.length_singleton,List.length_append];omega
 ·show max x0.m2 ((L.length:Int)+([⟨1,e⟩]:List Lg).length)=_
  simp only [List.length_singleton,List.length_append];omega
 ·show max x0.m1 ((L.length:Int)+([⟨1,e⟩]:List Lg).length)≤_
  simp only [List.length_singleton,List.length_append];omega
 ·show max x0.m2 ((L.length:Int)+([⟨1,e⟩]:List Lg).length)≤_
  simp only [List.length_singleton,List.length_append];omega
 ·have:=nt1.co;rwa [show (takenR x1 [⟨1,e⟩] L.length).log=L++[⟨1,e⟩] by show x1.log++_=_;rw [hp.l1]] at this
 ·have:=nt2.co;rwa [show (takenR x2 [⟨1,e⟩] L.length).log=L++[⟨1,e⟩] by show x2.log++_=_;rw [hp.l2]] at this
 ·intro l hl
  rcases List.mem_append.1 hl with h|h
  ·exact hp.tm l h
  ·obtain rfl:=List.mem_singleton.1 h
   rfl
 ·show x0.n+128≤N+128
  omega
 ·show x1.n+128 * 1≤N+128
  omega
 ·show x2.n+128 * 1≤N+128
  omega
structure Ph0 (x0 x1 x2:Rp):Prop where
 i0:x0.id=0
 i1:x1.id=1
 i2:x2.id=2
 t0:x0.t=0
 t1:x1.t=0
 t2:x2.t=0
 l0:x0.log=[]
 l1:x1.log=[]
 l2:x2.log=[]
 c0:x0.co=0
 c1:x1.co=0
 c2:x2.co=0
 n0:x0.n=0
 n1:x1.n=0
 n2:x2.n=0
 r0:x0.ro=1
 r1:x1.ro=1
 r2:x2.ro=1
theorem Ph0.nt {x0 x1 x2:Rp} (h:Ph0 x0 x1 x2):NtOk x0∧NtOk x1∧NtOk x2:=
 ⟨⟨by rw [h.c0,h.l0];decide,by rw [h.l0];decide⟩,⟨by rw [h.c1,h.l1];decide,by rw [h.l1];decide⟩,⟨by rw [h.c2,h.l2];decide,by rw [h.l2];decide⟩⟩
theorem fle (hp:Ph0 x0 x1 x2):FlOk r F (fun y0 y1 y2=>Ph1 y0 y1 y2 [] 200) 8 (candR x0) x1 x2 [voM (candR x0) 1,voM (candR x0) 2] F:=by
 obtain ⟨n0,n1,n2⟩:=hp.nt;have hv:∀ k,voM (candR x0) k=⟨1,0,k,1,0,0,0,false,[],none,0⟩:=by
  intro k;unfold voM
  show (⟨1,x0.id,k,x0.t+1,(x0.log.length:Int),(lgAt x0.log ((x0.log.length:Int) - 1)).term,0,false,[],none,0⟩:Ms)=_
  rw [hp.i0,hp.t0,hp.l0]
  rfl
 rw [hv,hv];have nc:NtOk (candR x0):=⟨n0.co,n0.lg⟩;have nv1:NtOk (votedR x1 0):=⟨n1.co,n1.lg⟩;have nv2:NtOk (votedR x2 0):=⟨n2.co,n2.lg⟩;have hn0:=hp.n0;have hn1:=hp.n1;have hn2:=hp.n2;have hc1:=hp.c1;have hc2:=hp.c2;have htk1:(takenR (votedR x1 0) [] 0).co=0:=by
  show max x1.co (min 0 ((x1.log.length:Int)+0))=0
  rw [hp.l1]
  show max x1.co (min 0 0)=0
  omega
 have htk2:(takenR (votedR x2 0) [] 0).co=0:=by
  show max x2.co (min 0 ((x2.log.length:Int)+0))=0
  rw [hp.l2]
  show max x2.co (min 0 0)=0
  omega
 have nt1:NtOk (takenR (votedR x1 0) [] 0):=ybg nv1 (by decide) (by show x1.log.length+0≤5000;rw [hp.l1];decide);have nt2:NtOk (takenR (votedR x2 0) [] 0):=ybg nv2 (by decide) (by show x2.log.length+0≤5000;rw [hp.l2];decide);have hz0:((([]:List Lg).length:Int))=0:=rfl;refine ygz r F _ 7 (candR x0) x1 x2 [_] F ⟨hp.i1,hp.t1,hp.l1⟩ hp.c1 oM (by simp) nc n2 (fun B1 d1=>?_);refine ygA r F _ 6 (candR x0) _ x2 [_] _ ⟨hp.i2,hp.t2,hp.l2⟩ hp.c2 oM (by simp) nc nv1 (fun B2 d2=>?_);refine yfo r F _ 5 (candR x0) _ _ [_] _ ⟨hp.i0,by show x0.t+1=1;rw [hp.t0];rfl,rfl,rfl,hp.l0,hp.c0⟩ (by simp) nv1 nv2 (fun Am cm A1 c1 A2 c2=>?_);have hzl:(elecR (candR x0)).log=[]:=hp.l0;have hzc:(elecR (candR x0)).co=0:=hp.c0;have hzt:(elecR (candR x0)).t=1:=by show x0.t+1=1;rw [hp.t0];rfl
 have nz:NtOk (elecR (candR x0)):=⟨n0.co,n0.lg⟩;refine yfp r F _ 4 (elecR (candR x0)) _ _ [_,_] _ ⟨hp.i0,hzt,rfl⟩ (by simp) nz nv1 nv2 ?_;refine ydW r F _ 3 (elecR (candR x0)) _ _ [_] _ [] _ 0 [] A1 c1 ⟨hp.i1,rfl,rfl,hp.l1⟩ (by show 0≤x1.co∧x1.co≤_;omega) (by show x1.n+96≤1000000;omega) (by simp) (fun l h=>by cases h) rfl (fun l h=>by cases h) (by simp) oM (by simp) (Reads.of_at (e:=345) (v:=.slice A1 0 c1) AtF) nz nv2 (fun B3 d3=>?_);refine ydX r F _ 2 (elecR (candR x0)) _ _ [_] _ [] _ 0 [] A2 c2 ⟨hp.i2,rfl,rfl,hp.l2⟩ (by show 0≤x2.co∧x2.co≤_;omega) (by show x2.n+96≤1000000;omega) (by simp) (fun l h=>by cases h) rfl (fun l h=>by cases h) (by simp) oM (by simp) (Reads.of_at (e:=345) (v:=.slice A2 0 c2) AtF) nz nt1 (fun B4 d4=>?_);refine ydY r F _ 1 (elecR (candR x0)) _ _ [_] _ _ ⟨hp.i0,hzt,rfl⟩ (by rw [hzl];decide) (by rw [hzl];decide) ⟨by rw [hzc];decide,.inl (by rw [hzc,hzl];rfl)⟩ (fun h=>by rw [hzc,hzl] at h;exact absurd h (by decide)) (by simp) nt1 nt2 ?_;have hz1:(heardR (elecR (candR x0)) 1 ((([]:List Lg).length:Int)+(([]:List Lg).length:Int))).co=0:=by
  show advC _=0
  unfold advC;rw [if_neg]
  ·exact hp.c0
  ·intro h;have h1:x0.co < (x0.log.length:Int):=h.1;rw [hp.c0,hp.l0] at h1;exact absurd h1 (by decide)
 refine ydZ r F _ 0 (heardR (elecR (candR x0)) 1 ((([]:List Lg).length:Int)+(([]:List Lg).length:Int))) _ _ [] _ _ ⟨hp.i0,hzt,rfl⟩ (by show _∧_≤((elecR (candR x0)).log.length:Int);rw [hzl];decide) (by show (elecR (candR x0)).log.length≤4000;rw [hzl];decide) ⟨by rw [hz1];decide,.inl (by rw [hz1];show _=((elecR (candR x0)).log.length:Int);rw [hzl];rfl)⟩ (fun h=>by rw [hz1] at h;have h':(0:Int) < ((elecR (candR x0)).log.length:Int):=h;rw [hzl] at h';exact absurd h' (by decide)) (by simp) nt1 nt2 ?_;have hz2:(heardR (heardR (elecR (candR x0)) 1 ((([]:List Lg).length:Int)+(([]:List Lg).length:Int))) 2 ((([]:List Lg).length:Int)+(([]:List Lg).length:Int))).co=0:=by
  show advC _=0
  unfold advC;rw [if_neg]
  ·exact hz1
  ·intro h;have h1:(heardR (elecR (candR x0)) 1 ((([]:List Lg).length:Int)+(([]:List Lg).length:Int))).co < (x0.log.length:Int):=h.1;rw [hz1,hp.l0] at h1;exact absurd h1 (by decide)
 refine ⟨rfl,.skip (.skip (.skip (.skip (.skip (.skip (.skip .rest)))))),hp.i0,hzt,rfl,hzl,hz2,?_,?_,?_,?_,hp.i1,rfl,rfl,by show x1.log++[]=[];rw [hp.l1];rfl,?_,hp.i2,rfl,rfl,by show x2.log++[]=[];rw [hp.l2];rfl,?_,(fun l h=>by cases h),?_,?_,?_⟩
 ·rfl
 ·rfl
 ·exact Int.le_refl 0
 ·exact Int.le_refl 0
 ·rw [htk1]
  decide
 ·rw [htk2]
  decide
 ·show x0.n+48≤200
  omega
 ·show x1.n+96+128 * 0≤200
  omega
 ·show x2.n+96+128 * 0≤200
  omega
end
structure P3 where
 x0:Rp
 x1:Rp
 x2:Rp
 com:List En
 A:Option Addr
 c:Nat
 nA:Option Addr
 nc:Nat
 Ad:Option Addr
 dc:Nat
def Q3R (gq:Nat) (p:P3):List Res:=
 [.blk gq 248 [.slice p.A 3 p.c,.slice p.nA ([]:List Ms).length p.nc,.slice p.Ad p.com.length p.dc],.sl 249 1 (.slice p.A 3 p.c) ([p.x0.gp,p.x1.gp,p.x2.gp].map ptC),.sl 341 9 (.slice p.nA ([]:List Ms).length p.nc) (([]:List Ms).map Ms.cells),.sl 63 9 (.slice p.Ad p.com.length p.dc) (p.com.map En.cells),
  JN p.x0.gj p.x0.t p.x0.v p.x0.log p.x0.n,.blk p.x0.gp 331 p.x0.cells,JN p.x1.gj p.x1.t p.x1.v p.x1.log p.x1.n,.blk p.x1.gp 331 p.x1.cells,JN p.x2.gj p.x2.t p.x2.v p.x2.log p.x2.n,.blk p.x2.gp 331 p.x2.cells]
def PhS (st:Bool) (L:List Lg) (N:Nat) (x0 x1 x2:Rp):Prop:=if st=true then Ph1 x0 x1 x2 L N else Ph0 x0 x1 x2∧L=[]
def Q3 (gq:Nat) (st:Bool) (L:List Lg) (N:Nat):Res:=.ex fun p:P3=>.all (.pure (PhS st L N p.x0 p.x1 p.x2∧p.com.length≤5000)::Q3R gq p)
theorem Sep.Q3_open {r w:World} {M:List Nat} {F:List Res} {gq:Nat} {st:Bool} {L:List Lg} {N:Nat}:Sep r M (Q3 gq st L N::F) w↔∃ p,(PhS st L N p.x0 p.x1 p.x2∧p.com.length≤5000)∧Sep r M (Q3R gq p++F) w:=by
 simp only [Q3,Sep.ex_open,Sep.all_open,List.cons_append,Sep.pure_open]
theorem yid (r:World) (F:List Res) (w:World) (hS:Sep r [] F w) :
  Calls Tryz.prog 61 #[.int .i64 3] w fun e w'=>∃ (gq:Nat),e=.returned (.tuple #[.pointer (some ⟨gq,0,none⟩),.int .i64 0])∧Sep r [] (Q3 gq false [] 0::F) w':=by
 refine Z.enter Tryz.func61 Tryz.ntmps61 rfl rfl ?_;refine aQ1 ?_;intro gq w hS;replace hS:=Z.nilsl hS 249 1 none;refine Z.unr 4 ?_;refine sQ ?_;intro w hS;refine cQ (yct 0 _ _ _ hS (by decide)) rfl ?_;clear hS;rintro e w ⟨p0,j0,rfl,hS⟩;refine ⟨_,rfl,?_⟩
 repeat' first|refine K ?_|refine Sa ?_;clear hS;intro w hS|refine K3 ?_;clear hS;intro g w hS hge|refine KC ?_ ?_<;>intro hb<;>try exact JX|fail
 refine Z.eff (Z.apm (fc:=ptC) (l:=[]) (l':=[p0]) hS rfl rfl rfl AtF (hS.lit1 AtF rfl rfl) LnF LnF ?_) rfl;clear hS;intro A3 c3 w hS;rw [← List.length_append] at hS ⊢;refine sQ ?_;intro w hS;refine cQ (yct 1 _ _ _ hS (by decide)) rfl ?_;clear hS;rintro e w ⟨p1,j1,rfl,hS⟩;refine ⟨_,rfl,?_⟩
 repeat' first|refine K ?_|refine Sa ?_;clear hS;intro w hS|refine K3 ?_;clear hS;intro g w hS hge|refine KC ?_ ?_<;>intro hb<;>try exact JX|fail
 refine Z.eff (Z.apm (fc:=ptC) (l:=[]++[p0]) (l':=[p1]) hS rfl rfl rfl AtF (hS.lit1 AtF rfl rfl) LnF LnF ?_) rfl;clear hS;intro A4 c4 w hS;rw [← List.length_append] at hS ⊢;refine sQ ?_;intro w hS;refine cQ (yct 2 _ _ _ hS (by decide)) rfl ?_;clear hS;rintro e w ⟨p2,j2,rfl,hS⟩;refine ⟨_,rfl,?_⟩
 repeat' first|refine K ?_|refine Sa ?_;clear hS;intro w hS|refine K3 ?_;clear hS;intro g w hS hge|refine KC ?_ ?_<;>intro hb<;>try exact JX|fail
 refine Z.eff (Z.apm (fc:=ptC) (l:=[]++[p0]++[p1]) (l':=[p2]) hS rfl rfl rfl AtF (hS.lit1 AtF rfl rfl) LnF LnF ?_) rfl;clear hS;intro A5 c5 w hS;rw [← List.length_append] at hS ⊢;refine sQ ?_;intro w hS;refine Dntt Tryz.results61 ?_;replace hS:=Z.nilsl (Z.nilsl hS 63 9 none) 341 9 none;refine ⟨gq,rfl,Sep.Q3_open.2 ⟨⟨fresh3 p0 j0 0,fresh3 p1 j1 1,fresh3 p2 j2 2,[],A5,c5,none,0,none,0⟩,⟨?_,Nat.zero_le _⟩,?_⟩⟩
 ·exact ⟨⟨rfl,rfl,rfl,rfl,rfl,rfl,rfl,rfl,rfl,rfl,rfl,rfl,rfl,rfl,rfl,rfl,rfl,rfl⟩,rfl⟩
 ·simp only [Q3R,List.cons_append,List.nil_append,List.map_nil,List.length_nil];exact hS.sb
theorem PhS.ro {st:Bool} {L:List Lg} {N:Nat} {x0 x1 x2:Rp} (hp:PhS st L N x0 x1 x2):(x0.ro=3↔st=true)∧x1.ro≠3∧x2.ro≠3:=by
 cases st with
 | true=>
  have h:Ph1 x0 x1 x2 L N:=hp;exact ⟨⟨fun _=>rfl,fun _=>h.r0⟩,by rw [h.r1];decide,by rw [h.r2];decide⟩
 | false=>
  have h:Ph0 x0 x1 x2:=hp.1;exact ⟨⟨fun h'=>by rw [h.r0] at h';exact absurd h' (by decide),fun h'=>by cases h'⟩,by rw [h.r1];decide,by rw [h.r2];decide⟩
theorem PhS.co {st:Bool} {L:List Lg} {N:Nat} {x0 x1 x2:Rp} (hp:PhS st L N x0 x1 x2):x0.co=L.length:=by
 cases st with
 | true=>exact (show Ph1 x0 x1 x2 L N from hp).c0
 | false=>rw [hp.2,(show Ph0 x0 x1 x2 from hp.1).c0];rfl
section
variable (gq:Nat) (st:Bool) (L:List Lg) (N:Nat) (r:World) (F:List Res) (w:World) (hS:Sep r [] (Q3 gq st L N::F) w)
include hS
theorem yjg:Calls Tryz.prog 148 #[.pointer (some ⟨gq,0,none⟩)] w fun e w'=>e=.returned (.int .i64 (if st=true then 0 else -1))∧Sep r [] (Q3 gq st L N::F) w':=by
 obtain ⟨⟨x0,x1,x2,com,A,c,nA,nc,Ad,dc⟩,⟨hp,hcl⟩,hS⟩:=Sep.Q3_open.1 hS;have hr:=hp.ro;simp only [Q3R,List.cons_append,List.nil_append] at hS hp hcl;refine (yeS gq x0 x1 x2 A c _ _ r _ w (hS.sub (L':=.blk gq 248 [.slice A 3 c,.slice nA ([]:List Ms).length nc,.slice Ad com.length dc]::.sl 249 1 (.slice A 3 c) ([x0.gp,x1.gp,x2.gp].map ptC)::JN x0.gj x0.t x0.v x0.log x0.n::.blk x0.gp 331 x0.cells::JN x1.gj x1.t x1.v x1.log x1.n::.blk x1.gp 331 x1.cells::JN x2.gj x2.t x2.v x2.log x2.n::.blk x2.gp 331 x2.cells::.sl 341 9 (.slice nA ([]:List Ms).length nc) (([]:List Ms).map Ms.cells)::.sl 63 9 (.slice Ad com.length dc) (com.map En.cells)::F) SuF) hr.2.1 hr.2.2).mono fun x w' ⟨hx,hS⟩=>⟨?_,Sep.Q3_open.2 ⟨⟨x0,x1,x2,com,A,c,nA,nc,Ad,dc⟩,⟨hp,hcl⟩,?_⟩⟩
 ·rw [hx]
  by_cases h:st=true
  ·rw [if_pos h,if_pos (hr.1.2 h)]
  ·rw [if_neg h,if_neg (fun h'=>h (hr.1.1 h'))]
 ·simp only [Q3R,List.cons_append,List.nil_append];exact hS.sb
theorem yjf:Calls Tryz.prog 152 #[.pointer (some ⟨gq,0,none⟩),.int .i64 0] w fun e w'=>e=.returned (.int .i64 (L.length:Nat))∧Sep r [] (Q3 gq st L N::F) w':=by
 obtain ⟨⟨x0,x1,x2,com,A,c,nA,nc,Ad,dc⟩,⟨hp,hcl⟩,hS⟩:=Sep.Q3_open.1 hS;have hr:=hp.co;simp only [Q3R,List.cons_append,List.nil_append] at hS hp hcl;refine (yeQ gq x0 x1 x2 A c _ _ r _ w (hS.sub (L':=.blk gq 248 [.slice A 3 c,.slice nA ([]:List Ms).length nc,.slice Ad com.length dc]::.sl 249 1 (.slice A 3 c) ([x0.gp,x1.gp,x2.gp].map ptC)::JN x0.gj x0.t x0.v x0.log x0.n::.blk x0.gp 331 x0.cells::JN x1.gj x1.t x1.v x1.log x1.n::.blk x1.gp 331 x1.cells::JN x2.gj x2.t x2.v x2.log x2.n::.blk x2.gp 331 x2.cells::.sl 341 9 (.slice nA ([]:List Ms).length nc) (([]:List Ms).map Ms.cells)::.sl 63 9 (.slice Ad com.length dc) (com.map En.cells)::F) SuF)).mono fun x w' ⟨hx,hS⟩=>⟨?_,Sep.Q3_open.2 ⟨⟨x0,x1,x2,com,A,c,nA,nc,Ad,dc⟩,⟨hp,hcl⟩,?_⟩⟩
 ·rw [hx,hr]
 ·simp only [Q3R,List.cons_append,List.nil_append];exact hS.sb
end
section
variable (gq:Nat) (N:Nat) (r:World) (F:List Res) (w:World) (hS:Sep r [] (Q3 gq false [] N::F) w)
include hS
theorem yib (i:Nat) (hi:i < 3):Calls Tryz.prog 239 #[.pointer (some ⟨gq,0,none⟩),.int .i64 i] w fun e w'=>∃ (A:Option Addr) (c:Nat),e=.returned (.slice A 0 c)∧Sep r [] (Q3 gq false [] N::F) w':=by
 obtain ⟨⟨x0,x1,x2,com,A,c,nA,nc,Ad,dc⟩,⟨hp,hcl⟩,hS⟩:=Sep.Q3_open.1 hS;simp only [Q3R,List.cons_append,List.nil_append] at hS hp hcl;obtain ⟨ga,oa,hAe,_,_⟩:=(hS.slrows (e:=249) (v:=.slice A 3 c) AtF).mat (by simp) (q:=0) (by simp);subst hAe;have hp0:Ph0 x0 x1 x2:=hp.1
 rcases (by omega:i=0∨i=1∨i=2) with rfl|rfl|rfl
 ·have hra2:w.rangeAt ga (oa+0 * 1) (ptC x0.gp):=(hS.slrows (e:=249) (v:=.slice (some ⟨ga,oa,none⟩) 3 c) AtF).elem oM (q:=0) (by simp);refine Z.enter Tryz.func239 Tryz.ntmps239 rfl rfl ?_;refine sQ ?_;intro w hS;refine cQ (yaJ gq x0 x1 x2 (some ⟨ga,oa,none⟩) c _ _ _ _ _ (hS.sub (L':=.blk gq 248 [.slice (some ⟨ga,oa,none⟩) 3 c,.slice nA ([]:List Ms).length nc,.slice Ad com.length dc]::.sl 249 1 (.slice (some ⟨ga,oa,none⟩) 3 c) ([x0.gp,x1.gp,x2.gp].map ptC)::JN x0.gj x0.t x0.v x0.log x0.n::.blk x0.gp 331 x0.cells::JN x1.gj x1.t x1.v x1.log x1.n::.blk x1.gp 331 x1.cells::JN x2.gj x2.t x2.v x2.log x2.n::.blk x2.gp 331 x2.cells::.sl 341 9 (.slice nA ([]:List Ms).length nc) (([]:List Ms).map Ms.cells)::.sl 63 9 (.slice Ad com.length dc) (com.map En.cells)::F) SuF) (0:Nat)) rfl ?_;clear hS;rintro e w ⟨rfl,hS⟩;refine ⟨_,rfl,?_⟩;have hra2:w.rangeAt ga (oa+0 * 1) (ptC x0.gp):=(hS.slrows (e:=249) (v:=.slice (some ⟨ga,oa,none⟩) 3 c) AtF).elem oM (q:=0) (by simp);refine sQ ?_;intro w hS;refine cQ (yaK x0 _ _ _ ((hS.fo (R:=.blk x0.gp 331 x0.cells)).fo (R:=JN x0.gj x0.t x0.v x0.log x0.n)) (by rw [hp0.l0];decide)) rfl ?_;clear hS;rintro e w ⟨Al,cl,rfl,hS⟩;refine ⟨_,rfl,?_⟩;rw [hp0.l0];refine sQ ?_;intro w hS;refine Dnt Tryz.results239 ?_;refine ⟨_,_,rfl,Sep.Q3_open.2 ⟨⟨x0,x1,x2,com,some ⟨ga,oa,none⟩,c,nA,nc,Ad,dc⟩,⟨hp,hcl⟩,?_⟩⟩;simp only [Q3R,List.cons_append,List.nil_append];exact hS.sb
 ·refine Z.enter Tryz.func239 Tryz.ntmps239 rfl rfl ?_;refine sQ ?_;intro w hS;refine cQ (yaJ gq x0 x1 x2 (some ⟨ga,oa,none⟩) c _ _ _ _ _ (hS.sub (L':=.blk gq 248 [.slice (some ⟨ga,oa,none⟩) 3 c,.slice nA ([]:List Ms).length nc,.slice Ad com.length dc]::.sl 249 1 (.slice (some ⟨ga,oa,none⟩) 3 c) ([x0.gp,x1.gp,x2.gp].map ptC)::JN x0.gj x0.t x0.v x0.log x0.n::.blk x0.gp 331 x0.cells::JN x1.gj x1.t x1.v x1.log x1.n::.blk x1.gp 331 x1.cells::JN x2.gj x2.t x2.v x2.log x2.n::.blk x2.gp 331 x2.cells::.sl 341 9 (.slice nA ([]:List Ms).length nc) (([]:List Ms).map Ms.cells)::.sl 63 9 (.slice Ad com.length dc) (com.map En.cells)::F) SuF) (1:Nat)) rfl ?_;clear hS;rintro e w ⟨rfl,hS⟩;refine ⟨_,rfl,?_⟩;have hra2:w.rangeAt ga (oa+1 * 1) (ptC x1.gp):=(hS.slrows (e:=249) (v:=.slice (some ⟨ga,oa,none⟩) 3 c) AtF).elem oM (q:=1) (by simp);refine sQ ?_;intro w hS;refine cQ (yaK x1 _ _ _ ((hS.fo (R:=.blk x1.gp 331 x1.cells)).fo (R:=JN x1.gj x1.t x1.v x1.log x1.n)) (by rw [hp0.l1];decide)) rfl ?_;clear hS;rintro e w ⟨Al,cl,rfl,hS⟩;refine ⟨_,rfl,?_⟩;rw [hp0.l1];refine sQ ?_;intro w hS;refine Dnt Tryz.results239 ?_;refine ⟨_,_,rfl,Sep.Q3_open.2 ⟨⟨x0,x1,x2,com,some ⟨ga,oa,none⟩,c,nA,nc,Ad,dc⟩,⟨hp,hcl⟩,?_⟩⟩;simp only [Q3R,List.cons_append,List.nil_append];exact hS.sb
 ·refine Z.enter Tryz.func239 Tryz.ntmps239 rfl rfl ?_;refine sQ ?_;intro w hS;refine cQ (yaJ gq x0 x1 x2 (some ⟨ga,oa,none⟩) c _ _ _ _ _ (hS.sub (L':=.blk gq 248 [.slice (some ⟨ga,oa,none⟩) 3 c,.slice nA ([]:List Ms).length nc,.slice Ad com.length dc]::.sl 249 1 (.slice (some ⟨ga,oa,none⟩) 3 c) ([x0.gp,x1.gp,x2.gp].map ptC)::JN x0.gj x0.t x0.v x0.log x0.n::.blk x0.gp 331 x0.cells::JN x1.gj x1.t x1.v x1.log x1.n::.blk x1.gp 331 x1.cells::JN x2.gj x2.t x2.v x2.log x2.n::.blk x2.gp 331 x2.cells::.sl 341 9 (.slice nA ([]:List Ms).length nc) (([]:List Ms).map Ms.cells)::.sl 63 9 (.slice Ad com.length dc) (com.map En.cells)::F) SuF) (2:Nat)) rfl ?_;clear hS;rintro e w ⟨rfl,hS⟩;refine ⟨_,rfl,?_⟩;have hra2:w.rangeAt ga (oa+2 * 1) (ptC x2.gp):=(hS.slrows (e:=249) (v:=.slice (some ⟨ga,oa,none⟩) 3 c) AtF).elem oM (q:=2) (by simp);refine sQ ?_;intro w hS;refine cQ (yaK x2 _ _ _ ((hS.fo (R:=.blk x2.gp 331 x2.cells)).fo (R:=JN x2.gj x2.t x2.v x2.log x2.n)) (by rw [hp0.l2];decide)) rfl ?_;clear hS;rintro e w ⟨Al,cl,rfl,hS⟩;refine ⟨_,rfl,?_⟩;rw [hp0.l2];refine sQ ?_;intro w hS;refine Dnt Tryz.results239 ?_;refine ⟨_,_,rfl,Sep.Q3_open.2 ⟨⟨x0,x1,x2,com,some ⟨ga,oa,none⟩,c,nA,nc,Ad,dc⟩,⟨hp,hcl⟩,?_⟩⟩;simp only [Q3R,List.cons_append,List.nil_append];exact hS.sb
end
theorem ygR (r:World) (F:List Res) (w:World) (hS:Sep r [] F w):Calls Tryz.prog 92 #[.int .u64 7] w fun e w'=>e=.returned (.int .i64 3)∧Sep r [] F w':=by
 refine Z.enter Tryz.func92 Tryz.ntmps92 rfl rfl ?_;refine sQ ?_;intro w hS;refine rQ (yhV _ _ _ hS) ?_;intro w hS;refine Dnt Tryz.results92 ?_;exact ⟨rfl,hS⟩
section
variable (gp gq:Nat) (c:Cfg) (a:CAd) (s:Sta) (b:SAd) (r:World) (F:List Res) (w:World)
theorem yeN (hS:Sep r [] (.blk gp 179 (plC c a gq 7 s b)::F) w) (hn:c.replicas.length=3):Calls Tryz.prog 67 #[.pointer (some ⟨gp,0,none⟩)] w fun e w'=>e=.returned (.bool true)∧Sep r [] (.blk gp 179 (plC c a gq 7 s b)::F) w':=by
 refine Z.enter Tryz.func67 Tryz.ntmps67 rfl rfl ?_;refine sQ ?_;intro w hS;refine D.startS (Lr:=[.blk gp 179 (plC c a gq 7 s b)]) (hS.sb) 15 15 kR rfl ?_;replace hS:=hS.drew;refine Sh.dp 0 1 ?_;refine Sh.dp 1 3 ?_;refine Sh.dp 2 7 ?_;refine Sh.dp 7 135 ?_;refine Sh.dp 8 391 ?_;refine Sh.dp 9 903 ?_;refine Sh.dp 10 1927 ?_;refine Sh.dl 3 1935 ?_;refine D.pl 4 1951 rfl D.wantedN kR (R.icv rfl) ?_;refine Sh.dl 11 3999 ?_;refine Sh.dp 12 8095 ?_;refine D.ef 5 8127 ?_;refine dQ (ygR _ _ _ hS) ?_;intro w hS
 first|refine D.sum 6 8191 rfl D.wantedN kR rfl (by constructor<;>omega) ?_|refine D.sumW 6 8191 rfl D.wantedN kR rfl ?_
 refine Sh.dp 13 16383 ?_;refine Sh.dp 14 32767 ?_;refine D.dn ?_;refine sQ ?_;intro w hS;refine Dnt Tryz.results67 ?_;exact ⟨by simp [Z.packR,hn],hS⟩
theorem yfM (N:Nat) (hS:Sep r [] (.blk gp 179 (plC c a gq 7 s b)::Q3 gq false [] N::F) w) (hn:c.replicas.length=3):Calls Tryz.prog 153 #[.pointer (some ⟨gp,0,none⟩)] w fun e w'=>e=.returned (.int .i64 0)∧Sep r [] (.blk gp 179 (plC c a gq 7 s b)::Q3 gq false [] N::F) w':=by
 have hup:∀ i:Nat,i < 3→isUpB c 7 i=true:=by
  intro i hi;unfold isUpB;rw [hn]
  rcases (by omega:i=0∨i=1∨i=2) with rfl|rfl|rfl<;>decide
 refine Z.enter Tryz.func153 Tryz.ntmps153 rfl rfl ?_;refine sQ ?_;intro w hS;refine Z.lpS [3,4,5,6,7,8,15,16,17,18,19,20,21,22,23,24,25,26,27,28,29,30,31,32,33,34,35,36,37,38,39,40,41,42,43,44,45,46,47,48,49,50,51,52,53,54,55,56] (fun m w z=>∃ (i:Nat) (x y q:Int),z=[(3,.int .i64 x),(4,.int .i64 y),(5,.int .i64 q),(15,.int .i64 i)]∧i≤3∧(i=0→x = -1∧y = -1∧q = -1)∧(0 < i→x=0∧y=0∧q=0)∧m=3 - i∧Sep r [] (.blk gp 179 (plC c a gq 7 s b)::Q3 gq false [] N::F) w) _ [(3,.int .i64 (-1)),(4,.int .i64 (-1)),(5,.int .i64 (-1)),(15,.int .i64 (0:Nat))] TrF ⟨0,-1,-1,-1,rfl,oM,fun _=>⟨rfl,rfl,rfl⟩,oM,rfl,hS⟩ ?_;clear hS;rintro m f0 w _ ⟨i,x,y,q,rfl,hi,h0,h1,rfl,hS⟩
 by_cases hlt:i < 3
 ·have hupi:=hup i hlt;refine sQ ?_;intro w hS;refine cQ (yaG gp gq 7 c a s b _ _ _ hS (i:Nat) oM) rfl ?_;clear hS;rintro e w ⟨rfl,hS⟩;refine ⟨_,rfl,?_⟩;rw [hupi];refine sQ ?_;intro w hS;refine cQ (yib gq N _ _ _ (hS.fo (R:=Q3 gq false [] N)) i hlt) rfl ?_;clear hS;rintro e w ⟨Al,cl,rfl,hS⟩;refine ⟨_,rfl,?_⟩
  by_cases hz:i=0
  ·subst hz;obtain ⟨rfl,rfl,rfl⟩:=h0 rfl;refine sQ ?_;intro w hS;refine Sh.again (2) [(3,.int .i64 0),(4,.int .i64 0),(5,.int .i64 0),(15,.int .i64 (1:Nat))] ?_;exact ⟨1,0,0,0,rfl,oM,oM,fun _=>⟨rfl,rfl,rfl⟩,rfl,hS.sb⟩
  ·obtain ⟨rfl,rfl,rfl⟩:=h1 oM;refine sQ ?_;intro w hS;refine Sh.again (3 - (i+1)) [(3,.int .i64 0),(4,.int .i64 0),(5,.int .i64 0),(15,.int .i64 (i+1:Nat))] ?_;exact ⟨i+1,0,0,0,rfl,oM,oM,fun _=>⟨rfl,rfl,rfl⟩,rfl,hS.sb⟩
 ·obtain ⟨rfl,rfl,rfl⟩:=h1 oM;refine sQ ?_;intro w hS;refine Dnt Tryz.results153 ?_;exact ⟨rfl,hS⟩
end
end Go.Proofs.YtfmnjbhncnldmaaGreat
