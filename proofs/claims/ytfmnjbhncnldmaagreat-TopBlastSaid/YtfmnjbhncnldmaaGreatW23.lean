import Derived.Deep.DeepFit
import Derived.Test.YtfmnjbhncnldmaaGreatRows
import Derived.BigGuardPart
import Derived.Deep.QuietTactic
import Derived.BigQuiet
import Derived.Deep.RegionHeld3
import Derived.Handy
import Derived.Deep.DeepCutAuto
import Derived.Test.YtfmnjbhncnldmaaGreatW00
import Derived.Test.YtfmnjbhncnldmaaGreatW02
import Derived.Test.YtfmnjbhncnldmaaGreatW19
import Derived.Test.YtfmnjbhncnldmaaGreatW20
import Derived.Test.YtfmnjbhncnldmaaGreatW21
set_option maxHeartbeats 4000000
set_option linter.unusedSimpArgs false
set_option linter.unusedVariables false
namespace Go.Proofs.YtfmnjbhncnldmaaGreat
open Go.RowKit
theorem Tab.pcell_n (t:Tab) (k:Nat) (hk:k < 8):t.pcells[k * 5]?=some (.int .i64 (t.n k)):=by
 match k,hk with
 | 0,_=>rfl
 | 1,_=>rfl
 | 2,_=>rfl
 | 3,_=>rfl
 | 4,_=>rfl
 | 5,_=>rfl
 | 6,_=>rfl
 | 7,_=>rfl
theorem Tab.pcell_r (t:Tab) (k j:Nat) (hk:k < 8) (hj:j < 4):t.pcells[k * 5+1+j]?=(t.r k).cells[j]?:=by
 match k,hk,j,hj with
 | 0,_,0,_|0,_,1,_|0,_,2,_|0,_,3,_=>rfl
 | 1,_,0,_|1,_,1,_|1,_,2,_|1,_,3,_=>rfl
 | 2,_,0,_|2,_,1,_|2,_,2,_|2,_,3,_=>rfl
 | 3,_,0,_|3,_,1,_|3,_,2,_|3,_,3,_=>rfl
 | 4,_,0,_|4,_,1,_|4,_,2,_|4,_,3,_=>rfl
 | 5,_,0,_|5,_,1,_|5,_,2,_|5,_,3,_=>rfl
 | 6,_,0,_|6,_,1,_|6,_,2,_|6,_,3,_=>rfl
 | 7,_,0,_|7,_,1,_|7,_,2,_|7,_,3,_=>rfl
theorem Tab.pcells_at {w:World} {g k:Nat} {T:TypeId} {t:Tab} {e q i:Int} {v:ByteArray} (hb:Blk w g T t.pcells) (hk:k < 8) (hr:t.r k=⟨e,q,i,v⟩) :
  w.cell? ⟨g,k * 5,none⟩=some (.int .i64 (t.n k))∧w.cell? ⟨g,k * 5+1,none⟩=some (.int .i64 e)∧w.cell? ⟨g,k * 5+2,none⟩=some (.int .i64 q)∧
  w.cell? ⟨g,k * 5+3,none⟩=some (.int .i64 i)∧w.cell? ⟨g,k * 5+4,none⟩=some (.string v):=by
 have h:=fun j hj=>(hb.cell (k * 5+1+j)).trans (t.pcell_r k j hk hj)
 rw [hr] at h;exact ⟨hb.cellv (t.pcell_n k hk),h 0 oM,h 1 oM,h 2 oM,h 3 oM⟩
theorem pnew_any (w:World) :
  Calls Tryz.prog 188 #[] w fun e w'=>e=.returned (.pointer (some ⟨w.heap.size,0,none⟩))∧Blk w' w.heap.size 374 Tab.zero.pcells∧Chg [] w w':=by
 go_enter Tryz.func188,Tryz.ntmps188
 go_wp2
 go_ret
 exact ⟨rfl,Blk.new _ _ _,(Chg.refl _ _).alloc _⟩
theorem pfind_any (g:Nat) (t:Tab) (cl nu:Int) (w:World) (hb:Blk w g 374 t.pcells) (hok:t.ok) :
  Calls Tryz.prog 197 #[.pointer (some ⟨g,0,none⟩),.int .i64 cl,.int .i64 nu] w fun e w'=>e=.returned (.tuple #[(findB t cl nu).1.val,.int .i64 (findB t cl nu).2])∧Chg [] w w':=by
 by_cases hcl:cl < 1∨8 < cl∨nu < 1∨1048576 < nu
 ·have hf:findB t cl nu=(.zero,1):=by unfold findB;rw [if_pos hcl]
  rw [hf];clear hf hb
  go_enter Tryz.func197,Tryz.ntmps197
  go_wp2
  all_goals (go_returns;exact ⟨rfl,(Chg.refl _ _).alloc _⟩)
 ·have hk:∃ k:Nat,cl=(k:Int)+1∧k < 8:=⟨(cl - 1).toNat,oM,oM⟩;obtain ⟨k,rfl,hk⟩:=hk;have b1:1≤nu:=by omega
  have b2:nu≤1048576:=by omega
  have hn:=hok k;obtain ⟨⟨re,rq,ri,rv⟩,hR⟩:∃ R,t.r k=R:=⟨_,rfl⟩;obtain ⟨cN,cR0,cR1,cR2,cR3⟩:=Tab.pcells_at hb hk hR;have hg:g < w.heap.size:=hb.lt;have hg':g≠w.heap.size:=by omega
  have hf:findB t ((k:Int)+1) nu=if nu=t.n k then (⟨re,rq,ri,rv⟩,0) else if nu=t.n k+1 then (.zero,34) else (.zero,32):=by
   unfold findB;rw [if_neg hcl,show ((k:Int)+1 - 1).toNat=k by omega,hR]
  rw [hf];clear hf hb hok hR hcl;have hk1:(k:Int)+1≤8:=by omega
  have d1:decide ((8:Int) < (k:Int)+1)=false:=by simp;omega
  have d2:decide ((k:Int)+1 < 1)=false:=by simp;omega
  have d3:decide (nu < 1)=false:=by simp;omega
  have d4:decide (1048576 < nu)=false:=by simp;omega
  by_cases h0:nu=t.n k
  ·rw [if_pos h0];have h0':(nu == t.n k)=true:=by simp;omega
   have h1':(nu == t.n k+1)=false:=by simp;omega
   clear h0
   go_enter Tryz.func197,Tryz.ntmps197
   go_wp2
   go_returns
   exact ⟨rfl,((Chg.refl _ _).alloc _).alloc _⟩
  ·rw [if_neg h0];have h0':(nu == t.n k)=false:=by simpa using h0
   clear h0
   by_cases h1:nu=t.n k+1
   ·rw [if_pos h1];have h1':(nu == t.n k+1)=true:=by simpa using h1
    clear h1
    go_enter Tryz.func197,Tryz.ntmps197
    go_wp2
    go_returns
    exact ⟨rfl,((Chg.refl _ _).alloc _).alloc _⟩
   ·rw [if_neg h1];have h1':(nu == t.n k+1)=false:=by simpa using h1
    clear h1
    go_enter Tryz.func197,Tryz.ntmps197
    go_wp2
    go_returns
    exact ⟨rfl,((Chg.refl _ _).alloc _).alloc _⟩
theorem Tab.pset_n (t:Tab) (k:Nat) (hk:k < 8) (v:Int):t.pcells.setIfInBounds (k * 5) (.int .i64 v)=Tab.pcells ⟨upd t.n k v,t.r⟩:=by
 match k,hk with
 | 0,_=>rfl
 | 1,_=>rfl
 | 2,_=>rfl
 | 3,_=>rfl
 | 4,_=>rfl
 | 5,_=>rfl
 | 6,_=>rfl
 | 7,_=>rfl
def Tab.pput (cs:Array Value) (k:Nat) (a b c d:Value):Array Value:=(((cs.setIfInBounds (k * 5+1) a).setIfInBounds (k * 5+2) b).setIfInBounds (k * 5+3) c).setIfInBounds (k * 5+4) d
theorem Tab.pset_r (t:Tab) (k:Nat) (hk:k < 8) (r:Rep):Tab.pput t.pcells k (.int .i64 r.err) (.int .i64 r.seq) (.int .i64 r.item) (.string r.value)=Tab.pcells ⟨t.n,upd t.r k r⟩:=by
 match k,hk with
 | 0,_=>rfl
 | 1,_=>rfl
 | 2,_=>rfl
 | 3,_=>rfl
 | 4,_=>rfl
 | 5,_=>rfl
 | 6,_=>rfl
 | 7,_=>rfl
theorem Tab.pset_item (n:Nat→Int) (r:Nat→Rep) (k:Nat) (hk:k < 8) {e q i j:Int} {v:ByteArray}:(Tab.pcells ⟨n,upd r k ⟨e,q,i,v⟩⟩).setIfInBounds (k * 5+3) (.int .i64 j)=Tab.pcells ⟨n,upd r k ⟨e,q,j,v⟩⟩:=by
 match k,hk with
 | 0,_=>rfl
 | 1,_=>rfl
 | 2,_=>rfl
 | 3,_=>rfl
 | 4,_=>rfl
 | 5,_=>rfl
 | 6,_=>rfl
 | 7,_=>rfl
theorem Tab.pset_all {w:World} {g k:Nat} {T:TypeId} {t:Tab} (hb:Blk w g T t.pcells) (hk:k < 8) (nu:Int) (r:Rep) :
  Blk (((((w.setCell ⟨g,k * 5,none⟩ (.int .i64 nu)).setCell ⟨g,k * 5+1,none⟩ (.int .i64 r.err)).setCell ⟨g,k * 5+2,none⟩ (.int .i64 r.seq)).setCell ⟨g,k * 5+3,none⟩ (.int .i64 r.item)).setCell ⟨g,k * 5+4,none⟩ (.string r.value)) g T
   (Tab.pcells ⟨upd t.n k nu,upd t.r k r⟩):=by
 have h:=((((hb.set (k * 5) (.int .i64 nu)).set (k * 5+1) (.int .i64 r.err)).set (k * 5+2) (.int .i64 r.seq)).set (k * 5+3) (.int .i64 r.item)).set (k * 5+4) (.string r.value);have e:=Tab.pset_r ⟨upd t.n k nu,t.r⟩ k hk r;unfold Tab.pput at e;rw [Tab.pset_n t k hk,e] at h;exact h
theorem valid_item {x:Ch} (h:validB x=true) (h3:x.kind≠3) (h4:x.kind≠4):x.item=0:=by
 simp only [validB,Bool.and_eq_true] at h;have hr:=h.2.2.2.2;unfold restB at hr
 repeat' split at hr
 all_goals simp_all
theorem papply_any (g:Nat) (t:Tab) (x:Ch) (w:World) (hb:Blk w g 374 t.pcells) (hok:t.ok) :
  Calls Tryz.prog 279 #[.pointer (some ⟨g,0,none⟩),x.val] w fun e w'=>e=.returned (.int .i64 (tApp t x).2)∧Blk w' g 374 (tApp t x).1.pcells∧Chg [g] w w':=by
 by_cases hv:validB x=true
 ·have hbd:=ybq hv
  by_cases hn:x.number=t.n (x.client - 1).toNat+1
  ·have hf:tApp t x=(⟨upd t.n (x.client - 1).toNat x.number,upd t.r (x.client - 1).toNat (repOf x)⟩,0):=by unfold tApp;rw [if_pos hv,if_pos hn]
   rw [hf];clear hf;have HIT:=Lib.hid (valid_item hv);have hV:=fun W=>svalid_any x W
   rw [hv] at hV;have HV:=Lib.hid hV;clear hV hv;obtain ⟨ep,sq,kd,cl,nu,it,key,val⟩:=x
   dsimp only at hbd hn ⊢
   obtain ⟨_,_,hs1,hs2,hc1,hc2,hn1,hn2⟩:=hbd;obtain ⟨k,rfl,hk⟩:∃ k:Nat,cl=(k:Int)+1∧k < 8:=⟨(cl - 1).toNat,oM,oM⟩;rw [show ((k:Int)+1 - 1).toNat=k by omega] at hn ⊢;have hn':(nu != t.n k+1)=false:=by simp;omega
   have ht:=hok k;have hg:g < w.heap.size:=hb.lt;have HN:=Lib.hid hn;clear hn;simp only [Ch.val,Ch.cells] at HV ⊢
   go_enter Tryz.func279,Tryz.ntmps279
   go_wp2_with fail
   refine (HV.out _).mono ?_;rintro e w2 ⟨rfl,hC⟩;have hb2:=(hb.alloc _).ext hC;have hx2:=(Blk.new _ _ _).ext hC;have hC2:Chg [] w w2:=((Chg.refl _ _).alloc _).trans hC;obtain ⟨x0,x1,x2,x3,x4,x5,x6,x7⟩:=Ch.cells_at hx2;obtain ⟨⟨re,rq,ri,rv⟩,hR⟩:∃ R,t.r k=R:=⟨_,rfl⟩;obtain ⟨cN,cR0,cR1,cR2,cR3⟩:=Tab.pcells_at hb2 hk hR;have f0:=hb2.frozen (k * 5);have f1:=hb2.frozen (k * 5+1);have f2:=hb2.frozen (k * 5+2);have f3:=hb2.frozen (k * 5+3);have f4:=hb2.frozen (k * 5+4);have HB2:=Lib.hid hb2;have HC2:=Lib.hid hC2;have HR:=Lib.hid hR;clear hb2 hx2 hC hC2 hR hb hok HV;generalize w.heap.size=b at *;have hgb:g≠b:=by omega
   have hgb':b≠g:=by omega
   have hki:(0:Int)≤(k:Int):=by omega
   have hki':(k:Int) < 8:=by omega
   go_wp2
   go_quiet (fail)
   generalize nq=n1 at *
   go_wp2
   go_quiet (fail)
   by_cases h3:(kd == 3)=true
   ·have hrep:repOf ⟨ep,sq,kd,(k:Int)+1,nu,it,key,val⟩=⟨0,sq,sq,⟨#[]⟩⟩:=by simp [repOf,h3]
    have HRP:=Lib.hid hrep;clear hrep
    go_wp2
    go_ret
    have hB:=Tab.pset_all (HB2.out.drewN (n1+nq)) hk nu ⟨0,sq,0,⟨#[]⟩⟩;have hB':=hB.set (k * 5+3) (.int .i64 sq);rw [Tab.pset_item _ _ k hk] at hB';rw [HRP.out]
    dsimp only at hB'
    refine ⟨rfl,?_,?_⟩
    ·(repeat (with_reducible refine Blk.drew ?_));exact hB'
    repeat (first|(with_reducible refine Chg.setCell ?_ (.inl (by simp)) _)|(with_reducible refine Chg.drew ?_)|(with_reducible refine Chg.drewN ?_ _))
    exact HC2.out.ext
   ·have h3:(kd == 3)=false:=by simpa using h3
    by_cases h4:(kd == 4)=true
    ·have hrep:repOf ⟨ep,sq,kd,(k:Int)+1,nu,it,key,val⟩=⟨0,sq,it,⟨#[]⟩⟩:=by simp [repOf,h3]
     have HRP:=Lib.hid hrep;clear hrep
     go_wp2
     go_ret
     have hB:=Tab.pset_all (HB2.out.drewN (n1+nq)) hk nu ⟨0,sq,0,⟨#[]⟩⟩;have hB':=hB.set (k * 5+3) (.int .i64 it);rw [Tab.pset_item _ _ k hk] at hB';rw [HRP.out]
     dsimp only at hB'
     refine ⟨rfl,?_,?_⟩
     ·(repeat (with_reducible refine Blk.drew ?_));exact hB'
     repeat (first|(with_reducible refine Chg.setCell ?_ (.inl (by simp)) _)|(with_reducible refine Chg.drew ?_)|(with_reducible refine Chg.drewN ?_ _))
     exact HC2.out.ext
    ·have h4:(kd == 4)=false:=by simpa using h4
     have hrep:repOf ⟨ep,sq,kd,(k:Int)+1,nu,it,key,val⟩=⟨0,sq,0,⟨#[]⟩⟩:=by
      have hit:it=0:=HIT.out (by simpa using h3) (by simpa using h4)
      simp [repOf,h3,hit]
     have HRP:=Lib.hid hrep;clear hrep
     go_wp2
     go_ret
     have hB:=Tab.pset_all (HB2.out.drewN (n1+nq)) hk nu ⟨0,sq,0,⟨#[]⟩⟩;rw [HRP.out]
     dsimp only at hB
     refine ⟨rfl,?_,?_⟩
     ·(repeat (with_reducible refine Blk.drew ?_));exact hB
     repeat (first|(with_reducible refine Chg.setCell ?_ (.inl (by simp)) _)|(with_reducible refine Chg.drew ?_)|(with_reducible refine Chg.drewN ?_ _))
     exact HC2.out.ext
  ·have hf:tApp t x=(t,32):=by unfold tApp;rw [if_pos hv,if_neg hn]
   rw [hf];clear hf;have hV:=fun W=>svalid_any x W
   rw [hv] at hV;have HV:=Lib.hid hV;clear hV hv;obtain ⟨ep,sq,kd,cl,nu,it,key,val⟩:=x
   dsimp only at hbd hn ⊢
   obtain ⟨_,_,hs1,hs2,hc1,hc2,hn1,hn2⟩:=hbd;obtain ⟨k,rfl,hk⟩:∃ k:Nat,cl=(k:Int)+1∧k < 8:=⟨(cl - 1).toNat,oM,oM⟩;rw [show ((k:Int)+1 - 1).toNat=k by omega] at hn;have hn':(nu != t.n k+1)=true:=by simp;omega
   have ht:=hok k;have hg:g < w.heap.size:=hb.lt;clear hn;simp only [Ch.val,Ch.cells] at HV ⊢
   go_enter Tryz.func279,Tryz.ntmps279
   go_wp2_with fail
   refine (HV.out _).mono ?_;rintro e w2 ⟨rfl,hC⟩;have hb2:=(hb.alloc _).ext hC;have hx2:=(Blk.new _ _ _).ext hC;have hC2:Chg [] w w2:=((Chg.refl _ _).alloc _).trans hC;obtain ⟨x0,x1,x2,x3,x4,x5,x6,x7⟩:=Ch.cells_at hx2;have cN:=hb2.cellv (t.pcell_n k hk);have HB2:=Lib.hid hb2;have HC2:=Lib.hid hC2;clear hb2 hx2 hC hC2 hb hok HV;generalize w.heap.size=b at *;have hki:(0:Int)≤(k:Int):=by omega
   have hki':(k:Int) < 8:=by omega
   go_wp2
   go_quiet (fail)
   generalize nq=n1 at *
   go_wp2
   go_quiet (fail)
   go_wp2
   go_ret
   exact ⟨rfl,(HB2.out.drewN _).drewN _,(HC2.out.ext.drewN _).drewN _⟩
 ·have hv:validB x=false:=by simpa using hv
  have hf:tApp t x=(t,1):=by unfold tApp;rw [hv];rfl
  rw [hf];clear hf;have hV:=fun W=>svalid_any x W
  rw [hv] at hV;have HV:=Lib.hid hV;clear hV hv;obtain ⟨ep,sq,kd,cl,nu,it,key,val⟩:=x;simp only [Ch.val,Ch.cells] at HV ⊢
  go_enter Tryz.func279,Tryz.ntmps279
  go_wp2_with fail
  refine (HV.out _).mono ?_;rintro e w2 ⟨rfl,hC⟩;have hb2:=(hb.alloc _).ext hC;have hC2:Chg [] w w2:=((Chg.refl _ _).alloc _).trans hC;clear hC hb hok HV;have HB2:=Lib.hid hb2;have HC2:=Lib.hid hC2;clear hb2 hC2
  go_wp2
  go_ret
  exact ⟨rfl,HB2.out,HC2.out.ext⟩
attribute [local irreducible] Res.blk Res.sl Res.all Res.ex Res.pure Res.star
def PT (g:Nat) (t:Tab):Res:=.blk g 374 t.pcells.toList
section
variable {r w:World} {F:List Res} {g:Nat} {t:Tab}
theorem yiP (hS:Sep r [] F w):Calls Tryz.prog 188 #[] w fun e w'=>∃ g,e=.returned (.pointer (some ⟨g,0,none⟩))∧Sep r [] (PT g .zero::F) w':=by
 refine (pnew_any w).mono ?_;rintro e w' ⟨he,hb,hc⟩;refine ⟨_,he,hS.add (f2:=[w.heap.size]) hc ?_ (by simp) (fun b hb'=>by simp at hb';subst hb';exact ⟨hb.lt,Nat.le_refl _⟩)⟩;unfold PT Res.blk;exact ⟨rfl,hb⟩
theorem ycp (cl nu:Int) (R:Rep×Int) (hR:findB t cl nu=R) (hS:Sep r [] (PT g t::F) w) (hok:t.ok) :
  Calls Tryz.prog 197 #[.pointer (some ⟨g,0,none⟩),.int .i64 cl,.int .i64 nu] w fun e w'=>e=.returned (.tuple #[R.1.val,.int .i64 R.2])∧Sep r [] (PT g t::F) w':=by
 subst hR;exact (pfind_any g t cl nu w (Sep.blk hS .here) hok).mono fun _ _ ⟨h1,h2⟩=>⟨h1,hS.ext h2⟩
theorem ygT (x:Ch) (R:Tab×Int) (hR:tApp t x=R) (hS:Sep r [] (PT g t::F) w) (hok:t.ok) :
  Calls Tryz.prog 279 #[.pointer (some ⟨g,0,none⟩),x.val] w fun e w'=>e=.returned (.int .i64 R.2)∧Sep r [] (PT g R.1::F) w':=by
 subst hR;exact (papply_any g t x w (Sep.blk hS .here) hok).mono fun _ _ ⟨h1,h2,h3⟩=>⟨h1,Sep.put hS .here h3 h2⟩
end
theorem yhW (t:Tab) (g:Nat) (r:World) (F:List Res) (w:World) (hS:Sep r [] (PT g t::F) w) :
  Calls Tryz.prog 284 #[.pointer (some ⟨g,0,none⟩)] w fun e w'=>∃ g',e=.returned (.pointer (some ⟨g',0,none⟩))∧Sep r [] (PT g' t::PT g t::F) w':=by
 refine Z.enter Tryz.func284 Tryz.ntmps284 rfl rfl ?_;refine aQ1 ?_;intro g w hS;refine Dnt Tryz.results284 ?_;exact ⟨_,rfl,hS⟩
theorem yhI (cell:Int) (r:World) (F:List Res) (w:World) (hS:Sep r [] F w):Calls Tryz.prog 98 #[.int .i64 cell] w fun e w'=>∃ g,e=.returned (.pointer (some ⟨g,0,none⟩))∧Sep r [] (.blk g 216 [.int .i64 cell,.int .i64 0,.slice none 0 0]::F) w':=by
 refine Z.enter Tryz.func98 Tryz.ntmps98 rfl rfl ?_;refine aQ1 ?_;intro g w hS;refine Dnt Tryz.results98 ?_;exact ⟨_,rfl,hS⟩
structure COk (c:Cp):Prop where
 t:c.t.ok
 ss:SSort c.s
 s:c.s.length≤1000
 l:c.q.l.length≤1000
 r:c.q.r.length≤1000
theorem Good.ssort {c:Cp} (h:Good c):SSort c.s:=by
 induction h with
 | zero=>simp [Cp.zero,SSort]
 | @app c x hc hx ih=>
  obtain ⟨_,_,_,_,_,_,e⟩:=cApp_ok hx;rw [e];exact ih.app x
theorem Good.cok {c:Cp} (h:Good c):COk c:=by
 have hg:=h.ok;exact ⟨hg.1,h.ssort,oM,oM,by rw [hg.2.2.2];simp⟩
def PC (g:Nat) (cell ten:Int) (vg:Value) (c:Cp):Res:=.ex fun A=>.ex fun cap=>.ex fun gs=>.ex fun gq=>.ex fun gt=>.all [.blk g 162 [.int .i64 cell,.int .i64 ten,.slice A c.h.length cap,.pointer (some ⟨gs,0,.none⟩),.pointer (some ⟨gq,0,.none⟩),.pointer (some ⟨gt,0,.none⟩),vg],.sl 149 8 (.slice A c.h.length cap) (c.h.map Ch.cells),PS gs c.s,PQ gq c.q,PT gt c.t]
theorem Sep.PC_open {r w:World} {M:List Nat} {F:List Res} {g:Nat} {cell ten:Int} {vg:Value} {c:Cp}:Sep r M (PC g cell ten vg c::F) w↔∃ A cap gs gq gt,Sep r M (.blk g 162 [.int .i64 cell,.int .i64 ten,.slice A c.h.length cap,.pointer (some ⟨gs,0,.none⟩),.pointer (some ⟨gq,0,.none⟩),.pointer (some ⟨gt,0,.none⟩),vg]::.sl 149 8 (.slice A c.h.length cap) (c.h.map Ch.cells)::PS gs c.s::PQ gq c.q::PT gt c.t::F) w:=by
 simp only [PC,Sep.ex_open,Sep.all_open,List.cons_append,List.nil_append]
theorem yh0 (r:World) (F:List Res) (w:World) (hS:Sep r [] F w) :
  Calls Tryz.prog 97 #[] w fun e w'=>∃ gs gq gt,e=.returned (.agg #[.pointer (some ⟨gs,0,none⟩),.pointer (some ⟨gq,0,none⟩),.pointer (some ⟨gt,0,none⟩)])∧Sep r [] (PS gs []::PQ gq .zero::PT gt .zero::F) w':=by
 refine Z.enter Tryz.func97 Tryz.ntmps97 rfl rfl ?_;refine aQ1 ?_;intro g w hS;refine cQ (yh5 _ _ _ hS) rfl ?_;clear hS;rintro e w ⟨gs,rfl,hS⟩;refine eQ ?_;intro w hS;refine cQ (yh3 _ _ _ hS) rfl ?_;clear hS;rintro e w ⟨gq,rfl,hS⟩;refine eQ ?_;intro w hS;refine cQ (yiP hS) rfl ?_;clear hS;rintro e w ⟨gt,rfl,hS⟩;refine eQ ?_;intro w hS;refine Dnc Tryz.results97 ?_;exact ⟨_,_,_,rfl,hS.sb⟩
structure Fd3 where
 s:List Ce
 q:Qu
 t:Tab
 e:Int
def addS (s:List Ce) (q:Qu) (t:Tab) (x:Ch):Fd3:=
 if (tApp t x).2=0 then if (sApp s x).2=0 then ⟨(sApp s x).1,(qApp q x).1,(tApp t x).1,(qApp q x).2⟩ else ⟨(sApp s x).1,q,(tApp t x).1,(sApp s x).2⟩
 else ⟨s,q,(tApp t x).1,(tApp t x).2⟩
theorem yiO (gs gq gt:Nat) (s:List Ce) (q:Qu) (t:Tab) (x:Ch) (r:World) (F:List Res) (w:World) (hS:Sep r [] (PS gs s::PQ gq q::PT gt t::F) w) (hok:t.ok) (hs:SSort s) (h1:s.length≤1000) (h2:q.l.length≤1000) (h3:q.r.length≤1000) :
  Calls Tryz.prog 208 #[.agg #[.pointer (some ⟨gs,0,none⟩),.pointer (some ⟨gq,0,none⟩),.pointer (some ⟨gt,0,none⟩)],x.val] w fun e w'=>e=.returned (.int .i64 (addS s q t x).e)∧Sep r [] (PS gs (addS s q t x).s::PQ gq (addS s q t x).q::PT gt (addS s q t x).t::F) w':=by
 unfold addS;refine Z.enter Tryz.func208 Tryz.ntmps208 rfl rfl ?_;refine aQ2 ?_;intro _ g w hS;replace hS:=hS.fo (R:=PT gt t);refine cQ (ygT x _ rfl hS hok) rfl ?_;clear hS;rintro e w ⟨rfl,hS⟩;refine ⟨_,rfl,?_⟩
 repeat' first|refine K ?_|refine Sa ?_;intro w hS|refine K3 ?_;intro g w hS hge|refine KC ?_ ?_<;>intro hb<;>try exact JX|fail
 ·refine Dnt Tryz.results208 ?_;rw [if_neg hb];exact ⟨rfl,hS.sb⟩
 rename (tApp t x).2=0=>ht;replace hS:=hS.fo (R:=PS gs s);refine cQ (yfP gs s x _ _ _ hS hs h1) rfl ?_;clear hS;rintro e w ⟨rfl,hS⟩;refine ⟨_,rfl,?_⟩
 repeat' first|refine K ?_|refine Sa ?_;intro w hS|refine K3 ?_;intro g w hS hge|refine KC ?_ ?_<;>intro hb<;>try exact JX|fail
 ·refine Dnt Tryz.results208 ?_;rw [if_pos ht,if_neg hb];exact ⟨rfl,hS.sb⟩
 rename (sApp s x).2=0=>hse;replace hS:=hS.fo (R:=PQ gq q);refine rQ (yfN gq q x _ _ _ hS h2 h3) ?_;intro w hS;refine Dnt Tryz.results208 ?_;rw [if_pos ht,if_pos hse];exact ⟨rfl,hS.sb⟩
theorem ygU (gs gq gt:Nat) (s:List Ce) (q:Qu) (t:Tab) (r:World) (F:List Res) (w:World) (hS:Sep r [] (PS gs s::PQ gq q::PT gt t::F) w) (h2:q.l.length≤1000) (h3:q.r.length≤1000) :
  Calls Tryz.prog 209 #[.agg #[.pointer (some ⟨gs,0,none⟩),.pointer (some ⟨gq,0,none⟩),.pointer (some ⟨gt,0,none⟩)]] w fun e w'=>∃ gs' gq' gt',e=.returned (.agg #[.pointer (some ⟨gs',0,none⟩),.pointer (some ⟨gq',0,none⟩),.pointer (some ⟨gt',0,none⟩)])∧Sep r [] (PS gs' s::PQ gq' q::PT gt' t::PS gs s::PQ gq q::PT gt t::F) w':=by
 refine Z.enter Tryz.func209 Tryz.ntmps209 rfl rfl ?_;refine aQ2 ?_;intro _ g w hS;refine D.startS hS 10 11 kR rfl ?_;replace hS:=hS.drew;refine Sh.dp 0 1 ?_;refine Sh.dp 3 9 ?_;refine Sh.dp 6 73 ?_;refine Sh.dl 1 75 ?_;refine Sh.dl 4 91 ?_;refine Sh.dl 7 219 ?_;refine D.ef 2 223 ?_;replace hS:=hS.fo (R:=PS gs s);refine Z.cl (yg1 gs s _ _ _ hS) rfl ?_;clear hS;rintro e w ⟨gs',rfl,hS⟩;refine ⟨_,rfl,?_⟩;refine HMs ?_;refine D.ef 5 255 ?_;replace hS:=hS.fo (R:=PQ gq q);refine Z.cl (yg0 gq q _ _ _ hS h2 h3) rfl ?_;clear hS;rintro e w ⟨gq',rfl,hS⟩;refine ⟨_,rfl,?_⟩;refine HMs ?_;refine D.ef 8 511 ?_;replace hS:=hS.fo (R:=PT gt t);refine Z.cl (yhW t gt _ _ _ hS) rfl ?_;clear hS;rintro e w ⟨gt',rfl,hS⟩;refine ⟨_,rfl,?_⟩;refine HMs ?_
 first|refine D.bu 9 1023 rfl D.wantedN kR rfl rfl ?_|refine D.buA 9 1023 rfl D.wantedN kR rfl rfl ?_
 refine D.ef 10 2047 ?_;refine Z.st hS rfl AtF rfl rfl ?_;clear hS;intro w hS;refine HMl ?_;refine D.dn ?_;refine sQ ?_;intro w hS;refine Dnc Tryz.results209 ?_;exact ⟨_,_,_,rfl,hS.sb⟩
theorem yeh (cell ten:Int) (r:World) (F:List Res) (w:World) (hS:Sep r [] F w) :
  Calls Tryz.prog 35 #[.int .i64 cell,.int .i64 ten] w fun e w'=>∃ g gg,e=.returned (.pointer (some ⟨g,0,none⟩))∧
   Sep r [] (PC g cell ten (.pointer (some ⟨gg,0,none⟩)) .zero::.blk gg 216 [.int .i64 cell,.int .i64 0,.slice none 0 0]::F) w':=by
 refine Z.enter Tryz.func35 Tryz.ntmps35 rfl rfl ?_;refine sQ ?_;intro w hS;refine cQ (yh0 _ _ _ hS) rfl ?_;clear hS;rintro e w ⟨gs,gq,gt,rfl,hS⟩;refine eQ ?_;intro w hS;refine cQ (yhI cell _ _ _ hS) rfl ?_;clear hS;rintro e w ⟨gg,rfl,hS⟩;refine ⟨_,rfl,?_⟩
 repeat' first|refine K ?_|refine Sa ?_;clear hS;intro w hS|refine K3 ?_;clear hS;intro g w hS hge|refine KC ?_ ?_<;>intro hb<;>try exact JX|fail
 refine Dnt Tryz.results35 ?_;replace hS:=Z.nilsl hS 149 8 none;exact ⟨_,_,rfl,Sep.PC_open.2 ⟨_,_,_,_,_,hS.sb⟩⟩
theorem plen_o (g:Nat) (v0 v1 v3 v4 v5 v6:Value) (A:Option Addr) (n cap:Nat) (r:World) (F:List Res) (w:World) (hS:Sep r [] (.blk g 162 [v0,v1,.slice A n cap,v3,v4,v5,v6]::F) w) :
  Calls Tryz.prog 14 #[.pointer (some ⟨g,0,none⟩)] w fun e w'=>e=.returned (.int .i64 (n:Int))∧Sep r [] (.blk g 162 [v0,v1,.slice A n cap,v3,v4,v5,v6]::F) w':=by
 refine Z.enter Tryz.func14 Tryz.ntmps14 rfl rfl ?_;refine sQ ?_;intro w hS;refine Dnt Tryz.results14 ?_;exact ⟨rfl,hS⟩
theorem yeg (g:Nat) (cell ten:Int) (vg:Value) (c:Cp) (r:World) (F:List Res) (w:World) (hS:Sep r [] (PC g cell ten vg c::F) w) :
  Calls Tryz.prog 14 #[.pointer (some ⟨g,0,none⟩)] w fun e w'=>e=.returned (.int .i64 (c.h.length:Int))∧Sep r [] (PC g cell ten vg c::F) w':=by
 obtain ⟨A,cap,gs,gq,gt,hS⟩:=Sep.PC_open.1 hS;exact (plen_o g _ _ _ _ _ _ A _ cap r _ w hS).mono fun e w' ⟨he,hS⟩=>⟨he,Sep.PC_open.2 ⟨A,cap,gs,gq,gt,hS⟩⟩
theorem pepoch_o (g:Nat) (v0 v1 vh v3 v4 v5 v6:Value) (h:List Ch) (r:World) (F:List Res) (w:World) (hS:Sep r [] (.blk g 162 [v0,v1,vh,v3,v4,v5,v6]::F) w) (hrd:Reads r F 8 vh (h.map Ch.cells)) (hl:h.length≤5000) :
  Calls Tryz.prog 105 #[.pointer (some ⟨g,0,none⟩)] w fun e w'=>e=.returned (.int .i64 (epochOf h))∧Sep r [] (.blk g 162 [v0,v1,vh,v3,v4,v5,v6]::F) w':=by
 obtain ⟨A,c,rfl,hc⟩:=(hrd [_] w hS).mform;refine Z.enter Tryz.func105 Tryz.ntmps105 rfl rfl ?_
 repeat' first|refine K ?_|refine Sa ?_;intro w hS|refine K3 ?_;intro g w hS hge|refine KC ?_ ?_<;>intro hb<;>try exact JX|fail
 ·refine Dnt Tryz.results105 ?_;have:h=[]:=List.eq_nil_of_length_eq_zero oM;exact ⟨by rw [this];rfl,hS⟩
 ·have h0:0 < h.length:=by omega
  obtain ⟨gb,o,rfl,_,_⟩:=(hrd [_] w hS).mat oM (q:=h.length - 1) oM;have e0:((h.length:Int) - 1).toNat=h.length - 1:=by omega
  have hra:∀ W,Sep r [] (.blk g 162 [v0,v1,.slice (some ⟨gb,o,none⟩) h.length c,v3,v4,v5,v6]::F) W→W.rangeAt gb (o+((h.length:Int) - 1).toNat * 8) (h[h.length - 1]'oM).cells:=fun W hW=>by rw [e0];exact (hrd [_] W hW).elem oM oM
  refine D.startS hS 14 14 kR rfl ?_;replace hS:=hS.drew;refine Sh.dp 0 1 ?_;refine Sh.dp 1 3 ?_;refine Sh.dp 2 7 ?_;refine Sh.dp 4 23 ?_;refine Sh.dp 5 55 ?_;refine Sh.dp 6 119 ?_;refine Sh.dl 3 127 ?_;refine Sh.dl 7 255 ?_;refine Sh.dp 8 511 ?_
  first|refine D.sum 9 1023 rfl D.wantedN kR rfl (by constructor<;>omega) ?_|refine D.sumW 9 1023 rfl D.wantedN kR rfl ?_
  first|refine D.ixn 10 2047 rfl D.wantedN kR rfl rfl rfl oM ?_|refine D.ix 10 2047 rfl D.wantedN kR rfl rfl rfl oM ?_|refine D.ia 10 2047 rfl D.wantedN kR rfl rfl rfl oM ?_
  refine Sh.dp 11 4095 ?_;refine D.ldE 12 8191 rfl D.wantedN kR rfl hra rfl ?_;refine Sh.dp 13 16383 ?_;refine D.dn ?_
  repeat' first|refine K ?_|refine Sa ?_;intro w hS|refine K3 ?_;intro g w hS hge|refine KC ?_ ?_<;>intro hb<;>try exact JX|fail
  refine Dnt Tryz.results105 ?_;exact ⟨by rw [yey h0];rfl,hS⟩
theorem ygk {s:List Ce} {q:Qu} {t:Tab} {x:Ch} (c:Cp) (hc:c=⟨c.h,s,q,t⟩) (hv:validB x=true) (hq:x.seq=(c.h.length:Int)+1∧epochOf c.h≤x.epoch):(cApp c x).2=(addS s q t x).e∧((addS s q t x).e≠0→(cApp c x).1=c)∧((addS s q t x).e=0→(cApp c x).1=⟨c.h++[x],(addS s q t x).s,(addS s q t x).q,(addS s q t x).t⟩):=by
 obtain ⟨h0,s0,q0,t0⟩:=c
 injection hc with _ h1 h2 h3
 subst h1 h2 h3;unfold cApp addS;rw [if_pos hv,if_pos hq];simp only
 by_cases ht:(tApp t0 x).2=0
 ·rw [if_neg (by simpa using ht),if_pos ht]
  by_cases hs:(sApp s0 x).2=0
  ·rw [if_neg (by simpa using hs),if_pos hs]
   by_cases hq':(qApp q0 x).2=0
   ·rw [if_neg (by simpa using hq')]
    simp [hq']
   ·rw [if_pos hq']
    simp [hq']
  ·rw [if_pos hs,if_neg hs]
   simp [hs]
 ·rw [if_pos ht,if_neg ht]
  simp [ht]
theorem yfK (g:Nat) (cell ten:Int) (vg:Value) (c:Cp) (x:Ch) (r:World) (F:List Res) (w:World) (hS:Sep r [] (PC g cell ten vg c::F) w) (hok:COk c) (hl:c.h.length≤4500) :
  Calls Tryz.prog 118 #[.pointer (some ⟨g,0,none⟩),x.val] w fun e w'=>e=.returned (.int .i64 (cApp c x).2)∧Sep r [] (PC g cell ten vg (cApp c x).1::F) w':=by
 obtain ⟨A,cap,gs,gq,gt,hS⟩:=Sep.PC_open.1 hS;refine Z.enter Tryz.func118 Tryz.ntmps118 rfl rfl ?_;refine aQ1 ?_;intro gx w hS;refine cQ (svalid_any x _) rfl ?_;rintro e w' ⟨rfl,hC⟩;refine ⟨_,rfl,?_⟩;replace hS:=hS.ext hC;clear hC
 repeat' first|refine K ?_|refine Sa ?_;intro w hS|refine K3 ?_;intro g w hS hge|refine KC ?_ ?_<;>intro hb<;>try exact JX|fail
 ·refine Dnt Tryz.results118 ?_;have e:cApp c x=(c,1):=by simp [cApp,hb]
  rw [e];exact ⟨rfl,Sep.PC_open.2 ⟨_,_,_,_,_,hS.sb⟩⟩
 rename validB x=true=>hv;refine Z.cut [10,11,12,13,14,15,16,17,18,19,20,21,22] (fun w s=>s=[(22,.bool (!decide (x.seq=(c.h.length:Int)+1∧epochOf c.h≤x.epoch)))]∧Sep r [] (.blk gx 149 x.cells::.blk g 162 [.int .i64 cell,.int .i64 ten,.slice A c.h.length cap,.pointer (some ⟨gs,0,.none⟩),.pointer (some ⟨gq,0,.none⟩),.pointer (some ⟨gt,0,.none⟩),vg]::.sl 149 8 (.slice A c.h.length cap) (c.h.map Ch.cells)::PS gs c.s::PQ gq c.q::PT gt c.t::F) w) ?_ ?_
 ·refine D.startS (Lr:=(.blk gx 149 x.cells::.blk g 162 [.int .i64 cell,.int .i64 ten,.slice A c.h.length cap,.pointer (some ⟨gs,0,.none⟩),.pointer (some ⟨gq,0,.none⟩),.pointer (some ⟨gt,0,.none⟩),vg]::.sl 149 8 (.slice A c.h.length cap) (c.h.map Ch.cells)::PS gs c.s::PQ gq c.q::PT gt c.t::F)) (hS.sb) 13 13 kR rfl ?_;replace hS:=hS.drew;refine Sh.dp 0 1 ?_;refine Sh.dp 2 5 ?_;refine Sh.dl 1 7 ?_;refine D.ef 3 15 ?_;replace hS:=hS.fo (R:=.blk g _ _);refine dQ (plen_o g _ _ _ _ _ _ A _ cap r _ _ hS) ?_;intro w hS
  first|refine D.sum 4 31 rfl D.wantedN kR rfl (by constructor<;>omega) ?_|refine D.sumW 4 31 rfl D.wantedN kR rfl ?_
  first|refine D.pr 5 63 rfl D.wantedN kR rfl ?_|refine D.pl 5 63 rfl D.wantedN kR (R.nea rfl rfl rfl rfl) ?_
  refine Sh.dp 6 127 ?_;refine D.slot 16 rfl (fun hb=>?_) (fun hb=>?_)
  ·(try simp only [JJ] at hb)
   refine D.sk 7 255 ?_;refine D.sk 8 511 ?_;refine D.sk 9 1023 ?_;refine D.sk 10 2047 ?_;refine D.sk 11 4095 ?_;refine Sh.dp 12 8191 ?_;refine D.dn ?_;refine Sh.cut [(22,_)] ?_;refine ⟨?_,hS.sb⟩
   by_cases he:x.epoch < epochOf c.h
   ·have he':¬ epochOf c.h≤x.epoch:=by omega
    simp [hb,he,he']
   ·have he':epochOf c.h≤x.epoch:=by omega
    simp [hb,he,he']
  ·(try simp only [JJ] at hb)
   refine Sh.dp 7 255 ?_;refine Sh.dp 9 767 ?_;refine Sh.dl 8 1023 ?_;refine D.eff 10 2047 rfl (D.wantedT rfl rfl) kR kR (fun _ _ h=>h) ?_;refine WE.guard ?_;replace hS:=hS.fo (R:=.blk g _ _);refine Z.cl (pepoch_o g _ _ _ _ _ _ _ c.h r _ _ hS (Reads.of_at AtF) oM) rfl ?_;clear hS;rintro e w ⟨rfl,hS⟩;refine ⟨_,rfl,?_⟩;refine HMs ?_;refine Sh.dp 11 4095 ?_;refine Sh.dp 12 8191 ?_;refine D.dn ?_;refine Sh.cut [(22,_)] ?_;refine ⟨?_,hS.sb⟩
   by_cases he:x.epoch < epochOf c.h
   ·have he':¬ epochOf c.h≤x.epoch:=by omega
    simp [hb,he,he']
   ·have he':epochOf c.h≤x.epoch:=by omega
    simp [hb,he,he']
 clear hS;rintro g0 w _ ⟨rfl,hS⟩
 repeat' first|refine K ?_|refine Sa ?_;intro w hS|refine K3 ?_;intro g w hS hge|refine KC ?_ ?_<;>intro hb<;>try exact JX|fail
 ·refine Dnt Tryz.results118 ?_;have e:cApp c x=(c,36):=by simp only [cApp, *];simp [hb]
  rw [e];exact ⟨rfl,Sep.PC_open.2 ⟨_,_,_,_,_,hS.sb⟩⟩
 rename x.seq=_∧_=>hq;obtain ⟨e1,e2,e3⟩:=ygk (s:=c.s) (q:=c.q) (t:=c.t) c rfl hv hq;rw [e1];replace hS:Sep r [] (PS gs c.s::PQ gq c.q::PT gt c.t::.blk gx 149 x.cells::.blk g 162 [.int .i64 cell,.int .i64 ten,.slice A c.h.length cap,.pointer (some ⟨gs,0,.none⟩),.pointer (some ⟨gq,0,.none⟩),.pointer (some ⟨gt,0,.none⟩),vg]::.sl 149 8 (.slice A c.h.length cap) (c.h.map Ch.cells)::F) w:=hS.sb;refine cQ (ygU gs gq gt c.s c.q c.t _ _ _ hS hok.l hok.r) rfl ?_;clear hS;rintro e w ⟨gs',gq',gt',rfl,hS⟩;refine ⟨_,rfl,?_⟩
 repeat' first|refine K ?_|refine Sa ?_;clear hS;intro w hS|refine K3 ?_;clear hS;intro g w hS hge|refine KC ?_ ?_<;>intro hb<;>try exact JX|fail
 rename Nat=>gf;replace hS:=hS.sub (L':=PS gs' c.s::PQ gq' c.q::PT gt' c.t::.blk gf 160 _::.blk gx 149 x.cells::.blk g 162 [.int .i64 cell,.int .i64 ten,.slice A c.h.length cap,.pointer (some ⟨gs,0,.none⟩),.pointer (some ⟨gq,0,.none⟩),.pointer (some ⟨gt,0,.none⟩),vg]::.sl 149 8 (.slice A c.h.length cap) (c.h.map Ch.cells)::PS gs c.s::PQ gq c.q::PT gt c.t::F) SuF;refine cQ (yiO gs' gq' gt' c.s c.q c.t x _ _ _ hS hok.t hok.ss hok.s hok.l hok.r) rfl ?_;clear hS;rintro e w ⟨rfl,hS⟩;refine ⟨_,rfl,?_⟩
 repeat' first|refine K ?_|refine Sa ?_;intro w hS|refine K3 ?_;intro g w hS hge|refine KC ?_ ?_<;>intro hb<;>try exact JX|fail
 ·refine Dnt Tryz.results118 ?_;rw [e2 hb];exact ⟨rfl,Sep.PC_open.2 ⟨_,_,_,_,_,hS.sb⟩⟩
 rename (addS c.s c.q c.t x).e=0=>hz;refine D.startS (Lr:=[.blk gx 149 x.cells,.blk g 162 [.int .i64 cell,.int .i64 ten,.slice A c.h.length cap,.pointer (some ⟨gs',0,none⟩),.pointer (some ⟨gq',0,none⟩),.pointer (some ⟨gt',0,none⟩),vg]]) (hS.sb) 10 11 kR rfl ?_;replace hS:=hS.drew;refine Sh.dp 0 1 ?_;refine Sh.dp 1 3 ?_;refine Sh.dp 2 7 ?_;refine Sh.dp 3 15 ?_;refine Sh.dl 4 31 ?_;refine Sh.dl 5 63 ?_;refine D.ef 6 127 ?_;refine Z.bs hS rfl rfl rfl ?_;clear hS;intro g w hS hge;refine HMs ?_;refine D.ef 7 255 ?_;refine Z.apm (l':=[x]) hS rfl rfl rfl AtF (hS.lit1 AtF rfl rfl) LnF LnF ?_;clear hS;intro A1 c1 w hS;refine HMs ?_;refine Sh.dp 8 511 ?_;refine Sh.dp 9 1023 ?_;refine D.ef 10 2047 ?_;refine Z.st hS rfl AtF rfl rfl ?_;clear hS;intro w hS;refine HMl ?_;refine D.dn ?_;refine sQ ?_;intro w hS;refine Dnt Tryz.results118 ?_;rw [e3 hz,hz];refine ⟨rfl,Sep.PC_open.2 ⟨A1,c1,gs',gq',gt',?_⟩⟩;simp only [List.length_append,List.length_singleton];exact hS.sb
structure Shp where
 ep:Int
 seq:Int
 before:Int
 ch:List Ch
end Go.Proofs.YtfmnjbhncnldmaaGreat
