import Derived.Test.YtfmnjbhncnldmaaGreatRows
import Derived.BigGuardPart
import Derived.Deep.QuietTactic
import Derived.BigQuiet
import Derived.Deep.RegionHeld3
import Derived.Handy
import Derived.Deep.DeepCutAuto
import Derived.Test.YtfmnjbhncnldmaaGreatW00
import Derived.Test.YtfmnjbhncnldmaaGreatW02
import Derived.Test.YtfmnjbhncnldmaaGreatW19
import Derived.Test.YtfmnjbhncnldmaaGreatW20
import Derived.Test.YtfmnjbhncnldmaaGreatW21
set_option maxHeartbeats 8000000
set_option linter.unusedSimpArgs false
set_option linter.unusedVariables false
namespace Go.Proofs.YtfmnjbhncnldmaaGreat
open Go.RowKit
attribute [local irreducible] Res.blk Res.sl Res.all Res.ex Res.pure Res.star
def ltL (a b:Le):Prop:=a.item < b.item
def ci3q (a b:Int):Int:=if a < b then -1 else if b < a then 1 else 0
theorem ygq (a b:Int):ci3q a b < 0↔a < b:=by unfold ci3q;repeat' split<;>omega
theorem yfg (a b:Int):ci3q a b=0↔a=b:=by unfold ci3q;repeat' split<;>omega
theorem ydd (a:Int) (r:World) (F:List Res) (w:World) (hS:Sep r [] F w):Calls Tryz.prog 265 #[.int .i64 a] w fun e w'=>e=.returned (.bool false)∧Sep r [] F w':=by
 refine Z.enter Tryz.func265 Tryz.ntmps265 rfl rfl ?_;refine sQ ?_;intro w hS;refine Dnt Tryz.results265 ?_;exact ⟨by simp [Z.packR],hS⟩
theorem yiq (a b:Int) (r:World) (F:List Res) (w:World) (hS:Sep r [] F w):Calls Tryz.prog 190 #[.int .i64 a,.int .i64 b] w fun e w'=>e=.returned (.int .i64 (ci3q a b))∧Sep r [] F w':=by
 refine Z.enter Tryz.func190 Tryz.ntmps190 rfl rfl ?_;refine sQ ?_;intro w hS;refine rQ (ydd _ _ _ _ hS) ?_;intro w hS;refine cQ (ydd _ _ _ _ hS) rfl ?_;clear hS;rintro e w ⟨rfl,hS⟩;refine ⟨_,rfl,?_⟩
 repeat' first|refine K ?_|refine Sa ?_;intro w hS|refine K3 ?_;intro g w hS hge|refine KC ?_ ?_<;>intro hb<;>try exact JX|fail
 ·refine Dnt Tryz.results190 ?_;exact ⟨by simp [Z.packR,ci3q,hb],hS⟩
 ·refine Dnt Tryz.results190 ?_;have h1:¬ a < b:=by omega
  exact ⟨by simp [Z.packR,ci3q,hb,h1],hS⟩
 ·refine Dnt Tryz.results190 ?_;have h1:¬ a < b:=by omega
  have h2:¬ b < a:=by omega
  exact ⟨by simp [Z.packR,ci3q,h1,h2],hS⟩
theorem ydg (k:Le) (n:Int) (r:World) (F:List Res) (w:World) (hS:Sep r [] F w):Calls Tryz.prog 268 #[k.val,.int .i64 n] w fun e w'=>e=.returned (.int .i64 (ci3q k.item n))∧Sep r [] F w':=by
 refine Z.enter Tryz.func268 Tryz.ntmps268 rfl rfl ?_;refine aQ1 ?_;intro g w hS;refine rQ (yiq _ _ _ _ _ hS) ?_;intro w hS;refine Dnt Tryz.results268 ?_;exact ⟨rfl,hS.sb⟩
structure LSpot (rs:List Le) (n:Int) (i:Nat):Prop where
 le:i≤rs.length
 lo:∀ j (hj:j < rs.length),j < i→rs[j].item < n
 hi:∀ j (hj:j < rs.length),i≤j→¬ rs[j].item < n
theorem yb1 {rs:List Le} (h:rs.Pairwise ltL) {i j:Nat} (hj:j < rs.length) (hij:i < j):(rs[i]'oM).item < rs[j].item:=List.pairwise_iff_getElem.1 h i j oM hj hij
theorem ybE (k:IntKind) (hk:k=.i64∨k=.u64) {a:Int} (h0:0≤a) (h1:a≤9223372036854775807):k.wrap a=a:=by
 rcases hk with rfl|rfl
 ·exact IntWalk.i64_in _ oM
 ·simp [IntKind.wrap,IntKind.signed,IntKind.bits]
  omega
theorem yfB (rs:List Le) (x:Int) (v:Value) (r:World) (F:List Res) (w:World) (hS:Sep r [] F w) (hrd:Reads r F 4 v (rs.map Le.cells)) (hl:rs.length≤100000) (hs:rs.Pairwise ltL) :
  Calls Tryz.prog 267 #[v,.int .i64 x,.func (.func 268) #[] #[]] w fun e w'=>∃ (i:Nat) (b:Bool),e=.returned (.tuple #[.int .i64 i,.bool b])∧LSpot rs x i∧(b=true↔∃ hi:i < rs.length,rs[i].item=x)∧Sep r [] F w':=by
 obtain ⟨A,c,rfl,hc⟩:=(hrd [] w hS).mform;refine Z.enter Tryz.func267 Tryz.ntmps267 rfl rfl ?_;refine sQ ?_;intro w hS;refine Z.lpS [9,10,11,15,16,17,18,19,20,21,22,23,24,25,26,27,28,29,30,31,32,33,34] (fun m w s=>∃ i j:Nat,s=[(9,.int .i64 i),(10,.int .i64 j)]∧i≤j∧j≤rs.length∧(∀ k (hk:k < rs.length),k < i→rs[k].item < x)∧(∀ k (hk:k < rs.length),j≤k→¬ rs[k].item < x)∧m=j - i∧Sep r [] F w) _ [(9,.int .i64 (0:Nat)),(10,.int .i64 (rs.length:Nat))] TrF ⟨0,rs.length,rfl,oM,oM,by intro k _ h;omega,by intro k _ h;omega,rfl,hS⟩ ?_;clear hS;rintro m f0 w _ ⟨i,j,rfl,hij,hj,hlo,hhi,rfl,hS⟩
 by_cases hlt:i < j
 ·have hm:(i+j) / 2 < rs.length:=by omega
  obtain ⟨gb,o,rfl,_,hra⟩:=(hrd [] w hS).mat oM hm;have ew:IntKind.u64.wrap ((i:Int)+j)=(i:Int)+j:=ybE _ (.inr rfl) oM oM;have ew2:IntKind.i64.wrap (((i:Int)+j) / 2)=(((i+j) / 2:Nat):Int):=by rw [ybE _ (.inl rfl) oM oM];rfl
  repeat' first|refine K ?_|refine Sa ?_;intro w hS|refine K3 ?_;intro g w hS hge|refine KC ?_ ?_<;>intro hb<;>try exact JX|fail
  refine Z.pl (R.cvt rfl Tryz.underlying3 Tryz.underlying82) ?_;rw [ew];refine Z.pl (R.shr1 rfl rfl (by decide)) ?_;refine Z.pl (R.cvt rfl Tryz.underlying82 Tryz.underlying3) ?_;rw [ew2];generalize hmid:(i+j) / 2=mid at *
  repeat' first|refine K ?_|refine Sa ?_;intro w hS|refine K3 ?_;intro g w hS hge|refine KC ?_ ?_<;>intro hb<;>try exact JX|fail
  refine Z.eff (Z.clf (caps:=[]) rfl (ydg rs[mid] x _ _ _ hS) rfl ?_) rfl;clear hS;rintro e w ⟨rfl,hS⟩;refine ⟨_,rfl,?_⟩;have hneg:=ygq rs[mid].item x
  repeat' first|refine K ?_|refine Sa ?_;intro w hS|refine K3 ?_;intro g w hS hge|refine KC ?_ ?_<;>intro hb<;>try exact JX|fail
  ·refine Sh.again (j - (mid+1)) [(9,.int .i64 (mid+1:Nat)),(10,.int .i64 (j:Nat))] ?_;refine ⟨mid+1,j,rfl,oM,hj,fun k hk hki=>?_,hhi,rfl,hS⟩;have hx:=hneg.1 hb
   rcases Nat.lt_or_ge k mid with h1|h1
   ·have:=yb1 hs hm h1;omega
   ·have:k=mid:=by omega
    subst this;exact hx
  ·refine Sh.again (mid - i) [(9,.int .i64 (i:Nat)),(10,.int .i64 (mid:Nat))] ?_;refine ⟨i,mid,rfl,oM,oM,hlo,fun k hk hki=>?_,rfl,hS⟩;have hx:¬ rs[mid].item < x:=fun h=>by have:=hneg.2 h;omega
   rcases Nat.lt_or_ge mid k with h1|h1
   ·have:=yb1 hs hk h1;omega
   ·have:k=mid:=by omega
    subst this;exact hx
 ·have hij':i=j:=by omega
  subst hij'
  by_cases hin:i < rs.length
  ·obtain ⟨gb,o,rfl,_,hra⟩:=(hrd [] w hS).mat oM hin;have hz:=yfg rs[i].item x;refine sQ ?_;intro w hS;refine Z.eff (Z.clf (caps:=[]) rfl (ydg rs[i] x _ _ _ hS) rfl ?_) rfl;clear hS;rintro e w ⟨rfl,hS⟩;refine eQ ?_;intro w hS;refine Dntt Tryz.results267 ?_;refine ⟨i,decide (ci3q rs[i].item x=0),rfl,⟨oM,hlo,hhi⟩,?_,hS⟩;rw [decide_eq_true_eq,hz];exact ⟨fun h=>⟨hin,h⟩,fun ⟨_,h⟩=>h⟩
  ·refine sQ ?_;intro w hS;refine Dntt Tryz.results267 ?_;exact ⟨i,false,rfl,⟨oM,hlo,hhi⟩,by simp [hin],hS⟩
def insL (x:Le):List Le→List Le
 | []=>[x]
 | y::l=>if y.item < x.item then y::insL x l else if y.item=x.item then x::l else x::y::l
theorem yd2 {x:Le}:∀ {l:List Le} {i:Nat},LSpot l x.item i→insL x l=if ∃ hi:i < l.length,l[i].item=x.item then l.set i x else l.take i++x::l.drop i
 | [],i,h=>by have:=h.le;simp at this;subst this;simp [insL]
 | y::l,0,h=>by
  have h1:=h.hi 0 (by simp) (Nat.le_refl _);simp only [List.getElem_cons_zero] at h1;simp only [insL,if_neg h1]
  by_cases he:y.item=x.item
  ·rw [if_pos he,if_pos ⟨by simp,by simpa using he⟩]
   simp
  ·rw [if_neg he,if_neg (by rintro ⟨_,h2⟩;exact he (by simpa using h2))]
   simp
 | y::l,i+1,h=>by
  have h0:=h.lo 0 (by simp) oM;simp only [List.getElem_cons_zero] at h0;have ih:=yd2 (x:=x) (l:=l) (i:=i) ⟨by have:=h.le;simpa using this,fun j hj hji=>by have:=h.lo (j+1) (by simpa using hj) oM;simpa using this,fun j hj hji=>by have:=h.hi (j+1) (by simpa using hj) oM;simpa using this⟩;simp only [insL,if_pos h0,ih]
  by_cases he:∃ hi:i < l.length,l[i].item=x.item
  ·have he':∃ hi:i+1 < (y::l).length,(y::l)[i+1].item=x.item:=by
    obtain ⟨a,b⟩:=he;exact ⟨by simpa using a,by simpa using b⟩
   rw [if_pos he,if_pos he']
   simp
  ·have he':¬ ∃ hi:i+1 < (y::l).length,(y::l)[i+1].item=x.item:=by
    rintro ⟨a,b⟩;exact he ⟨by simpa using a,by simpa using b⟩
   rw [if_neg he,if_neg he']
   simp
theorem yhP (gq:Nat) (q:Qu) (x:Le) (r:World) (F:List Res) (w:World) (hS:Sep r [] (PQ gq q::F) w) (hl':q.r.length≤1000) (hs:q.r.Pairwise ltL) :
  Calls Tryz.prog 196 #[.pointer (some ⟨gq,0,none⟩),x.val] w fun e w'=>∃ v,e=.returned v∧Sep r [] (PQ gq ⟨q.l,insL x q.r,q.most⟩::F) w':=by
 obtain ⟨A,c,B,d,hS⟩:=Sep.PQ_open.1 hS;refine Z.enter Tryz.func196 Tryz.ntmps196 rfl rfl ?_;refine aQ1 ?_;intro gx w hS;refine Z.cut [4,5,6,7,8,9,10,11,12,13,14,15] (fun w s=>∃ (i:Nat) (b:Bool),s=[(4,.int .i64 i),(5,.bool b)]∧LSpot q.r x.item i∧(b=true↔∃ hi:i < q.r.length,q.r[i].item=x.item)∧Sep r [] (.blk gx 230 x.cells::.blk gq 311 [.slice A q.l.length c,.slice B q.r.length d,.int .i64 q.most]::.sl 228 2 (.slice A q.l.length c) (q.l.map It.cells)::.sl 230 4 (.slice B q.r.length d) (q.r.map Le.cells)::F) w) ?_ ?_
 ·refine D.startS hS 12 12 kR rfl ?_;replace hS:=hS.drew;refine Sh.dp 0 1 ?_;refine Sh.dp 1 3 ?_;refine Sh.dp 2 7 ?_;refine Sh.dp 4 23 ?_;refine Sh.dl 3 31 ?_;refine Sh.dl 5 63 ?_;refine D.ef 6 127 ?_;refine Z.cl (yfB q.r x.item _ _ _ _ hS (Reads.of_at AtF) oM hs) rfl ?_;clear hS;rintro e w ⟨i,b,rfl,hsp,hbi,hS⟩;refine ⟨_,rfl,?_⟩;refine HMs ?_;refine Sh.dp 7 255 ?_;refine Sh.dp 8 511 ?_;refine Sh.dp 9 1023 ?_;refine Sh.dp 10 2047 ?_;refine Sh.dp 11 4095 ?_;refine D.dn ?_;refine Sh.cut [(4,_),(5,_)] ?_;exact ⟨i,b,rfl,hsp,hbi,hS.sb⟩
 clear hS;rintro f1 w _ ⟨i,b,rfl,hsp,hbi,hS⟩;have hins:=yd2 hsp
 cases b
 ·have hno:¬ ∃ hi:i < q.r.length,q.r[i].item=x.item:=fun h=>by have:=hbi.2 h;cases this
  rw [if_neg hno] at hins;have hle:=hsp.le;refine sQ ?_;intro w hS;refine D.startS (Lr:=[.blk gx 230 x.cells,.blk gq 311 [.slice A q.l.length c,.slice B q.r.length d,.int .i64 q.most]]) (hS.sb) 11 12 kR rfl ?_;replace hS:=hS.drew;refine Sh.dp 0 1 ?_;refine Sh.dp 1 3 ?_;refine Sh.dp 2 7 ?_;refine Sh.dp 3 15 ?_;refine Sh.dp 5 47 ?_;refine Sh.dl 4 63 ?_;refine Sh.dl 6 127 ?_;refine D.ef 7 255 ?_;refine Z.bs hS rfl rfl rfl ?_;clear hS;intro g w hS hge;refine HMs ?_;refine D.ef 8 511 ?_;replace hS:Sep r [] (.sl 230 4 (.slice B q.r.length d) (q.r.map Le.cells)::.blk g 230 x.cells::.blk gx 230 x.cells::.blk gq 311 [.slice A q.l.length c,.slice B q.r.length d,.int .i64 q.most]::.sl 228 2 (.slice A q.l.length c) (q.l.map It.cells)::F) _:=hS.sb;refine Z.cl (le_insert q.r i x B d g _ _ _ hS hle oM) rfl ?_;clear hS;rintro e w ⟨B1,d1,rfl,hS⟩;refine ⟨_,rfl,?_⟩;refine HMs ?_;refine Sh.dp 9 1023 ?_;refine Sh.dp 10 2047 ?_;refine D.ef 11 4095 ?_;refine Z.st hS rfl AtF rfl rfl ?_;clear hS;intro w hS;refine HMl ?_;refine D.dn ?_;refine sQ ?_;intro w hS;refine Dn Tryz.results196 ?_;refine ⟨_,rfl,Sep.PQ_open.2 ⟨A,c,B1,d1,?_⟩⟩;have hlen:(insL x q.r).length=q.r.length+1:=by rw [hins];simp;omega
  simp only [hlen];rw [hins];exact hS.sb
 ·obtain ⟨hi,hyes⟩:=hbi.1 rfl;rw [if_pos ⟨hi,hyes⟩] at hins;obtain ⟨g0,rfl⟩:=Z.Sep_slform hS (.next (.next (.next .here))) (by simpa using (by omega:0 < q.r.length));refine sQ ?_;intro w hS;refine D.startS hS 7 8 kR rfl ?_;replace hS:=hS.drew;refine Sh.dp 0 1 ?_;refine Sh.dp 1 3 ?_;refine Sh.dp 2 7 ?_;refine Sh.dp 4 23 ?_;refine Sh.dl 3 31 ?_;refine Sh.dl 5 63 ?_
  first|refine D.ixn 6 127 rfl D.wantedN kR rfl rfl rfl oM ?_|refine D.ix 6 127 rfl D.wantedN kR rfl rfl rfl oM ?_|refine D.ia 6 127 rfl D.wantedN kR rfl rfl rfl oM ?_
  refine D.ef 7 255 ?_;refine Z.stEm x hS rfl AtF hi rfl rfl rfl rfl ?_;clear hS;intro w hS;refine HMl ?_;refine D.dn ?_;refine sQ ?_;intro w hS;refine Dn Tryz.results196 ?_;refine ⟨_,rfl,Sep.PQ_open.2 ⟨A,c,some ⟨g0,0,none⟩,d,?_⟩⟩;have hlen:(insL x q.r).length=q.r.length:=by rw [hins];simp
  simp only [hlen];rw [hins];exact hS.sb
def liveL (l:Le) (ep t:Int):Prop:=l.epoch=ep∧t < l.until_
instance (l:Le) (ep t:Int):Decidable (liveL l ep t):=by unfold liveL;infer_instance
theorem yfA (l:Le) (ep t:Int) (r:World) (F:List Res) (w:World) (hS:Sep r [] F w):Calls Tryz.prog 195 #[l.val,.int .i64 ep,.int .i64 t] w fun e w'=>e=.returned (.bool (decide (liveL l ep t)))∧Sep r [] F w':=by
 refine Z.enter Tryz.func195 Tryz.ntmps195 rfl rfl ?_
 repeat' first|refine K ?_|refine Sa ?_;intro w hS|refine K3 ?_;intro g w hS hge|refine KC ?_ ?_<;>intro hb<;>try exact JX|fail
 all_goals
  refine Dnt Tryz.results195 ?_;refine ⟨?_,hS.sb⟩;simp only [Z.packR]
  congr 2
  first
   | (rw [eq_comm,decide_eq_false_iff_not];unfold liveL;omega)
   | (rw [decide_eq_decide];unfold liveL;omega)
def It.zero:It:=⟨0,⟨#[]⟩⟩
def Le.zero:Le:=⟨0,0,0,0⟩
def takeBad (cl ep tk ho:Int):Prop:=cl < 1∨8 < cl∨ep < 1∨1048576 < ep∨tk < 0∨1073741824 < tk∨ho < 1∨1000 < ho
instance (cl ep tk ho:Int):Decidable (takeBad cl ep tk ho):=by unfold takeBad;infer_instance
def heldB (rs:List Le) (n ep tk:Int):Bool:=rs.any fun l=>decide (l.item=n) && decide (liveL l ep tk)
theorem yeF {rs:List Le} {n ep tk:Int} {k:Nat} (hk:k < rs.length):heldB (rs.take (k+1)) n ep tk=(heldB (rs.take k) n ep tk || (decide (rs[k].item=n) && decide (liveL rs[k] ep tk))):=by
 unfold heldB;rw [List.take_succ_eq_append_getElem hk,List.any_append]
 simp
theorem ygJ {rs:List Le} {n ep tk:Int} {k:Nat} (hk:k < rs.length) (h1:rs[k].item=n) (h2:liveL rs[k] ep tk):heldB rs n ep tk=true:=by
 unfold heldB;rw [List.any_eq_true];exact ⟨rs[k],by simp,by simp [h1,h2]⟩
def freeI (l:List It) (rs:List Le) (ep tk:Int):Option It:=l.find? fun x=>!heldB rs x.number ep tk
theorem ygC {l:List It} {rs:List Le} {ep tk:Int} {k:Nat} (hk:k < l.length) (h1:∀ j (hj:j < l.length),j < k→heldB rs l[j].number ep tk=true) (h2:heldB rs l[k].number ep tk=false):freeI l rs ep tk=some l[k]:=by
 unfold freeI;have e:l=l.take k++l.drop k:=(List.take_append_drop _ _).symm
 conv=>lhs;rw [e]
 rw [List.find?_append];have:(l.take k).find? (fun x=>!heldB rs x.number ep tk)=none:=by
  rw [List.find?_eq_none];intro x hx;obtain ⟨j,hj,rfl⟩:=List.mem_iff_getElem.1 hx;simp only [List.length_take] at hj;have:=h1 j oM oM
  simp [this]
 rw [this,List.drop_eq_getElem_cons hk,List.find?_cons_of_pos (by simp [h2])]
 rfl
theorem yeD {l:List It} {rs:List Le} {ep tk:Int} (h1:∀ j (hj:j < l.length),heldB rs l[j].number ep tk=true):freeI l rs ep tk=none:=by
 unfold freeI;rw [List.find?_eq_none];intro x hx;obtain ⟨j,hj,rfl⟩:=List.mem_iff_getElem.1 hx
 simp [h1 j hj]
structure TkR where
 q:Qu
 x:It
 l:Le
 e:Int
def takeP (q:Qu) (cl ep tk ho:Int):TkR:=
 if takeBad cl ep tk ho then ⟨q,.zero,.zero,1⟩
 else match freeI q.l q.r ep tk with
  | some x=>⟨⟨q.l,insL ⟨x.number,cl,ep,tk+ho⟩ q.r,q.most⟩,x,⟨x.number,cl,ep,tk+ho⟩,0⟩
  | none=>⟨q,.zero,.zero,34⟩
def TkR.val (R:TkR):Value:=.tuple #[R.x.val,R.l.val,.int .i64 R.e]
theorem yaP (gq:Nat) (q:Qu) (cl ep tk ho:Int) (r:World) (F:List Res) (w:World) (hS:Sep r [] (PQ gq q::F) w) (hl:q.l.length≤1000) (hl':q.r.length≤1000) (hs:q.r.Pairwise ltL) :
  Calls Tryz.prog 107 #[.pointer (some ⟨gq,0,none⟩),.int .i64 cl,.int .i64 ep,.int .i64 tk,.int .i64 ho] w fun e w'=>e=.returned (takeP q cl ep tk ho).val∧Sep r [] (PQ gq (takeP q cl ep tk ho).q::F) w':=by
 obtain ⟨A,c,B,d,hS⟩:=Sep.PQ_open.1 hS;refine Z.enter Tryz.func107 Tryz.ntmps107 rfl rfl ?_
 repeat' first|refine K ?_|refine Sa ?_;clear hS;intro w hS|refine K3 ?_;clear hS;intro g w hS hge|refine KC ?_ ?_<;>intro hb<;>try exact JX|fail
 rotate_left 8
 ·rename_i g10 w10 hg10 h1 h2 h3 h4 h5 h6 h7;have hbad:¬ takeBad cl ep tk ho:=by unfold takeBad;omega
  replace hS:Sep r [] (.sl 228 2 (.slice A q.l.length c) (q.l.map It.cells)::.sl 230 4 (.slice B q.r.length d) (q.r.map Le.cells)::.blk gq 311 [.slice A q.l.length c,.slice B q.r.length d,.int .i64 q.most]::.blk g10 228 It.zero.cells::.blk g 230 Le.zero.cells::F) _:=hS.sb;generalize g=g11 at *;refine Z.lpS [12,14,16,17,55,56,57,58,59,60,61,62,63,64,65,66,67,68,69,70,71,72,73,74,75,76,77,78,79,80,81,82,83,84,85,86,87,88,89,90,91,92,93] (fun m w s=>∃ (k:Nat),s=[(55,.int .i64 k)]∧k≤q.l.length∧(∀ j (hj:j < q.l.length),j < k→heldB q.r q.l[j].number ep tk=true)∧m=q.l.length - k∧Sep r [] (.sl 228 2 (.slice A q.l.length c) (q.l.map It.cells)::.sl 230 4 (.slice B q.r.length d) (q.r.map Le.cells)::.blk gq 311 [.slice A q.l.length c,.slice B q.r.length d,.int .i64 q.most]::.blk g10 228 It.zero.cells::.blk g11 230 Le.zero.cells::F) w) _ [(55,.int .i64 (0:Nat))] TrF ⟨0,rfl,oM,by intro j _ h;omega,rfl,hS⟩ ?_;clear hS;rintro m f0 w _ ⟨k,rfl,hk,hall,rfl,hS⟩
  by_cases hlt:k < q.l.length
  ·obtain ⟨gb,o,rfl,_,hra⟩:=(hS.slrows .here).mat oM hlt
   repeat' first|refine K ?_|refine Sa ?_;clear hS;intro w hS|refine K3 ?_;clear hS;intro g w hS hge|refine KC ?_ ?_<;>intro hb<;>try exact JX|fail
   rename Nat=>gt;refine Z.lpS [16,64,65,66,67,68,69,70,71,72,73,74,75,76,77,78,79] (fun m w s=>∃ (i:Nat),s=[(64,.int .i64 i)]∧i≤q.r.length∧heldB (q.r.take i) q.l[k].number ep tk=false∧m=q.r.length - i∧Sep r [] (.blk gt 228 q.l[k].cells::.sl 228 2 (.slice (some ⟨gb,o,none⟩) q.l.length c) (q.l.map It.cells)::.sl 230 4 (.slice B q.r.length d) (q.r.map Le.cells)::.blk gq 311 [.slice (some ⟨gb,o,none⟩) q.l.length c,.slice B q.r.length d,.int .i64 q.most]::.blk g10 228 It.zero.cells::.blk g11 230 Le.zero.cells::F) w) _ [(64,.int .i64 (0:Nat))] TrF ⟨0,rfl,oM,by simp [heldB],rfl,hS.sb⟩ ?_;clear hS hra;rintro m2 f1 w _ ⟨i,rfl,hi,hno,rfl,hS⟩
   by_cases hlt2:i < q.r.length
   ·obtain ⟨gb2,o2,rfl,_,hra2⟩:=(hS.slrows (.next (.next .here))).mat oM hlt2;have hht:=yeF (n:=q.l[k].number) (ep:=ep) (tk:=tk) hlt2;rw [hno,Bool.false_or] at hht
    repeat' first|refine K ?_|refine Sa ?_;clear hS;intro w hS|refine K3 ?_;clear hS;intro g w hS hge|refine KC ?_ ?_<;>intro hb<;>try exact JX|fail
    ·rename q.r[i].item=q.l[k].number=>heq;refine cQ (yfA q.r[i] ep tk _ _ _ hS) rfl ?_;clear hS;rintro e w ⟨rfl,hS⟩;refine ⟨_,rfl,?_⟩
     repeat' first|refine K ?_|refine Sa ?_;intro w hS|refine K3 ?_;intro g w hS hge|refine KC ?_ ?_<;>intro hb<;>try exact JX|fail
     ·refine Sh.again (q.l.length - (k+1)) [(55,.int .i64 (k+1:Nat))] ?_;refine ⟨k+1,rfl,oM,fun j hj hjk=>?_,rfl,hS.sb⟩
      rcases Nat.lt_or_ge j k with h1|h1
      ·exact hall j hj h1
      ·have:j=k:=by omega
       subst this;exact ygJ hlt2 heq (by assumption)
     ·refine Sh.again (q.r.length - (i+1)) [(64,.int .i64 (i+1:Nat))] ?_;exact ⟨i+1,rfl,oM,by rw [hht];simp [hb],rfl,hS.sb⟩
    ·refine Sh.again (q.r.length - (i+1)) [(64,.int .i64 (i+1:Nat))] ?_;exact ⟨i+1,rfl,oM,by rw [hht];simp [hb],rfl,hS.sb⟩
   ·rw [List.take_of_length_le oM] at hno;have hfree:=ygC hlt hall hno;have e:takeP q cl ep tk ho=⟨⟨q.l,insL ⟨q.l[k].number,cl,ep,tk+ho⟩ q.r,q.most⟩,q.l[k],⟨q.l[k].number,cl,ep,tk+ho⟩,0⟩:=by unfold takeP;rw [if_neg hbad,hfree]
    rw [e]
    repeat' first|refine K ?_|refine Sa ?_;clear hS;intro w hS|refine K3 ?_;clear hS;intro g w hS hge|refine KC ?_ ?_<;>intro hb<;>try exact JX|fail
    rename Nat=>gl;replace hS:Sep r [] (PQ gq q::.blk gl 230 (⟨q.l[k].number,cl,ep,tk+ho⟩:Le).cells::.blk gt 228 q.l[k].cells::.blk g10 228 It.zero.cells::.blk g11 230 Le.zero.cells::F) _:=Sep.PQ_open.2 ⟨_,c,B,d,hS.sb⟩;refine cQ (yhP gq q ⟨q.l[k].number,cl,ep,tk+ho⟩ _ _ _ hS hl' hs) rfl ?_;clear hS;rintro e w ⟨v,rfl,hS⟩;refine eQ ?_;intro w hS;refine D.startS (Lr:=[.blk gl 230 (⟨q.l[k].number,cl,ep,tk+ho⟩:Le).cells,.blk gt 228 q.l[k].cells]) (hS.sb) 3 5 kR rfl ?_;replace hS:=hS.drew;refine Sh.dl 0 1 ?_;refine Sh.dl 1 3 ?_;refine D.ef 2 7 ?_;refine Z.st hS rfl AtF rfl rfl ?_;clear hS;intro w hS;refine HMs ?_;refine D.ef 3 15 ?_;refine Z.st hS rfl AtF rfl rfl ?_;clear hS;intro w hS;refine HMl ?_;refine Sh.dp 4 31 ?_;refine D.dn ?_;refine sQ ?_;intro w hS
    first|refine Z.done hS Tryz.results107 (Z.RV.cell rfl AtF rfl (Z.RV.cell rfl AtF rfl (Z.RV.tmp rfl Z.RV.nil))) ?_|refine Z.doneN hS Tryz.results107 (Z.RV.cell rfl AtF rfl (Z.RV.cell rfl AtF rfl (Z.RV.tmp rfl Z.RV.nil))) ?_
    exact ⟨rfl,hS.sb⟩
  ·have hfree:=yeD (l:=q.l) (rs:=q.r) (ep:=ep) (tk:=tk) fun j hj=>hall j hj oM
   have e:takeP q cl ep tk ho=⟨q,.zero,.zero,34⟩:=by unfold takeP;rw [if_neg hbad,hfree]
   rw [e];refine sQ ?_;intro w hS
   first|refine Z.done hS Tryz.results107 (Z.RV.cell rfl AtF rfl (Z.RV.cell rfl AtF rfl (Z.RV.tmp rfl Z.RV.nil))) ?_|refine Z.doneN hS Tryz.results107 (Z.RV.cell rfl AtF rfl (Z.RV.cell rfl AtF rfl (Z.RV.tmp rfl Z.RV.nil))) ?_
   exact ⟨rfl,Sep.PQ_open.2 ⟨A,c,B,d,hS.sb⟩⟩
 all_goals
  first|refine Z.done hS Tryz.results107 (Z.RV.cell rfl AtF rfl (Z.RV.cell rfl AtF rfl (Z.RV.tmp rfl Z.RV.nil))) ?_|refine Z.doneN hS Tryz.results107 (Z.RV.cell rfl AtF rfl (Z.RV.cell rfl AtF rfl (Z.RV.tmp rfl Z.RV.nil))) ?_
  have e:takeP q cl ep tk ho=⟨q,.zero,.zero,1⟩:=by unfold takeP;rw [if_pos (by unfold takeBad;omega)]
  rw [e];exact ⟨rfl,Sep.PQ_open.2 ⟨A,c,B,d,hS.sb⟩⟩
def holdsP (rs:List Le) (cl ep n tk:Int):Bool:=rs.any fun l=>decide (l.item=n) && decide (l.client=cl) && decide (liveL l ep tk)
theorem ydD {rs:List Le} {cl ep n tk:Int} {k:Nat} (hk:k < rs.length):holdsP (rs.take (k+1)) cl ep n tk=(holdsP (rs.take k) cl ep n tk || (decide (rs[k].item=n) && decide (rs[k].client=cl) && decide (liveL rs[k] ep tk))):=by
 unfold holdsP;rw [List.take_succ_eq_append_getElem hk,List.any_append]
 simp
theorem yfu {rs:List Le} {cl ep n tk:Int} {k:Nat} (hk:k < rs.length) (h1:rs[k].item=n) (h2:rs[k].client=cl) (h3:liveL rs[k] ep tk):holdsP rs cl ep n tk=true:=by
 unfold holdsP;rw [List.any_eq_true];exact ⟨rs[k],by simp,by simp [h1,h2,h3]⟩
theorem yfO (gq:Nat) (q:Qu) (cl ep n tk:Int) (r:World) (F:List Res) (w:World) (hS:Sep r [] (PQ gq q::F) w) (hl':q.r.length≤1000) :
  Calls Tryz.prog 274 #[.pointer (some ⟨gq,0,none⟩),.int .i64 cl,.int .i64 ep,.int .i64 n,.int .i64 tk] w fun e w'=>e=.returned (.bool (holdsP q.r cl ep n tk))∧Sep r [] (PQ gq q::F) w':=by
 obtain ⟨A,c,B,d,hS⟩:=Sep.PQ_open.1 hS;refine Z.enter Tryz.func274 Tryz.ntmps274 rfl rfl ?_;refine sQ ?_;intro w hS;refine Z.lpS [10,12,18,19,20,21,22,23,24,25,26,27,28,29,30,31,32,33,34,35,36,37,38] (fun m w s=>∃ (i:Nat),s=[(18,.int .i64 i)]∧i≤q.r.length∧holdsP (q.r.take i) cl ep n tk=false∧m=q.r.length - i∧Sep r [] (.blk gq 311 [.slice A q.l.length c,.slice B q.r.length d,.int .i64 q.most]::.sl 228 2 (.slice A q.l.length c) (q.l.map It.cells)::.sl 230 4 (.slice B q.r.length d) (q.r.map Le.cells)::F) w) _ [(18,.int .i64 (0:Nat))] TrF ⟨0,rfl,oM,by simp [holdsP],rfl,hS⟩ ?_;clear hS;rintro m f0 w _ ⟨i,rfl,hi,hno,rfl,hS⟩
 by_cases hlt:i < q.r.length
 ·obtain ⟨gb,o,rfl,_,hra⟩:=(hS.slrows (.next (.next .here))).mat oM hlt;have hht:=ydD (cl:=cl) (ep:=ep) (n:=n) (tk:=tk) hlt;rw [hno,Bool.false_or] at hht
  repeat' first|refine K ?_|refine Sa ?_;intro w hS|refine K3 ?_;intro g w hS hge|refine KC ?_ ?_<;>intro hb<;>try exact JX|fail
  ·refine cQ (yfA q.r[i] ep tk _ _ _ hS) rfl ?_;clear hS;rintro e w ⟨rfl,hS⟩;refine ⟨_,rfl,?_⟩
   repeat' first|refine K ?_|refine Sa ?_;intro w hS|refine K3 ?_;intro g w hS hge|refine KC ?_ ?_<;>intro hb<;>try exact JX|fail
   ·refine Dnt Tryz.results274 ?_;rw [yfu (cl:=cl) (ep:=ep) (n:=n) (tk:=tk) hlt (by assumption) (by assumption) (by assumption)];exact ⟨rfl,Sep.PQ_open.2 ⟨A,c,_,d,hS.sb⟩⟩
   ·refine Sh.again (q.r.length - (i+1)) [(18,.int .i64 (i+1:Nat))] ?_;exact ⟨i+1,rfl,oM,by rw [hht];simp [hb],rfl,hS.sb⟩
  all_goals
   refine Sh.again (q.r.length - (i+1)) [(18,.int .i64 (i+1:Nat))] ?_;exact ⟨i+1,rfl,oM,by rw [hht];simp [hb],rfl,hS.sb⟩
 ·refine sQ ?_;intro w hS;refine Dnt Tryz.results274 ?_;rw [List.take_of_length_le oM] at hno;rw [hno];exact ⟨rfl,Sep.PQ_open.2 ⟨A,c,B,d,hS.sb⟩⟩
structure FdQ where
 q:Qu
 n:Nat
 e:Int
def foldQ:Qu→List Ch→Nat→FdQ
 | q,[],i=>⟨q,i,0⟩
 | q,x::h,i=>if (qApp q x).2=0 then foldQ (qApp q x).1 h (i+1) else ⟨q,i,(qApp q x).2⟩
theorem ybX {h':List Ch}:∀ {h:List Ch} {q:Qu} {i:Nat},(foldQ q h i).e=0→foldQ q (h++h') i=foldQ (foldQ q h i).q h' (foldQ q h i).n
 | [],q,i,_=>rfl
 | y::h,q,i,he=>by
  simp only [foldQ,List.cons_append] at he ⊢
  by_cases h0:(qApp q y).2=0
  ·simp only [if_pos h0] at he ⊢;exact ybX he
  ·rw [if_neg h0] at he;exact absurd he h0
theorem Good.foldQ {c:Cp} (h:Good c):foldQ .zero c.h 0=⟨c.q,c.h.length,0⟩:=by
 induction h with
 | zero=>rfl
 | app hc hx ih=>
  obtain ⟨_,_,_,_,_,hq,e⟩:=cApp_ok hx;rw [e];simp only;rw [ybX (by rw [ih]),ih]
  simp [Go.Proofs.YtfmnjbhncnldmaaGreat.foldQ,hq]
theorem yea:∀ {a b:List Int},a.Pairwise (·≠·)→(∀ x,x∈a→x∈b)→a.length≤b.length
 | [],_,_,_=>by simp
 | x::a,b,hp,hs=>by
  obtain ⟨h1,h2⟩:=List.pairwise_cons.1 hp;have hx:x∈b:=hs x (by simp);have:=yea (a:=a) (b:=b.erase x) h2 fun y hy=>(List.mem_erase_of_ne (fun e=>h1 y hy e.symm)).2 (hs y (by simp [hy]))
  rw [List.length_erase_of_mem hx] at this;have:=List.length_pos_of_mem hx;simp only [List.length_cons];omega
theorem ygO {x:Le}:∀ {rs:List Le},rs.Pairwise ltL→∀ y,y∈insL x rs↔y=x∨(y∈rs∧y.item≠x.item)
 | [],_,y=>by simp [insL]
 | z::rs,hp,y=>by
  obtain ⟨h1,h2⟩:=List.pairwise_cons.1 hp;have ih:=ygO (x:=x) h2 y;unfold insL
  split
  ·rename_i hlt;simp only [List.mem_cons,ih];constructor
   ·rintro (rfl|rfl|⟨h,h'⟩)
    ·exact .inr ⟨.inl rfl,oM⟩
    ·exact .inl rfl
    ·exact .inr ⟨.inr h,h'⟩
   ·rintro (rfl|⟨rfl|h,h'⟩)
    ·exact .inr (.inl rfl)
    ·exact .inl rfl
    ·exact .inr (.inr ⟨h,h'⟩)
  ·rename_i hge
   split
   ·rename_i he;simp only [List.mem_cons];constructor
    ·rintro (rfl|h)
     ·exact .inl rfl
     ·have:=h1 y h;simp only [ltL] at this;exact .inr ⟨.inr h,oM⟩
    ·rintro (rfl|⟨rfl|h,h'⟩)
     ·exact .inl rfl
     ·exact absurd he h'
     ·exact .inr h
   ·rename_i hne;simp only [List.mem_cons];constructor
    ·rintro (rfl|rfl|h)
     ·exact .inl rfl
     ·exact .inr ⟨.inl rfl,hne⟩
     ·have:=h1 y h;simp only [ltL] at this;exact .inr ⟨.inr h,oM⟩
    ·rintro (rfl|⟨rfl|h,h'⟩)
     ·exact .inl rfl
     ·exact .inr (.inl rfl)
     ·exact .inr (.inr h)
structure QOk (q:Qu):Prop where
 up:q.l.Pairwise fun a b=>a.number < b.number
 le:∀ x,x∈q.l→x.number≤q.most
 len:q.l.length≤16
 sr:q.r.Pairwise ltL
 sub:∀ y,y∈q.r→∃ x,x∈q.l∧x.number=y.item
 cl:∀ y,y∈q.r→1≤y.client∧y.client≤8
theorem QOk.rlen {q:Qu} (h:QOk q):q.r.length≤16:=by
 have:=yea (a:=q.r.map Le.item) (b:=q.l.map It.number) (by
  rw [List.pairwise_map];exact h.sr.imp fun {a b} h=>by simp only [ltL] at h;omega) (by
  intro x hx;obtain ⟨y,hy,rfl⟩:=List.mem_map.1 hx;obtain ⟨z,hz,e⟩:=h.sub y hy;exact List.mem_map.2 ⟨z,hz,e⟩)
 simp only [List.length_map] at this;have:=h.len;omega
theorem QOk.zero:QOk .zero:=⟨by simp [Qu.zero],by simp [Qu.zero],by simp [Qu.zero],by simp [Qu.zero],by simp [Qu.zero],by simp [Qu.zero]⟩
theorem qcut':∀ {l:List It} {n:Int},qidx l n < l.length→∀ x,x∈l→x.number≠n→x∈l.take (qidx l n)++l.drop (qidx l n+1)
 | [],_,h,_,_,_=>by simp [qidx] at h
 | y::l,n,h,x,hx,hne=>by
  by_cases hy:y.number=n
  ·have e:qidx (y::l) n=0:=by simp [qidx,hy]
   rw [e]
   rcases List.mem_cons.1 hx with rfl|hx
   ·exact absurd hy hne
   ·simpa using hx
  ·have e:qidx (y::l) n=qidx l n+1:=by simp [qidx,hy]
   rw [e] at h ⊢
   rcases List.mem_cons.1 hx with rfl|hx
   ·simp
   ·have:=qcut' (by simpa using h) x hx hne;simp only [List.take_succ_cons,List.cons_append,List.drop_succ_cons,List.mem_cons];exact .inr this
theorem yim {l:List It} {i:Nat}:(l.take i++l.drop (i+1)).Sublist l:=by
 have h1:(l.drop (i+1)).Sublist (l.drop i):=by rw [← List.tail_drop];exact List.tail_sublist _
 have:=List.Sublist.append (List.Sublist.refl (l.take i)) h1;rwa [List.take_append_drop] at this
theorem QOk.app {q:Qu} (h:QOk q) (x:Ch):QOk (qApp q x).1:=by
 unfold qApp
 split
 case isFalse=>exact h
 case isTrue hv=>
  split
  case isTrue hk=>
   split
   case isTrue=>exact h
   case isFalse h1=>
    split
    case isTrue=>exact h
    case isFalse h2=>
     refine ⟨?_,?_,?_,h.sr,fun y hy=>?_,h.cl⟩
     ·simp only;rw [List.pairwise_append];refine ⟨h.up,by simp,fun a ha b hb=>?_⟩
      simp at hb
      subst hb;have:=h.le a ha;simp only;omega
     ·intro y hy;simp only
      rcases List.mem_append.1 hy with hy|hy
      ·have:=h.le y hy;omega
      ·simp at hy;subst hy;simp
     ·simp only [List.length_append,List.length_cons,List.length_nil];omega
     ·obtain ⟨z,hz,e⟩:=h.sub y hy;exact ⟨z,List.mem_append_left _ hz,e⟩
  case isFalse hk=>
   split
   case isFalse=>exact h
   case isTrue hk4=>
    split
    case isTrue=>exact h
    case isFalse h1=>
     have hi:qidx q.l x.item < q.l.length:=by
      unfold qat at h1
      split at h1
      ·assumption
      ·omega
     have hat:(qat q.l x.item).toNat=qidx q.l x.item:=by
      unfold qat
      rw [if_pos hi]
      rfl
     rw [hat];have hsub:=yim (l:=q.l) (i:=qidx q.l x.item);refine ⟨h.up.sublist hsub,fun y hy=>h.le y (hsub.mem hy),Nat.le_trans hsub.length_le h.len,h.sr.filter _,fun y hy=>?_,fun y hy=>h.cl y (List.mem_filter.1 hy).1⟩;obtain ⟨hy1,hy2⟩:=List.mem_filter.1 hy;obtain ⟨z,hz,e⟩:=h.sub y hy1;refine ⟨z,qcut' hi z hz ?_,e⟩;rw [e]
     simpa using hy2
theorem QOk.fold:∀ {h:List Ch} {q:Qu} {i:Nat},QOk q→QOk (foldQ q h i).q
 | [],_,_,hq=>hq
 | x::h,q,i,hq=>by
  unfold foldQ
  split
  ·exact QOk.fold (hq.app x)
  ·exact hq
def bare (c:Cp):Cp:=⟨c.h,c.s,⟨c.q.l,[],c.q.most⟩,c.t⟩
structure CG (c:Cp):Prop where
 good:Good (bare c)
 q:QOk c.q
theorem yfR (q:Qu) (x:Ch):qApp ⟨q.l,[],q.most⟩ x=(⟨(qApp q x).1.l,[],(qApp q x).1.most⟩,(qApp q x).2):=by
 unfold qApp
 dsimp only
 split
 ·split
  ·split
   ·rfl
   ·split<;>rfl
  ·split
   ·split
    ·rfl
    ·rfl
   ·rfl
 ·rfl
theorem yff (c:Cp) (x:Ch):cApp (bare c) x=(bare (cApp c x).1,(cApp c x).2):=by
 unfold cApp;simp only [bare,yfR]
 split
 ·split
  ·split
   ·rfl
   ·split
    ·rfl
    ·split<;>rfl
  ·rfl
 ·rfl
theorem Good.cg {c:Cp} (h:Good c) (hq:QOk c.q):CG c:=by
 have hr:=h.ok.2.2.2;refine ⟨?_,hq⟩;have e:bare c=c:=by
  obtain ⟨h,s,⟨l,r,m⟩,t⟩:=c;simp only at hr;subst hr
  rfl
 rw [e];exact h
theorem CG.app {c:Cp} (h:CG c) (x:Ch):CG (cApp c x).1∧(cApp c x).1.h.length≤c.h.length+1:=by
 have h1:=h.good.step x;rw [yff] at h1;refine ⟨⟨h1.1,?_⟩,h1.2⟩
 by_cases h0:(cApp c x).2=0
 ·obtain ⟨_,_,_,_,_,_,e⟩:=cApp_ok h0;rw [e];exact h.q.app x
 ·rw [ycY h0];exact h.q
theorem CG.ok {c:Cp} (h:CG c):c.t.ok∧c.s.length≤32∧c.q.l.length≤16∧c.q.r.length≤16:=by
 have h1:=h.good.ok;exact ⟨h1.1,h1.2.1,h1.2.2.1,h.q.rlen⟩
theorem Good.qok {c:Cp} (h:Good c):QOk c.q:=by
 have:=QOk.fold (h:=c.h) (i:=0) QOk.zero;rw [h.foldQ] at this;exact this
theorem Good.most {c:Cp} (h:Good c):c.q.most≤c.h.length:=by
 induction h with
 | zero=>exact Int.le_refl _
 | @app c x hc hx ih=>
  obtain ⟨_,hs,_,_,_,hq0,e⟩:=cApp_ok hx;rw [e];simp only [List.length_append,List.length_singleton]
  push_cast
  unfold qApp
  repeat' split
  all_goals first|omega|(simp only;omega)|(show c.q.most≤(c.h.length:Int)+1;omega)
structure CW (c:Cp):Prop where
 good:Good (bare c)
 rl:c.q.r.length≤16
theorem CG.cw {c:Cp} (h:CG c):CW c:=⟨h.good,h.q.rlen⟩
theorem CW.most {c:Cp} (h:CW c):c.q.most≤c.h.length:=h.good.most
theorem CW.le {c:Cp} (h:CW c):∀ y,y∈c.q.l→y.number≤c.q.most:=h.good.qok.le
structure Rq where
 tenant:Int
 client:Int
 number:Int
 op:Int
 item:Int
 key:ByteArray
 value:ByteArray
def Rq.cells (x:Rq):List Value:=[.int .i64 x.tenant,.int .i64 x.client,.int .i64 x.number,.int .i64 x.op,.int .i64 x.item,.string x.key,.string x.value]
def Rq.val (x:Rq):Value:=.agg x.cells.toArray
def numOk (x:Rq):Prop:=1≤x.number∧x.number≤1048576
def keyOk (k:ByteArray):Prop:=1≤k.size∧k.size≤16
def reqOk (x:Rq):Prop:=0≤x.tenant∧x.tenant < 32∧1≤x.client∧x.client≤8∧
 ((x.op=1∧x.number=0∧x.item=0∧keyOk x.key∧x.value=⟨#[]⟩)∨
  (x.op=2∧numOk x∧x.item=0∧keyOk x.key∧x.value.size≤64)∨
  (x.op=3∧numOk x∧x.item=0∧keyOk x.key∧x.value=⟨#[]⟩)∨
  (x.op=4∧numOk x∧x.item=0∧x.key=⟨#[]⟩∧x.value.size≤64)∨
  (x.op=5∧x.number=0∧x.item=0∧x.key=⟨#[]⟩∧x.value=⟨#[]⟩)∨
  (x.op=6∧numOk x∧(1≤x.item∧x.item≤4096)∧x.key=⟨#[]⟩∧x.value=⟨#[]⟩))
instance (x:Rq):Decidable (numOk x):=by unfold numOk;infer_instance
instance (k:ByteArray):Decidable (keyOk k):=by unfold keyOk;infer_instance
instance (x:Rq):Decidable (reqOk x):=by unfold reqOk;infer_instance
def errR (e:Int):Rep:=⟨e,0,0,⟨#[]⟩⟩
structure ExR where
 c:Cp
 p:Rep
def kindOp (op:Int):Int:=if op=2 then 1 else if op=3 then 2 else if op=4 then 3 else 4
def chOf (c:Cp) (ep:Int) (x:Rq):Ch:=⟨ep,(c.h.length:Int)+1,kindOp x.op,x.client,x.number,x.item,x.key,x.value⟩
def waitsB (l:List It) (n:Int):Bool:=l.any fun x=>decide (x.number=n)
def refuse (c:Cp) (x:Rq) (hold:Bool):Int:=
 if x.op=2 then (if (atK c.s x.key).isSome=false∧32≤c.s.length then 33 else 0)
 else if x.op=3 then (if (atK c.s x.key).isSome=false then 34 else 0)
 else if x.op=4 then (if 16≤c.q.l.length then 33 else 0)
 else if waitsB c.q.l x.item then (if hold then 0 else 35) else 34
def wrQ (c:Cp) (ep:Int) (x:Rq) (hold:Bool):ExR:=
 if (findB c.t x.client x.number).2=0 then ⟨c,(findB c.t x.client x.number).1⟩
 else if (findB c.t x.client x.number).2=34 then
  if 4096≤c.h.length then ⟨c,errR 2⟩
  else if refuse c x hold=0 then ⟨(cApp c (chOf c ep x)).1,repOf (chOf c ep x)⟩
  else ⟨c,errR (refuse c x hold)⟩
 else ⟨c,errR (findB c.t x.client x.number).2⟩
def exQ (tkf:Qu→Int→Int→Int→Int→TkR) (hdf:List Le→Int→Int→Int→Int→Bool) (c:Cp) (ten acc tk:Int) (x:Rq):ExR:=
 if reqOk x∧x.tenant=ten∧0≤tk∧tk≤1073741824 then
  if 0 < acc∧epochOf c.h≤acc then
   if x.op=1 then (match atK c.s x.key with|some y=>⟨c,⟨0,y.seq,0,y.value⟩⟩|none=>⟨c,errR 34⟩)
   else if x.op=5 then ⟨⟨c.h,c.s,(tkf c.q x.client acc tk 20).q,c.t⟩,if (tkf c.q x.client acc tk 20).e=0 then ⟨0,0,(tkf c.q x.client acc tk 20).x.number,(tkf c.q x.client acc tk 20).x.value⟩ else errR (tkf c.q x.client acc tk 20).e⟩
   else wrQ c acc x (hdf c.q.r x.client acc x.item tk)
  else ⟨c,errR 30⟩
 else ⟨c,errR 1⟩
abbrev exP:=exQ takeP holdsP
theorem yiR {l:List It} {n:Int} (h:waitsB l n=true):¬ qat l n < 0:=by
 unfold waitsB at h;rw [List.any_eq_true] at h;obtain ⟨y,hy,hn⟩:=h;rw [decide_eq_true_eq] at hn;have key:∀ {l:List It} {n:Int} {y:It},y∈l→y.number=n→qidx l n < l.length:=by
  intro l
  induction l with
  | nil=>intro n y hy;simp at hy
  | cons a l ih=>
   intro n y hy hn;unfold qidx
   split
   ·simp
   ·rename_i hne
    rcases List.mem_cons.1 hy with rfl|hy
    ·exact absurd hn hne
    ·have:=ih hy hn;simp only [List.length_cons];omega
 have h1:=key hy hn;unfold qat
 split<;>omega
theorem yfr {l:List Ce} {k:ByteArray}:foundB l k=(atK l k).isSome:=by
 unfold atK
 split
 ·rename_i h;have:=ybO h;rw [h,List.getElem?_eq_getElem this]
  rfl
 ·rename_i h;simp only [Bool.not_eq_true] at h;rw [h]
  rfl
theorem yhs {c:Cp} (h:CW c) {x:Rq} (hx:reqOk x) (h1:x.op≠1) (h5:x.op≠5) {ep:Int} (he:1≤ep) (he2:ep≤1048576) (hep:epochOf c.h≤ep) (hf:(findB c.t x.client x.number).2=34) (hl:¬ 4096≤c.h.length) {hold:Bool} (hr:refuse c x hold=0) :
  (cApp c (chOf c ep x)).2=0∧findB (cApp c (chOf c ep x)).1.t x.client x.number=(repOf (chOf c ep x),0):=by
 obtain ⟨t0,t1,c0,c1,hop⟩:=hx;have hmost:=h.most;have hnum:numOk x∧(x.op=2∨x.op=3∨x.op=4∨x.op=6):=by
  rcases hop with ho|ho|ho|ho|ho|ho
  ·exact absurd ho.1 h1
  ·exact ⟨ho.2.1,oM⟩
  ·exact ⟨ho.2.1,oM⟩
  ·exact ⟨ho.2.1,oM⟩
  ·exact absurd ho.1 h5
  ·exact ⟨ho.2.1,oM⟩
 obtain ⟨⟨n0,n1⟩,hops⟩:=hnum;have hn:x.number=c.t.n (x.client - 1).toNat+1:=by
  unfold findB at hf;rw [if_neg oM] at hf
  split at hf
  ·simp at hf
  ·split at hf
   ·assumption
   ·simp at hf
 have hv:validB (chOf c ep x)=true:=by
  have hin:∀ a b c:Int,b≤a→a≤c→inB a b c=true:=fun a b c h1 h2=>by simp [inB,h1,h2]
  unfold validB;simp only [chOf,Bool.and_eq_true];refine ⟨hin _ _ _ he he2,hin _ _ _ oM oM,hin _ _ _ c0 c1,hin _ _ _ n0 n1,?_⟩
  rcases hop with ho|ho|ho|ho|ho|ho
  ·exact absurd ho.1 h1
  ·obtain ⟨o,_,it,⟨k1,k2⟩,v⟩:=ho
   simp [restB,kindOp,o,it,keyB,valB,v]
   try exact hin _ _ _ oM oM
  ·obtain ⟨o,_,it,⟨k1,k2⟩,v⟩:=ho
   simp [restB,kindOp,o,it,keyB,v]
   try exact hin _ _ _ oM oM
   try exact ⟨hin _ _ _ oM oM,rfl⟩
  ·obtain ⟨o,_,it,k,v⟩:=ho
   simp [restB,kindOp,o,it,valB,k,v]
   try rfl
  ·exact absurd ho.1 h5
  ·obtain ⟨o,_,⟨i1,i2⟩,k,v⟩:=ho;have hw:waitsB c.q.l x.item=true:=by
    unfold refuse at hr;rw [if_neg oM,if_neg oM,if_neg oM] at hr
    split at hr
    ·assumption
    ·simp at hr
   have hitem:x.item≤c.h.length:=by
    unfold waitsB at hw;rw [List.any_eq_true] at hw;obtain ⟨y,hy,hyn⟩:=hw;rw [decide_eq_true_eq] at hyn;have:=h.le y hy;omega
   simp [restB,kindOp,o,inB,k,v]
   first
    | omega
    | (refine ⟨rfl,rfl,?_⟩;omega)
    | (constructor<;>first|rfl|omega)
 have ht:tApp c.t (chOf c ep x)=(⟨upd c.t.n (x.client - 1).toNat x.number,upd c.t.r (x.client - 1).toNat (repOf (chOf c ep x))⟩,0):=by
  unfold tApp;rw [if_pos hv,if_pos (by simp only [chOf];exact hn)]
  rfl
 have hs:(sApp c.s (chOf c ep x)).2=0:=by
  unfold sApp;rw [if_pos hv];unfold refuse at hr;simp only [chOf,kindOp,yfr]
  rcases hops with o|o|o|o<;>simp only [o] at hr ⊢<;>simp at hr ⊢
  ·split
   ·rfl
   ·rename_i hk
    split
    ·rename_i h32;simp only [Bool.not_eq_true] at hk;exfalso;have:=hr (by simpa using hk);omega
    ·rfl
  ·split
   ·rfl
   ·rename_i hk;exfalso;apply hk;cases hz:atK c.s x.key with
    | none=>rw [hz] at hr;simp at hr
    | some y=>rfl
 have hq:(qApp c.q (chOf c ep x)).2=0:=by
  unfold qApp;rw [if_pos hv]
  rcases hops with o|o|o|o
  ·have hk:(chOf c ep x).kind=1:=by simp [chOf,kindOp,o]
   rw [if_neg (by rw [hk];omega),if_neg (by rw [hk];omega)]
  ·have hk:(chOf c ep x).kind=2:=by simp [chOf,kindOp,o]
   rw [if_neg (by rw [hk];omega),if_neg (by rw [hk];omega)]
  ·have hk:(chOf c ep x).kind=3:=by simp [chOf,kindOp,o]
   have h16:¬ 16≤c.q.l.length:=by
    intro h16;unfold refuse at hr;rw [if_neg oM,if_neg oM,if_pos o,if_pos h16] at hr
    cases hr
   rw [if_pos hk,if_neg (show ¬ (chOf c ep x).seq≤c.q.most by simp only [chOf];omega),if_neg h16]
  ·have hk:(chOf c ep x).kind=4:=by simp [chOf,kindOp,o]
   have hw:waitsB c.q.l x.item=true:=by
    unfold refuse at hr;rw [if_neg oM,if_neg oM,if_neg oM] at hr
    split at hr
    ·assumption
    ·simp at hr
   rw [if_neg (by rw [hk];omega),if_pos hk,if_neg (show ¬ qat c.q.l (chOf c ep x).item < 0 from yiR hw)]
 have hall:cApp c (chOf c ep x)=(⟨c.h++[chOf c ep x],(sApp c.s (chOf c ep x)).1,(qApp c.q (chOf c ep x)).1,(tApp c.t (chOf c ep x)).1⟩,0):=by
  unfold cApp;rw [if_pos hv,if_pos ⟨rfl,hep⟩,if_neg (by rw [ht];simp),if_neg (by rw [hs];simp),if_neg (by rw [hq];simp)]
 rw [hall,ht];refine ⟨rfl,?_⟩;unfold findB;rw [if_neg oM];simp only [upd,if_true]
end Go.Proofs.YtfmnjbhncnldmaaGreat
