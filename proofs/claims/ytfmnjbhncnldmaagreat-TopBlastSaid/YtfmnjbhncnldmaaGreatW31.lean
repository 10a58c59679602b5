import Derived.Shelf.SortM.Plain
import Derived.Shelf.SortM.SortNone
import Derived.Ground.SlgmProg
import Derived.Test.YtfmnjbhncnldmaaGreatProg
import Derived.Test.YtfmnjbhncnldmaaGreatW03
import Derived.Test.YtfmnjbhncnldmaaGreatW17
import Derived.Test.YtfmnjbhncnldmaaGreatW30
set_option maxHeartbeats 4000000
set_option linter.unusedSimpArgs false
set_option linter.unusedVariables false
namespace Go.Proofs.YtfmnjbhncnldmaaGreat
open Go.RowKit
attribute [local irreducible] Res.blk Res.sl Res.all Res.ex Res.pure Res.star
structure Wv where
 l:List Int
 A:Option Addr
 c:Nat
def Wv.cells (x:Wv):List Value:=[.slice x.A x.l.length x.c]
def Wv.res (x:Wv):Res:=.sl 3 1 (.slice x.A x.l.length x.c) (x.l.map ztC)
def WO (B:Option Addr) (C:Nat) (W:List Wv):Res:=.all (.sl 48 1 (.slice B W.length C) (W.map Wv.cells)::W.map Wv.res)
structure WvR (r:World) (F:List Res) (B:Option Addr) (C:Nat) (W:List Wv):Prop where
 out:Reads r F 1 (.slice B W.length C) (W.map Wv.cells)
 inn:∀ x,x∈W→Reads r F 1 (.slice x.A x.l.length x.c) (x.l.map ztC)
theorem WvR.app {r:World} {F:List Res} {B:Option Addr} {C:Nat} {W:List Wv} (h:WvR r F B C W) (L:List Res):WvR r (L++F) B C W:=⟨h.out.app L,fun x hx=>(h.inn x hx).app L⟩
theorem ye8 {α:Type} {f:α→Res} {x:α} (F:List Res):∀ {W:List α},x∈W→∃ k,At (W.map f++F) k (f x)
 | w::W,h=>by
  rcases List.mem_cons.1 h with rfl|h
  ·exact ⟨_,.here⟩
  ·obtain ⟨k,hk⟩:=ye8 F h;exact ⟨_,.next hk⟩
theorem at_idx {α:Type} {f:α→Res} (F:List Res):∀ {W:List α} {i:Nat} (hi:i < W.length),At (W.map f++F) ((W.eraseIdx i).map f++F) (f W[i])
 | w::W,0,_=>.here
 | w::W,i+1,hi=>.next (at_idx F (W:=W) (i:=i) (by simpa using hi))
theorem sub_set {α:Type} {f:α→Res} (y:α) (F:List Res):∀ {W:List α} {i:Nat} (_:i < W.length),Sub (f y::((W.eraseIdx i).map f++F)) ((W.set i y).map f++F)
 | w::W,0,_=>.rest
 | w::W,i+1,hi=>.cons (.next .here) (sub_set y F (W:=W) (i:=i) (by simpa using hi))
theorem sub_snoc {α:Type} {f:α→Res} (y:α) (F:List Res):∀ {W:List α},Sub (f y::(W.map f++F)) ((W++[y]).map f++F)
 | []=>.rest
 | w::W=>.cons (.next .here) (sub_snoc y F (W:=W))
theorem WvR.of_at {r:World} {F k:List Res} {B:Option Addr} {C:Nat} {W:List Wv} (h:At F k (WO B C W)):WvR r F B C W:=
 ⟨fun L _ hW=>(Sep.all_open.1 (hW.focus (at_app L h))).slrows .here,fun x hx L _ hW=>by
  obtain ⟨k',hk'⟩:=ye8 (f:=Wv.res) (L++k) hx;exact (Sep.all_open.1 (hW.focus (at_app L h))).slrows (.next hk')⟩
section
variable {r w:World} {M:List Nat} {F:List Res} {B:Option Addr} {C n:Nat} {W:List Wv}
theorem WO.op (h:Sep r M (WO B C W::F) w):Sep r M (.sl 48 1 (.slice B W.length C) (W.map Wv.cells)::(W.map Wv.res++F)) w:=Sep.all_open.1 h
theorem WO.nil (h:Sep r M F w) (A:Option Addr):Sep r M (WO A 0 []::F) w:=Sep.all_open.2 (Z.nilsl h 48 1 A)
theorem WO.snoc (y:Wv) (h:Sep r M (y.res::.sl 48 1 (.slice B n C) ((W++[y]).map Wv.cells)::(W.map Wv.res++F)) w) (hn:n=(W++[y]).length):Sep r M (WO B C (W++[y])::F) w:=by
 subst hn;exact Sep.all_open.2 (h.sub (.cons (.next .here) (sub_snoc (f:=Wv.res) y F)))
theorem WO.set {i:Nat} (y:Wv) (hi:i < W.length) (h:Sep r M (y.res::.sl 48 1 (.slice B W.length C) ((W.set i y).map Wv.cells)::((W.eraseIdx i).map Wv.res++F)) w):Sep r M (WO B C (W.set i y)::F) w:=by
 have h2:Sep r M ((.sl 48 1 (.slice B W.length C) ((W.set i y).map Wv.cells)::(W.set i y).map Wv.res)++F) w:=h.sub (.cons (.next .here) (sub_set (f:=Wv.res) y F hi));unfold WO;rw [List.length_set];exact Sep.all_open.2 h2
end
theorem WvR.get {r w:World} {F:List Res} {B:Option Addr} {C:Nat} {W:List Wv} (h:WvR r F B C W) (L:List Res) (hS:Sep r [] (L++F) w) {i:Nat} (hi:i < W.length):∃ gb o,B=some ⟨gb,o,none⟩∧w.rangeAt gb (o+i * 1) (W[i]).cells:=by
 obtain ⟨gb,o,hA,_,hra⟩:=(h.out L w hS).mat oM (q:=i) (by simpa using hi);exact ⟨gb,o,hA,by simpa using hra⟩
theorem WvR.geta {r w:World} {F:List Res} {B:Option Addr} {C:Nat} {W:List Wv} (h:WvR r F B C W) (L:List Res) (hS:Sep r [] (L++F) w) {i gb o:Nat} (hB:B=some ⟨gb,o,none⟩) (hi:i < W.length):w.rangeAt gb (o+i * 1) (W[i]).cells:=by
 obtain ⟨gb',o',hA,hra⟩:=h.get L hS hi;rw [hB] at hA
 injection hA with hA
 injection hA with h1 h2 _
 subst h1 h2;exact hra
theorem yaF {r w:World} {F:List Res} {A:Option Addr} {c:Nat} {l:List Int} (h:Reads r F 1 (.slice A l.length c) (l.map ztC)) (L:List Res) (hS:Sep r [] (L++F) w) {i:Nat} (hi:i < l.length):∃ gb o,A=some ⟨gb,o,none⟩∧w.rangeAt gb (o+i * 1) (ztC l[i]):=by
 obtain ⟨gb,o,hA,_,hra⟩:=(h L w hS).mat oM (q:=i) (by simpa using hi);exact ⟨gb,o,hA,by simpa using hra⟩
theorem ydc {r w:World} {F:List Res} {A:Option Addr} {c:Nat} {l:List Int} (h:Reads r F 1 (.slice A l.length c) (l.map ztC)) (L:List Res) (hS:Sep r [] (L++F) w) {i gb o:Nat} (hA:A=some ⟨gb,o,none⟩) (hi:i < l.length):w.rangeAt gb (o+i * 1) (ztC l[i]):=by
 obtain ⟨gb',o',hA',hra⟩:=yaF h L hS hi;rw [hA] at hA'
 injection hA' with hA'
 injection hA' with h1 h2 _
 subst h1 h2;exact hra
end Go.Proofs.YtfmnjbhncnldmaaGreat
namespace Go.Proofs
open Go.Shelf
def Tryz.sort72_ren:Go.Shelf.Ren:=⟨fun|5=>72|8=>155|7=>154|19=>249|20=>250|10=>240|11=>241|12=>242|13=>243|14=>244|15=>245|16=>246|17=>247|18=>248|30=>311|31=>312|32=>313|33=>314|34=>315|35=>265|40=>377|n=>n,fun|23=>48|25=>3|3=>3|32=>82|22=>48|0=>0|44=>291|46=>293|4=>4|36=>347|35=>346|41=>217|5=>5|9=>9|53=>400|57=>364|63=>455|64=>456|n=>n,fun|n=>n⟩
theorem Tryz.sort72:Go.Proofs.SlLaysM.n5 Tryz.prog Tryz.sort72_ren:={
 mixed:=by kernel_rfl
 f5:=⟨Tryz.f72.name,by decide,Tryz.func72.trans (congrArg some (by kernel_rfl))⟩
 f7:=⟨Tryz.f154.name,by decide,Tryz.func154.trans (congrArg some (by kernel_rfl))⟩
 f8:=Tryz.func155.trans (congrArg some (by kernel_rfl))
 f10:=⟨Tryz.f240.name,by decide,Tryz.func240.trans (congrArg some (by kernel_rfl))⟩
 f11:=⟨Tryz.f241.name,by decide,Tryz.func241.trans (congrArg some (by kernel_rfl))⟩
 f12:=⟨Tryz.f242.name,by decide,Tryz.func242.trans (congrArg some (by kernel_rfl))⟩
 f13:=⟨Tryz.f243.name,by decide,Tryz.func243.trans (congrArg some (by kernel_rfl))⟩
 f14:=⟨Tryz.f244.name,by decide,Tryz.func244.trans (congrArg some (by kernel_rfl))⟩
 f15:=⟨Tryz.f245.name,by decide,Tryz.func245.trans (congrArg some (by kernel_rfl))⟩
 f16:=⟨Tryz.f246.name,by decide,Tryz.func246.trans (congrArg some (by kernel_rfl))⟩
 f17:=⟨Tryz.f247.name,by decide,Tryz.func247.trans (congrArg some (by kernel_rfl))⟩
 f18:=⟨Tryz.f248.name,by decide,Tryz.func248.trans (congrArg some (by kernel_rfl))⟩
 f19:=Tryz.func249.trans (congrArg some (by kernel_rfl))
 f20:=Tryz.func250.trans (congrArg some (by kernel_rfl))
 f30:=⟨Tryz.f311.name,by decide,Tryz.func311.trans (congrArg some (by kernel_rfl))⟩
 f31:=Tryz.func312.trans (congrArg some (by kernel_rfl))
 f32:=Tryz.func313.trans (congrArg some (by kernel_rfl))
 f33:=⟨Tryz.f314.name,by decide,Tryz.func314.trans (congrArg some (by kernel_rfl))⟩
 f34:=⟨Tryz.f315.name,by decide,Tryz.func315.trans (congrArg some (by kernel_rfl))⟩
 f35:=⟨Tryz.f265.name,by decide,Tryz.func265.trans (congrArg some (by kernel_rfl))⟩
 f40:=⟨Tryz.f377.name,by decide,Tryz.func377.trans (congrArg some (by kernel_rfl))⟩
 t0:=Tryz.underlying0
 a0:=Tryz.isAgg0
 z0:=Tryz.sizeOf0
 v0:=Tryz.zeroValue0
 t3:=Tryz.underlying3
 a3:=Tryz.isAgg3
 z3:=Tryz.sizeOf3
 v3:=Tryz.zeroValue3
 t4:=Tryz.underlying4
 a4:=Tryz.isAgg4
 z4:=Tryz.sizeOf4
 v4:=Tryz.zeroValue4
 t5:=Tryz.underlying5
 a5:=Tryz.isAgg5
 z5:=Tryz.sizeOf5
 v5:=Tryz.zeroValue5
 t9:=Tryz.underlying9
 a9:=Tryz.isAgg9
 z9:=Tryz.sizeOf9
 v9:=Tryz.zeroValue9
 t22:=Tryz.underlying48
 a22:=Tryz.isAgg48
 z22:=Tryz.sizeOf48
 v22:=Tryz.zeroValue48
 t23:=Tryz.underlying48
 a23:=Tryz.isAgg48
 z23:=Tryz.sizeOf48
 v23:=Tryz.zeroValue48
 t25:=Tryz.underlying3
 a25:=Tryz.isAgg3
 z25:=Tryz.sizeOf3
 v25:=Tryz.zeroValue3
 t32:=Tryz.underlying82
 a32:=Tryz.isAgg82
 z32:=Tryz.sizeOf82
 v32:=Tryz.zeroValue82
 t35:=Tryz.underlying346
 a35:=Tryz.isAgg346
 z35:=Tryz.sizeOf346
 v35:=Tryz.zeroValue346
 t36:=Tryz.underlying347
 a36:=Tryz.isAgg347
 z36:=Tryz.sizeOf347
 v36:=Tryz.zeroValue347
 t41:=Tryz.underlying217
 a41:=Tryz.isAgg217
 z41:=Tryz.sizeOf217
 v41:=Tryz.zeroValue217
 t44:=Tryz.underlying291
 a44:=Tryz.isAgg291
 z44:=Tryz.sizeOf291
 v44:=Tryz.zeroValue291
 t46:=Tryz.underlying293
 a46:=Tryz.isAgg293
 z46:=Tryz.sizeOf293
 v46:=Tryz.zeroValue293
 t53:=Tryz.underlying400
 a53:=Tryz.isAgg400
 z53:=Tryz.sizeOf400
 v53:=Tryz.zeroValue400
 t57:=Tryz.underlying364
 a57:=Tryz.isAgg364
 z57:=Tryz.sizeOf364
 v57:=Tryz.zeroValue364
 t63:=Tryz.underlying455
 a63:=Tryz.isAgg455
 z63:=Tryz.sizeOf455
 v63:=Tryz.zeroValue455
 t64:=Tryz.underlying456
 a64:=Tryz.isAgg456
 z64:=Tryz.sizeOf456
 v64:=Tryz.zeroValue456 }
end Go.Proofs
namespace Go.Proofs.YtfmnjbhncnldmaaGreat
open Go.RowKit
attribute [local irreducible] Res.blk Res.sl Res.all Res.ex Res.pure Res.star
theorem ycC (l:List Int):(l.map ztC).flatten=l.map (Value.int .i64):=by
 induction l with
 | nil=>rfl
 | cons a l ih=>simp [ztC] at ih ⊢;exact ih
theorem ycT (s cs:List Value) (l:List Int) (hs:s=l.map (Value.int .i64)) (hl:l.length≤cs.length):(Go.Sort.putCells (Value.int .i64) 0 l.toArray cs.toArray)=(s++cs.drop l.length).toArray:=by
 subst hs
 apply Array.ext_getElem?
 intro k;simp only [Go.Sort.putCells,Array.getElem?_mapIdx,List.getElem?_toArray,Nat.zero_le,true_and,Nat.zero_add,List.size_toArray,Nat.sub_zero]
 by_cases hk:k < l.length
 ·rw [List.getElem?_append_left (by simpa using hk),List.getElem?_eq_getElem (by omega:k < cs.length)]
  simp [hk]
 ·rw [List.getElem?_append_right (by simp;omega),List.getElem?_drop];simp only [List.length_map];rw [show l.length+(k - l.length)=k by omega]
  cases cs[k]? with
  | none=>rfl
  | some v=>simp [hk]
theorem yf3 (A:Option Addr) (l:List Int) (cap:Nat) (r:World) (F:List Res) (w:World) (hS:Sep r [] (.sl 3 1 (.slice A l.length cap) (l.map ztC)::F) w) (hl:l.length≤100000) :
  Calls Tryz.prog 72 #[.slice A l.length cap] w fun e w'=>e=.returned (.tuple #[])∧Sep r [] (.sl 3 1 (.slice A l.length cap) ((srt l).map ztC)::F) w':=by
 by_cases h0:l=[]
 ·subst h0;refine (AnyM.slices_Sort_int_none Tryz.sort72 A cap w).mono ?_;rintro e w' ⟨rfl,rfl⟩;exact ⟨rfl,by simpa [srt] using hS⟩
 ·have hp:0 < l.length:=List.length_pos_iff.2 h0;obtain ⟨g,cs,rfl,hn,hnc,hm,hcl,ht,hok,hS2⟩:=yar hS (by simpa using hp);have hB:=hS2.blk .here;rw [Nat.mul_one] at ht hcl;rw [ycC] at ht;have hH:Go.Sort.Holds (Value.int .i64) w g 0 l.toArray:=by
   intro j hj;simp only [List.size_toArray] at hj;refine ⟨?_,hB.frozen _⟩;rw [Nat.zero_add];refine hB.cellv ?_;have h1:(cs.take l.length)[j]?=(l.map (Value.int .i64))[j]?:=by rw [ht]
   rw [List.getElem?_take,if_pos hj] at h1;simp only [List.getElem?_toArray,h1,List.getElem?_map,List.getElem?_eq_getElem hj,Option.map_some]
   simp [hj]
  refine (AnyM.slices_Sort_int Tryz.sort72 g 0 cap l w hH hB.lt oM).mono ?_;rintro e w' ⟨rfl,n,os,rfl⟩;have hlt:=hB.lt;have hsl:(srt l).length=l.length:=srt_len l;have hheap:∀ k,k < w.heap.size→(Go.Sort.grow (Go.Sort.putRow (Value.int .i64) (Go.Sort.ahead w n) g 0 (srt l).toArray) os).heap[k]?=(w.heap.modify g (Go.Sort.onCells (Go.Sort.putCells (Value.int .i64) 0 (srt l).toArray)))[k]?:=by
   intro k hk;unfold Go.Sort.grow Go.Sort.putRow Go.Sort.mapBlock Go.Sort.ahead;rw [Array.getElem?_append_left (by simpa using hk)]
  have h3:=hS2.put .here (cs':=(srt l).map (Value.int .i64)++cs.drop l.length) (w':=Go.Sort.grow (Go.Sort.putRow (Value.int .i64) (Go.Sort.ahead w n) g 0 (srt l).toArray) os) ⟨rfl,rfl,rfl,by simp,fun k hk hkg=>by
   have e:=hheap k hk;rw [Array.getElem?_modify,if_neg (by simpa [eq_comm] using hkg)] at e;exact e⟩ (by
   have e:=hheap g hlt;rw [Array.getElem?_modify,if_pos rfl] at e;unfold Blk at hB ⊢;refine e.trans ?_;rw [hB];simp only [Option.map_some,Go.Sort.onCells];rw [ycT _ cs (srt l) rfl oM,hsl])
  have h4:=yao (sz:=1) (c:=cap) (rows:=(srt l).map ztC) h3 oM hm (by simp [hsl];omega) (by simpa [hsl] using hnc) (by rw [ycC];exact List.take_left' (by simp)) (fun row hrow=>by
   obtain ⟨x,_,rfl⟩:=List.mem_map.1 hrow;exact ⟨rfl,by simp [ztC,Value.oneCell']⟩)
  rw [List.length_map,hsl] at h4;exact ⟨rfl,h4⟩
theorem yiB (n:Nat) (r:World) (F:List Res) (w:World) (hS:Sep r [] F w) (hn:n≤100000) :
  Calls Tryz.prog 252 #[.slice none 0 0,.int .i64 (n:Nat)] w fun e w'=>∃ A c,e=.returned (.slice A 0 c)∧Sep r [] (.sl 3 1 (.slice A 0 c) []::F) w':=by
 by_cases h0:0 < n
 ·refine Z.enter Tryz.func252 Tryz.ntmps252 rfl rfl ?_;refine sQ ?_;intro w hS;refine Z.eff (Z.apz0 (m:=n) hS rfl rfl rfl Tryz.underlying3 oM rfl h0 oM (by unfold maxLen;omega) ?_) rfl;clear hS;intro A' c' w hS;obtain ⟨g,cs,rfl,_,hnc,hcm,hcl,_,_,hS⟩:=yar hS (by simpa using h0);replace hS:=yao (sz:=1) (c:=c') (rows:=[]) hS oM hcm hcl (by simp) (by simp) (by simp);refine sQ ?_;intro w hS;refine Dnt Tryz.results252 ?_;exact ⟨_,_,rfl,hS⟩
 ·have:n=0:=by omega
  subst this;refine Z.enter Tryz.func252 Tryz.ntmps252 rfl rfl ?_;refine sQ ?_;intro w hS;refine Dnt Tryz.results252 ?_;exact ⟨none,0,rfl,Z.nilsl hS _ _ none⟩
theorem compact_i (A:Option Addr) (l:List Int) (cap:Nat) (r:World) (F:List Res) (w:World) (hS:Sep r [] F w) (hrd:Reads r F 1 (.slice A l.length cap) (l.map ztC)) (hl:l.length≤100000) (hasc:l.Pairwise (· < ·)) :
  Calls Tryz.prog 316 #[.slice A l.length cap] w fun e w'=>e=.returned (.slice A l.length cap)∧Sep r [] F w':=by
 refine Z.enter Tryz.func316 Tryz.ntmps316 rfl rfl ?_
 repeat' first|refine K ?_|refine Sa ?_;intro w hS|refine K3 ?_;intro g w hS hge|refine KC ?_ ?_<;>intro hb<;>try exact JX|fail
 ·refine Dnt Tryz.results316 ?_;exact ⟨rfl,hS⟩
 refine Z.lpS [2,3,4,5,10,11,12,13,14,15,16,17,18,19,20,21,22,23,24,25,26,27,28,29,30,31,32,33,34,35,36,37,38,39,40,41,42,43,44,45,46,47,48,49,50,51,52,53,54,55,56,57,58,59] (fun m w z=>∃ i:Nat,z=[(3,.int .i64 (i+1:Nat))]∧i+1≤l.length∧m=l.length - i∧Sep r [] F w) _ [(3,.int .i64 (0+1:Nat))] TrF ⟨0,rfl,oM,rfl,hS⟩ ?_;clear hS;rintro m f0 w _ ⟨i,rfl,hi,rfl,hS⟩
 by_cases hlt:i+1 < l.length
 ·obtain ⟨gb,o,rfl,_⟩:=yaF hrd [] hS hlt;have hra:∀ X,Sep r [] F X→X.rangeAt gb (o+(i+1) * 1) (ztC l[i+1]):=fun X h=>ydc hrd [] h rfl hlt
  have hrb:∀ X,Sep r [] F X→X.rangeAt gb (o+(((i+1:Nat):Int) - 1).toNat * 1) (ztC (l[i]'oM)):=fun X h=>by
   rw [show (((i+1:Nat):Int) - 1).toNat=i by omega];exact ydc hrd [] h rfl oM
  have hne:=List.pairwise_iff_getElem.1 hasc i (i+1) oM hlt oM;generalize l[i+1]=x at *;generalize (l[i]'oM)=y at *;refine sQ ?_;intro w hS;refine D.startS hS 10 10 kR rfl ?_;replace hS:=hS.drew;refine Sh.dp 0 1 ?_;refine Sh.dp 1 3 ?_
  first|refine D.ixn 2 7 rfl D.wantedN kR rfl rfl rfl oM ?_|refine D.ix 2 7 rfl D.wantedN kR rfl rfl rfl oM ?_|refine D.ia 2 7 rfl D.wantedN kR rfl rfl rfl oM ?_
  refine Sh.dp 4 23 ?_;refine Sh.dp 5 55 ?_
  first|refine D.sum 6 119 rfl D.wantedN kR rfl (by constructor<;>omega) ?_|refine D.sumW 6 119 rfl D.wantedN kR rfl ?_
  first|refine D.ixn 7 247 rfl D.wantedN kR rfl rfl rfl oM ?_|refine D.ix 7 247 rfl D.wantedN kR rfl rfl rfl oM ?_|refine D.ia 7 247 rfl D.wantedN kR rfl rfl rfl oM ?_
  refine D.ldR 3 255 rfl D.wantedN kR rfl hra rfl ?_;refine D.ldR 8 511 rfl D.wantedN kR rfl hrb rfl ?_
  first|refine D.pr 9 1023 rfl D.wantedN kR rfl ?_|refine D.pl 9 1023 rfl D.wantedN kR (R.eqa rfl rfl rfl rfl) ?_
  refine D.dn ?_
  repeat' first|refine K ?_|refine Sa ?_;intro w hS|refine K3 ?_;intro g w hS hge|refine KC ?_ ?_<;>intro hb<;>try exact JX|fail
  refine Sh.again (l.length - (i+1)) [(3,.int .i64 (i+1+1:Nat))] ?_;exact ⟨i+1,rfl,oM,rfl,hS⟩
 ·refine sQ ?_;intro w hS;refine Dnt Tryz.results316 ?_;exact ⟨rfl,hS⟩
def flatW (W:List Wv):List Int:=(W.map Wv.l).flatten
theorem yeB {W:List Wv} {i:Nat} (hi:i < W.length):flatW (W.take (i+1))=flatW (W.take i)++(W[i]).l:=by
 unfold flatW;rw [List.take_succ_eq_append_getElem hi,List.map_append,List.flatten_append]
 simp
theorem yc0 (B:Option Addr) (C:Nat) (W:List Wv) (r:World) (F:List Res) (w:World) (hS:Sep r [] F w) (hw:WvR r F B C W) (hl:W.length≤100) (hx:∀ x,x∈W→x.l.length≤100) :
  Calls Tryz.prog 157 #[.slice B W.length C] w fun e w'=>∃ A c,e=.returned (.slice A (flatW W).length c)∧(flatW W).length≤10000∧Sep r [] (.sl 3 1 (.slice A (flatW W).length c) ((flatW W).map ztC)::F) w':=by
 refine Z.enter Tryz.func157 Tryz.ntmps157 rfl rfl ?_;refine sQ ?_;intro w hS;refine Z.lpS [3,5,11,12,13,14,15,16,17,18,19,20,21,22] (fun m w z=>∃ i n:Nat,z=[(3,.int .i64 n),(11,.int .i64 i)]∧i≤W.length∧n≤i * 100∧m=W.length - i∧Sep r [] F w) _ [(3,.int .i64 (0:Nat)),(11,.int .i64 (0:Nat))] TrF ⟨0,0,rfl,oM,oM,rfl,hS⟩ ?_;clear hS;rintro m f0 w _ ⟨i,n,rfl,hi,hn,rfl,hS⟩
 by_cases hlt:i < W.length
 ·obtain ⟨gb,o,rfl,hra⟩:=hw.get [] hS hlt;have hxl:=hx _ (List.getElem_mem hlt);generalize W[i]=x at *;obtain ⟨lx,Ax,cx⟩:=x;simp only [Wv.cells] at hxl hra;refine sQ ?_;intro w hS;refine Sh.again (W.length - (i+1)) [(3,.int .i64 (n+lx.length:Nat)),(11,.int .i64 (i+1:Nat))] ?_;exact ⟨i+1,n+lx.length,rfl,oM,oM,rfl,hS⟩
 repeat' first|refine K ?_|refine Sa ?_;intro w hS|refine K3 ?_;intro g w hS hge|refine KC ?_ ?_<;>intro hb<;>try exact JX|fail
 clear hlt hb;refine cQ (yiB n _ _ _ hS oM) rfl ?_;clear hS;rintro e w ⟨A1,c1,rfl,hS⟩;refine eQ ?_;intro w hS;refine Z.lpS [6,8,27,28,29,30,31,32,33,34] (fun m w z=>∃ (i:Nat) (o:List Int) (A2:Option Addr) (c2:Nat),z=[(6,.slice A2 o.length c2),(27,.int .i64 i)]∧i≤W.length∧o.length≤i * 100∧o=flatW (W.take i)∧m=W.length - i∧Sep r [] (.sl 3 1 (.slice A2 o.length c2) (o.map ztC)::F) w) _ [(6,.slice A1 0 c1),(27,.int .i64 (0:Nat))] TrF ⟨0,[],A1,c1,rfl,oM,by simp,by simp [flatW],rfl,hS⟩ ?_;clear hS;rintro m f0 w _ ⟨i,o,A2,c2,rfl,hi,hol,ho,rfl,hS⟩
 by_cases hlt:i < W.length
 ·obtain ⟨gb,ob,rfl,hra⟩:=hw.get [_] hS hlt;have hxl:=hx _ (List.getElem_mem hlt);have hin:=hw.inn _ (List.getElem_mem hlt);have hfl:=yeB hlt;generalize W[i]=x at *;obtain ⟨lx,Ax,cx⟩:=x;simp only [Wv.cells] at hxl hin hfl hra;refine sQ ?_;intro w hS;refine Z.eff (Z.apm (l':=lx) hS rfl rfl rfl AtF (hin [_] _ hS) LnF LnF ?_) rfl;clear hS hra;intro A3 c3 w hS;rw [← List.length_append] at hS ⊢;refine sQ ?_;intro w hS;refine Sh.again (W.length - (i+1)) [(6,_),(27,.int .i64 (i+1:Nat))] ?_;exact ⟨i+1,o++lx,A3,c3,rfl,oM,by simp;omega,by rw [hfl,ho],rfl,hS.sb⟩
 ·have hi2:i=W.length:=by omega
  rw [List.take_of_length_le oM] at ho;subst ho;refine sQ ?_;intro w hS;refine Dnt Tryz.results157 ?_;exact ⟨A2,c2,rfl,oM,hS⟩
theorem yhB (B:Option Addr) (C:Nat) (W:List Wv) (x:List Int) (r:World) (F:List Res) (w:World) (hS:Sep r [] F w) (hw:WvR r F B C W) (hl:W.length≤100) (hx:∀ x,x∈W→x.l.length≤100) (hasc:x.Pairwise (· < ·)) (hp:(flatW W).Perm x) :
  Calls Tryz.prog 253 #[.slice B W.length C] w fun e w'=>∃ A c,e=.returned (.slice A x.length c)∧Sep r [] (.sl 3 1 (.slice A x.length c) (x.map ztC)::F) w':=by
 have hsr:srt (flatW W)=x:=by
  have hn:(flatW W).Nodup:=hp.nodup_iff.2 (hasc.imp fun h=>by omega);rw [ydQ hp hn,srt_of_asc hasc]
 have hln:=hp.length_eq;refine Z.enter Tryz.func253 Tryz.ntmps253 rfl rfl ?_;refine sQ ?_;intro w hS;refine cQ (yc0 B C W _ _ _ hS hw hl hx) rfl ?_;clear hS;rintro e w ⟨A,c,rfl,hfl,hS⟩;refine eQ ?_;intro w hS;refine cQ (yf3 A (flatW W) c _ _ _ hS oM) rfl ?_;clear hS;rintro e w ⟨rfl,hS⟩;refine ⟨_,rfl,?_⟩;rw [hsr] at hS;refine sQ ?_;intro w hS;rw [hln] at hS ⊢;refine cQ (compact_i A x c _ _ _ hS (Reads.of_at (e:=3) .here) oM hasc) rfl ?_;clear hS;rintro e w ⟨rfl,hS⟩;refine eQ ?_;intro w hS;refine Dnt Tryz.results253 ?_;exact ⟨A,c,rfl,hS⟩
theorem yaQ (c:Cfg) (s:Sta) (b:SAd) (k:Int) (r:World) (F:List Res) (w:World) (hS:Sep r [] F w) (hv:CfgV c) (hs:s.ok c) (hq:StC r F s c b) (hk:0≤k∧k < c.cells.length) :
  Calls Tryz.prog 78 #[s.vc c b,.int .i64 k] w fun e w'=>e=.returned (.agg (celP s k).cells.toArray)∧Sep r [] F w':=by
 have h2:=hv.ok.k;have hkl:=hs.kl;obtain ⟨sA,sc,qA,qc⟩:=b;obtain ⟨gk,o,hA,_⟩:=yas hq hs [] hS (k:=k) hk;simp only at hA;subst hA;refine Z.enter Tryz.func78 Tryz.ntmps78 rfl rfl ?_
 repeat' first|refine K ?_|refine Sa ?_;intro w hS|refine K3 ?_;intro g w hS hge|refine KC ?_ ?_<;>intro hb<;>try exact JX|fail
 obtain ⟨gk2,o2,hA2,hra⟩:=yas hq hs [_,_] hS (k:=k) hk;simp only at hA2
 injection hA2 with hA2
 injection hA2 with e1 e2
 subst e1 e2;generalize celP s k=x at *;refine sQ ?_;intro w hS;refine Dnc Tryz.results78 ?_;exact ⟨rfl,hS.sb⟩
theorem ycL (c:Cfg) (s:Sta) (b:SAd) (k V:Int) (r:World) (F:List Res) (w:World) (hS:Sep r [] F w) (hv:CfgV c) (hs:s.ok c) (hq:StC r F s c b) (hk:0≤k∧k < c.cells.length) :
  Calls Tryz.prog 159 #[s.vc c b,.int .i64 k,.int .i64 V] w fun e w'=>∃ q,e=.returned (.bool q)∧Sep r [] F w':=by
 refine Z.enter Tryz.func159 Tryz.ntmps159 rfl rfl ?_;refine aQ1 ?_;intro g w hS;refine cQ (yaQ c s b k _ _ _ hS hv hs (hq.ap [_]) hk) rfl ?_;clear hS;rintro e w ⟨rfl,hS⟩;refine ⟨_,rfl,?_⟩;generalize celP s k=x at *
 repeat' first|refine K ?_|refine Sa ?_;intro w hS|refine K3 ?_;intro g w hS hge|refine KC ?_ ?_<;>intro hb<;>try exact JX|fail
 all_goals
  refine Dnt Tryz.results159 ?_;exact ⟨_,rfl,hS.sb⟩
theorem yg9 (c:Cfg) (s:Sta) (b:SAd) (V:Int) (r:World) (F:List Res) (w:World) (hS:Sep r [] F w) (hV:0≤V∧V < 64) :
  Calls Tryz.prog 79 #[s.vc c b,.int .i64 V] w fun e w'=>e=.returned (.bool (hasB s.proven V))∧Sep r [] F w':=by
 have hu:=ycw V;refine Z.enter Tryz.func79 Tryz.ntmps79 rfl rfl ?_;refine aQ1 ?_;intro g w hS;refine Dnt Tryz.results79 ?_;refine ⟨?_,hS.sb⟩;unfold hasB;rw [decide_eq_true hV,Bool.true_and]
 show Ending.returned (.bool (decide (bitZ .i64 (· &&& ·) (s.proven.fdiv (2 ^ min (IntKind.u64.wrap V).toNat IntKind.i64.bits)) 1=1)))=_
 rw [ya2];have hw:(IntKind.u64.wrap V).toNat=V.toNat:=by
  simp [IntKind.wrap,IntKind.signed,IntKind.bits]
  omega
 rw [hw,shr_min oM]
 rfl
theorem yaZ (kd tk cl n:Int) (r:World) (F:List Res) (w:World) (hS:Sep r [] F w) :
  Calls Tryz.prog 80 #[.int .i64 kd,.int .i64 tk,.int .i64 cl,.int .i64 n] w fun e w'=>e=.returned ((⟨kd,tk,-1,cl,-1,0,0,0,n⟩:En).val)∧Sep r [] F w':=by
 refine Z.enter Tryz.func80 Tryz.ntmps80 rfl rfl ?_;refine aQ1 ?_;intro g w hS;refine Dnc Tryz.results80 ?_;exact ⟨rfl,hS.sb⟩
structure WvK (c:Cfg) (W:List Wv):Prop where
 n:W.length≤20
 l:∀ x,x∈W→x.l.length≤20
 k:∀ x,x∈W→∀ k,k∈x.l→0≤k∧k < c.cells.length
theorem yha (c:Cfg) (s:Sta) (b:SAd) (V:Int) (B:Option Addr) (C:Nat) (W:List Wv) (r:World) (F:List Res) (w:World) (hS:Sep r [] F w) (hv:CfgV c) (hs:s.ok c) (hq:StC r F s c b) (hw:WvR r F B C W) (hW:WvK c W) :
  Calls Tryz.prog 76 #[s.vc c b,.agg #[.int .i64 V,.int .i64 0,.slice B W.length C]] w fun e w'=>∃ i:Nat,e=.returned (.int .i64 i)∧i≤W.length∧Sep r [] F w':=by
 have hwn:=hW.n;refine Z.enter Tryz.func76 Tryz.ntmps76 rfl rfl ?_;refine aQ2 ?_;intro gs gr w hS;refine Z.lpS [4,5,6,8,12,13,14,15,16,17,18,19,20,21,22,23,24,25,26,27,28,29,30,31] (fun m w z=>∃ i:Nat,z=[(12,.int .i64 i)]∧i≤W.length∧m=W.length - i∧Sep r [] (.blk gr 75 [.int .i64 V,.int .i64 0,.slice B W.length C]::.blk gs 69 (s.cc c b)::F) w) _ [(12,.int .i64 (0:Nat))] TrF ⟨0,rfl,oM,rfl,hS.sb⟩ ?_;clear hS;rintro m f0 w _ ⟨i,rfl,hi,rfl,hS⟩
 by_cases hlt:i < W.length
 rotate_left
 ·obtain rfl:i=W.length:=by omega
  refine sQ ?_;intro w hS;refine Dnt Tryz.results76 ?_;exact ⟨W.length,rfl,Nat.le_refl _,hS.sb⟩
 obtain ⟨gb,o,hB,hra⟩:=hw.get [_,_] hS hlt;subst hB;have hxl:=hW.l _ (List.getElem_mem hlt);have hxk:=hW.k _ (List.getElem_mem hlt);have hxr:=hw.inn _ (List.getElem_mem hlt);generalize W[i]=x at *;obtain ⟨xl,xA,xc⟩:=x;simp only at hxl hxk hxr;refine sQ ?_;intro w hS;refine Z.lpS [4,8,19,20,21,22,23,24,25,26,27,28,29,30] (fun m w z=>∃ j:Nat,z=[(19,.int .i64 j)]∧j≤xl.length∧m=xl.length - j∧Sep r [] (.blk gr 75 [.int .i64 V,.int .i64 0,.slice (some ⟨gb,o,none⟩) W.length C]::.blk gs 69 (s.cc c b)::F) w) _ [(19,.int .i64 (0:Nat))] TrF ⟨0,rfl,oM,rfl,hS.sb⟩ ?_;clear hS;rintro m f1 w _ ⟨j,rfl,hj,rfl,hS⟩
 by_cases hjl:j < xl.length
 ·obtain ⟨gx,ox,hx,hrx⟩:=yaF hxr [_,_] hS hjl;subst hx;have hkk:=hxk _ (List.getElem_mem hjl);generalize xl[j]=k at *;refine sQ ?_;intro w hS;refine cQ (ycL c s b k V _ _ _ hS hv hs (hq.ap [_,_]) hkk) rfl ?_;clear hS;rintro e w ⟨q,rfl,hS⟩;refine ⟨_,rfl,?_⟩
  cases q with
  | false=>
   refine sQ ?_;intro w hS;refine Dnt Tryz.results76 ?_;exact ⟨i,rfl,hi,hS.sb⟩
  | true=>
   refine sQ ?_;intro w hS;refine Sh.again (xl.length - (j+1)) [(19,.int .i64 (j+1:Nat))] ?_;exact ⟨j+1,rfl,oM,rfl,hS⟩
 ·refine sQ ?_;intro w hS;refine Sh.again (W.length - (i+1)) [(12,.int .i64 (i+1:Nat))] ?_;exact ⟨i+1,rfl,oM,rfl,hS⟩
end Go.Proofs.YtfmnjbhncnldmaaGreat
