import Derived.BigGuardPart
import Derived.Handy
import Derived.Deep.Light
import Derived.Shelf.SlIter.Nil
import Derived.Shelf.SortM.Plain
import Derived.Shelf.SortM.SortNone
import Derived.Ground.GgzProg
import Derived.Ground.SlgmProg
import Derived.Test.YtfmnjbhncnldmaaGreatProg
import Derived.Sort.KeysCollected
import Derived.Lib.Bytes
import Derived.Test.YtfmnjbhncnldmaaGreatW00
import Derived.Test.YtfmnjbhncnldmaaGreatW02
set_option maxHeartbeats 8000000
set_option linter.unusedSimpArgs false
set_option linter.unusedVariables false
namespace Go.Proofs.YtfmnjbhncnldmaaGreat
open Go.RowKit
def inB (a b c:Int):Bool:=decide (b≤a) && decide (a≤c)
def keyB (s:ByteArray):Bool:=inB s.size 1 16
def valB (s:ByteArray):Bool:=decide (s.size≤64)
def restB (x:Ch):Bool:=
 if x.kind == 1 then keyB x.key && (valB x.value && x.item == 0)
 else if x.kind == 2 then keyB x.key && (x.value.toList.isEmpty && x.item == 0)
 else if x.kind == 3 then x.key.toList.isEmpty && (valB x.value && x.item == 0)
 else if x.kind == 4 then x.key.toList.isEmpty && (x.value.toList.isEmpty && inB x.item 1 (x.seq - 1))
 else false
def validB (x:Ch):Bool:=
 inB x.epoch 1 1048576 && (inB x.seq 1 4096 && (inB x.client 1 8 && (inB x.number 1 1048576 && restB x)))
theorem isKey_any (s:ByteArray) (w:World) :
  Calls Tryz.prog 277 #[.string s] w fun e w'=>e=.returned (.bool (keyB s))∧w=w':=by
 by_cases h1:(1:Int)≤(s.size:Int)
 ·go_enter Tryz.func277,Tryz.ntmps277
  go_wp2
  go_ret
  refine ⟨ret_bool ?_,rfl⟩;unfold keyB inB
  simp
  omega
 ·have h1:(s.size:Int) < 1:=by omega
  go_enter Tryz.func277,Tryz.ntmps277
  go_wp2
  go_ret
  refine ⟨ret_bool ?_,rfl⟩;unfold keyB inB
  simp
  omega
theorem isValue_any (s:ByteArray) (w:World) :
  Calls Tryz.prog 278 #[.string s] w fun e w'=>e=.returned (.bool (valB s))∧w=w':=by
 go_enter Tryz.func278,Tryz.ntmps278
 go_wp2
 go_ret
 refine ⟨ret_bool ?_,rfl⟩;unfold valB;rw [decide_eq_decide];omega
theorem svalid_any (x:Ch) (w:World) :
  Calls Tryz.prog 206 #[x.val] w fun e w'=>e=.returned (.bool (validB x))∧Chg [] w w':=by
 obtain ⟨ep,sq,kd,cl,nu,it,key,val⟩:=x;simp only [Ch.val,Ch.cells]
 go_enter Tryz.func206,Tryz.ntmps206
 go_wp2_with (first|(go_at_call 277;refine (isKey_any _ _).mono ?_;rintro e w' ⟨rfl,rfl⟩)|(go_at_call 278;refine (isValue_any _ _).mono ?_;rintro e w' ⟨rfl,rfl⟩))
 all_goals (go_ret;refine ⟨ret_bool ?_,(Chg.refl _ _).alloc _⟩;go_light;(try simp only [Bool.not_eq_true',Bool.not_eq_false'] at *);simp [validB,restB,inB, *];try omega)
attribute [local irreducible] Res.blk Res.sl Res.all Res.ex Res.pure Res.star
def fidx:List Ce→ByteArray→Nat
 | [],_=>0
 | c::l,k=>if Op.bytesLess c.key.toList k.toList then fidx l k+1 else 0
def keyAt (l:List Ce) (i:Nat) (k:ByteArray):Bool:=match l[i]? with|some c=>decide (c.key=k)|none=>false
def foundB (l:List Ce) (k:ByteArray):Bool:=keyAt l (fidx l k) k
def sApp (l:List Ce) (x:Ch):List Ce×Int:=
 if validB x then
  if x.kind=1 then
   if foundB l x.key then (l.set (fidx l x.key) ⟨x.key,x.value,x.seq⟩,0)
   else if 32≤l.length then (l,33) else (l.take (fidx l x.key)++[⟨x.key,x.value,x.seq⟩]++l.drop (fidx l x.key),0)
  else if x.kind=2 then
   if foundB l x.key then (l.take (fidx l x.key)++l.drop (fidx l x.key+1),0) else (l,34)
  else (l,0)
 else (l,1)
theorem ybO {l:List Ce} {k:ByteArray} (h:foundB l k=true):fidx l k < l.length:=by
 unfold foundB keyAt at h
 rcases Nat.lt_or_ge (fidx l k) l.length with h1|h1
 ·exact h1
 ·rw [List.getElem?_eq_none h1] at h;cases h
end Go.Proofs.YtfmnjbhncnldmaaGreat
namespace Go.Proofs
open Go.Shelf
def Tryz.keys339_ren:Go.Shelf.Ren:=⟨fun|7=>339|10=>394|n=>n,fun|23=>305|26=>9|3=>303|28=>426|0=>0|27=>425|33=>301|4=>4|n=>n,fun|n=>n⟩
theorem Tryz.keys339:Go.Proofs.SlLaysZ.n7 Tryz.prog Tryz.keys339_ren:={
 mixed:=by kernel_rfl
 f7:=⟨Tryz.f339.name,by decide,Tryz.func339.trans (congrArg some (by kernel_rfl))⟩
 f10:=⟨Tryz.f394.name,by decide,Tryz.func394.trans (congrArg some (by kernel_rfl))⟩
 t0:=Tryz.underlying0
 a0:=Tryz.isAgg0
 z0:=Tryz.sizeOf0
 v0:=Tryz.zeroValue0
 t4:=Tryz.underlying4
 a4:=Tryz.isAgg4
 z4:=Tryz.sizeOf4
 v4:=Tryz.zeroValue4
 t23:=Tryz.underlying305
 a23:=Tryz.isAgg305
 z23:=Tryz.sizeOf305
 v23:=Tryz.zeroValue305
 t26:=Tryz.underlying9
 a26:=Tryz.isAgg9
 z26:=Tryz.sizeOf9
 v26:=Tryz.zeroValue9
 t27:=Tryz.underlying425
 a27:=Tryz.isAgg425
 z27:=Tryz.sizeOf425
 v27:=Tryz.zeroValue425
 t28:=Tryz.underlying426
 a28:=Tryz.isAgg426
 z28:=Tryz.sizeOf426
 v28:=Tryz.zeroValue426
 t33:=Tryz.underlying301
 a33:=Tryz.isAgg301
 z33:=Tryz.sizeOf301
 v33:=Tryz.zeroValue301 }
def Tryz.sorted338_ren:Go.Shelf.Ren:=⟨fun|6=>338|8=>392|9=>393|11=>424|13=>155|12=>425|23=>249|24=>250|14=>435|15=>436|16=>437|17=>438|18=>439|19=>440|20=>441|21=>442|22=>443|25=>446|26=>312|27=>313|28=>447|29=>448|30=>449|31=>450|n=>n,fun|26=>9|28=>426|24=>378|0=>0|3=>3|37=>82|48=>291|50=>293|4=>4|40=>347|39=>346|45=>217|5=>5|9=>9|51=>400|55=>364|57=>455|58=>456|33=>301|n=>n,fun|n=>n⟩
theorem Tryz.sorted338:Go.Proofs.SlLaysZ.n6 Tryz.prog Tryz.sorted338_ren:={
 mixed:=by kernel_rfl
 f6:=⟨Tryz.f338.name,by decide,Tryz.func338.trans (congrArg some (by kernel_rfl))⟩
 f8:=⟨Tryz.f392.name,by decide,Tryz.func392.trans (congrArg some (by kernel_rfl))⟩
 f11:=⟨Tryz.f424.name,by decide,Tryz.func424.trans (congrArg some (by kernel_rfl))⟩
 t0:=Tryz.underlying0
 a0:=Tryz.isAgg0
 z0:=Tryz.sizeOf0
 v0:=Tryz.zeroValue0
 t24:=Tryz.underlying378
 a24:=Tryz.isAgg378
 z24:=Tryz.sizeOf378
 v24:=Tryz.zeroValue378
 t26:=Tryz.underlying9
 a26:=Tryz.isAgg9
 z26:=Tryz.sizeOf9
 v26:=Tryz.zeroValue9
 t28:=Tryz.underlying426
 a28:=Tryz.isAgg426
 z28:=Tryz.sizeOf426
 v28:=Tryz.zeroValue426
 i26:=by kernel_rfl }
def Tryz.sort393_ren:Go.Shelf.Ren:=⟨fun|6=>393|8=>155|9=>425|19=>249|20=>250|21=>435|22=>436|23=>437|24=>438|25=>439|26=>440|27=>441|28=>442|29=>443|36=>446|31=>312|32=>313|37=>447|38=>448|39=>449|41=>450|n=>n,fun|27=>378|29=>9|3=>3|32=>82|26=>378|0=>0|44=>291|46=>293|4=>4|36=>347|35=>346|41=>217|5=>5|9=>9|53=>400|57=>364|63=>455|64=>456|n=>n,fun|n=>n⟩
theorem Tryz.sort393:Go.Proofs.SlLaysM.n6 Tryz.prog Tryz.sort393_ren:={
 mixed:=by kernel_rfl
 f6:=⟨Tryz.f393.name,by decide,Tryz.func393.trans (congrArg some (by kernel_rfl))⟩
 f8:=Tryz.func155.trans (congrArg some (by kernel_rfl))
 f9:=⟨Tryz.f425.name,by decide,Tryz.func425.trans (congrArg some (by kernel_rfl))⟩
 f19:=Tryz.func249.trans (congrArg some (by kernel_rfl))
 f20:=Tryz.func250.trans (congrArg some (by kernel_rfl))
 f21:=⟨Tryz.f435.name,by decide,Tryz.func435.trans (congrArg some (by kernel_rfl))⟩
 f22:=⟨Tryz.f436.name,by decide,Tryz.func436.trans (congrArg some (by kernel_rfl))⟩
 f23:=⟨Tryz.f437.name,by decide,Tryz.func437.trans (congrArg some (by kernel_rfl))⟩
 f24:=⟨Tryz.f438.name,by decide,Tryz.func438.trans (congrArg some (by kernel_rfl))⟩
 f25:=⟨Tryz.f439.name,by decide,Tryz.func439.trans (congrArg some (by kernel_rfl))⟩
 f26:=⟨Tryz.f440.name,by decide,Tryz.func440.trans (congrArg some (by kernel_rfl))⟩
 f27:=⟨Tryz.f441.name,by decide,Tryz.func441.trans (congrArg some (by kernel_rfl))⟩
 f28:=⟨Tryz.f442.name,by decide,Tryz.func442.trans (congrArg some (by kernel_rfl))⟩
 f29:=⟨Tryz.f443.name,by decide,Tryz.func443.trans (congrArg some (by kernel_rfl))⟩
 f31:=Tryz.func312.trans (congrArg some (by kernel_rfl))
 f32:=Tryz.func313.trans (congrArg some (by kernel_rfl))
 f36:=⟨Tryz.f446.name,by decide,Tryz.func446.trans (congrArg some (by kernel_rfl))⟩
 f37:=⟨Tryz.f447.name,by decide,Tryz.func447.trans (congrArg some (by kernel_rfl))⟩
 f38:=⟨Tryz.f448.name,by decide,Tryz.func448.trans (congrArg some (by kernel_rfl))⟩
 f39:=⟨Tryz.f449.name,by decide,Tryz.func449.trans (congrArg some (by kernel_rfl))⟩
 f41:=⟨Tryz.f450.name,by decide,Tryz.func450.trans (congrArg some (by kernel_rfl))⟩
 t0:=Tryz.underlying0
 a0:=Tryz.isAgg0
 z0:=Tryz.sizeOf0
 v0:=Tryz.zeroValue0
 t3:=Tryz.underlying3
 a3:=Tryz.isAgg3
 z3:=Tryz.sizeOf3
 v3:=Tryz.zeroValue3
 t4:=Tryz.underlying4
 a4:=Tryz.isAgg4
 z4:=Tryz.sizeOf4
 v4:=Tryz.zeroValue4
 t5:=Tryz.underlying5
 a5:=Tryz.isAgg5
 z5:=Tryz.sizeOf5
 v5:=Tryz.zeroValue5
 t9:=Tryz.underlying9
 a9:=Tryz.isAgg9
 z9:=Tryz.sizeOf9
 v9:=Tryz.zeroValue9
 t26:=Tryz.underlying378
 a26:=Tryz.isAgg378
 z26:=Tryz.sizeOf378
 v26:=Tryz.zeroValue378
 t27:=Tryz.underlying378
 a27:=Tryz.isAgg378
 z27:=Tryz.sizeOf378
 v27:=Tryz.zeroValue378
 t29:=Tryz.underlying9
 a29:=Tryz.isAgg9
 z29:=Tryz.sizeOf9
 v29:=Tryz.zeroValue9
 t32:=Tryz.underlying82
 a32:=Tryz.isAgg82
 z32:=Tryz.sizeOf82
 v32:=Tryz.zeroValue82
 t35:=Tryz.underlying346
 a35:=Tryz.isAgg346
 z35:=Tryz.sizeOf346
 v35:=Tryz.zeroValue346
 t36:=Tryz.underlying347
 a36:=Tryz.isAgg347
 z36:=Tryz.sizeOf347
 v36:=Tryz.zeroValue347
 t41:=Tryz.underlying217
 a41:=Tryz.isAgg217
 z41:=Tryz.sizeOf217
 v41:=Tryz.zeroValue217
 t44:=Tryz.underlying291
 a44:=Tryz.isAgg291
 z44:=Tryz.sizeOf291
 v44:=Tryz.zeroValue291
 t46:=Tryz.underlying293
 a46:=Tryz.isAgg293
 z46:=Tryz.sizeOf293
 v46:=Tryz.zeroValue293
 t53:=Tryz.underlying400
 a53:=Tryz.isAgg400
 z53:=Tryz.sizeOf400
 v53:=Tryz.zeroValue400
 t57:=Tryz.underlying364
 a57:=Tryz.isAgg364
 z57:=Tryz.sizeOf364
 v57:=Tryz.zeroValue364
 t63:=Tryz.underlying455
 a63:=Tryz.isAgg455
 z63:=Tryz.sizeOf455
 v63:=Tryz.zeroValue455
 t64:=Tryz.underlying456
 a64:=Tryz.isAgg456
 z64:=Tryz.sizeOf456
 v64:=Tryz.zeroValue456 }
end Go.Proofs
namespace Go.Proofs.YtfmnjbhncnldmaaGreat
open Go.RowKit Go.Maps Go.Sort Go.Shelf Go.WideShapes
def kbytes (p:Value×Value):List UInt8:=match p.1 with|.string s=>s.data.toList|_=>[]
theorem MapAt.owns {P:Program} {k:TypeId} {w:World} {g:Nat} {m:List (Value×Value)} (h:MapAt P k w g m) (hk:P.underlying k=some .string) :
  ∃ D:DataW Unit,w.ownsMap P k (fun _=>some (.nil,[])) g m.length D∧(strKeys D).Perm (m.map kbytes)∧Maps.size D=m.length:=by
 obtain ⟨es,cl,hb,hst,hsz,hks,hp⟩:=h;have hle:=hp.length_eq;simp only [List.length_map,Array.length_toList] at hle;have hrd:∀ x,x∈es.toList→WideElems.rg P k (fun _=>some ((.nil:DataW Unit),[])) x=(.string (kbytes (kv x)),.nil):=by
  intro x hx;obtain ⟨l,hl⟩:=hks x hx;obtain ⟨y,hy1,rfl,_⟩:=Maps.keyOf_str hk hl;have h1:WideElems.rd P k (fun _=>some ((.nil:DataW Unit),[])) x=some (.string y,.nil):=by cases x;exact WideElems.rd_mk (R:=fun _=>some ((.nil:DataW Unit),[])) hl rfl
  rw [WideElems.rg_of h1];have:kbytes (kv x)=y:=by unfold kbytes kv;rw [hy1]
  rw [this]
 have hmap:es.toList.map (WideElems.rg P k (fun _=>some ((.nil:DataW Unit),[])))=es.toList.map fun x=>((.string (kbytes (kv x)):Lit),(.nil:DataW Unit)):=List.map_congr_left hrd
 refine ⟨.map ((es.toList.map (WideElems.rg P k (fun _=>some (.nil,[])))).foldr DataW.insert []),⟨es,cl,hb,⟨hsz,hst,fun x hx=>?_⟩,oM,rfl⟩,?_,?_⟩
 ·obtain ⟨l,hl⟩:=hks x hx;exact ⟨(l,.nil),by cases x;exact WideElems.rd_mk (R:=fun _=>some ((.nil:DataW Unit),[])) hl rfl⟩
 ·show List.Perm (List.map (fun p:Lit×DataW Unit=>strOf p.1) _) _
  refine ((sorted_perm _).map _).trans ?_;rw [hmap,List.map_map];have:(es.toList.map ((fun p:Lit×DataW Unit=>strOf p.1) ∘ fun x=>((.string (kbytes (kv x)):Lit),(.nil:DataW Unit))))=(es.toList.map kv).map kbytes:=by rw [List.map_map];rfl
  rw [this];exact hp.map _
 ·rw [Maps.size_eq,(sorted_perm _).length_eq]
  simp
  omega
theorem yhS (b:Nat) (r:World) (F:List Res) (w:World) (hS:Sep r [] F w):Calls Tryz.prog 339 #[.map (some b)] w fun e w'=>∃ gk,e=.returned (.func (.func 394) #[] #[.pointer (some ⟨gk,0,none⟩)])∧Sep r [] (.blk gk 305 [.map (some b)]::F) w':=
 (callsIn_wide.1 (AnyZ.keys_in Tryz.keys339 Fence.wide 5 trivial rfl (some b) w)).mono fun e w' ⟨he,hw⟩=>⟨w.heap.size,he,by rw [hw];exact hS.box _ _⟩
theorem sorts (m:Nat):AnyZ.SortsIn Tryz.prog Tryz.sorted338_ren Fence.wide m:=
 ⟨fun blk off cap ss W hH hblk hsz=>callsIn_wide.2 (AnyM.slices_Sort_string Tryz.sort393 blk off cap ss W hH hblk hsz),
  fun p cap W=>callsIn_wide.2 (AnyM.slices_Sort_string_none Tryz.sort393 p cap W)⟩
theorem Sep.of_row {r w w':World} {F:List Res} {e:TypeId} {v:Value} {rows:List (List Value)} (h:Sep r [] F w) (hb:Below w.heap.size w w') (hr:w'.ownsRow w.heap.size e 1 v rows.length rows.flatten) (hok:∀ row,row∈rows→row.length=1∧∀ u,u∈row→u.oneCell'=true) :
  ∃ A c,v=.slice A rows.length c∧Sep r [] (.sl e 1 (.slice A rows.length c) rows::F) w':=by
 have hc:Chg [] w w':=Chg.of_below hb;obtain ⟨hl,⟨rfl,h0⟩|⟨g,cap,cur,rfl,hg,hcur,hn,hcap,hsz,htake⟩⟩:=hr
 ·have:rows=[]:=List.eq_nil_of_length_eq_zero h0;subst this;exact ⟨none,0,rfl,h.add (f2:=[]) hc ⟨by simp,none,0,rfl,.inl ⟨rfl,rfl,rfl⟩⟩ (by simp) (by simp)⟩
 ·refine ⟨some ⟨g,0,none⟩,cap,rfl,?_⟩;have hlt:g < w'.heap.size:=(Array.getElem?_eq_some_iff.1 hcur).1
  rcases Nat.eq_zero_or_pos cap with rfl|hpos
  ·have:rows=[]:=List.eq_nil_of_length_eq_zero oM;subst this;exact h.add (f2:=[]) hc ⟨by simp,some ⟨g,0,none⟩,0,rfl,.inl ⟨rfl,rfl,rfl⟩⟩ (by simp) (by simp)
  ·exact h.add (f2:=[g]) hc ⟨hok,some ⟨g,0,none⟩,cap,rfl,.inr ⟨hpos,g,cur,rfl,rfl,hcur,hn,hcap,hsz,htake⟩⟩ (by simp) (fun b hb=>by simp at hb;subst hb;exact ⟨hlt,hg⟩)
theorem yfE (gk b:Nat) (m:List (Value×Value)) (r:World) (F:List Res) (w:World) (hS:Sep r [] (.blk gk 305 [.map (some b)]::F) w) {k:List Res} (ha:At F k (.mp Tryz.prog 9 b m)) (hl:m.length≤1000000) :
  Calls Tryz.prog 338 #[.func (.func 394) #[] #[.pointer (some ⟨gk,0,none⟩)]] w fun e w'=>∃ A c,e=.returned (.slice A m.length c)∧Sep r [] (.sl 9 1 (.slice A m.length c) (((m.map kbytes).mergeSort leB).map fun x=>[Go.Proofs.encStr x])::F) w':=by
 have hm:=hS.mapAt (At.next ha);obtain ⟨D,hown,hkeys,hsize⟩:=hm.owns Tryz.underlying9;have hbk:=hS.blk At.here;have hseq:SeqGives Fence.wide 2 Tryz.prog 394 #[.pointer (some ⟨gk,0,none⟩)] Go.Proofs.encStr (fun ss=>ss.Perm (strKeys D)) (Maps.size D) w:=
  AnyZ.keys_gives (ρ:=Tryz.keys339_ren) { Tryz.keys339 with } Fence.wide _ trivial rfl oM gk b _ D w hbk.lt (by unfold Blk at hbk;simp [World.cell?,hbk]) hown
 refine (callsIn_wide.1 (AnyZ.sorted_in Tryz.sorted338 Fence.wide 5 trivial trivial trivial trivial rfl oM (sorts _) (enters_of Tryz.func393 kR rfl) 394 #[.pointer (some ⟨gk,0,none⟩)] trivial (enters_of Tryz.func394 kR rfl) _ _ (by rw [hsize];unfold maxLen;omega) oM _ hseq)).mono ?_;rintro e w' ⟨v,ss,rfl,hperm,hrow,_,hb⟩;have hp:ss.Perm (m.map kbytes):=hperm.trans hkeys;have hlen:ss.length=m.length:=by rw [hp.length_eq];simp
 have hms:ss.mergeSort (fun x y=>decide (x≤y))=(m.map kbytes).mergeSort leB:=mergeSort_of_perm hp;rw [hms] at hrow;have hrl:(((m.map kbytes).mergeSort leB).map fun x=>[Go.Proofs.encStr x]).length=m.length:=by simp
 have hfl:(((m.map kbytes).mergeSort leB).map fun x=>[Go.Proofs.encStr x]).flatten=((m.map kbytes).mergeSort leB).map Go.Proofs.encStr:=by
  generalize (m.map kbytes).mergeSort leB=l
  induction l with
  | nil=>rfl
  | cons a l ih=>simp [ih]
 have hrow':w'.ownsRow w.heap.size 9 1 v (((m.map kbytes).mergeSort leB).map fun x=>[Go.Proofs.encStr x]).length (((m.map kbytes).mergeSort leB).map fun x=>[Go.Proofs.encStr x]).flatten:=by
  rw [hrl,hfl,← hlen];exact hrow
 obtain ⟨A,c,rfl,hS'⟩:=Sep.of_row hS hb hrow' (fun row hr=>by obtain ⟨x,_,rfl⟩:=List.mem_map.1 hr;exact ⟨rfl,by simp [Go.Proofs.encStr,Value.oneCell']⟩);rw [hrl] at hS';exact ⟨A,c,by rw [hrl],hS'.sub SuF⟩
end Go.Proofs.YtfmnjbhncnldmaaGreat
namespace Go.Proofs.YtfmnjbhncnldmaaGreat
open Go.RowKit
attribute [local irreducible] Res.blk Res.sl Res.all Res.ex Res.pure Res.star
open Go.ChangeMaps (set_perm)
theorem bless_l:∀ (x y:List UInt8),Op.bytesLess x y=decide (x < y)
 | [],[]=>by simp [Op.bytesLess]
 | _::_,[]=>by simp [Op.bytesLess]
 | [],_::_=>by simp [Op.bytesLess]
 | a::x,b::y=>by
  rw [Op.bytesLess,bless_l x y];simp only [List.cons_lt_cons_iff]
  by_cases h1:a < b<;>by_cases h2:a=b<;>by_cases h3:x < y<;>simp [h1,h2,h3]
def Ce.kb (c:Ce):List UInt8:=c.key.data.toList
theorem bless (a b:ByteArray):Op.bytesLess a.toList b.toList=decide (a.data.toList < b.data.toList):=by rw [bless_l,Lib.toList_data,Lib.toList_data]
theorem yfe {a b:ByteArray} (h:a.data.toList=b.data.toList):a=b:=by
 cases a;cases b;simp at h;rw [h]
theorem yiG (a:List UInt8):¬ a < a:=List.lt_irrefl a
theorem yiH {a b:List UInt8} (h1:¬ a < b) (h2:a≠b):b < a:=by
 by_cases h:b < a
 ·exact h
 ·exact absurd (List.le_antisymm (show a≤b from h) (show b≤a from h1)) h2
def SSort (l:List Ce):Prop:=(l.map Ce.kb).Pairwise (· < ·)
theorem SSort.cons {c:Ce} {l:List Ce} (h:SSort (c::l)):(∀ d,d∈l→c.kb < d.kb)∧SSort l:=by
 unfold SSort at h;rw [List.map_cons,List.pairwise_cons] at h;exact ⟨fun d hd=>h.1 _ (List.mem_map.2 ⟨d,hd,rfl⟩),h.2⟩
theorem ybk (c:Ce) (l:List Ce) (k:ByteArray):fidx (c::l) k=if c.kb < k.data.toList then fidx l k+1 else 0:=by
 rw [show fidx (c::l) k=if Op.bytesLess c.key.toList k.toList then fidx l k+1 else 0 from rfl,bless]
 by_cases h:c.kb < k.data.toList
 ·have h':c.key.data.toList < k.data.toList:=h
  simp [h,h']
 ·have h':¬ c.key.data.toList < k.data.toList:=h
  simp [h,h']
theorem ybY (c:Ce) (l:List Ce) (k:ByteArray):foundB (c::l) k=if c.kb < k.data.toList then foundB l k else decide (c.key=k):=by
 unfold foundB;rw [ybk]
 split
 ·simp [keyAt]
 ·simp [keyAt]
def atK (l:List Ce) (k:ByteArray):Option Ce:=if foundB l k then l[fidx l k]? else none
theorem ycX (c:Ce) (l:List Ce) (k:ByteArray):atK (c::l) k=if c.kb < k.data.toList then atK l k else if c.key=k then some c else none:=by
 unfold atK;rw [ybY,ybk]
 by_cases h:c.kb < k.data.toList
 ·simp [h]
 ·by_cases h2:c.key=k<;>simp [h,h2]
theorem ydU:∀ {l:List Ce} {k:ByteArray} {c:Ce},atK l k=some c→c∈l∧c.key=k
 | [],_,_,h=>by simp [atK,foundB,keyAt,fidx] at h
 | d::l,k,c,h=>by
  rw [ycX] at h
  split at h
  ·have:=ydU h;exact ⟨by simp [this.1],this.2⟩
  ·split at h
   ·simp at h;subst h;exact ⟨by simp,by assumption⟩
   ·cases h
theorem ybF:∀ {l:List Ce} {k:ByteArray},SSort l→atK l k=none→∀ c,c∈l→c.key≠k
 | [],_,_,_,c,hc=>by simp at hc
 | d::l,k,hs,h,c,hc=>by
  rw [ycX] at h
  split at h
  ·rename_i hlt
   rcases List.mem_cons.1 hc with rfl|hc
   ·rintro rfl;exact yiG _ hlt
   ·exact ybF hs.cons.2 h c hc
  ·rename_i hge
   split at h
   ·cases h
   ·rename_i hne
    rcases List.mem_cons.1 hc with rfl|hc
    ·exact hne
    ·rintro rfl;exact hge (hs.cons.1 c hc)
theorem ye7 (l:List Ce) (k:ByteArray):foundB l k=(atK l k).isSome:=by
 unfold atK
 cases h:foundB l k
 ·rfl
 ·simp [ybO h]
def Ce.vV (c:Ce):Value:=.agg #[.string c.value,.int .i64 c.seq]
def Ce.kvV (c:Ce):Value×Value:=(.string c.key,c.vV)
theorem yeb {l:List Ce} (hs:SSort l) (k:ByteArray):LookM (l.map Ce.kvV) (.string k) ((atK l k).map Ce.vV):=by
 cases h:atK l k with
 | none=>
  refine .inr ⟨rfl,fun p hp e=>?_⟩;obtain ⟨c,hc,rfl⟩:=List.mem_map.1 hp
  simp [Ce.kvV] at e
  exact ybF hs h c hc e
 | some c=>
  obtain ⟨h1,h2⟩:=ydU h;exact .inl ⟨c.vV,rfl,List.mem_map.2 ⟨c,h1,by rw [← h2];rfl⟩⟩
theorem yem {l:List Ce} {i:Nat} (hi:i < l.length) {k:ByteArray} (hk:l[i].key=k) (v:ByteArray) (q:Int):PutM (l.map Ce.kvV) (.string k) (.agg #[.string v,.int .i64 q]) ((l.set i ⟨k,v,q⟩).map Ce.kvV):=by
 subst hk;refine .inl ⟨l[i].vV,(l.eraseIdx i).map Ce.kvV,?_,?_⟩
 ·have:=(set_perm l i hi l[i]).map Ce.kvV;rw [List.set_getElem_self] at this;exact this
 ·exact (set_perm l i hi ⟨l[i].key,v,q⟩).map Ce.kvV
theorem yel {l:List Ce} (hs:SSort l) {k:ByteArray} (h:atK l k=none) (v:ByteArray) (q:Int) (i:Nat):PutM (l.map Ce.kvV) (.string k) (.agg #[.string v,.int .i64 q]) ((l.take i++[(⟨k,v,q⟩:Ce)]++l.drop i).map Ce.kvV):=by
 refine .inr ⟨fun p hp e=>?_,?_⟩
 ·obtain ⟨c,hc,rfl⟩:=List.mem_map.1 hp
  simp [Ce.kvV] at e
  exact ybF hs h c hc e
 ·have h1:(l.take i++[(⟨k,v,q⟩:Ce)]++l.drop i).Perm ((⟨k,v,q⟩:Ce)::l):=by
   rw [List.append_assoc,List.singleton_append];refine List.perm_middle.trans ?_;rw [List.take_append_drop]
  exact h1.map Ce.kvV
theorem yfk {l:List Ce} {i:Nat} (hi:i < l.length) {k:ByteArray} (hk:l[i].key=k):DelM (l.map Ce.kvV) (.string k) ((l.take i++l.drop (i+1)).map Ce.kvV):=by
 subst hk;refine .inl ⟨l[i].vV,?_⟩;have h1:l.Perm (l[i]::(l.take i++l.drop (i+1))):=by
  conv=>lhs;rw [← List.take_append_drop i l,List.drop_eq_getElem_cons hi]
  exact List.perm_middle
 exact h1.map Ce.kvV
theorem yc5 {l:List Ce} {k:ByteArray} (h:foundB l k=true):∃ hi:fidx l k < l.length,l[fidx l k].key=k:=by
 have hi:=ybO h;refine ⟨hi,?_⟩;unfold foundB keyAt at h;rw [List.getElem?_eq_getElem hi] at h
 simpa using h
theorem SSort.set {l:List Ce} (hs:SSort l) {i:Nat} (hi:i < l.length) {k:ByteArray} (hk:l[i].key=k) (v:ByteArray) (q:Int):SSort (l.set i ⟨k,v,q⟩):=by
 unfold SSort;have:(l.set i ⟨k,v,q⟩).map Ce.kb=l.map Ce.kb:=by
  rw [List.map_set];have e:Ce.kb ⟨k,v,q⟩=(l.map Ce.kb)[i]'(by simpa using hi):=by simp [Ce.kb,hk]
  rw [e,List.set_getElem_self]
 rw [this];exact hs
theorem SSort.ins:∀ {l:List Ce},SSort l→∀ {k:ByteArray},foundB l k=false→∀ (v:ByteArray) (q:Int),SSort (l.take (fidx l k)++[⟨k,v,q⟩]++l.drop (fidx l k))
 | [],_,k,_,v,q=>by simp [fidx,SSort]
 | c::l,hs,k,h,v,q=>by
  rw [ybY] at h;rw [ybk]
  split at h
  ·rename_i hlt;rw [if_pos hlt];have ih:=SSort.ins hs.cons.2 h v q;unfold SSort at ih ⊢;simp only [List.take_succ_cons,List.drop_succ_cons,List.cons_append,List.map_cons];rw [List.pairwise_cons];refine ⟨fun y hy=>?_,ih⟩;obtain ⟨d,hd,rfl⟩:=List.mem_map.1 hy
   rcases List.mem_append.1 hd with hd|hd
   ·rcases List.mem_append.1 hd with hd|hd
    ·exact hs.cons.1 d (List.mem_of_mem_take hd)
    ·simp at hd;subst hd;exact hlt
   ·exact hs.cons.1 d (List.mem_of_mem_drop hd)
  ·rename_i hge;rw [if_neg hge];have hne:c.kb≠k.data.toList:=fun e=>by
    have:c.key=k:=yfe e
    simp [this] at h
   have hlt:=yiH hge hne;simp only [List.take_zero,List.nil_append,List.drop_zero,List.singleton_append];unfold SSort;rw [List.map_cons,List.pairwise_cons];refine ⟨fun y hy=>?_,hs⟩;obtain ⟨d,hd,rfl⟩:=List.mem_map.1 hy
   rcases List.mem_cons.1 hd with rfl|hd
   ·exact hlt
   ·exact List.lt_trans hlt (hs.cons.1 d hd)
theorem SSort.cut {l:List Ce} (hs:SSort l) (i:Nat):SSort (l.take i++l.drop (i+1)):=by
 have h1:(l.drop (i+1)).Sublist (l.drop i):=by rw [← List.tail_drop];exact List.tail_sublist _
 have h2:=List.Sublist.append (List.Sublist.refl (l.take i)) h1;rw [List.take_append_drop] at h2;exact List.Pairwise.sublist (h2.map Ce.kb) hs
theorem SSort.app {l:List Ce} (hs:SSort l) (x:Ch):SSort (sApp l x).1:=by
 unfold sApp
 split
 ·split
  ·split
   ·rename_i hf;obtain ⟨hi,hk⟩:=yc5 hf;exact hs.set hi hk _ _
   ·rename_i hf
    split
    ·exact hs
    ·exact hs.ins (by simpa using hf) _ _
  ·split
   ·split
    ·exact hs.cut _
    ·exact hs
   ·exact hs
 ·exact hs
theorem ygh {x:Ch} (h:validB x=true):x.key.size≤16:=by
 have h2:restB x=true:=by
  simp only [validB,Bool.and_eq_true] at h;exact h.2.2.2.2
 have he:∀ {s:ByteArray},s.toList.isEmpty=true→s.size≤16:=by
  intro s hs;rw [Lib.toList_data] at hs;have h0:s.data.toList=[]:=List.isEmpty_iff.1 hs
  show s.data.size≤16
  rw [← Array.length_toList,h0]
  simp
 unfold restB at h2
 split at h2
 ·simp only [Bool.and_eq_true,keyB,inB,decide_eq_true_eq] at h2;omega
 ·split at h2
  ·simp only [Bool.and_eq_true,keyB,inB,decide_eq_true_eq] at h2;omega
  ·split at h2
   ·simp only [Bool.and_eq_true] at h2;exact he h2.1
   ·split at h2
    ·simp only [Bool.and_eq_true] at h2;exact he h2.1
    ·cases h2
end Go.Proofs.YtfmnjbhncnldmaaGreat
namespace Go.Proofs.YtfmnjbhncnldmaaGreat
open Go.RowKit
attribute [local irreducible] Res.blk Res.sl Res.all Res.ex Res.pure Res.star
instance : HasM Tryz.prog 305 9 303 (.agg #[.string ⟨#[]⟩,.int .i64 0]):=⟨Tryz.underlying305,Maps.string_keyed Tryz.underlying9,fun w=>by kernel_rfl⟩
def PS (g:Nat) (l:List Ce):Res:=.ex fun b=>.all [.blk g 307 [.map (some b)],.mp Tryz.prog 9 b (l.map Ce.kvV)]
theorem Sep.PS_open {r w:World} {M:List Nat} {F:List Res} {g:Nat} {l:List Ce}:Sep r M (PS g l::F) w↔∃ b,Sep r M (.blk g 307 [.map (some b)]::.mp Tryz.prog 9 b (l.map Ce.kvV)::F) w:=by
 simp only [PS,Sep.ex_open,Sep.all_open,List.cons_append,List.nil_append]
theorem key_str (s:ByteArray) (h:s.size≤maxLen):∃ l,keyOf Tryz.prog 9 (.string s)=some l:=⟨_,Go.WideMaps.keyOf_string_mk Tryz.underlying9 h⟩
theorem yh5 (r:World) (F:List Res) (w:World) (hS:Sep r [] F w):Calls Tryz.prog 186 #[] w fun e w'=>∃ g,e=.returned (.pointer (some ⟨g,0,none⟩))∧Sep r [] (PS g []::F) w':=by
 refine Z.enter Tryz.func186 Tryz.ntmps186 rfl rfl ?_
 repeat' first|refine K ?_|refine Sa ?_;intro w hS|refine K3 ?_;intro g w hS hge|refine KC ?_ ?_<;>intro hb<;>try exact JX|fail
 refine Z.eff (Z.mkm hS ?_) rfl;clear hS;intro b w hS hge
 repeat' first|refine K ?_|refine Sa ?_;intro w hS|refine K3 ?_;intro g w hS hge|refine KC ?_ ?_<;>intro hb<;>try exact JX|fail
 refine Dnt Tryz.results186 ?_;exact ⟨_,rfl,Sep.PS_open.2 ⟨b,hS.sb⟩⟩
def getV (o:Option Ce):Value:=match o with|some c=>.tuple #[.string c.value,.int .i64 c.seq,.bool true]|none=>.tuple #[.string ⟨#[]⟩,.int .i64 0,.bool false]
theorem ycq (g:Nat) (l:List Ce) (k:ByteArray) (r:World) (F:List Res) (w:World) (hS:Sep r [] (PS g l::F) w) (hs:SSort l) (hk:k.size≤maxLen) :
  Calls Tryz.prog 106 #[.pointer (some ⟨g,0,none⟩),.string k] w fun e w'=>e=.returned (getV (atK l k))∧Sep r [] (PS g l::F) w':=by
 obtain ⟨b,hS⟩:=Sep.PS_open.1 hS;have hlk:=yeb hs k;refine Z.enter Tryz.func106 Tryz.ntmps106 rfl rfl ?_
 repeat' first|refine K ?_|refine Sa ?_;intro w hS|refine K3 ?_;intro g w hS hge|refine KC ?_ ?_<;>intro hb<;>try exact JX|fail
 refine Z.eff (Z.lkO hS ((atK l k).map Ce.vV) rfl rfl AtF (key_str k hk) hlk ?_) rfl
 cases hc:atK l k with
 | none=>
  repeat' first|refine K ?_|refine Sa ?_;intro w hS|refine K3 ?_;intro g w hS hge|refine KC ?_ ?_<;>intro hb<;>try exact JX|fail
  refine D.startS hS 8 8 kR rfl ?_;replace hS:=hS.drew;refine Sh.dp 0 1 ?_;refine Sh.dp 2 5 ?_;refine Sh.dp 4 21 ?_;refine Sh.dl 1 23 ?_;refine Sh.dp 5 55 ?_;refine Sh.dl 3 63 ?_;refine Sh.dp 6 127 ?_;refine Sh.dp 7 255 ?_;refine D.dn ?_
  repeat' first|refine K ?_|refine Sa ?_;intro w hS|refine K3 ?_;intro g w hS hge|refine KC ?_ ?_<;>intro hb<;>try exact JX|fail
  refine Dnttt Tryz.results106 ?_;exact ⟨rfl,Sep.PS_open.2 ⟨b,hS.sb⟩⟩
 | some c=>
  repeat' first|refine K ?_|refine Sa ?_;intro w hS|refine K3 ?_;intro g w hS hge|refine KC ?_ ?_<;>intro hb<;>try exact JX|fail
  refine D.startS hS 8 8 kR rfl ?_;replace hS:=hS.drew;refine Sh.dp 0 1 ?_;refine Sh.dp 2 5 ?_;refine Sh.dp 4 21 ?_;refine Sh.dl 1 23 ?_;refine Sh.dp 5 55 ?_;refine Sh.dl 3 63 ?_;refine Sh.dp 6 127 ?_;refine Sh.dp 7 255 ?_;refine D.dn ?_
  repeat' first|refine K ?_|refine Sa ?_;intro w hS|refine K3 ?_;intro g w hS hge|refine KC ?_ ?_<;>intro hb<;>try exact JX|fail
  refine Dnttt Tryz.results106 ?_;exact ⟨rfl,Sep.PS_open.2 ⟨b,hS.sb⟩⟩
theorem ydP {l:List Ce} (hs:SSort l):((l.map Ce.kvV).map kbytes).mergeSort Go.leB=l.map Ce.kb:=by
 have e:(l.map Ce.kvV).map kbytes=l.map Ce.kb:=by rw [List.map_map];rfl
 rw [e];refine List.mergeSort_of_pairwise ?_;refine List.Pairwise.imp ?_ hs;intro a b h;simp only [Go.leB,decide_eq_true_eq];exact List.le_of_lt h
def Ce.kc (c:Ce):List Value:=[.string c.key]
theorem enc_kb (c:Ce):Go.Proofs.encStr c.kb=.string c.key:=by
 unfold Ce.kb
 cases c.key
 simp [Go.Proofs.encStr]
theorem yg2 (g:Nat) (l:List Ce) (r:World) (F:List Res) (w:World) (hS:Sep r [] (PS g l::F) w) (hs:SSort l) (hl:l.length≤100000) :
  Calls Tryz.prog 270 #[.pointer (some ⟨g,0,none⟩)] w fun e w'=>∃ A c,e=.returned (.slice A l.length c)∧Sep r [] (.sl 9 1 (.slice A l.length c) (l.map Ce.kc)::PS g l::F) w':=by
 obtain ⟨b,hS⟩:=Sep.PS_open.1 hS;refine Z.enter Tryz.func270 Tryz.ntmps270 rfl rfl ?_;refine sQ ?_;intro w hS;refine cQ (yhS b _ _ _ hS) rfl ?_;clear hS;rintro e w ⟨gk,rfl,hS⟩;refine eQ ?_;intro w hS;refine cQ (yfE gk b (l.map Ce.kvV) _ _ _ hS AtF (by simpa using (by omega:l.length≤1000000))) rfl ?_;clear hS;rintro e w ⟨A,c,rfl,hS⟩;refine ⟨_,rfl,?_⟩;rw [ydP hs,List.map_map] at hS;have e:(l.map ((fun x=>[Go.Proofs.encStr x]) ∘ Ce.kb))=l.map Ce.kc:=List.map_congr_left fun c _=>by simp [Function.comp,enc_kb,Ce.kc]
 rw [e,List.length_map] at hS;rw [List.length_map];refine sQ ?_;intro w hS;refine Dnt Tryz.results270 ?_;exact ⟨A,c,rfl,(Sep.PS_open.2 ⟨b,hS.sub (L':=.blk g 307 [.map (some b)]::.mp Tryz.prog 9 b (l.map Ce.kvV)::.sl _ 1 (.slice A l.length c) (l.map Ce.kc)::F) SuF⟩).sub SuF⟩
theorem yfP (gs:Nat) (l:List Ce) (x:Ch) (r:World) (F:List Res) (w:World) (hS:Sep r [] (PS gs l::F) w) (hs:SSort l) (hl:l.length≤1000) :
  Calls Tryz.prog 280 #[.pointer (some ⟨gs,0,none⟩),x.val] w fun e w'=>e=.returned (.int .i64 (sApp l x).2)∧Sep r [] (PS gs (sApp l x).1::F) w':=by
 obtain ⟨b,hS⟩:=Sep.PS_open.1 hS;refine Z.enter Tryz.func280 Tryz.ntmps280 rfl rfl ?_;refine aQ1 ?_;intro gx w hS;refine cQ (svalid_any x _) rfl ?_;rintro e w' ⟨rfl,hC⟩;refine ⟨_,rfl,?_⟩;replace hS:=hS.ext hC;clear hC
 repeat' first|refine K ?_|refine Sa ?_;intro w hS|refine K3 ?_;intro g w hS hge|refine KC ?_ ?_<;>intro hb<;>try exact JX|fail
 ·refine Dnt Tryz.results280 ?_;have e:sApp l x=(l,1):=by simp [sApp,hb]
  rw [e];exact ⟨rfl,Sep.PS_open.2 ⟨b,hS.sb⟩⟩
 rename validB x=true=>hv;have hkz:=ygh hv;have hky:=key_str x.key (by unfold maxLen;omega);have hlk:=yeb hs x.key;have hfa:=ye7 l x.key
 cases hc:atK l x.key with
 | none=>
  rw [hc] at hlk hfa;have hnf:foundB l x.key=false:=hfa;refine D.startS (Lr:=[.blk gx 149 x.cells,.blk gs 307 [.map (some b)]]) (hS.sb) 11 13 kR rfl ?_;replace hS:=hS.drew;refine Sh.dp 0 1 ?_;refine Sh.dp 1 3 ?_;refine Sh.dp 2 7 ?_;refine Sh.dp 4 23 ?_;refine Sh.dl 3 31 ?_;refine Sh.dl 5 63 ?_;refine D.each [6,10] kR rfl ?_;refine D.econs 6 127 rfl D.wantedN kR (fun _ _ h=>h) ?_ ?_
  ·refine Z.lkO hS none rfl rfl AtF hky hlk ?_;refine HMs ?_;refine Sh.dp 7 255 ?_;refine Sh.dp 8 511 ?_;refine Sh.dp 9 1023 ?_;refine D.ef 10 2047 ?_;refine Z.al hS ?_;clear hS;intro g w hS hge;refine HMs ?_;refine D.ef 11 4095 ?_;refine Z.st hS rfl AtF rfl rfl ?_;clear hS;intro w hS;refine HMl ?_;refine Sh.dp 12 8191 ?_;refine D.dn ?_
   repeat' first|refine K ?_|refine Sa ?_;clear hS;intro w hS|refine K3 ?_;clear hS;intro g w hS hge|refine KC ?_ ?_<;>intro hb<;>try exact JX|fail
   ·rename x.kind=1=>hk;refine Z.eff (Z.lnm hS rfl AtF ?_) rfl;rw [List.length_map]
    repeat' first|refine K ?_|refine Sa ?_;intro w hS|refine K3 ?_;intro g w hS hge|refine KC ?_ ?_<;>intro hb<;>try exact JX|fail
    ·refine Dnt Tryz.results280 ?_;have h2:32≤l.length:=by omega
     have e:sApp l x=(l,33):=by simp [sApp,hv,hk,hnf,h2]
     rw [e];exact ⟨rfl,Sep.PS_open.2 ⟨b,hS.sb⟩⟩
    ·have h2:¬ 32≤l.length:=by omega
     have e:sApp l x=(l.take (fidx l x.key)++[⟨x.key,x.value,x.seq⟩]++l.drop (fidx l x.key),0):=by simp [sApp,hv,hk,hnf,h2]
     rw [e];have hpm:=yel hs hc x.value x.seq (fidx l x.key);refine D.startS (Lr:=[.blk gx 149 x.cells,.blk gs 307 [.map (some b)]]) (hS.sb) 12 12 kR rfl ?_;replace hS:=hS.drew;refine Sh.dp 0 1 ?_;refine Sh.dp 1 3 ?_;refine Sh.dp 2 7 ?_;refine Sh.dp 4 23 ?_;refine Sh.dp 6 87 ?_;refine Sh.dp 8 343 ?_;refine Sh.dl 3 351 ?_;refine Sh.dl 5 383 ?_;refine Sh.dl 7 511 ?_;refine Sh.dl 9 1023 ?_
     first|refine D.bu 10 2047 rfl D.wantedN kR rfl rfl ?_|refine D.buA 10 2047 rfl D.wantedN kR rfl rfl ?_
     refine D.ef 11 4095 ?_;refine Z.upm hS _ rfl rfl rfl AtF hky hpm (by rw [List.length_map];unfold maxLen;omega) ?_;clear hS;intro w hS;refine HMs ?_;refine D.dn ?_;refine sQ ?_;intro w hS;refine Dnt Tryz.results280 ?_;exact ⟨rfl,Sep.PS_open.2 ⟨b,hS.sb⟩⟩
   ·rename x.kind=2=>hk;refine Dnt Tryz.results280 ?_;have e:sApp l x=(l,34):=by simp [sApp,hv,hk,hnf]
    rw [e];exact ⟨rfl,Sep.PS_open.2 ⟨b,hS.sb⟩⟩
   ·refine Dnt Tryz.results280 ?_;have h1:¬ x.kind=1:=by omega
    have h2:¬ x.kind=2:=by omega
    have e:sApp l x=(l,0):=by simp [sApp,hv,h1,h2]
    rw [e];exact ⟨rfl,Sep.PS_open.2 ⟨b,hS.sb⟩⟩
  refine D.econs 10 1087 rfl D.wantedN kR (fun _ _ h=>h) ?_ ?_
  ·refine Z.al hS ?_;clear hS;intro g w hS hge;refine HMs ?_;refine D.ef 6 1151 ?_;refine Z.lkO hS none rfl rfl AtF hky hlk ?_;refine HMs ?_;refine Sh.dp 7 1279 ?_;refine Sh.dp 8 1535 ?_;refine Sh.dp 9 2047 ?_;refine D.ef 11 4095 ?_;refine Z.st hS rfl AtF rfl rfl ?_;clear hS;intro w hS;refine HMl ?_;refine Sh.dp 12 8191 ?_;refine D.dn ?_
   repeat' first|refine K ?_|refine Sa ?_;clear hS;intro w hS|refine K3 ?_;clear hS;intro g w hS hge|refine KC ?_ ?_<;>intro hb<;>try exact JX|fail
   ·rename x.kind=1=>hk;refine Z.eff (Z.lnm hS rfl AtF ?_) rfl;rw [List.length_map]
    repeat' first|refine K ?_|refine Sa ?_;intro w hS|refine K3 ?_;intro g w hS hge|refine KC ?_ ?_<;>intro hb<;>try exact JX|fail
    ·refine Dnt Tryz.results280 ?_;have h2:32≤l.length:=by omega
     have e:sApp l x=(l,33):=by simp [sApp,hv,hk,hnf,h2]
     rw [e];exact ⟨rfl,Sep.PS_open.2 ⟨b,hS.sb⟩⟩
    ·have h2:¬ 32≤l.length:=by omega
     have e:sApp l x=(l.take (fidx l x.key)++[⟨x.key,x.value,x.seq⟩]++l.drop (fidx l x.key),0):=by simp [sApp,hv,hk,hnf,h2]
     rw [e];have hpm:=yel hs hc x.value x.seq (fidx l x.key);refine D.startS (Lr:=[.blk gx 149 x.cells,.blk gs 307 [.map (some b)]]) (hS.sb) 12 12 kR rfl ?_;replace hS:=hS.drew;refine Sh.dp 0 1 ?_;refine Sh.dp 1 3 ?_;refine Sh.dp 2 7 ?_;refine Sh.dp 4 23 ?_;refine Sh.dp 6 87 ?_;refine Sh.dp 8 343 ?_;refine Sh.dl 3 351 ?_;refine Sh.dl 5 383 ?_;refine Sh.dl 7 511 ?_;refine Sh.dl 9 1023 ?_
     first|refine D.bu 10 2047 rfl D.wantedN kR rfl rfl ?_|refine D.buA 10 2047 rfl D.wantedN kR rfl rfl ?_
     refine D.ef 11 4095 ?_;refine Z.upm hS _ rfl rfl rfl AtF hky hpm (by rw [List.length_map];unfold maxLen;omega) ?_;clear hS;intro w hS;refine HMs ?_;refine D.dn ?_;refine sQ ?_;intro w hS;refine Dnt Tryz.results280 ?_;exact ⟨rfl,Sep.PS_open.2 ⟨b,hS.sb⟩⟩
   ·rename x.kind=2=>hk;refine Dnt Tryz.results280 ?_;have e:sApp l x=(l,34):=by simp [sApp,hv,hk,hnf]
    rw [e];exact ⟨rfl,Sep.PS_open.2 ⟨b,hS.sb⟩⟩
   ·refine Dnt Tryz.results280 ?_;have h1:¬ x.kind=1:=by omega
    have h2:¬ x.kind=2:=by omega
    have e:sApp l x=(l,0):=by simp [sApp,hv,h1,h2]
    rw [e];exact ⟨rfl,Sep.PS_open.2 ⟨b,hS.sb⟩⟩
  exact D.enil
 | some c=>
  rw [hc] at hlk hfa;have hfd:foundB l x.key=true:=hfa;obtain ⟨hi,hik⟩:=yc5 hfd;refine D.startS (Lr:=[.blk gx 149 x.cells,.blk gs 307 [.map (some b)]]) (hS.sb) 11 13 kR rfl ?_;replace hS:=hS.drew;refine Sh.dp 0 1 ?_;refine Sh.dp 1 3 ?_;refine Sh.dp 2 7 ?_;refine Sh.dp 4 23 ?_;refine Sh.dl 3 31 ?_;refine Sh.dl 5 63 ?_;refine D.each [6,10] kR rfl ?_;refine D.econs 6 127 rfl D.wantedN kR (fun _ _ h=>h) ?_ ?_
  ·refine Z.lkO hS (some c.vV) rfl rfl AtF hky hlk ?_;refine HMs ?_;refine Sh.dp 7 255 ?_;refine Sh.dp 8 511 ?_;refine Sh.dp 9 1023 ?_;refine D.ef 10 2047 ?_;refine Z.al hS ?_;clear hS;intro g w hS hge;refine HMs ?_;refine D.ef 11 4095 ?_;refine Z.st hS rfl AtF rfl rfl ?_;clear hS;intro w hS;refine HMl ?_;refine Sh.dp 12 8191 ?_;refine D.dn ?_
   repeat' first|refine K ?_|refine Sa ?_;clear hS;intro w hS|refine K3 ?_;clear hS;intro g w hS hge|refine KC ?_ ?_<;>intro hb<;>try exact JX|fail
   ·rename x.kind=1=>hk;have e:sApp l x=(l.set (fidx l x.key) ⟨x.key,x.value,x.seq⟩,0):=by simp [sApp,hv,hk,hfd]
    rw [e];have hpm:=yem hi hik x.value x.seq;refine D.startS (Lr:=[.blk gx 149 x.cells,.blk gs 307 [.map (some b)]]) (hS.sb) 12 12 kR rfl ?_;replace hS:=hS.drew;refine Sh.dp 0 1 ?_;refine Sh.dp 1 3 ?_;refine Sh.dp 2 7 ?_;refine Sh.dp 4 23 ?_;refine Sh.dp 6 87 ?_;refine Sh.dp 8 343 ?_;refine Sh.dl 3 351 ?_;refine Sh.dl 5 383 ?_;refine Sh.dl 7 511 ?_;refine Sh.dl 9 1023 ?_
    first|refine D.bu 10 2047 rfl D.wantedN kR rfl rfl ?_|refine D.buA 10 2047 rfl D.wantedN kR rfl rfl ?_
    refine D.ef 11 4095 ?_;refine Z.upm hS _ rfl rfl rfl AtF hky hpm (by rw [List.length_map];unfold maxLen;omega) ?_;clear hS;intro w hS;refine HMs ?_;refine D.dn ?_;refine sQ ?_;intro w hS;refine Dnt Tryz.results280 ?_;exact ⟨rfl,Sep.PS_open.2 ⟨b,hS.sb⟩⟩
   ·rename x.kind=2=>hk;have hk1:¬ x.kind=1:=by omega
    have e:sApp l x=(l.take (fidx l x.key)++l.drop (fidx l x.key+1),0):=by simp [sApp,hv,hk,hk1,hfd]
    rw [e];have hdm:=yfk hi hik;refine D.startS (Lr:=[.blk gx 149 x.cells,.blk gs 307 [.map (some b)]]) (hS.sb) 7 7 kR rfl ?_;replace hS:=hS.drew;refine Sh.dp 0 1 ?_;refine Sh.dp 1 3 ?_;refine Sh.dp 2 7 ?_;refine Sh.dp 4 23 ?_;refine Sh.dl 3 31 ?_;refine Sh.dl 5 63 ?_;refine D.ef 6 127 ?_;refine Z.dlm hS _ rfl rfl AtF hky hdm ?_;clear hS;intro w hS;refine HMs ?_;refine D.dn ?_;refine sQ ?_;intro w hS;refine Dnt Tryz.results280 ?_;exact ⟨rfl,Sep.PS_open.2 ⟨b,hS.sb⟩⟩
   ·refine Dnt Tryz.results280 ?_;have h1:¬ x.kind=1:=by omega
    have h2:¬ x.kind=2:=by omega
    have e:sApp l x=(l,0):=by simp [sApp,hv,h1,h2]
    rw [e];exact ⟨rfl,Sep.PS_open.2 ⟨b,hS.sb⟩⟩
  refine D.econs 10 1087 rfl D.wantedN kR (fun _ _ h=>h) ?_ ?_
  ·refine Z.al hS ?_;clear hS;intro g w hS hge;refine HMs ?_;refine D.ef 6 1151 ?_;refine Z.lkO hS (some c.vV) rfl rfl AtF hky hlk ?_;refine HMs ?_;refine Sh.dp 7 1279 ?_;refine Sh.dp 8 1535 ?_;refine Sh.dp 9 2047 ?_;refine D.ef 11 4095 ?_;refine Z.st hS rfl AtF rfl rfl ?_;clear hS;intro w hS;refine HMl ?_;refine Sh.dp 12 8191 ?_;refine D.dn ?_
   repeat' first|refine K ?_|refine Sa ?_;clear hS;intro w hS|refine K3 ?_;clear hS;intro g w hS hge|refine KC ?_ ?_<;>intro hb<;>try exact JX|fail
   ·rename x.kind=1=>hk;have e:sApp l x=(l.set (fidx l x.key) ⟨x.key,x.value,x.seq⟩,0):=by simp [sApp,hv,hk,hfd]
    rw [e];have hpm:=yem hi hik x.value x.seq;refine D.startS (Lr:=[.blk gx 149 x.cells,.blk gs 307 [.map (some b)]]) (hS.sb) 12 12 kR rfl ?_;replace hS:=hS.drew;refine Sh.dp 0 1 ?_;refine Sh.dp 1 3 ?_;refine Sh.dp 2 7 ?_;refine Sh.dp 4 23 ?_;refine Sh.dp 6 87 ?_;refine Sh.dp 8 343 ?_;refine Sh.dl 3 351 ?_;refine Sh.dl 5 383 ?_;refine Sh.dl 7 511 ?_;refine Sh.dl 9 1023 ?_
    first|refine D.bu 10 2047 rfl D.wantedN kR rfl rfl ?_|refine D.buA 10 2047 rfl D.wantedN kR rfl rfl ?_
    refine D.ef 11 4095 ?_;refine Z.upm hS _ rfl rfl rfl AtF hky hpm (by rw [List.length_map];unfold maxLen;omega) ?_;clear hS;intro w hS;refine HMs ?_;refine D.dn ?_;refine sQ ?_;intro w hS;refine Dnt Tryz.results280 ?_;exact ⟨rfl,Sep.PS_open.2 ⟨b,hS.sb⟩⟩
   ·rename x.kind=2=>hk;have hk1:¬ x.kind=1:=by omega
    have e:sApp l x=(l.take (fidx l x.key)++l.drop (fidx l x.key+1),0):=by simp [sApp,hv,hk,hk1,hfd]
    rw [e];have hdm:=yfk hi hik;refine D.startS (Lr:=[.blk gx 149 x.cells,.blk gs 307 [.map (some b)]]) (hS.sb) 7 7 kR rfl ?_;replace hS:=hS.drew;refine Sh.dp 0 1 ?_;refine Sh.dp 1 3 ?_;refine Sh.dp 2 7 ?_;refine Sh.dp 4 23 ?_;refine Sh.dl 3 31 ?_;refine Sh.dl 5 63 ?_;refine D.ef 6 127 ?_;refine Z.dlm hS _ rfl rfl AtF hky hdm ?_;clear hS;intro w hS;refine HMs ?_;refine D.dn ?_;refine sQ ?_;intro w hS;refine Dnt Tryz.results280 ?_;exact ⟨rfl,Sep.PS_open.2 ⟨b,hS.sb⟩⟩
   ·refine Dnt Tryz.results280 ?_;have h1:¬ x.kind=1:=by omega
    have h2:¬ x.kind=2:=by omega
    have e:sApp l x=(l,0):=by simp [sApp,hv,h1,h2]
    rw [e];exact ⟨rfl,Sep.PS_open.2 ⟨b,hS.sb⟩⟩
  exact D.enil
theorem ygN (b:Nat) (m:List (Value×Value)) (r:World) (F:List Res) (w:World) (hS:Sep r [] F w) {k:List Res} (ha:At F k (.mp Tryz.prog 9 b m)) :
  Calls Tryz.prog 354 #[.map (some b)] w fun e w'=>∃ b',e=.returned (.map (some b'))∧Sep r [] (.mp Tryz.prog 9 b' m::F) w':=by
 refine Z.enter Tryz.func354 Tryz.ntmps354 rfl rfl ?_;refine sQ ?_;intro w hS;refine Z.pl (R.mnil rfl rfl) ?_;refine sQ ?_;intro w hS;refine Z.pl (R.mkI rfl) ?_;refine sQ ?_;intro w hS;refine Z.eff (Z.mcl hS rfl ha Tryz.func399 kR kR kR kR ?_) rfl;clear hS;intro b' w hS;refine Z.pl (R.tas rfl) ?_;refine sQ ?_;intro w hS;refine Dnt Tryz.results354 ?_;exact ⟨b',rfl,hS⟩
theorem yg1 (g:Nat) (l:List Ce) (r:World) (F:List Res) (w:World) (hS:Sep r [] (PS g l::F) w) :
  Calls Tryz.prog 282 #[.pointer (some ⟨g,0,none⟩)] w fun e w'=>∃ g',e=.returned (.pointer (some ⟨g',0,none⟩))∧Sep r [] (PS g' l::PS g l::F) w':=by
 obtain ⟨b,hS⟩:=Sep.PS_open.1 hS;refine Z.enter Tryz.func282 Tryz.ntmps282 rfl rfl ?_;refine sQ ?_;intro w hS;refine cQ (ygN b (l.map Ce.kvV) _ _ _ hS AtF) rfl ?_;clear hS;rintro e w ⟨b',rfl,hS⟩;refine ⟨_,rfl,?_⟩
 repeat' first|refine K ?_|refine Sa ?_;clear hS;intro w hS|refine K3 ?_;clear hS;intro g w hS hge|refine KC ?_ ?_<;>intro hb<;>try exact JX|fail
 rename Nat=>g';refine Dnt Tryz.results282 ?_;refine ⟨g',rfl,Sep.PS_open.2 ⟨b',?_⟩⟩;exact (Sep.PS_open.2 ⟨b,hS.sub (L':=.blk g 307 [.map (some b)]::.mp Tryz.prog 9 b (l.map Ce.kvV)::.blk g' 307 [.map (some b')]::.mp Tryz.prog 9 b' (l.map Ce.kvV)::F) SuF⟩).sub SuF
end Go.Proofs.YtfmnjbhncnldmaaGreat
