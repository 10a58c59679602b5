import Derived.Test.YtfmnjbhncnldmaaGreatW04
set_option maxHeartbeats 8000000
set_option linter.unusedSimpArgs false
set_option linter.unusedVariables false
namespace Go.Proofs.YtfmnjbhncnldmaaGreat
open Go.RowKit
attribute [local irreducible] Res.blk Res.sl Res.all Res.ex Res.pure Res.star
section
variable {P:Program} {ops:Array Oper} {Q:Exit→Act→World→Prop} {n:Nat} {f:Nat→Value} {w:World} {rest:List Oper} {d:Tmp} {ty t:TypeId} {pos:String} {aft:Array Edge} {x y:Operand}
theorem IXS {s:ByteArray} {j:Nat} (hu:P.underlying t=some .string) (hj:j < s.size) (hx:ev n f x=.string s) (hy:ev n f y=.int .i64 (j:Int)) (h:WL P ops Q rest n (upd' f d (.int .u8 (s[j].toNat:Int))) w):WL P ops Q (⟨some d,.index t x y,ty,pos,aft,none⟩::rest) n f w:=by
 refine Z.pl ⟨fun W=>?_⟩ h;have e:s[j]?=some s[j]:=by simp [hj]
 simp only [execOp,hx,hy,Instr.index,asIntOf,Sem.run_bind,Sem.run_pure,Result.andThen_ok,run_under hu]
 simp [e]
end
def kS (s:ByteArray):List Value:=[.string s]
theorem kS_ok (l:List ByteArray):∀ row,row∈l.map kS→row.length=1∧∀ u,u∈row→u.oneCell'=true:=by
 intro row hr;obtain ⟨x,_,rfl⟩:=List.mem_map.1 hr;exact ⟨rfl,by simp [kS,Value.oneCell']⟩
set_option maxRecDepth 10000 in
theorem yi5 (k:Int) (r:World) (F:List Res) (w:World) (hS:Sep r [] F w) :
  Calls Tryz.prog 400 #[.int .i64 k] w fun e w'=>e=.returned (.string (usesS k))∧Sep r [] F w':=by
 unfold usesS;refine Z.enter Tryz.func400 Tryz.ntmps400 rfl rfl ?_
 repeat' first|refine K ?_|refine Sa ?_;intro w hS|refine K3 ?_;intro g w hS hge|refine KC ?_ ?_<;>intro hb<;>try exact JX|fail
 ·refine Dnt Tryz.results400 ?_;rw [if_pos (.inl hb)];exact ⟨rfl,hS.sb⟩
 ·refine Dnt Tryz.results400 ?_;rw [if_pos (.inr hb)];exact ⟨rfl,hS.sb⟩
 have hk:k.toNat < useTab.length:=by show k.toNat < 17;omega
 have h3:=((mk_sl (n:=17) (rows:=useTab.map kS) hS rfl oM (by decide) (kS_ok _) rfl).slrows .here).elem (q:=k.toNat) oM (by simpa using hk);have e:useTab[k.toNat]'hk=useTab.getD k.toNat ⟨#[]⟩:=by
  simp [List.getD_eq_getElem?_getD,hk]
 rw [e] at h3;rw [if_neg oM];generalize useTab.getD k.toNat ⟨#[]⟩=s at *;refine sQ ?_;intro w hS;refine Dnt Tryz.results400 ?_;exact ⟨rfl,hS.sb⟩
theorem ygI {s:ByteArray} {u:Int} {i:Nat} (hi:i < s.size):((s.data.toList.take (i+1)).any fun x=>decide ((x.toNat:Int)=u))=((s.data.toList.take i).any (fun x=>decide ((x.toNat:Int)=u)) || decide ((s[i].toNat:Int)=u)):=by
 have hl:i < s.data.toList.length:=by simpa using hi
 rw [List.take_succ_eq_append_getElem hl,List.any_append]
 simp
 rfl
theorem yad (k u:Int) (r:World) (F:List Res) (w:World) (hS:Sep r [] F w) :
  Calls Tryz.prog 357 #[.int .i64 k,.int .u8 u] w fun e w'=>e=.returned (.bool (hasK k u))∧Sep r [] F w':=by
 have hsz:(usesS k).size≤100:=by
  unfold usesS
  split
  ·decide
  ·rw [List.getD_eq_getElem?_getD]
   cases h:useTab[k.toNat]? with
   | none=>decide
   | some s=>
    have hm:=List.mem_of_getElem? h;have:∀ s,s∈useTab→s.size≤100:=by decide
    exact this s hm
 unfold hasK;refine Z.enter Tryz.func357 Tryz.ntmps357 rfl rfl ?_;refine sQ ?_;intro w hS;refine cQ (yi5 k _ _ _ hS) rfl ?_;clear hS;rintro e w ⟨rfl,hS⟩;refine ⟨_,rfl,?_⟩;generalize usesS k=s at *;refine sQ ?_;intro w hS;refine Z.lpS [4,6,9,10,11,12,13,14,15,16,17,18,19] (fun m w z=>∃ i:Nat,z=[(6,.int .i64 i)]∧i≤s.size∧((s.data.toList.take i).any fun x=>decide ((x.toNat:Int)=u))=false∧m=s.size - i∧Sep r [] F w) _ [(6,.int .i64 (0:Nat))] TrF ⟨0,rfl,oM,by simp,rfl,hS⟩ ?_;clear hS;rintro m f0 w _ ⟨i,rfl,hi,hno,rfl,hS⟩
 by_cases hlt:i < s.size
 ·have ht:=ygI (u:=u) hlt;refine sQ ?_;intro w hS;refine IXS Tryz.underlying9 hlt rfl rfl ?_
  repeat' first|refine K ?_|refine Sa ?_;intro w hS|refine K3 ?_;intro g w hS hge|refine KC ?_ ?_<;>intro hb<;>try exact JX|fail
  ·refine Dnt Tryz.results357 ?_;refine ⟨?_,hS⟩;have e:(s.data.toList.any fun x=>decide ((x.toNat:Int)=u))=true:=by
    rw [← List.take_append_drop (i+1) s.data.toList,List.any_append,ht]
    simp [hb]
   rw [e]
   rfl
  ·refine Sh.again (s.size - (i+1)) [(6,.int .i64 (i+1:Nat))] ?_;exact ⟨i+1,rfl,oM,by rw [ht,hno];simpa using hb,rfl,hS⟩
 ·refine sQ ?_;intro w hS;refine Dnt Tryz.results357 ?_;refine ⟨?_,hS⟩;have e:s.data.toList.take i=s.data.toList:=List.take_of_length_le (by
   have:s.data.toList.length=s.size:=by rw [Array.length_toList];rfl
   omega)
  rw [e] at hno;rw [hno]
  rfl
theorem yal (k lo hi:Int) (r:World) (F:List Res) (w:World) (hS:Sep r [] F w) :
  Calls Tryz.prog 287 #[.int .i64 k,.int .i64 lo,.int .i64 hi] w fun e w'=>e=.returned (.bool (decide (lo≤k∧k≤hi)))∧Sep r [] F w':=by
 refine Z.enter Tryz.func287 Tryz.ntmps287 rfl rfl ?_
 repeat' first|refine K ?_|refine Sa ?_;intro w hS|refine K3 ?_;intro g w hS hge|refine KC ?_ ?_<;>intro hb<;>try exact JX|fail
 all_goals
  refine Dnt Tryz.results287 ?_;exact ⟨by (simp [Z.packR, *];try (intros;omega)),hS⟩
def PlB (e:En) (tn kn rn:Int) (b116 b99 b67 b111 b114:Bool):Prop:=(b116=true→0≤e.tenant∧e.tenant < tn)∧((b99=true→0≤e.cell∧e.cell < kn)∧(b67=true→-1≤e.cell∧e.cell < kn))∧(b111=true→-1≤e.other∧e.other < kn∧e.other≠e.cell)∧(b114=true→0≤e.other∧e.other < rn)
theorem ygW (e:En) (tn kn rn:Int) (r:World) (F:List Res) (w:World) (hS:Sep r [] F w) (ht:0≤tn∧tn≤1000) (hk:0≤kn∧kn≤1000) (hr:0≤rn∧rn≤1000) (b116 b99 b67 b111 b114:Bool) (h116:hasK e.kind 116=b116) (h99:hasK e.kind 99=b99) (h67:hasK e.kind 67=b67) (h111:hasK e.kind 111=b111) (h114:hasK e.kind 114=b114) :
  Calls Tryz.prog 288 #[e.val,.int .i64 tn,.int .i64 kn,.int .i64 rn] w fun ee w'=>∃ b,ee=.returned (.bool b)∧(b=true→PlB e tn kn rn b116 b99 b67 b111 b114)∧Sep r [] F w':=by
 refine Z.enter Tryz.func288 Tryz.ntmps288 rfl rfl ?_;refine aQ1 ?_;intro g w hS;refine Z.cut [12,13,14,15,16,17,18,19,20,21,22,23,24,25,26,27,28,29] (fun w s=>∃ b:Bool,s=[(29,.bool b)]∧(b=false→b116=true→0≤e.tenant∧e.tenant < tn)∧Sep r [] (.blk g 63 e.cells::F) w) ?_ ?_
 ·cases b116
  ·refine D.startS (Lr:=[.blk g 63 e.cells]) (hS.sb) 18 18 kR rfl ?_;replace hS:=hS.drew;refine Sh.dp 0 1 ?_;refine Sh.dp 2 5 ?_;refine Sh.dl 3 13 ?_
   first|refine D.pr 4 29 rfl D.wantedN kR rfl ?_|refine D.pl 4 29 rfl D.wantedN kR (R.nea rfl rfl rfl rfl) ?_
   refine D.ef 1 31 ?_;refine Z.cl (yad e.kind 116 _ _ _ hS) rfl ?_;clear hS;rintro e w ⟨rfl,hS⟩;refine ⟨_,rfl,?_⟩;rw [h116];refine HMs ?_
   first|refine D.pr 5 63 rfl D.wantedN kR rfl ?_|refine D.pl 5 63 rfl D.wantedN kR (R.nea rfl rfl rfl rfl) ?_
   refine Sh.dp 6 127 ?_;refine D.slot 18 rfl (fun hb=>?_) (fun hb=>?_)
   ·(try simp only [JJ] at hb)
    refine D.sk 7 255 ?_;refine D.sk 8 511 ?_;refine D.sk 9 1023 ?_;refine D.skU 10 2047 rfl kR rfl rfl ?_;refine D.skU 11 4095 rfl kR rfl rfl ?_;refine D.skU 12 8191 rfl kR rfl rfl ?_;refine D.skU 13 16383 rfl kR rfl rfl ?_;refine D.skU 14 32767 rfl kR rfl rfl ?_;refine D.skU 15 65535 rfl kR rfl rfl ?_;refine D.sk 16 131071 ?_;refine Sh.dp 17 262143 ?_;refine D.dn ?_;refine Sh.cut [(29,_)] ?_;exact ⟨_,rfl,(fun _ h=>by cases h),hS.sb⟩
   ·(try simp only [JJ] at hb)
    refine Sh.dp 7 255 ?_;refine D.eff 8 511 rfl (D.wantedT rfl rfl) kR kR (fun _ _ h=>h) ?_;refine WE.guard ?_;refine Z.cl (yad e.kind 116 _ _ _ hS) rfl ?_;clear hS;rintro e w ⟨rfl,hS⟩;refine ⟨_,rfl,?_⟩;rw [h116];refine HMs ?_;refine Sh.dp 9 1023 ?_;refine D.slot 21 rfl (fun hb=>?_) (fun hb=>?_)
    ·(try simp only [JJ] at hb)
     refine Sh.dp 10 2047 ?_;refine Sh.dp 12 6143 ?_
     first|refine D.sum 13 14335 rfl (D.wantedT rfl rfl) kR rfl (by constructor<;>omega) ?_|refine D.sumW 13 14335 rfl (D.wantedT rfl rfl) kR rfl ?_
     refine Sh.dl 11 16383 ?_;refine D.eff 14 32767 rfl (D.wantedT rfl rfl) kR kR (fun _ _ h=>h) ?_;refine WE.guard ?_;refine dQ (yal e.tenant 0 _ _ _ _ hS) ?_;intro w hS;refine Sh.dp 15 65535 ?_;refine Sh.dp 16 131071 ?_;refine Sh.dp 17 262143 ?_;refine D.dn ?_;refine Sh.cut [(29,_)] ?_;exact ⟨_,rfl,(fun _ h=>by cases h),hS.sb⟩
    ·(try simp only [JJ] at hb)
     refine D.sk 10 2047 ?_;refine D.sk 11 4095 ?_;refine D.sk 12 8191 ?_;refine D.sk 13 16383 ?_;refine D.sk 14 32767 ?_;refine D.sk 15 65535 ?_;refine Sh.dp 16 131071 ?_;refine Sh.dp 17 262143 ?_;refine D.dn ?_;refine Sh.cut [(29,_)] ?_;exact ⟨_,rfl,(fun _ h=>by cases h),hS.sb⟩
  ·refine D.startS (Lr:=[.blk g 63 e.cells]) (hS.sb) 18 18 kR rfl ?_;replace hS:=hS.drew;refine Sh.dp 0 1 ?_;refine Sh.dp 2 5 ?_;refine Sh.dl 3 13 ?_
   first|refine D.pr 4 29 rfl D.wantedN kR rfl ?_|refine D.pl 4 29 rfl D.wantedN kR (R.nea rfl rfl rfl rfl) ?_
   refine D.ef 1 31 ?_;refine Z.cl (yad e.kind 116 _ _ _ hS) rfl ?_;clear hS;rintro e w ⟨rfl,hS⟩;refine ⟨_,rfl,?_⟩;rw [h116];refine HMs ?_
   first|refine D.pr 5 63 rfl D.wantedN kR rfl ?_|refine D.pl 5 63 rfl D.wantedN kR (R.nea rfl rfl rfl rfl) ?_
   refine Sh.dp 6 127 ?_;refine D.slot 18 rfl (fun hb=>?_) (fun hb=>?_)
   ·(try simp only [JJ] at hb)
    refine D.sk 7 255 ?_;refine D.sk 8 511 ?_;refine D.sk 9 1023 ?_;refine D.skU 10 2047 rfl kR rfl rfl ?_;refine D.skU 11 4095 rfl kR rfl rfl ?_;refine D.skU 12 8191 rfl kR rfl rfl ?_;refine D.skU 13 16383 rfl kR rfl rfl ?_;refine D.skU 14 32767 rfl kR rfl rfl ?_;refine D.skU 15 65535 rfl kR rfl rfl ?_;refine D.sk 16 131071 ?_;refine Sh.dp 17 262143 ?_;refine D.dn ?_;refine Sh.cut [(29,_)] ?_;exact ⟨_,rfl,(fun h _=>(by (try simp at hb);(try simp at h);(try simp);(try omega))),hS.sb⟩
   ·(try simp only [JJ] at hb)
    refine Sh.dp 7 255 ?_;refine D.eff 8 511 rfl (D.wantedT rfl rfl) kR kR (fun _ _ h=>h) ?_;refine WE.guard ?_;refine Z.cl (yad e.kind 116 _ _ _ hS) rfl ?_;clear hS;rintro e w ⟨rfl,hS⟩;refine ⟨_,rfl,?_⟩;rw [h116];refine HMs ?_;refine Sh.dp 9 1023 ?_;refine D.slot 21 rfl (fun hb=>?_) (fun hb=>?_)
    ·(try simp only [JJ] at hb)
     refine Sh.dp 10 2047 ?_;refine Sh.dp 12 6143 ?_
     first|refine D.sum 13 14335 rfl (D.wantedT rfl rfl) kR rfl (by constructor<;>omega) ?_|refine D.sumW 13 14335 rfl (D.wantedT rfl rfl) kR rfl ?_
     refine Sh.dl 11 16383 ?_;refine D.eff 14 32767 rfl (D.wantedT rfl rfl) kR kR (fun _ _ h=>h) ?_;refine WE.guard ?_;refine dQ (yal e.tenant 0 _ _ _ _ hS) ?_;intro w hS;refine Sh.dp 15 65535 ?_;refine Sh.dp 16 131071 ?_;refine Sh.dp 17 262143 ?_;refine D.dn ?_;refine Sh.cut [(29,_)] ?_;exact ⟨_,rfl,(fun h _=>(by (try simp at hb);(try simp at h);(try simp);(try omega))),hS.sb⟩
    ·(try simp only [JJ] at hb)
     refine D.sk 10 2047 ?_;refine D.sk 11 4095 ?_;refine D.sk 12 8191 ?_;refine D.sk 13 16383 ?_;refine D.sk 14 32767 ?_;refine D.sk 15 65535 ?_;refine Sh.dp 16 131071 ?_;refine Sh.dp 17 262143 ?_;refine D.dn ?_;refine Sh.cut [(29,_)] ?_;exact ⟨_,rfl,(fun h _=>(by (try simp at hb);(try simp at h);(try simp);(try omega))),hS.sb⟩
 clear hS;rintro f0 w _ ⟨b,rfl,hq0,hS⟩
 cases b
 case true=>
  refine sQ ?_;intro w hS;refine Dnt Tryz.results288 ?_;exact ⟨false,rfl,(fun h=>by cases h),hS.sb⟩
 replace hq0:=hq0 rfl
 repeat' (first|refine Kn ?_|(refine Sh.sa hS ?_;clear hS;intro w hS)|(refine K3 ?_;clear hS;intro g w hS hge)|(refine KB ?_ ?_<;>intro hb<;>(try simp only [JJ] at hb)<;>(try exact JX))|fail)
 refine Z.thN ?_;refine Z.seq ?_;refine Z.block ?_;refine Z.seq ?_;refine Z.cut [30,31,32,33,34,35,36,37,38,39,40,41,42,43,44,45,46,47,48,49,50,51,52,53,54,55,56,57,58,59,60,61,62,63] (fun w s=>∃ b:Bool,s=[(30,.bool b)]∧(b=false→(b99=true→0≤e.cell∧e.cell < kn)∧(b67=true→-1≤e.cell∧e.cell < kn))∧Sep r [] (.blk g 63 e.cells::F) w) ?_ ?_
 ·cases b99<;>cases b67
  ·refine sQ ?_;intro w hS;refine cQ (yad e.kind 99 _ _ _ hS) rfl ?_;clear hS;rintro e w ⟨rfl,hS⟩;refine ⟨_,rfl,?_⟩;rw [h99];refine sQ ?_;intro w hS;refine cQ (yad e.kind 67 _ _ _ hS) rfl ?_;clear hS;rintro e w ⟨rfl,hS⟩;refine ⟨_,rfl,?_⟩;rw [h67];refine sQ ?_;intro w hS;refine cQ (yad e.kind 99 _ _ _ hS) rfl ?_;clear hS;rintro e w ⟨rfl,hS⟩;refine ⟨_,rfl,?_⟩;rw [h99];refine sQ ?_;intro w hS;refine cQ (yad e.kind 67 _ _ _ hS) rfl ?_;clear hS;rintro e w ⟨rfl,hS⟩;refine ⟨_,rfl,?_⟩;rw [h67];refine sQ ?_;intro w hS;refine Sh.cut [(30,_)] ?_;exact ⟨_,rfl,(fun h=>(by (try simp at hb);(try simp at h);(try simp);(try omega))),hS.sb⟩
  ·refine sQ ?_;intro w hS;refine cQ (yad e.kind 99 _ _ _ hS) rfl ?_;clear hS;rintro e w ⟨rfl,hS⟩;refine ⟨_,rfl,?_⟩;rw [h99];refine sQ ?_;intro w hS;refine cQ (yad e.kind 67 _ _ _ hS) rfl ?_;clear hS;rintro e w ⟨rfl,hS⟩;refine ⟨_,rfl,?_⟩;rw [h67];refine sQ ?_;intro w hS;refine cQ (yal e.cell (-1) _ _ _ _ hS) rfl ?_;clear hS;rintro e w ⟨rfl,hS⟩;refine ⟨_,rfl,?_⟩
   repeat' first|refine K ?_|refine Sa ?_;intro w hS|refine K3 ?_;intro g w hS hge|refine KC ?_ ?_<;>intro hb<;>try exact JX|fail
   ·refine Sh.cut [(30,_)] ?_;exact ⟨_,rfl,(fun h=>(by (try simp at hb);(try simp at h);(try simp);(try omega))),hS.sb⟩
   ·refine cQ (yad e.kind 99 _ _ _ hS) rfl ?_;clear hS;rintro e w ⟨rfl,hS⟩;refine ⟨_,rfl,?_⟩;rw [h99];refine sQ ?_;intro w hS;refine cQ (yad e.kind 67 _ _ _ hS) rfl ?_;clear hS;rintro e w ⟨rfl,hS⟩;refine ⟨_,rfl,?_⟩;rw [h67];refine sQ ?_;intro w hS;refine Sh.cut [(30,_)] ?_;exact ⟨_,rfl,(fun h=>(by (try simp at hb);(try simp at h);(try simp);(try omega))),hS.sb⟩
  ·refine sQ ?_;intro w hS;refine cQ (yad e.kind 99 _ _ _ hS) rfl ?_;clear hS;rintro e w ⟨rfl,hS⟩;refine ⟨_,rfl,?_⟩;rw [h99];refine sQ ?_;intro w hS;refine cQ (yal e.cell 0 _ _ _ _ hS) rfl ?_;clear hS;rintro e w ⟨rfl,hS⟩;refine ⟨_,rfl,?_⟩
   repeat' first|refine K ?_|refine Sa ?_;intro w hS|refine K3 ?_;intro g w hS hge|refine KC ?_ ?_<;>intro hb<;>try exact JX|fail
   ·refine Sh.cut [(30,_)] ?_;exact ⟨_,rfl,(fun h=>(by (try simp at hb);(try simp at h);(try simp);(try omega))),hS.sb⟩
   ·refine cQ (yad e.kind 67 _ _ _ hS) rfl ?_;clear hS;rintro e w ⟨rfl,hS⟩;refine ⟨_,rfl,?_⟩;rw [h67];refine sQ ?_;intro w hS;refine cQ (yad e.kind 99 _ _ _ hS) rfl ?_;clear hS;rintro e w ⟨rfl,hS⟩;refine ⟨_,rfl,?_⟩;rw [h99];refine sQ ?_;intro w hS;refine Sh.cut [(30,_)] ?_;exact ⟨_,rfl,(fun h=>(by (try simp at hb);(try simp at h);(try simp);(try omega))),hS.sb⟩
  ·refine sQ ?_;intro w hS;refine cQ (yad e.kind 99 _ _ _ hS) rfl ?_;clear hS;rintro e w ⟨rfl,hS⟩;refine ⟨_,rfl,?_⟩;rw [h99];refine sQ ?_;intro w hS;refine cQ (yal e.cell 0 _ _ _ _ hS) rfl ?_;clear hS;rintro e w ⟨rfl,hS⟩;refine ⟨_,rfl,?_⟩
   repeat' first|refine K ?_|refine Sa ?_;intro w hS|refine K3 ?_;intro g w hS hge|refine KC ?_ ?_<;>intro hb<;>try exact JX|fail
   ·refine Sh.cut [(30,_)] ?_;exact ⟨_,rfl,(fun h=>(by (try simp at hb);(try simp at h);(try simp);(try omega))),hS.sb⟩
   ·refine cQ (yad e.kind 67 _ _ _ hS) rfl ?_;clear hS;rintro e w ⟨rfl,hS⟩;refine ⟨_,rfl,?_⟩;rw [h67];refine sQ ?_;intro w hS;refine rQ (yal e.cell (-1) _ _ _ _ hS) ?_;intro w hS;refine cQ (yad e.kind 99 _ _ _ hS) rfl ?_;clear hS;rintro e w ⟨rfl,hS⟩;refine ⟨_,rfl,?_⟩;rw [h99];refine sQ ?_;intro w hS;refine Sh.cut [(30,_)] ?_;exact ⟨_,rfl,(fun h=>(by (try simp at hb);(try simp at h);(try simp);(try omega))),hS.sb⟩
 clear hS;rintro f0 w _ ⟨b,rfl,hq1,hS⟩
 cases b
 case true=>
  refine sQ ?_;intro w hS;refine Dnt Tryz.results288 ?_;exact ⟨false,rfl,(fun h=>by cases h),hS.sb⟩
 replace hq1:=hq1 rfl;refine Z.brF rfl ?_;refine Z.seq ?_;refine Z.cut [64,65,66,67,68,69,70,71,72,73,74,75,76,77,78,79,80,81,82,83,84,85,86,87,88,89,90,91,92,93,94,95,96,97,98,99,100,101,102,103,104] (fun w s=>∃ b:Bool,s=[(64,.bool b)]∧(b=false→(b111=true→-1≤e.other∧e.other < kn∧e.other≠e.cell)∧(b114=true→0≤e.other∧e.other < rn))∧Sep r [] (.blk g 63 e.cells::F) w) ?_ ?_
 ·cases b111<;>cases b114
  ·refine sQ ?_;intro w hS;refine cQ (yad e.kind 111 _ _ _ hS) rfl ?_;clear hS;rintro e w ⟨rfl,hS⟩;refine ⟨_,rfl,?_⟩;rw [h111];refine sQ ?_;intro w hS;refine cQ (yad e.kind 114 _ _ _ hS) rfl ?_;clear hS;rintro e w ⟨rfl,hS⟩;refine ⟨_,rfl,?_⟩;rw [h114];refine sQ ?_;intro w hS;refine cQ (yad e.kind 111 _ _ _ hS) rfl ?_;clear hS;rintro e w ⟨rfl,hS⟩;refine ⟨_,rfl,?_⟩;rw [h111];refine sQ ?_;intro w hS;refine cQ (yad e.kind 114 _ _ _ hS) rfl ?_;clear hS;rintro e w ⟨rfl,hS⟩;refine ⟨_,rfl,?_⟩;rw [h114];refine sQ ?_;intro w hS;refine Sh.cut [(64,_)] ?_;exact ⟨_,rfl,(fun h=>(by (try simp at hb);(try simp at h);(try simp);(try omega))),hS.sb⟩
  ·refine sQ ?_;intro w hS;refine cQ (yad e.kind 111 _ _ _ hS) rfl ?_;clear hS;rintro e w ⟨rfl,hS⟩;refine ⟨_,rfl,?_⟩;rw [h111];refine sQ ?_;intro w hS;refine cQ (yad e.kind 114 _ _ _ hS) rfl ?_;clear hS;rintro e w ⟨rfl,hS⟩;refine ⟨_,rfl,?_⟩;rw [h114];refine sQ ?_;intro w hS;refine cQ (yal e.other 0 _ _ _ _ hS) rfl ?_;clear hS;rintro e w ⟨rfl,hS⟩;refine ⟨_,rfl,?_⟩
   repeat' first|refine K ?_|refine Sa ?_;intro w hS|refine K3 ?_;intro g w hS hge|refine KC ?_ ?_<;>intro hb<;>try exact JX|fail
   ·refine Sh.cut [(64,_)] ?_;exact ⟨_,rfl,(fun h=>(by (try simp at hb);(try simp at h);(try simp);(try omega))),hS.sb⟩
   ·refine cQ (yad e.kind 111 _ _ _ hS) rfl ?_;clear hS;rintro e w ⟨rfl,hS⟩;refine ⟨_,rfl,?_⟩;rw [h111];refine sQ ?_;intro w hS;refine cQ (yad e.kind 114 _ _ _ hS) rfl ?_;clear hS;rintro e w ⟨rfl,hS⟩;refine ⟨_,rfl,?_⟩;rw [h114];refine sQ ?_;intro w hS;refine Sh.cut [(64,_)] ?_;exact ⟨_,rfl,(fun h=>(by (try simp at hb);(try simp at h);(try simp);(try omega))),hS.sb⟩
  ·refine sQ ?_;intro w hS;refine cQ (yad e.kind 111 _ _ _ hS) rfl ?_;clear hS;rintro e w ⟨rfl,hS⟩;refine ⟨_,rfl,?_⟩;rw [h111];refine sQ ?_;intro w hS;refine cQ (yal e.other (-1) _ _ _ _ hS) rfl ?_;clear hS;rintro e w ⟨rfl,hS⟩;refine ⟨_,rfl,?_⟩
   repeat' first|refine K ?_|refine Sa ?_;intro w hS|refine K3 ?_;intro g w hS hge|refine KC ?_ ?_<;>intro hb<;>try exact JX|fail
   ·refine Sh.cut [(64,_)] ?_;exact ⟨_,rfl,(fun h=>(by (try simp at hb);(try simp at h);(try simp);(try omega))),hS.sb⟩
   ·refine Sh.cut [(64,_)] ?_;exact ⟨_,rfl,(fun h=>(by (try simp at hb);(try simp at h);(try simp);(try omega))),hS.sb⟩
   ·refine cQ (yad e.kind 114 _ _ _ hS) rfl ?_;clear hS;rintro e w ⟨rfl,hS⟩;refine ⟨_,rfl,?_⟩;rw [h114];refine sQ ?_;intro w hS;refine cQ (yad e.kind 111 _ _ _ hS) rfl ?_;clear hS;rintro e w ⟨rfl,hS⟩;refine ⟨_,rfl,?_⟩;rw [h111];refine sQ ?_;intro w hS;refine Sh.cut [(64,_)] ?_;exact ⟨_,rfl,(fun h=>(by (try simp at hb);(try simp at h);(try simp);(try omega))),hS.sb⟩
  ·refine sQ ?_;intro w hS;refine cQ (yad e.kind 111 _ _ _ hS) rfl ?_;clear hS;rintro e w ⟨rfl,hS⟩;refine ⟨_,rfl,?_⟩;rw [h111];refine sQ ?_;intro w hS;refine cQ (yal e.other (-1) _ _ _ _ hS) rfl ?_;clear hS;rintro e w ⟨rfl,hS⟩;refine ⟨_,rfl,?_⟩
   repeat' first|refine K ?_|refine Sa ?_;intro w hS|refine K3 ?_;intro g w hS hge|refine KC ?_ ?_<;>intro hb<;>try exact JX|fail
   ·refine Sh.cut [(64,_)] ?_;exact ⟨_,rfl,(fun h=>(by (try simp at hb);(try simp at h);(try simp);(try omega))),hS.sb⟩
   ·refine Sh.cut [(64,_)] ?_;exact ⟨_,rfl,(fun h=>(by (try simp at hb);(try simp at h);(try simp);(try omega))),hS.sb⟩
   ·refine cQ (yad e.kind 114 _ _ _ hS) rfl ?_;clear hS;rintro e w ⟨rfl,hS⟩;refine ⟨_,rfl,?_⟩;rw [h114];refine sQ ?_;intro w hS;refine cQ (yal e.other 0 _ _ _ _ hS) rfl ?_;clear hS;rintro e w ⟨rfl,hS⟩;refine ⟨_,rfl,?_⟩
    repeat' first|refine K ?_|refine Sa ?_;intro w hS|refine K3 ?_;intro g w hS hge|refine KC ?_ ?_<;>intro hb<;>try exact JX|fail
    ·refine Sh.cut [(64,_)] ?_;exact ⟨_,rfl,(fun h=>(by (try simp at hb);(try simp at h);(try simp);(try omega))),hS.sb⟩
    ·refine cQ (yad e.kind 111 _ _ _ hS) rfl ?_;clear hS;rintro e w ⟨rfl,hS⟩;refine ⟨_,rfl,?_⟩;rw [h111];refine sQ ?_;intro w hS;refine Sh.cut [(64,_)] ?_;exact ⟨_,rfl,(fun h=>(by (try simp at hb);(try simp at h);(try simp);(try omega))),hS.sb⟩
 clear hS;rintro f0 w _ ⟨b,rfl,hq2,hS⟩
 cases b
 case true=>
  refine sQ ?_;intro w hS;refine Dnt Tryz.results288 ?_;exact ⟨false,rfl,(fun h=>by cases h),hS.sb⟩
 replace hq2:=hq2 rfl;refine sQ ?_;intro w hS;refine Dnt Tryz.results288 ?_;exact ⟨true,rfl,(fun _=>⟨hq0,hq1,hq2.1,hq2.2⟩),hS.sb⟩
end Go.Proofs.YtfmnjbhncnldmaaGreat
