import Derived.Test.YtfmnjbhncnldmaaGreatW02
import Derived.Test.YtfmnjbhncnldmaaGreatW20
set_option maxHeartbeats 4000000
set_option linter.unusedSimpArgs false
set_option linter.unusedVariables false
namespace Go.Proofs.YtfmnjbhncnldmaaGreat
open Go.RowKit
attribute [local irreducible] Res.blk Res.sl Res.all Res.ex Res.pure Res.star
theorem zerosL_len (zs:List Value) (q:Nat):(Z.zerosL zs q).length=q * zs.length:=by
 induction q with
 | zero=>simp [Z.zerosL]
 | succ q ih=>simp [Z.zerosL,ih,Nat.add_mul,Nat.add_comm]
theorem sub_rows {α:Type} {c:α→List Value} {sz:Nat} (hc:∀ x,(c x).length=sz) {l:List α} {cs:List Value} (hct:cs.take (l.length * sz)=(l.map c).flatten) (a m:Nat) (h:a+m≤l.length):(cs.drop (a * sz)).take (m * sz)=(((l.drop a).take m).map c).flatten:=by
 have hlen:∀ l:List α,((l.map c).flatten).length=l.length * sz:=fun l=>by rw [flatten_length (sz:=sz) fun row hr=>by obtain ⟨x,_,rfl⟩:=List.mem_map.1 hr;exact hc x,List.length_map]
 have h1:l=l.take a++((l.drop a).take m++(l.drop a).drop m):=by rw [List.take_append_drop,List.take_append_drop]
 have h2:cs=cs.take (l.length * sz)++cs.drop (l.length * sz):=(List.take_append_drop _ _).symm;rw [hct] at h2
 conv at h2=>rhs;rw [h1]
 rw [List.map_append,List.flatten_append,List.map_append,List.flatten_append] at h2;rw [h2,List.append_assoc,List.drop_left' (by rw [hlen,List.length_take,Nat.min_eq_left oM]),List.append_assoc];exact List.take_left' (by rw [hlen,List.length_take,List.length_drop,Nat.min_eq_left oM])
theorem splice_grow {a x b cs:List Value} {A s B:Nat} (ha:cs.take A=a) (hal:a.length=A) (hx:x.length=s) (hb:b.length=B) (hl:A+s+B≤cs.length) :
  ((cs.take A++x++cs.drop (A+s)).take (A+s)++b++(cs.take A++x++cs.drop (A+s)).drop (A+s+B)).take (A+s+B)=a++x++b∧((cs.take A++x++cs.drop (A+s)).take (A+s)++b++(cs.take A++x++cs.drop (A+s)).drop (A+s+B)).length=cs.length:=by
 have h1:(cs.take A++x++cs.drop (A+s)).take (A+s)=a++x:=by rw [ha];exact List.take_left' (by simp;omega)
 constructor
 ·rw [h1];exact List.take_left' (by simp;omega)
 ·rw [h1];simp only [List.length_append,List.length_drop,List.length_take];omega
theorem splice_room {a x b cs:List Value} {A s B:Nat} (ha:cs.take A=a) (hal:a.length=A) (hx:x.length=s) (hb:b.length=B) (hl:A+s+B≤cs.length) :
  ((cs.take (A+s)++b++cs.drop (A+s+B)).take A++x++(cs.take (A+s)++b++cs.drop (A+s+B)).drop (A+s)).take (A+s+B)=a++x++b∧((cs.take (A+s)++b++cs.drop (A+s+B)).take A++x++(cs.take (A+s)++b++cs.drop (A+s+B)).drop (A+s)).length=cs.length:=by
 have hl1:(cs.take (A+s)).length=A+s:=by simp;omega
 have h1:(cs.take (A+s)++b++cs.drop (A+s+B)).take A=a:=by rw [List.append_assoc,List.take_append_of_le_length oM,List.take_take,Nat.min_eq_left oM,ha]
 have h2:(cs.take (A+s)++b++cs.drop (A+s+B)).drop (A+s)=b++cs.drop (A+s+B):=by rw [List.append_assoc];exact List.drop_left' hl1
 rw [h1,h2];constructor
 ·rw [← List.append_assoc];exact List.take_left' (by simp;omega)
 ·simp only [List.length_append,List.length_drop];omega
def It.val (x:It):Value:=.agg x.cells.toArray
def Le.val (x:Le):Value:=.agg x.cells.toArray
theorem it_ok {l:List It}:∀ row,row∈l.map It.cells→row.length=2∧∀ u,u∈row→u.oneCell'=true:=by
 intro row hr;obtain ⟨x,_,rfl⟩:=List.mem_map.1 hr;exact ⟨rfl,by simp [It.cells,Value.oneCell']⟩
theorem yd5 (l:List It):(l.map It.cells).flatten.length=l.length * 2:=by rw [flatten_length fun row hr=>(it_ok row hr).1,List.length_map]
theorem it_clone (l:List It) (v:Value) (r:World) (F:List Res) (w:World) (hS:Sep r [] F w) (hrd:Reads r F 2 v (l.map It.cells)) (hl:l.length≤100000) :
  Calls Tryz.prog 340 #[v] w fun e w'=>∃ A c,e=.returned (.slice A l.length c)∧Sep r [] (.sl 228 2 (.slice A l.length c) (l.map It.cells)::F) w':=by
 obtain ⟨_,A,c,hv,hnil,hc,_⟩:=hrd [] w hS;simp only [List.length_map] at hv hc;subst hv
 cases A with
 | none=>
  have hl0:l=[]:=by have:=hnil rfl;exact List.eq_nil_of_length_eq_zero oM
  subst hl0;refine Z.enter Tryz.func340 Tryz.ntmps340 rfl rfl ?_;refine sQ ?_;intro w hS;refine Dnt Tryz.results340 ?_;exact ⟨none,0,rfl,Z.nilsl hS _ _ none⟩
 | some a=>
  refine Z.enter Tryz.func340 Tryz.ntmps340 rfl rfl ?_
  repeat' first|refine K ?_|refine Sa ?_;clear hS;intro w hS|refine K3 ?_;clear hS;intro g w hS hge|refine KC ?_ ?_<;>intro hb<;>try exact JX|fail
  refine Z.eff (Z.ap0m hS rfl rfl rfl (hrd [_] _ hS) LnF LnF ?_) rfl;clear hS;intro A' c' w hS;refine sQ ?_;intro w hS;refine Dnt Tryz.results340 ?_;exact ⟨_,_,rfl,hS.sb⟩
theorem it_index (p:It→Bool) (FC:FuncId) [HasF Tryz.prog FC] (caps:List Value) (l:List It) (v:Value) (r:World) (F:List Res) (w:World) (hS:Sep r [] F w) (hrd:Reads r F 2 v (l.map It.cells)) (hl:l.length≤100000)
  (hp:∀ (L:List Res) (w:World) (x:It),Sep r [] (L++F) w→Calls Tryz.prog FC (x.val::caps).toArray w fun e w'=>e=.returned (.bool (p x))∧Sep r [] (L++F) w') :
  Calls Tryz.prog 341 #[v,.func (.func FC) #[] caps.toArray] w fun e w'=>∃ k:Int,e=.returned (.int .i64 k)∧Sep r [] F w'∧((k = -1∧∀ x,x∈l→p x=false)∨∃ (q:Nat) (hq:q < l.length),k=q∧p l[q]=true∧∀ x,x∈l.take q→p x=false):=by
 obtain ⟨A,c,rfl,hc⟩:=(hrd [] w hS).mform;refine Z.enter Tryz.func341 Tryz.ntmps341 rfl rfl ?_;refine sQ ?_;intro w hS;refine Z.lpS [4,5,8,9,10,11,12,13,14,15,16,17,18] (fun m w s=>∃ q:Nat,s=[(8,.int .i64 q)]∧q≤l.length∧(∀ x,x∈l.take q→p x=false)∧m=l.length - q∧Sep r [] F w) _ [(8,.int .i64 (0:Nat))] TrF ⟨0,rfl,oM,by simp,rfl,hS⟩ ?_;clear hS;rintro m f0 w _ ⟨q,rfl,hq,hall,rfl,hS⟩
 by_cases hlt:q < l.length
 ·obtain ⟨gb,o,rfl,_,hra⟩:=(hrd [] w hS).mat oM hlt;refine sQ ?_;intro w hS;refine Z.eff (Z.clf rfl (hp [] w l[q] hS) rfl ?_) rfl;clear hS;rintro e w ⟨rfl,hS⟩;refine ⟨_,rfl,?_⟩
  repeat' first|refine K ?_|refine Sa ?_;clear hS;intro w hS|refine K3 ?_;clear hS;intro g w hS hge|refine KC ?_ ?_<;>intro hb<;>try exact JX|fail
  ·refine Dnt Tryz.results341 ?_;exact ⟨q,rfl,hS,.inr ⟨q,hlt,rfl,hb,hall⟩⟩
  ·refine Sh.again (l.length - (q+1)) [(8,.int .i64 (q+1:Nat))] ?_;refine ⟨q+1,rfl,oM,fun x hx=>?_,rfl,hS⟩;rw [List.take_succ_eq_append_getElem hlt,List.mem_append] at hx
   rcases hx with hx|hx
   ·exact hall x hx
   ·simp at hx;subst hx;exact hb
 ·refine sQ ?_;intro w hS;refine Dnt Tryz.results341 ?_;exact ⟨-1,rfl,hS,.inl ⟨rfl,fun x hx=>hall x (by rw [List.take_of_length_le oM];exact hx)⟩⟩
theorem it_del (l:List It) (i:Nat) (A:Option Addr) (c:Nat) (r:World) (F:List Res) (w:World) (hS:Sep r [] (.sl 228 2 (.slice A l.length c) (l.map It.cells)::F) w) (hi:i < l.length) (hl:l.length≤100000) :
  Calls Tryz.prog 351 #[.slice A l.length c,.int .i64 (i:Nat),.int .i64 ((i:Int)+1)] w fun e w'=>∃ A' c',e=.returned (.slice A' (l.take i++l.drop (i+1)).length c')∧Sep r [] (.sl 228 2 (.slice A' (l.take i++l.drop (i+1)).length c') ((l.take i++l.drop (i+1)).map It.cells)::F) w':=by
 have ei:(i:Int).toNat=i:=rfl;have ej:((i:Int)+1).toNat=i+1:=by omega
 obtain ⟨g0,cs,rfl,_,hnc,hcm,hcl,hct,_,hS⟩:=yar hS (by simp;omega);have hsub:=fun a m h=>sub_rows (c:=It.cells) (sz:=2) (fun _=>rfl) (l:=l) (cs:=cs) hct a m h
 have hta:cs.take (i * 2)=((l.take i).map It.cells).flatten:=by have:=hsub 0 i oM;simpa using this
 have hal:((l.take i).map It.cells).flatten.length=i * 2:=by rw [yd5,List.length_take,Nat.min_eq_left oM]
 have hbl:((l.drop (i+1)).map It.cells).flatten.length=(l.length - (i+1)) * 2:=by rw [yd5,List.length_drop]
 have hdj:(cs.drop ((i+1) * 2)).take ((l.length - (i+1)) * 2)=((l.drop (i+1)).map It.cells).flatten:=by
  have:=hsub (i+1) (l.length - (i+1)) oM;rw [List.take_of_length_le (l:=l.drop (i+1)) (by simp)] at this;exact this
 have hfl:(l.take i++l.drop (i+1)).length=l.length - 1:=by simp;omega
 have hnn:i+(l.length - (i+1))=l.length - 1:=by omega
 have hcc:l.length * 2≤c * 2:=Nat.mul_le_mul_right _ hnc;refine Z.enter Tryz.func351 Tryz.ntmps351 rfl rfl ?_;refine sQ ?_;intro w hS;refine Z.pl (R.span3 rfl rfl rfl rfl rfl oM oM oM) ?_;refine sQ ?_;intro w hS;refine Z.cut [0,20,21,22,23,24,25,26] (fun w s=>s=[(0,.slice (some ⟨g0,0,none⟩) (i+(l.length - (i+1))) c)]∧Sep r [] (.blk g0 228 (cs.take (i * 2)++((l.drop (i+1)).map It.cells).flatten++cs.drop ((i+(l.length - (i+1))) * 2))::F) w) ?_ ?_
 ·by_cases hic:i+1 < c
  ·refine D.startS (Lr:=([]:List Res)) (hS.sb) 8 8 kR rfl ?_;replace hS:=hS.drew;refine Sh.dp 0 1 ?_;refine Sh.dp 1 3 ?_;refine D.pl 2 7 rfl D.wantedN kR (R.upto rfl rfl rfl oM) ?_;refine Sh.dp 3 15 ?_;refine Sh.dp 4 31 ?_;refine D.pl 5 63 rfl D.wantedN kR (R.sinceL rfl rfl rfl oM oM) ?_;refine D.ef 6 127 ?_;refine Z.apf (ys:=(l.drop (i+1)).map It.cells) hS rfl rfl rfl AtF (rows_mid (hS.bk) it_ok (by first|(simp;done)|(simp;omega)) (Nat.le_refl _) (by rw [ej,Nat.zero_add];exact hdj)) oM (by rw [hcl,ei,ej];omega) ?_;clear hS;intro w hS;refine HMs ?_;refine Sh.dp 7 255 ?_;refine D.dn ?_;refine Sh.cut [(0,_)] ?_;rw [ej,ei] at hS;exact ⟨by rw [ej];rfl,hS⟩
  ·refine D.startS (Lr:=([]:List Res)) (hS.sb) 8 8 kR rfl ?_;replace hS:=hS.drew;refine Sh.dp 0 1 ?_;refine Sh.dp 1 3 ?_;refine D.pl 2 7 rfl D.wantedN kR (R.upto rfl rfl rfl oM) ?_;refine Sh.dp 3 15 ?_;refine Sh.dp 4 31 ?_;refine D.pl 5 63 rfl D.wantedN kR (R.sinceE rfl rfl rfl oM oM) ?_;refine D.ef 6 127 ?_;refine Z.apf (ys:=(l.drop (i+1)).map It.cells) hS rfl rfl rfl AtF (rows_mid (hS.bk) it_ok (by first|(simp;done)|(simp;omega)) (Nat.le_refl _) (by have h0:l.length - (i+1)=0:=oM;have h1:l.drop (i+1)=[]:=List.drop_eq_nil_of_le oM;rw [ej,h0,h1];simp)) oM (by rw [hcl,ei,ej];omega) ?_;clear hS;intro w hS;refine HMs ?_;refine Sh.dp 7 255 ?_;refine D.dn ?_;refine Sh.cut [(0,_)] ?_;rw [ej,ei] at hS;exact ⟨by rw [ej];rfl,hS⟩
 clear hS;rintro f1 w _ ⟨rfl,hS⟩;refine sQ ?_;intro w hS;refine Z.eff (Z.clr hS rfl rfl AtF (by simp only [List.length_append,List.length_take,List.length_drop,hcl,hbl];omega) rfl ?_) rfl;clear hS;intro w hS;refine sQ ?_;intro w hS;refine Dnt Tryz.results351 ?_;refine ⟨some ⟨g0,0,none⟩,c,by rw [hfl,← hnn];rfl,?_⟩;have h3:=yao (rows:=(l.take i++l.drop (i+1)).map It.cells) (c:=c) hS oM hcm ?_ (by simp;omega) ?_ it_ok
 ·rw [List.length_map] at h3;exact h3
 ·simp only [List.length_append,List.length_take,List.length_drop,hcl,hbl,zerosL_len,List.length_cons,List.length_nil];omega
 ·rw [List.length_map,hfl,← hnn,List.map_append,List.flatten_append,hta];have e1:((((l.take i).map It.cells).flatten++((l.drop (i+1)).map It.cells).flatten).length)=(i+(l.length - (i+1))) * 2:=by rw [List.length_append,hal,hbl];omega
  have e2:0+((i+(l.length - (i+1)):Nat):Int).toNat * 2=(i+(l.length - (i+1))) * 2:=by omega
  rw [e2,List.append_assoc,List.take_append_of_le_length (by simp only [List.length_take,List.length_append,hal,hbl,List.length_drop,hcl];omega),List.take_take,Nat.min_self];exact List.take_left' e1
theorem le_ok {l:List Le}:∀ row,row∈l.map Le.cells→row.length=4∧∀ u,u∈row→u.oneCell'=true:=by
 intro row hr;obtain ⟨x,_,rfl⟩:=List.mem_map.1 hr;exact ⟨rfl,by simp [Le.cells,Value.oneCell']⟩
theorem yco (l:List Le):(l.map Le.cells).flatten.length=l.length * 4:=by rw [flatten_length fun row hr=>(le_ok row hr).1,List.length_map]
theorem le_clone (l:List Le) (v:Value) (r:World) (F:List Res) (w:World) (hS:Sep r [] F w) (hrd:Reads r F 4 v (l.map Le.cells)) (hl:l.length≤100000) :
  Calls Tryz.prog 355 #[v] w fun e w'=>∃ A c,e=.returned (.slice A l.length c)∧Sep r [] (.sl 230 4 (.slice A l.length c) (l.map Le.cells)::F) w':=by
 obtain ⟨_,A,c,hv,hnil,hc,_⟩:=hrd [] w hS;simp only [List.length_map] at hv hc;subst hv
 cases A with
 | none=>
  have hl0:l=[]:=by have:=hnil rfl;exact List.eq_nil_of_length_eq_zero oM
  subst hl0;refine Z.enter Tryz.func355 Tryz.ntmps355 rfl rfl ?_;refine sQ ?_;intro w hS;refine Dnt Tryz.results355 ?_;exact ⟨none,0,rfl,Z.nilsl hS _ _ none⟩
 | some a=>
  refine Z.enter Tryz.func355 Tryz.ntmps355 rfl rfl ?_
  repeat' first|refine K ?_|refine Sa ?_;clear hS;intro w hS|refine K3 ?_;clear hS;intro g w hS hge|refine KC ?_ ?_<;>intro hb<;>try exact JX|fail
  refine Z.eff (Z.ap0m hS rfl rfl rfl (hrd [_] _ hS) LnF LnF ?_) rfl;clear hS;intro A' c' w hS;refine sQ ?_;intro w hS;refine Dnt Tryz.results355 ?_;exact ⟨_,_,rfl,hS.sb⟩
theorem le_index (p:Le→Bool) (FC:FuncId) [HasF Tryz.prog FC] (caps:List Value) (l:List Le) (v:Value) (r:World) (F:List Res) (w:World) (hS:Sep r [] F w) (hrd:Reads r F 4 v (l.map Le.cells)) (hl:l.length≤100000)
  (hp:∀ (L:List Res) (w:World) (x:Le),Sep r [] (L++F) w→Calls Tryz.prog FC (x.val::caps).toArray w fun e w'=>e=.returned (.bool (p x))∧Sep r [] (L++F) w') :
  Calls Tryz.prog 398 #[v,.func (.func FC) #[] caps.toArray] w fun e w'=>∃ k:Int,e=.returned (.int .i64 k)∧Sep r [] F w'∧((k = -1∧∀ x,x∈l→p x=false)∨∃ (q:Nat) (hq:q < l.length),k=q∧p l[q]=true∧∀ x,x∈l.take q→p x=false):=by
 obtain ⟨A,c,rfl,hc⟩:=(hrd [] w hS).mform;refine Z.enter Tryz.func398 Tryz.ntmps398 rfl rfl ?_;refine sQ ?_;intro w hS;refine Z.lpS [4,5,8,9,10,11,12,13,14,15,16,17,18] (fun m w s=>∃ q:Nat,s=[(8,.int .i64 q)]∧q≤l.length∧(∀ x,x∈l.take q→p x=false)∧m=l.length - q∧Sep r [] F w) _ [(8,.int .i64 (0:Nat))] TrF ⟨0,rfl,oM,by simp,rfl,hS⟩ ?_;clear hS;rintro m f0 w _ ⟨q,rfl,hq,hall,rfl,hS⟩
 by_cases hlt:q < l.length
 ·obtain ⟨gb,o,rfl,_,hra⟩:=(hrd [] w hS).mat oM hlt;refine sQ ?_;intro w hS;refine Z.eff (Z.clf rfl (hp [] w l[q] hS) rfl ?_) rfl;clear hS;rintro e w ⟨rfl,hS⟩;refine ⟨_,rfl,?_⟩
  repeat' first|refine K ?_|refine Sa ?_;clear hS;intro w hS|refine K3 ?_;clear hS;intro g w hS hge|refine KC ?_ ?_<;>intro hb<;>try exact JX|fail
  ·refine Dnt Tryz.results398 ?_;exact ⟨q,rfl,hS,.inr ⟨q,hlt,rfl,hb,hall⟩⟩
  ·refine Sh.again (l.length - (q+1)) [(8,.int .i64 (q+1:Nat))] ?_;refine ⟨q+1,rfl,oM,fun x hx=>?_,rfl,hS⟩;rw [List.take_succ_eq_append_getElem hlt,List.mem_append] at hx
   rcases hx with hx|hx
   ·exact hall x hx
   ·simp at hx;subst hx;exact hb
 ·refine sQ ?_;intro w hS;refine Dnt Tryz.results398 ?_;exact ⟨-1,rfl,hS,.inl ⟨rfl,fun x hx=>hall x (by rw [List.take_of_length_le oM];exact hx)⟩⟩
theorem le_delete (p:Le→Bool) (FC:FuncId) [HasF Tryz.prog FC] (caps:List Value) (l:List Le) (A:Option Addr) (c:Nat) (r:World) (F:List Res) (w:World) (hS:Sep r [] (.sl 230 4 (.slice A l.length c) (l.map Le.cells)::F) w) (hl:l.length≤100000)
  (hp:∀ (L:List Res) (w:World) (x:Le),Sep r [] (L++F) w→Calls Tryz.prog FC (x.val::caps).toArray w fun e w'=>e=.returned (.bool (p x))∧Sep r [] (L++F) w') :
  Calls Tryz.prog 352 #[.slice A l.length c,.func (.func FC) #[] caps.toArray] w fun e w'=>∃ A' c',e=.returned (.slice A' (l.filter fun x=>!p x).length c')∧Sep r [] (.sl 230 4 (.slice A' (l.filter fun x=>!p x).length c') ((l.filter fun x=>!p x).map Le.cells)::F) w':=by
 refine Z.enter Tryz.func352 Tryz.ntmps352 rfl rfl ?_;refine sQ ?_;intro w hS;refine cQ (le_index p FC caps l _ _ _ _ hS (Reads.of_at AtF) hl (fun L w x h=>by have h1:=hp (L++[_]) w x (by rw [List.append_assoc];exact h);rw [List.append_assoc] at h1;exact h1)) rfl ?_;clear hS;rintro e w ⟨k,rfl,hS,hk⟩;refine ⟨_,rfl,?_⟩
 rcases hk with ⟨rfl,hno⟩|⟨q,hq,rfl,hpq,hno⟩
 ·refine sQ ?_;intro w hS;refine Dnt Tryz.results352 ?_;have e:(l.filter fun x=>!p x)=l:=List.filter_eq_self.2 fun x hx=>by simp [hno x hx]
  rw [e];exact ⟨_,_,rfl,hS⟩
 have hfq:(l.take (q+1)).filter (fun x=>!p x)=l.take q:=by
  rw [List.take_succ_eq_append_getElem hq,List.filter_append];simp only [List.filter_cons,List.filter_nil,hpq];simp only [Bool.not_true,Bool.false_eq_true,if_false,List.append_nil];exact List.filter_eq_self.2 fun x hx=>by simp [hno x hx]
 have hql:(l.take q).length=q:=by rw [List.length_take];omega
 refine sQ ?_;intro w hS;obtain ⟨g0,rfl⟩:=Z.Sep_slform hS .here (by simpa using (by omega:0 < l.length));refine Z.lpS [5,6,7,16,17,18,19,20,21,22,23,24,25,26,27,28,29,30,31,32,33,34,35] (fun m w s=>∃ (i j:Nat) (us:List Le),s=[(5,.int .i64 i),(6,.int .i64 j)]∧us.length=l.length∧i < j∧j≤l.length∧us.take i=(l.take j).filter (fun x=>!p x)∧((l.take j).filter (fun x=>!p x)).length=i∧us.drop j=l.drop j∧m=l.length - j∧
  Sep r [] (.sl 230 4 (.slice (some ⟨g0,0,none⟩) l.length c) (us.map Le.cells)::F) w) _ [(5,.int .i64 (q:Nat)),(6,.int .i64 (q+1:Nat))] TrF ⟨q,q+1,l,rfl,rfl,oM,oM,hfq.symm,by rw [hfq];exact hql,rfl,rfl,hS⟩ ?_
 clear hS;rintro m f0 w _ ⟨i,j,us,rfl,hus,hij,hj,hti,hil,hdj,rfl,hS⟩
 by_cases hlt:j < l.length
 ·have hjus:j < us.length:=by omega
  have hra:=(hS.slrows .here).elem oM hjus;have huj:us[j]=l[j]:=by
   have h1:=congrArg (fun z=>z[0]?) hdj;simp only [List.getElem?_drop,Nat.add_zero] at h1;rw [List.getElem?_eq_getElem hjus,List.getElem?_eq_getElem hlt] at h1;exact Option.some.inj h1
  rw [huj] at hra;have hnext:(l.take (j+1)).filter (fun x=>!p x)=(l.take j).filter (fun x=>!p x)++(if p l[j] then [] else [l[j]]):=by
   rw [List.take_succ_eq_append_getElem hlt,List.filter_append]
   congr 1
   cases hpj:p l[j]<;>simp [hpj]
  repeat' first|refine K ?_|refine Sa ?_;clear hS;intro w hS|refine K3 ?_;clear hS;intro g w hS hge|refine KC ?_ ?_<;>intro hb<;>try exact JX|fail
  rename Nat=>gx;refine Z.eff (Z.clf rfl (hp [_,_] w l[j] hS) rfl ?_) rfl;clear hS hra;rintro e w ⟨rfl,hS⟩;refine ⟨_,rfl,?_⟩;replace hS:Sep r [] (_::_::F) w:=hS
  repeat' first|refine K ?_|refine Sa ?_;clear hS;intro w hS|refine K3 ?_;clear hS;intro g w hS hge|refine KC ?_ ?_<;>intro hb<;>try exact JX|fail
  ·refine Z.eff (Z.stEm l[j] hS rfl AtF oM rfl rfl rfl rfl ?_) rfl;clear hS;intro w hS;refine sQ ?_;intro w hS;refine Sh.again (l.length - (j+1)) [(5,.int .i64 (i+1:Nat)),(6,.int .i64 (j+1:Nat))] ?_;have hpj:p l[j]=false:=hb;have hn:=hnext;rw [hpj] at hn;simp only [Bool.false_eq_true,if_false] at hn;refine ⟨i+1,j+1,us.set i l[j],rfl,by simpa using hus,oM,oM,?_,by rw [hn,List.length_append,hil];rfl,?_,rfl,hS.sb⟩
   ·rw [hn,List.take_succ_eq_append_getElem (by simp;omega),List.getElem_set_self,List.take_set_of_le (Nat.le_refl _),hti]
   ·rw [List.drop_set_of_lt oM];have h1:=congrArg (fun z=>z.drop 1) hdj
    simpa [List.drop_drop] using h1
  ·refine Sh.again (l.length - (j+1)) [(5,.int .i64 (i:Nat)),(6,.int .i64 (j+1:Nat))] ?_;have hpj:p l[j]=true:=hb;have hn:=hnext;rw [hpj] at hn;simp only [if_true,List.append_nil] at hn;refine ⟨i,j+1,us,rfl,hus,oM,oM,by rw [hn];exact hti,by rw [hn];exact hil,?_,rfl,hS.sb⟩;have h1:=congrArg (fun z=>z.drop 1) hdj
   simpa [List.drop_drop] using h1
 ·have hje:j=l.length:=by omega
  subst hje;rw [List.take_length] at hti hil;obtain ⟨g1,cs,hA,hn,hnc,hcm,hcl,hct,_,hS⟩:=yar hS (by simp;omega)
  injection hA with hA
  injection hA with hA _
  subst hA;clear hn;refine sQ ?_;intro w hS;refine Z.eff (Z.clr hS rfl rfl AtF (by rw [hcl];have:(0+(i:Int).toNat * 4+(l.length - (i:Int).toNat) * 4)=l.length * 4:=oM;rw [this];exact Nat.mul_le_mul_right _ hnc) rfl ?_) rfl;clear hS;intro w hS;refine sQ ?_;intro w hS;refine Dnt Tryz.results352 ?_;refine ⟨_,c,by rw [hil];rfl,?_⟩;have e1:(i:Int).toNat=i:=rfl;rw [hil];have:=yao (rows:=(l.filter fun x=>!p x).map Le.cells) (c:=c) hS oM hcm ?_ (by simp;omega) ?_ le_ok
  ·simpa [hil] using this
  ·simp only [List.length_append,List.length_take,List.length_drop,hcl,zerosL_len,e1,List.length_cons,List.length_nil];have h2:l.length * 4≤c * 4:=Nat.mul_le_mul_right _ hnc;omega
  ·have h2:l.length * 4≤c * 4:=Nat.mul_le_mul_right _ hnc;have h3:i * 4≤l.length * 4:=Nat.mul_le_mul_right _ oM;rw [List.length_map,hil,List.append_assoc,List.take_append_of_le_length (by simp [hcl,e1];omega),e1,Nat.zero_add,List.take_take,Nat.min_self];have h4:cs.take (i * 4)=((us.map Le.cells).flatten).take (i * 4):=by rw [← hct,List.take_take,Nat.min_eq_left h3]
   rw [h4,← hti];have h5:(us.map Le.cells).flatten=((us.take i).map Le.cells).flatten++((us.drop i).map Le.cells).flatten:=by rw [← List.flatten_append,← List.map_append,List.take_append_drop]
   rw [h5];exact List.take_left' (by rw [yco];simp;omega)
theorem le_overlaps (g g' o m c:Nat) (cs cs':List Value) (r:World) (F:List Res) (w:World) (hS:Sep r [] (.blk g 230 cs::.blk g' 230 cs'::F) w) (h0:0 < cs'.length) :
  (callFunc 336 #[.slice (some ⟨g,0,none⟩) 1 1,.slice (some ⟨g',o,none⟩) m c]).run Tryz.prog w=.ok (.value (.bool false)) w:=by
 have hb:=hS.blk .here;have hb':=hS.blk (.next .here);have hs:w.shape? g=some (230,cs.length):=by have:w.heap[g]?=some (.cells cs.toArray 230 (0,0)):=hb;simp [World.shape?,this]
 have hs':w.shape? g'=some (230,cs'.length):=by have:w.heap[g']?=some (.cells cs'.toArray 230 (0,0)):=hb';simp [World.shape?,this]
 rw [run_callFunc_extern Tryz.func336 kR kR kR (e:=Extern.SlicesOverlaps.overlaps #[309,309] #[4]) kR,
  Lib.run_overlaps_apart w 309 4 230 Tryz.underlying309 4 (fun w=>by rw [Tryz.sizeOf230]) ⟨g,0,none⟩ ⟨g',o,none⟩ 1 1 m c (blk_ne hS) _ _ _ _ hs hs' oM (hb.frozen _) (hb.frozen _)]
 rfl
theorem le_insert (l:List Le) (i:Nat) (x:Le) (A:Option Addr) (c gl:Nat) (r:World) (F:List Res) (w:World) (hS:Sep r [] (.sl 230 4 (.slice A l.length c) (l.map Le.cells)::.blk gl 230 x.cells::F) w) (hi:i≤l.length) (hl:l.length≤100000) :
  Calls Tryz.prog 269 #[.slice A l.length c,.int .i64 (i:Nat),.slice (some ⟨gl,0,none⟩) 1 1] w fun e w'=>∃ A' c',e=.returned (.slice A' (l.length+1) c')∧Sep r [] (.sl 230 4 (.slice A' (l.length+1) c') ((l.take i++x::l.drop i).map Le.cells)::.blk gl 230 x.cells::F) w':=by
 have ei:(i:Int).toNat=i:=rfl
 by_cases hlt:i < l.length
 case neg=>
  refine Z.enter Tryz.func269 Tryz.ntmps269 rfl rfl ?_;refine sQ ?_;intro w hS;refine Z.eff (Z.apm (l':=[x]) hS rfl rfl rfl AtF (hS.lit1 AtF rfl rfl) LnF LnF ?_) rfl;clear hS;intro A' c' w hS;refine sQ ?_;intro w hS;refine Dnt Tryz.results269 ?_;have hie:i=l.length:=by omega
  subst hie;rw [List.take_length,List.drop_length];exact ⟨_,_,rfl,hS.sb⟩
 case pos=>
 obtain ⟨g0,cs,rfl,_,hnc,hcm,hcl,hct,_,hS⟩:=yar hS (by simp;omega);have hsub:=fun a m h=>sub_rows (c:=Le.cells) (sz:=4) (fun _=>rfl) (l:=l) (cs:=cs) hct a m h
 have hta:cs.take (i * 4)=((l.take i).map Le.cells).flatten:=by have:=hsub 0 i oM;simpa using this
 have hal:((l.take i).map Le.cells).flatten.length=i * 4:=by rw [yco,List.length_take,Nat.min_eq_left hi]
 have hbl:((l.drop i).map Le.cells).flatten.length=(l.length - i) * 4:=by rw [yco,List.length_drop]
 have hdi:(cs.drop (0+(i:Int).toNat * 4)).take ((l.length - i) * 4)=((l.drop i).map Le.cells).flatten:=by
  have:=hsub i (l.length - i) oM;rw [List.take_of_length_le (l:=l.drop i) (by simp)] at this;rw [ei,Nat.zero_add];exact this
 have hfin:((l.take i++x::l.drop i).map Le.cells).flatten=((l.take i).map Le.cells).flatten++x.cells++((l.drop i).map Le.cells).flatten:=by simp
 have hfl:(l.take i++x::l.drop i).length=l.length+1:=by simp;omega
 refine Z.enter Tryz.func269 Tryz.ntmps269 rfl rfl ?_
 repeat' first|refine K ?_|refine Sa ?_;clear hS;intro w hS|refine K3 ?_;clear hS;intro g w hS hge|refine KC ?_ ?_<;>intro hb<;>try exact JX|fail
 ·
  have hsrc:Rows' w 4 (.slice (some ⟨g0,0,none⟩) (i:Int).toNat c) ((l.take i).map Le.cells):=rows_mid (hS.bk) le_ok (by simp;omega) oM (by rw [List.drop_zero];exact hta);refine Z.eff (Z.apz (m:=l.length+1 - i) hS rfl rfl rfl Tryz.underlying3 oM hsrc rfl oM oM oM (by show _≤9223372036854775807;omega) ?_) rfl;clear hS hsrc;intro A' c' w hS;obtain ⟨g2,cs2,rfl,_,hnc2,hcm2,hcl2,hct2,_,hS⟩:=yar hS (by simp;omega);have ht2:cs2.take (i * 4)=((l.take i).map Le.cells).flatten:=by
   have h1:i * 4≤((i:Int).toNat+(l.length+1 - i)) * 4:=Nat.mul_le_mul_right _ oM;rw [← Nat.min_eq_left h1,← List.take_take,hct2,List.flatten_append];exact List.take_left' hal
  clear hct2;refine sQ ?_;intro w hS;refine Z.eff (Z.cp 1 hS rfl rfl rfl AtF oM (hS.lit1 (row:=x.cells) AtF rfl rfl) (by rw [hcl2];omega) ?_) rfl;clear hS;intro w hS;refine sQ ?_;intro w hS;refine D.startS (Lr:=([]:List Res)) (hS.sb) 9 9 kR rfl ?_;replace hS:=hS.drew;refine Sh.dp 0 1 ?_;refine Sh.dp 1 3 ?_;refine Sh.dp 2 7 ?_
  first|refine D.sum 3 15 rfl D.wantedN kR rfl (by constructor<;>omega) ?_|refine D.sumW 3 15 rfl D.wantedN kR rfl ?_
  refine D.pl 4 31 rfl D.wantedN kR (R.sinceL rfl rfl rfl oM oM) ?_;refine Sh.dp 5 63 ?_;refine Sh.dp 6 127 ?_;refine D.pl 7 255 rfl D.wantedN kR (R.sinceL rfl rfl rfl oM oM) ?_;refine D.ef 8 511 ?_;refine Z.cp (l.length - i) hS rfl rfl rfl AtF oM (rows_mid (rows:=(l.drop i).map Le.cells) (hS.bk) le_ok (by simp) (Nat.le_refl _) hdi) (by simp only [List.length_append,List.length_take,List.length_drop,hcl2,List.flatten_cons,List.flatten_nil,List.append_nil,Le.cells,List.length_cons,List.length_nil];omega) ?_;clear hS;intro w hS;refine HMs ?_;refine D.dn ?_;refine sQ ?_;intro w hS;refine Dnt Tryz.results269 ?_;refine ⟨_,c',by rw [show (i:Int).toNat+(l.length+1 - i)=l.length+1 by omega];rfl,?_⟩;have e2:((i:Int)+(1:Nat)).toNat=i+1:=by omega
  obtain ⟨h1,h2⟩:=splice_grow (a:=((l.take i).map Le.cells).flatten) (x:=x.cells) (b:=((l.drop i).map Le.cells).flatten) (A:=i * 4) (s:=4) (B:=(l.length - i) * 4) (cs:=cs2) ht2 hal rfl hbl (by rw [hcl2];omega);have h3:=yao (rows:=(l.take i++x::l.drop i).map Le.cells) (c:=c') (sz:=4) (cs:=(cs2.take (i * 4)++x.cells++cs2.drop (i * 4+4)).take (i * 4+4)++((l.drop i).map Le.cells).flatten++(cs2.take (i * 4)++x.cells++cs2.drop (i * 4+4)).drop (i * 4+4+(l.length - i) * 4)) (g:=g2) (e:=230) (F:=.blk gl 230 x.cells::F) (r:=r) (M:=[]) (w:=w) (by
   have h4:=hS.sub (L':=.blk g2 230 _::.blk gl 230 x.cells::F) SuF;simp only [List.flatten_cons,List.flatten_nil,List.append_nil,Nat.zero_add,Nat.one_mul,ei,e2,Nat.add_mul] at h4;exact h4) oM hcm2 (by rw [h2,hcl2]) (by simp;omega) (by rw [List.length_map,hfl,hfin,← h1];congr 1;omega) le_ok
  rw [List.length_map,hfl] at h3;exact h3
 ·
  refine Z.eff (Z.clx (le_overlaps gl g0 _ _ _ _ _ r _ w (hS.sub (L':=.blk gl 230 x.cells::.blk g0 230 cs::F) SuF) (by rw [hcl];omega)) rfl ?_) rfl;refine sQ ?_;intro w hS;refine D.startS (Lr:=([]:List Res)) (hS.sb) 9 9 kR rfl ?_;replace hS:=hS.drew;refine Sh.dp 0 1 ?_;refine Sh.dp 1 3 ?_;refine Sh.dp 2 7 ?_
  first|refine D.sum 3 15 rfl D.wantedN kR rfl (by constructor<;>omega) ?_|refine D.sumW 3 15 rfl D.wantedN kR rfl ?_
  refine D.pl 4 31 rfl D.wantedN kR (R.sinceL rfl rfl rfl oM oM) ?_;refine Sh.dp 5 63 ?_;refine Sh.dp 6 127 ?_;refine D.pl 7 255 rfl D.wantedN kR (R.sinceL rfl rfl rfl oM oM) ?_;refine D.ef 8 511 ?_;refine Z.cp (l.length - i) hS rfl rfl rfl AtF oM (rows_mid (rows:=(l.drop i).map Le.cells) (hS.bk) le_ok (by simp) (Nat.le_refl _) hdi) (by rw [hcl];omega) ?_;clear hS;intro w hS;refine HMs ?_;refine D.dn ?_;refine sQ ?_;intro w hS;refine Z.eff (Z.cp 1 hS rfl rfl rfl AtF oM (hS.lit1 (row:=x.cells) AtF rfl rfl) (by simp only [List.length_append,List.length_take,List.length_drop,hcl,hbl];omega) ?_) rfl;clear hS;intro w hS;refine sQ ?_;intro w hS;refine Dnt Tryz.results269 ?_;refine ⟨_,c,by rw [show ((l.length:Int)+(1:Nat)).toNat=l.length+1 by omega];rfl,?_⟩;have e2:((i:Int)+(1:Nat)).toNat=i+1:=by omega
  obtain ⟨h1,h2⟩:=splice_room (a:=((l.take i).map Le.cells).flatten) (x:=x.cells) (b:=((l.drop i).map Le.cells).flatten) (A:=i * 4) (s:=4) (B:=(l.length - i) * 4) (cs:=cs) hta hal rfl hbl (by rw [hcl];omega);have h3:=yao (rows:=(l.take i++x::l.drop i).map Le.cells) (c:=c) (sz:=4) (cs:=(cs.take (i * 4+4)++((l.drop i).map Le.cells).flatten++cs.drop (i * 4+4+(l.length - i) * 4)).take (i * 4)++x.cells++(cs.take (i * 4+4)++((l.drop i).map Le.cells).flatten++cs.drop (i * 4+4+(l.length - i) * 4)).drop (i * 4+4)) (g:=g0) (e:=230) (F:=.blk gl 230 x.cells::F) (r:=r) (M:=[]) (w:=w) (by
   have h4:=hS.sub (L':=.blk g0 230 _::.blk gl 230 x.cells::F) SuF;simp only [List.flatten_cons,List.flatten_nil,List.append_nil,Nat.zero_add,Nat.one_mul,ei,e2,Nat.add_mul] at h4;exact h4) oM hcm (by rw [h2,hcl]) (by simp;omega) (by rw [List.length_map,hfl,hfin,← h1];congr 1;omega) le_ok
  rw [List.length_map,hfl] at h3;exact h3
def PQ (g:Nat) (q:Qu):Res:=.ex fun A=>.ex fun c=>.ex fun B=>.ex fun d=>.all [.blk g 311 [.slice A q.l.length c,.slice B q.r.length d,.int .i64 q.most],.sl 228 2 (.slice A q.l.length c) (q.l.map It.cells),.sl 230 4 (.slice B q.r.length d) (q.r.map Le.cells)]
theorem Sep.PQ_open {r w:World} {M:List Nat} {F:List Res} {g:Nat} {q:Qu}:Sep r M (PQ g q::F) w↔∃ A c B d,Sep r M (.blk g 311 [.slice A q.l.length c,.slice B q.r.length d,.int .i64 q.most]::.sl 228 2 (.slice A q.l.length c) (q.l.map It.cells)::.sl 230 4 (.slice B q.r.length d) (q.r.map Le.cells)::F) w:=by
 simp only [PQ,Sep.ex_open,Sep.all_open,List.cons_append,List.nil_append]
def Qu.zero:Qu:=⟨[],[],0⟩
theorem yh3 (r:World) (F:List Res) (w:World) (hS:Sep r [] F w):Calls Tryz.prog 187 #[] w fun e w'=>∃ g,e=.returned (.pointer (some ⟨g,0,none⟩))∧Sep r [] (PQ g .zero::F) w':=by
 refine Z.enter Tryz.func187 Tryz.ntmps187 rfl rfl ?_;refine aQ1 ?_;intro g w hS;refine Dnt Tryz.results187 ?_;replace hS:=Z.nilsl (Z.nilsl hS 228 2 none) 230 4 none;exact ⟨_,rfl,Sep.PQ_open.2 ⟨none,0,none,0,hS.sb⟩⟩
theorem ycG (g:Nat) (q:Qu) (r:World) (F:List Res) (w:World) (hS:Sep r [] (PQ g q::F) w) (hl:q.l.length≤100000):Calls Tryz.prog 271 #[.pointer (some ⟨g,0,none⟩)] w fun e w'=>∃ A c,e=.returned (.slice A q.l.length c)∧Sep r [] (.sl 228 2 (.slice A q.l.length c) (q.l.map It.cells)::PQ g q::F) w':=by
 obtain ⟨A,c,B,d,hS⟩:=Sep.PQ_open.1 hS;refine Z.enter Tryz.func271 Tryz.ntmps271 rfl rfl ?_;refine sQ ?_;intro w hS;refine cQ (it_clone q.l _ _ _ _ hS (Reads.of_at AtF) hl) rfl ?_;clear hS;rintro e w ⟨A1,c1,rfl,hS⟩;refine eQ ?_;intro w hS;refine Dnt Tryz.results271 ?_;exact ⟨_,_,rfl,(Sep.PQ_open.2 ⟨A,c,B,d,hS.sub (L':=.blk g _ _::.sl _ 2 (.slice A q.l.length c) _::.sl _ 4 (.slice B q.r.length d) _::.sl _ 2 (.slice A1 q.l.length c1) (q.l.map It.cells)::F) SuF⟩).sub SuF⟩
theorem yfS (gx:Nat) (t:It) (x:Ch) (r:World) (F:List Res) (w:World) (hS:Sep r [] F w) {k:List Res} (ha:At F k (.blk gx 149 x.cells)):Calls Tryz.prog 350 #[t.val,.pointer (some ⟨gx,0,none⟩)] w fun e w'=>e=.returned (.bool (decide (t.number=x.item)))∧Sep r [] F w':=by
 refine Z.enter Tryz.func350 Tryz.ntmps350 rfl rfl ?_;refine aQ1 ?_;intro g w hS;refine Z.eff (Z.ld hS rfl (At.next ha) rfl ?_) rfl;refine sQ ?_;intro w hS;refine Dnt Tryz.results350 ?_;exact ⟨rfl,hS.sb⟩
theorem yfT (gx:Nat) (t:Le) (x:Ch) (r:World) (F:List Res) (w:World) (hS:Sep r [] F w) {k:List Res} (ha:At F k (.blk gx 149 x.cells)):Calls Tryz.prog 353 #[t.val,.pointer (some ⟨gx,0,none⟩)] w fun e w'=>e=.returned (.bool (decide (t.item=x.item)))∧Sep r [] F w':=by
 refine Z.enter Tryz.func353 Tryz.ntmps353 rfl rfl ?_;refine aQ1 ?_;intro g w hS;refine Z.eff (Z.ld hS rfl (At.next ha) rfl ?_) rfl;refine sQ ?_;intro w hS;refine Dnt Tryz.results353 ?_;exact ⟨rfl,hS.sb⟩
theorem yb7:∀ {l:List It} {n:Int} {q:Nat} (hq:q < l.length),l[q].number=n→(∀ y,y∈l.take q→y.number≠n)→qidx l n=q
 | x::l,n,0,_,h,_=>by simp at h;simp [qidx,h]
 | x::l,n,q+1,hq,h,hno=>by
  have h0:x.number≠n:=hno x (by simp);have:=yb7 (l:=l) (n:=n) (q:=q) (by simpa using hq) (by simpa using h) (fun y hy=>hno y (by simp [hy]))
  simp [qidx,h0,this]
theorem ycK:∀ {l:List It} {n:Int},(∀ y,y∈l→y.number≠n)→qidx l n=l.length
 | [],_,_=>rfl
 | x::l,n,hno=>by
  have h0:x.number≠n:=hno x (by simp);have:=ycK (l:=l) (n:=n) (fun y hy=>hno y (by simp [hy]))
  simp [qidx,h0,this]
theorem yfN (gq:Nat) (q:Qu) (x:Ch) (r:World) (F:List Res) (w:World) (hS:Sep r [] (PQ gq q::F) w) (hl:q.l.length≤1000) (hl':q.r.length≤1000) :
  Calls Tryz.prog 281 #[.pointer (some ⟨gq,0,none⟩),x.val] w fun e w'=>e=.returned (.int .i64 (qApp q x).2)∧Sep r [] (PQ gq (qApp q x).1::F) w':=by
 obtain ⟨A,c,B,d,hS⟩:=Sep.PQ_open.1 hS;refine Z.enter Tryz.func281 Tryz.ntmps281 rfl rfl ?_;refine aQ1 ?_;intro gx w hS;refine cQ (svalid_any x _) rfl ?_;rintro e w' ⟨rfl,hC⟩;refine ⟨_,rfl,?_⟩;replace hS:=hS.ext hC;clear hC
 repeat' first|refine K ?_|refine Sa ?_;clear hS;intro w hS|refine K3 ?_;clear hS;intro g w hS hge|refine KC ?_ ?_<;>intro hb<;>try exact JX|fail
 ·refine Dnt Tryz.results281 ?_;have e:qApp q x=(q,1):=by simp [qApp,hb]
  rw [e];exact ⟨rfl,Sep.PQ_open.2 ⟨A,c,B,d,hS.sb⟩⟩
 ·
  rename x.kind=3=>hk;rename validB x=true=>hv;refine D.startS hS 7 7 kR rfl ?_;replace hS:=hS.drew;refine Sh.dp 0 1 ?_;refine Sh.dp 2 5 ?_;refine Sh.dp 3 13 ?_;refine Sh.dp 4 29 ?_;refine Sh.dl 1 31 ?_;refine Sh.dl 5 63 ?_;refine Sh.dp 6 127 ?_;refine D.dn ?_
  repeat' first|refine K ?_|refine Sa ?_;clear hS;intro w hS|refine K3 ?_;clear hS;intro g w hS hge|refine KC ?_ ?_<;>intro hb<;>try exact JX|fail
  ·refine Dnt Tryz.results281 ?_;have e:qApp q x=(q,36):=by simp [qApp,hv,hk,hb]
   rw [e];exact ⟨rfl,Sep.PQ_open.2 ⟨A,c,B,d,hS.sb⟩⟩
  ·refine Dnt Tryz.results281 ?_;have h1:¬ x.seq≤q.most:=by omega
   have h2:16≤q.l.length:=by omega
   have e:qApp q x=(q,33):=by simp [qApp,hv,hk,h1,h2]
   rw [e];exact ⟨rfl,Sep.PQ_open.2 ⟨A,c,B,d,hS.sb⟩⟩
  ·have h1:¬ x.seq≤q.most:=by omega
   have h2:¬ 16≤q.l.length:=by omega
   have e:qApp q x=(⟨q.l++[⟨x.seq,x.value⟩],q.r,x.seq⟩,0):=by simp [qApp,hv,hk,h1,h2]
   rw [e];refine D.startS (Lr:=[.blk gx 149 x.cells,.blk gq 311 [.slice A q.l.length c,.slice B q.r.length d,.int .i64 q.most]]) (hS.sb) 14 15 kR rfl ?_;replace hS:=hS.drew;refine Sh.dp 0 1 ?_;refine Sh.dp 1 3 ?_;refine Sh.dp 2 7 ?_;refine Sh.dp 3 15 ?_;refine Sh.dp 5 47 ?_;refine Sh.dp 7 175 ?_;refine Sh.dl 4 191 ?_;refine Sh.dl 6 255 ?_;refine Sh.dl 8 511 ?_
   first|refine D.bu 9 1023 rfl D.wantedN kR rfl rfl ?_|refine D.buA 9 1023 rfl D.wantedN kR rfl rfl ?_
   refine D.ef 10 2047 ?_;refine Z.bs hS rfl rfl rfl ?_;clear hS;intro g w hS hge;refine HMs ?_;refine D.ef 11 4095 ?_;refine Z.apm (l':=[(⟨x.seq,x.value⟩:It)]) hS rfl rfl rfl AtF (hS.lit1 AtF rfl rfl) LnF LnF ?_;clear hS;intro A1 c1 w hS;refine HMs ?_;refine Sh.dp 12 8191 ?_;refine Sh.dp 13 16383 ?_;refine D.ef 14 32767 ?_;refine Z.st hS rfl AtF rfl rfl ?_;clear hS;intro w hS;refine HMl ?_;refine D.dn ?_;refine sQ ?_;intro w hS;refine Dnt Tryz.results281 ?_;refine ⟨rfl,Sep.PQ_open.2 ⟨A1,c1,B,d,?_⟩⟩;simp only [List.length_append,List.length_singleton];exact hS.sb
 ·
  rename x.kind=4=>hk;rename validB x=true=>hv;have hk3:¬ x.kind=3:=by omega
  refine cQ (it_index (fun t=>decide (t.number=x.item)) 350 [.pointer (some ⟨gx,0,none⟩)] q.l _ _ _ _ hS (Reads.of_at AtF) oM (fun L w t h=>yfS gx t x r _ w h (at_app L AtF))) rfl ?_;clear hS;rintro e w ⟨k,rfl,hS,hk1⟩;refine ⟨_,rfl,?_⟩
  rcases hk1 with ⟨rfl,hno⟩|⟨i,hi,rfl,hpi,hno⟩
  ·have hq:qat q.l x.item = -1:=by
    unfold qat
    rw [ycK fun y hy=>by have:=hno y hy;simpa using this,if_neg oM]
   refine sQ ?_;intro w hS;refine Dnt Tryz.results281 ?_;have e:qApp q x=(q,34):=by simp [qApp,hv,hk,hk3,hq]
   rw [e];exact ⟨rfl,Sep.PQ_open.2 ⟨A,c,B,d,hS.sb⟩⟩
  ·have hq:qat q.l x.item=i:=by
    unfold qat
    rw [yb7 hi (by simpa using hpi) (fun y hy=>by have:=hno y hy;simpa using this),if_pos hi]
   have e:qApp q x=(⟨q.l.take i++q.l.drop (i+1),without q.r x.item,q.most⟩,0):=by
    have h0:¬ (i:Int) < 0:=by omega
    simp [qApp,hv,hk,hk3,hq,h0]
   rw [e];have ew:without q.r x.item=q.r.filter fun t=>!decide (t.item=x.item):=by
    unfold without
    rfl
   rw [ew];refine sQ ?_;intro w hS;replace hS:=hS.fo (R:=.sl 228 2 _ _);refine cQ (it_del q.l i A c _ _ _ hS hi oM) rfl ?_;clear hS;rintro e w ⟨A1,c1,rfl,hS⟩;refine eQ ?_;intro w hS;replace hS:=hS.fo (R:=.sl 230 4 _ _);refine cQ (le_delete (fun t=>decide (t.item=x.item)) 353 [.pointer (some ⟨gx,0,none⟩)] q.r B d _ _ _ hS oM (fun L w t h=>yfT gx t x r _ w h (at_app L AtF))) rfl ?_;clear hS;rintro e w ⟨B1,d1,rfl,hS⟩;refine eQ ?_;intro w hS;refine Dnt Tryz.results281 ?_;exact ⟨rfl,Sep.PQ_open.2 ⟨A1,c1,B1,d1,hS.sb⟩⟩
 ·refine Dnt Tryz.results281 ?_;rename validB x=true=>hv;have h3:¬ x.kind=3:=by omega
  have h4:¬ x.kind=4:=by omega
  have e:qApp q x=(q,0):=by simp [qApp,hv,h3,h4]
  rw [e];exact ⟨rfl,Sep.PQ_open.2 ⟨A,c,B,d,hS.sb⟩⟩
theorem yg0 (gq:Nat) (q:Qu) (r:World) (F:List Res) (w:World) (hS:Sep r [] (PQ gq q::F) w) (hl:q.l.length≤1000) (hl':q.r.length≤1000) :
  Calls Tryz.prog 283 #[.pointer (some ⟨gq,0,none⟩)] w fun e w'=>∃ g,e=.returned (.pointer (some ⟨g,0,none⟩))∧Sep r [] (PQ g q::PQ gq q::F) w':=by
 obtain ⟨A,c,B,d,hS⟩:=Sep.PQ_open.1 hS;refine Z.enter Tryz.func283 Tryz.ntmps283 rfl rfl ?_;refine sQ ?_;intro w hS;refine D.startS hS 17 17 kR rfl ?_;replace hS:=hS.drew;refine Sh.dp 0 1 ?_;refine Sh.dp 1 3 ?_;refine Sh.dp 2 7 ?_;refine Sh.dp 5 39 ?_;refine Sh.dp 6 103 ?_;refine Sh.dp 7 231 ?_;refine Sh.dp 10 1255 ?_;refine Sh.dp 11 3303 ?_;refine Sh.dp 12 7399 ?_;refine Sh.dl 3 7407 ?_;refine Sh.dl 8 7663 ?_;refine Sh.dl 13 15855 ?_;refine D.ef 4 15871 ?_;refine Z.cl (it_clone q.l _ _ _ _ hS (Reads.of_at AtF) oM) rfl ?_;clear hS;rintro e w ⟨A1,c1,rfl,hS⟩;refine ⟨_,rfl,?_⟩;refine HMs ?_;refine D.ef 9 16383 ?_;refine Z.cl (le_clone q.r _ _ _ _ hS (Reads.of_at AtF) oM) rfl ?_;clear hS;rintro e w ⟨B1,d1,rfl,hS⟩;refine ⟨_,rfl,?_⟩;refine HMs ?_
 first|refine D.bu 14 32767 rfl D.wantedN kR rfl rfl ?_|refine D.buA 14 32767 rfl D.wantedN kR rfl rfl ?_
 refine D.ef 15 65535 ?_;refine Z.bx hS rfl ?_;clear hS;intro g w hS hge;refine HMs ?_;refine Sh.dp 16 131071 ?_;refine D.dn ?_;refine sQ ?_;intro w hS;refine Dnt Tryz.results283 ?_;refine ⟨_,rfl,?_⟩;exact Sep.PQ_open.2 ⟨A1,c1,B1,d1,(Sep.PQ_open.2 ⟨A,c,B,d,hS.sub (L':=.blk gq 311 [.slice A q.l.length c,.slice B q.r.length d,.int .i64 q.most]::.sl 228 2 (.slice A q.l.length c) (q.l.map It.cells)::.sl 230 4 (.slice B q.r.length d) (q.r.map Le.cells)::.blk g _ _::.sl _ 2 (.slice A1 _ c1) (q.l.map It.cells)::.sl _ 4 (.slice B1 _ d1) (q.r.map Le.cells)::F) SuF⟩).sub SuF⟩
end Go.Proofs.YtfmnjbhncnldmaaGreat
