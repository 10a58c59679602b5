import Derived.Test.YtfmnjbhncnldmaaGreatW24
import Derived.Test.YtfmnjbhncnldmaaGreatW36
set_option maxHeartbeats 16000000
set_option linter.unusedSimpArgs false
set_option linter.unusedVariables false
namespace Go.Proofs.YtfmnjbhncnldmaaGreat
open Go.RowKit
attribute [local irreducible] Res.blk Res.sl Res.all Res.ex Res.pure Res.star
theorem msg_ok {l:List Ms}:∀ row,row∈l.map Ms.cells→row.length=9∧∀ u,u∈row→u.oneCell'=true:=by
 intro row hr;obtain ⟨x,_,rfl⟩:=List.mem_map.1 hr;exact ⟨rfl,by simp [Ms.cells,Value.oneCell']⟩
theorem ydk (l:List Ms):(l.map Ms.cells).flatten.length=l.length * 9:=by rw [flatten_length fun row hr=>(msg_ok row hr).1,List.length_map]
theorem msg_del (l:List Ms) (i:Nat) (A:Option Addr) (c:Nat) (r:World) (F:List Res) (w:World) (hS:Sep r [] (.sl 341 9 (.slice A l.length c) (l.map Ms.cells)::F) w) (hi:i < l.length) (hl:l.length≤100000) :
  Calls Tryz.prog 292 #[.slice A l.length c,.int .i64 (i:Nat),.int .i64 ((i:Int)+1)] w fun e w'=>∃ A' c',e=.returned (.slice A' (l.take i++l.drop (i+1)).length c')∧Sep r [] (.sl 341 9 (.slice A' (l.take i++l.drop (i+1)).length c') ((l.take i++l.drop (i+1)).map Ms.cells)::F) w':=by
 have ei:(i:Int).toNat=i:=rfl;have ej:((i:Int)+1).toNat=i+1:=by omega
 obtain ⟨g0,cs,rfl,_,hnc,hcm,hcl,hct,_,hS⟩:=yar hS (by simp;omega);have hsub:=fun a m h=>sub_rows (c:=Ms.cells) (sz:=9) (fun _=>rfl) (l:=l) (cs:=cs) hct a m h
 have hta:cs.take (i * 9)=((l.take i).map Ms.cells).flatten:=by have:=hsub 0 i oM;simpa using this
 have hal:((l.take i).map Ms.cells).flatten.length=i * 9:=by rw [ydk,List.length_take,Nat.min_eq_left oM]
 have hbl:((l.drop (i+1)).map Ms.cells).flatten.length=(l.length - (i+1)) * 9:=by rw [ydk,List.length_drop]
 have hdj:(cs.drop ((i+1) * 9)).take ((l.length - (i+1)) * 9)=((l.drop (i+1)).map Ms.cells).flatten:=by
  have:=hsub (i+1) (l.length - (i+1)) oM;rw [List.take_of_length_le (l:=l.drop (i+1)) (by simp)] at this;exact this
 have hfl:(l.take i++l.drop (i+1)).length=l.length - 1:=by simp;omega
 have hnn:i+(l.length - (i+1))=l.length - 1:=by omega
 have hcc:l.length * 9≤c * 9:=Nat.mul_le_mul_right _ hnc;refine Z.enter Tryz.func292 Tryz.ntmps292 rfl rfl ?_;refine sQ ?_;intro w hS;refine Z.pl (R.span3 rfl rfl rfl rfl rfl oM oM oM) ?_;refine sQ ?_;intro w hS;refine Z.cut [0,20,21,22,23,24,25,26] (fun w s=>s=[(0,.slice (some ⟨g0,0,none⟩) (i+(l.length - (i+1))) c)]∧Sep r [] (.blk g0 341 (cs.take (i * 9)++((l.drop (i+1)).map Ms.cells).flatten++cs.drop ((i+(l.length - (i+1))) * 9))::F) w) ?_ ?_
 ·by_cases hic:i+1 < c
  ·refine D.startS (Lr:=([]:List Res)) (hS.sb) 8 8 kR rfl ?_;replace hS:=hS.drew;refine Sh.dp 0 1 ?_;refine Sh.dp 1 3 ?_;refine D.pl 2 7 rfl D.wantedN kR (R.upto rfl rfl rfl oM) ?_;refine Sh.dp 3 15 ?_;refine Sh.dp 4 31 ?_;refine D.pl 5 63 rfl D.wantedN kR (R.sinceL rfl rfl rfl oM oM) ?_;refine D.ef 6 127 ?_;refine Z.apf (ys:=(l.drop (i+1)).map Ms.cells) hS rfl rfl rfl AtF (rows_mid (hS.bk) msg_ok (by first|(simp;done)|(simp;omega)) (Nat.le_refl _) (by rw [ej,Nat.zero_add];exact hdj)) oM (by rw [hcl,ei,ej];omega) ?_;clear hS;intro w hS;refine HMs ?_;refine Sh.dp 7 255 ?_;refine D.dn ?_;refine Sh.cut [(0,_)] ?_;rw [ej,ei] at hS;exact ⟨by rw [ej];rfl,hS⟩
  ·refine D.startS (Lr:=([]:List Res)) (hS.sb) 8 8 kR rfl ?_;replace hS:=hS.drew;refine Sh.dp 0 1 ?_;refine Sh.dp 1 3 ?_;refine D.pl 2 7 rfl D.wantedN kR (R.upto rfl rfl rfl oM) ?_;refine Sh.dp 3 15 ?_;refine Sh.dp 4 31 ?_;refine D.pl 5 63 rfl D.wantedN kR (R.sinceE rfl rfl rfl oM oM) ?_;refine D.ef 6 127 ?_;refine Z.apf (ys:=(l.drop (i+1)).map Ms.cells) hS rfl rfl rfl AtF (rows_mid (hS.bk) msg_ok (by first|(simp;done)|(simp;omega)) (Nat.le_refl _) (by have h0:l.length - (i+1)=0:=oM;have h1:l.drop (i+1)=[]:=List.drop_eq_nil_of_le oM;rw [ej,h0,h1];simp)) oM (by rw [hcl,ei,ej];omega) ?_;clear hS;intro w hS;refine HMs ?_;refine Sh.dp 7 255 ?_;refine D.dn ?_;refine Sh.cut [(0,_)] ?_;rw [ej,ei] at hS;exact ⟨by rw [ej];rfl,hS⟩
 clear hS;rintro f1 w _ ⟨rfl,hS⟩;refine sQ ?_;intro w hS;refine Z.eff (Z.clr hS rfl rfl AtF (by simp only [List.length_append,List.length_take,List.length_drop,hcl,hbl];omega) rfl ?_) rfl;clear hS;intro w hS;refine sQ ?_;intro w hS;refine Dnt Tryz.results292 ?_;refine ⟨some ⟨g0,0,none⟩,c,by rw [hfl,← hnn];rfl,?_⟩;have h3:=yao (rows:=(l.take i++l.drop (i+1)).map Ms.cells) (c:=c) hS oM hcm ?_ (by simp;omega) ?_ msg_ok
 ·rw [List.length_map] at h3;exact h3
 ·simp only [List.length_append,List.length_take,List.length_drop,hcl,hbl,zerosL_len,List.length_cons,List.length_nil];omega
 ·rw [List.length_map,hfl,← hnn,List.map_append,List.flatten_append,hta];have e1:((((l.take i).map Ms.cells).flatten++((l.drop (i+1)).map Ms.cells).flatten).length)=(i+(l.length - (i+1))) * 9:=by rw [List.length_append,hal,hbl];omega
  have e2:0+((i+(l.length - (i+1)):Nat):Int).toNat * 9=(i+(l.length - (i+1))) * 9:=by omega
  rw [e2,List.append_assoc,List.take_append_of_le_length (by simp only [List.length_take,List.length_append,hal,hbl,List.length_drop,hcl];omega),List.take_take,Nat.min_self];exact List.take_left' e1
section
variable (gq:Nat) (net:List Ms) (nA:Option Addr) (nc:Nat) (v1 v3:Value) (r:World) (F:List Res) (w:World)
theorem ya7 (hS:Sep r [] (.blk gq 248 [v1,.slice nA net.length nc,v3]::.sl 341 9 (.slice nA net.length nc) (net.map Ms.cells)::F) w) (l:List Ms) (v:Value) (hrd:Reads r F 9 v (l.map Ms.cells)) (hl:l.length≤10) (hn:net.length≤100) :
  Calls Tryz.prog 229 #[.pointer (some ⟨gq,0,none⟩),v] w fun e w'=>∃ (nA2:Option Addr) (nc2:Nat),e=.returned (.tuple #[])∧Sep r [] (.blk gq 248 [v1,.slice nA2 (net++l).length nc2,v3]::.sl 341 9 (.slice nA2 (net++l).length nc2) ((net++l).map Ms.cells)::F) w':=by
 obtain ⟨Ap,cp,rfl,hcap⟩:=(hrd [_,_] w hS).mform;refine Z.enter Tryz.func229 Tryz.ntmps229 rfl rfl ?_;refine sQ ?_;intro w hS;refine Z.lpS [5,8,9,10,11,12,13,14,15,16,17,18,19,20,21,22,23,24,25,26,27,28,29,30,31,32,33,34,35,36] (fun m w z=>∃ (i:Nat) (o:List Ms) (nA2:Option Addr) (nc2:Nat),z=[(8,.int .i64 i)]∧i≤l.length∧o=net++l.take i∧m=l.length - i∧Sep r [] (.blk gq 248 [v1,.slice nA2 o.length nc2,v3]::.sl 341 9 (.slice nA2 o.length nc2) (o.map Ms.cells)::F) w) _ [(8,.int .i64 (0:Nat))] TrF ⟨0,net,nA,nc,rfl,oM,by simp,rfl,hS⟩ ?_;clear hS;rintro m f0 w _ ⟨i,o,nA2,nc2,rfl,hi,ho,rfl,hS⟩;have hol:o.length=net.length+i:=by rw [ho];simp;omega
 by_cases hlt:i < l.length
 rotate_left
 ·obtain rfl:i=l.length:=by omega
  rw [List.take_length] at ho;subst ho;refine sQ ?_;intro w hS;refine Dn Tryz.results229 ?_;exact ⟨nA2,nc2,rfl,hS⟩
 obtain ⟨gl,ol,rfl,_,hra⟩:=(hrd [_,_] w hS).mat oM (q:=i) (by simpa using hlt);have hra2:w.rangeAt gl (ol+i * 9) l[i].cells:=by simpa using hra
 clear hra;have hsucc:net++l.take (i+1)=o++[l[i]]:=by rw [List.take_succ_eq_append_getElem hlt,← List.append_assoc,← ho]
 generalize l[i]=y at *
 repeat' first|refine K ?_|refine Sa ?_;clear hS;intro w hS|refine K3 ?_;clear hS;intro g w hS hge|refine KC ?_ ?_<;>intro hb<;>try exact JX|fail
 rename Nat=>g5;refine D.startS (Lr:=[.blk g5 341 y.cells]) (hS.sb) 10 11 kR rfl ?_;replace hS:=hS.drew;refine Sh.dp 0 1 ?_;refine Sh.dp 1 3 ?_;refine Sh.dp 2 7 ?_;refine Sh.dp 3 15 ?_;refine Sh.dl 5 47 ?_;refine D.each [4,6] kR rfl ?_;refine D.econs 4 63 rfl D.wantedN kR (fun _ _ h=>h) ?_ ?_
 ·refine Z.ld hS rfl AtF rfl ?_;refine HMs ?_;refine D.ef 6 127 ?_;refine Z.bs hS rfl rfl rfl ?_;clear hS;intro g w hS hge;refine HMs ?_;refine D.ef 7 255 ?_;refine Z.apm (fc:=Ms.cells) (l:=o) (l':=[y]) hS rfl rfl rfl AtF (hS.lit1 AtF rfl rfl) LnF LnF ?_;clear hS;intro A2 c2 w hS;rw [← List.length_append] at hS ⊢;refine HMs ?_;refine Sh.dp 8 511 ?_;refine Sh.dp 9 1023 ?_;refine D.ef 10 2047 ?_;refine Z.st hS rfl AtF rfl rfl ?_;clear hS;intro w hS;refine HMl ?_;refine D.dn ?_;refine sQ ?_;intro w hS;refine Sh.again (l.length - (i+1)) [(8,.int .i64 (i+1:Nat))] ?_;exact ⟨i+1,o++[y],_,_,rfl,oM,hsucc.symm,rfl,hS.sb⟩
 refine D.econs 6 111 rfl D.wantedN kR (fun _ _ h=>h) ?_ ?_
 ·refine Z.bs hS rfl rfl rfl ?_;clear hS;intro g w hS hge;refine HMs ?_;refine D.ef 4 127 ?_;refine Z.ld hS rfl AtF rfl ?_;refine HMs ?_;refine D.ef 7 255 ?_;refine Z.apm (fc:=Ms.cells) (l:=o) (l':=[y]) hS rfl rfl rfl AtF (hS.lit1 AtF rfl rfl) LnF LnF ?_;clear hS;intro A2 c2 w hS;rw [← List.length_append] at hS ⊢;refine HMs ?_;refine Sh.dp 8 511 ?_;refine Sh.dp 9 1023 ?_;refine D.ef 10 2047 ?_;refine Z.st hS rfl AtF rfl rfl ?_;clear hS;intro w hS;refine HMl ?_;refine D.dn ?_;refine sQ ?_;intro w hS;refine Sh.again (l.length - (i+1)) [(8,.int .i64 (i+1:Nat))] ?_;exact ⟨i+1,o++[y],_,_,rfl,oM,hsucc.symm,rfl,hS.sb⟩
 exact D.enil
theorem yeT (hS:Sep r [] (.blk gq 248 [v1,.slice nA net.length nc,v3]::.sl 341 9 (.slice nA net.length nc) (net.map Ms.cells)::F) w) (y:Ms) (rest:List Ms) (hnet:net=y::rest) (hn:net.length≤100) :
  Calls Tryz.prog 233 #[.pointer (some ⟨gq,0,none⟩),.int .i64 0] w fun e w'=>∃ (nA2:Option Addr) (nc2:Nat),e=.returned (.tuple #[])∧Sep r [] (.blk gq 248 [v1,.slice nA2 rest.length nc2,v3]::.sl 341 9 (.slice nA2 rest.length nc2) (rest.map Ms.cells)::F) w':=by
 have hr:net.take 0++net.drop (0+1)=rest:=by rw [hnet];rfl
 have h0:0 < net.length:=by rw [hnet];simp
 refine Z.enter Tryz.func233 Tryz.ntmps233 rfl rfl ?_;refine sQ ?_;intro w hS;replace hS:=hS.fo (R:=.sl 341 9 (.slice nA net.length nc) (net.map Ms.cells));refine cQ (msg_del net 0 _ _ _ _ _ hS h0 oM) rfl ?_;clear hS;rintro e w ⟨nA2,nc2,rfl,hS⟩;refine ⟨_,rfl,?_⟩;rw [hr] at hS ⊢;refine sQ ?_;intro w hS;refine Dn Tryz.results233 ?_;exact ⟨nA2,nc2,rfl,hS.sb⟩
end
section
variable (gq:Nat) (x0 x1 x2:Rp) (com:List En) (A Ad:Option Addr) (c dc:Nat) (nv:Value) (r:World) (F:List Res) (w:World)
structure NtOk (x:Rp):Prop where
 co:0≤x.co∧x.co≤x.log.length
 lg:x.log.length≤5000
theorem ya6 (hS:Sep r [] (.blk gq 248 [.slice A 3 c,nv,.slice Ad com.length dc]::.sl 249 1 (.slice A 3 c) ([x0.gp,x1.gp,x2.gp].map ptC)::.sl 63 9 (.slice Ad com.length dc) (com.map En.cells)::JN x0.gj x0.t x0.v x0.log x0.n::.blk x0.gp 331 x0.cells::JN x1.gj x1.t x1.v x1.log x1.n::.blk x1.gp 331 x1.cells::JN x2.gj x2.t x2.v x2.log x2.n::.blk x2.gp 331 x2.cells::F) w) (h0:NtOk x0) (h1:NtOk x1) (h2:NtOk x2) (hcl:com.length≤5000) :
  Calls Tryz.prog 236 #[.pointer (some ⟨gq,0,none⟩)] w fun e w'=>∃ (com':List En) (Ad2:Option Addr) (dc2:Nat),e=.returned (.tuple #[])∧com'.length≤5000∧Sep r [] (.blk gq 248 [.slice A 3 c,nv,.slice Ad2 com'.length dc2]::.sl 249 1 (.slice A 3 c) ([x0.gp,x1.gp,x2.gp].map ptC)::.sl 63 9 (.slice Ad2 com'.length dc2) (com'.map En.cells)::JN x0.gj x0.t x0.v x0.log x0.n::.blk x0.gp 331 x0.cells::JN x1.gj x1.t x1.v x1.log x1.n::.blk x1.gp 331 x1.cells::JN x2.gj x2.t x2.v x2.log x2.n::.blk x2.gp 331 x2.cells::F) w':=by
 obtain ⟨h01,h02⟩:=h0;obtain ⟨h11,h12⟩:=h1;obtain ⟨h21,h22⟩:=h2;obtain ⟨ga,oa,hAe,_,_⟩:=(hS.slrows (e:=249) (v:=.slice A 3 c) AtF).mat (by simp) (q:=0) (by simp);subst hAe;refine Z.enter Tryz.func236 Tryz.ntmps236 rfl rfl ?_;refine sQ ?_;intro w hS;refine Z.lpS [3,4,6,12,13,14,15,16,17,18,19,20,21,22,23,24,25,26,27,28,29,30,31,32,33,34,35,36,37,38,39,40,41,42,43,44,45,46,47] (fun m w z=>∃ (i:Nat) (com:List En) (Ad:Option Addr) (dc:Nat),z=[(12,.int .i64 i)]∧i≤3∧com.length≤5000∧m=3 - i∧Sep r [] (.blk gq 248 [.slice (some ⟨ga,oa,none⟩) 3 c,nv,.slice Ad com.length dc]::.sl 249 1 (.slice (some ⟨ga,oa,none⟩) 3 c) ([x0.gp,x1.gp,x2.gp].map ptC)::.sl 63 9 (.slice Ad com.length dc) (com.map En.cells)::JN x0.gj x0.t x0.v x0.log x0.n::.blk x0.gp 331 x0.cells::JN x1.gj x1.t x1.v x1.log x1.n::.blk x1.gp 331 x1.cells::JN x2.gj x2.t x2.v x2.log x2.n::.blk x2.gp 331 x2.cells::F) w) _ [(12,.int .i64 (0:Nat))] TrF ⟨0,com,Ad,dc,rfl,oM,hcl,rfl,hS⟩ ?_;clear hS hcl;rintro m f0 w _ ⟨i,com,Ad,dc,rfl,hi,hcl,rfl,hS⟩
 rcases (by omega:i=3∨i=0∨i=1∨i=2) with rfl|rfl|rfl|rfl
 ·refine sQ ?_;intro w hS;refine Dn Tryz.results236 ?_;exact ⟨com,Ad,dc,rfl,hcl,hS⟩
 ·have hra2:w.rangeAt ga (oa+0 * 1) (ptC x0.gp):=(hS.slrows (e:=249) (v:=.slice (some ⟨ga,oa,none⟩) 3 c) AtF).elem oM (q:=0) (by simp);refine sQ ?_;intro w hS;refine D.startS (Lr:=[.blk gq 248 [.slice (some ⟨ga,oa,none⟩) 3 c,nv,.slice Ad com.length dc]]) (hS.sb) 8 8 kR rfl ?_;replace hS:=hS.drew;refine Sh.dp 0 1 ?_;refine Sh.dp 2 5 ?_;refine Sh.dp 3 13 ?_;refine Sh.dp 4 29 ?_;refine Sh.dl 5 61 ?_;refine Sh.dp 6 125 ?_;refine D.ef 1 127 ?_;refine dQ (yai x0 _ _ _ ((hS.fo (R:=.blk x0.gp 331 x0.cells)).fo (R:=JN x0.gj x0.t x0.v x0.log x0.n))) ?_;intro w hS;refine Sh.dp 7 255 ?_;refine D.dn ?_
  by_cases hle:x0.co≤com.length
  ·refine sQ ?_;intro w hS;refine Sh.again (2) [(12,.int .i64 (1:Nat))] ?_;exact ⟨1,com,Ad,dc,rfl,oM,hcl,rfl,hS.sb⟩
  obtain ⟨k0,hk0⟩:=Int.eq_ofNat_of_zero_le (show 0≤x0.co by omega);refine sQ ?_;intro w hS;refine rQ (yai x0 _ _ _ ((hS.fo (R:=.blk x0.gp 331 x0.cells)).fo (R:=JN x0.gj x0.t x0.v x0.log x0.n))) ?_;intro w hS;refine Z.eff (Z.mks (l:=0) (c:=k0) hS rfl (congrArg (Value.int .i64) hk0) rfl (Nat.zero_le _) (by show 72 * k0≤281474976710656;omega) (by unfold maxLen;omega) ?_) rfl;clear hS;intro gz w hS _;replace hS:=ybn (sz:=9) (c:=k0) hS (by unfold maxLen;omega) (by rw [zerosL_ln];rfl);refine sQ ?_;intro w hS;refine cQ (yaK x0 _ _ _ ((hS.fo (R:=.blk x0.gp 331 x0.cells)).fo (R:=JN x0.gj x0.t x0.v x0.log x0.n)) oM) rfl ?_;clear hS;rintro e w ⟨Al,cl,rfl,hS⟩;refine ⟨_,rfl,?_⟩;have hlcl:x0.log.length≤cl:=by
   obtain ⟨_,_,e1,e2⟩:=(hS.slrows (e:=345) (v:=.slice Al x0.log.length cl) .here).mform
   injection e1 with _ _ e3
   subst e3
   simpa using e2
  refine sQ ?_;intro w hS;refine cQ (yai x0 _ _ _ ((hS.fo (R:=.blk x0.gp 331 x0.cells)).fo (R:=JN x0.gj x0.t x0.v x0.log x0.n))) rfl ?_;clear hS;rintro e w ⟨rfl,hS⟩;refine ⟨_,rfl,?_⟩;have hcn:x0.co.toNat=k0:=by omega
  refine sQ ?_;intro w hS;refine Z.lpS [4,6,33,34,35,36,37,38,39,40,41,42] (fun m w z=>∃ (i:Nat) (o:List En) (Ae:Option Addr) (ce:Nat),z=[(4,.slice Ae o.length ce),(33,.int .i64 i)]∧i≤k0∧o.length=i∧m=k0 - i∧Sep r [] (.sl 63 9 (.slice Ae o.length ce) (o.map En.cells)::.sl 345 10 (.slice Al x0.log.length cl) (x0.log.map Lg.cells)::.blk gq 248 [.slice (some ⟨ga,oa,none⟩) 3 c,nv,.slice Ad com.length dc]::.sl 249 1 (.slice (some ⟨ga,oa,none⟩) 3 c) ([x0.gp,x1.gp,x2.gp].map ptC)::JN x0.gj x0.t x0.v x0.log x0.n::.blk x0.gp 331 x0.cells::JN x1.gj x1.t x1.v x1.log x1.n::.blk x1.gp 331 x1.cells::JN x2.gj x2.t x2.v x2.log x2.n::.blk x2.gp 331 x2.cells::F) w) _ [(4,.slice (some ⟨gz,0,none⟩) 0 k0),(33,.int .i64 (0:Nat))] TrF ⟨0,[],_,_,rfl,oM,rfl,rfl,hS.sb⟩ ?_;clear hS;rintro m f1 w _ ⟨i,o,Ae,ce,rfl,hi,hol,rfl,hS⟩
  by_cases hlt:i < k0
  ·have hlt2:i < x0.log.length:=by omega
   obtain ⟨gl,ol,hAl,_,hrl⟩:=(hS.slrows (e:=345) (v:=.slice Al x0.log.length cl) AtF).mat oM (q:=i) (by simpa using hlt2);subst hAl;have hrl2:w.rangeAt gl (ol+i * 10) x0.log[i].cells:=by simpa using hrl
   clear hrl;generalize x0.log[i]=y at *
   repeat' first|refine K ?_|refine Sa ?_;intro w hS|refine K3 ?_;intro g w hS hge|refine KC ?_ ?_<;>intro hb<;>try exact JX|fail
   refine Z.eff (Z.apm (fc:=En.cells) (l:=o) (l':=[y.e]) hS rfl rfl rfl AtF (hS.lit1 AtF rfl rfl) LnF LnF ?_) rfl;clear hS;intro A2 c2 w hS;rw [← List.length_append] at hS ⊢;refine sQ ?_;intro w hS;refine Sh.again (k0 - (i+1)) [(4,_),(33,.int .i64 (i+1:Nat))] ?_;exact ⟨i+1,o++[y.e],A2,c2,rfl,oM,by simp [hol],rfl,hS.sb⟩
  ·refine sQ ?_;intro w hS;refine Sh.again (2) [(12,.int .i64 (1:Nat))] ?_;exact ⟨1,o,Ae,ce,rfl,oM,oM,rfl,hS.sb⟩
 ·have hra2:w.rangeAt ga (oa+1 * 1) (ptC x1.gp):=(hS.slrows (e:=249) (v:=.slice (some ⟨ga,oa,none⟩) 3 c) AtF).elem oM (q:=1) (by simp);refine sQ ?_;intro w hS;refine D.startS (Lr:=[.blk gq 248 [.slice (some ⟨ga,oa,none⟩) 3 c,nv,.slice Ad com.length dc]]) (hS.sb) 8 8 kR rfl ?_;replace hS:=hS.drew;refine Sh.dp 0 1 ?_;refine Sh.dp 2 5 ?_;refine Sh.dp 3 13 ?_;refine Sh.dp 4 29 ?_;refine Sh.dl 5 61 ?_;refine Sh.dp 6 125 ?_;refine D.ef 1 127 ?_;refine dQ (yai x1 _ _ _ ((hS.fo (R:=.blk x1.gp 331 x1.cells)).fo (R:=JN x1.gj x1.t x1.v x1.log x1.n))) ?_;intro w hS;refine Sh.dp 7 255 ?_;refine D.dn ?_
  by_cases hle:x1.co≤com.length
  ·refine sQ ?_;intro w hS;refine Sh.again (1) [(12,.int .i64 (2:Nat))] ?_;exact ⟨2,com,Ad,dc,rfl,oM,hcl,rfl,hS.sb⟩
  obtain ⟨k0,hk0⟩:=Int.eq_ofNat_of_zero_le (show 0≤x1.co by omega);refine sQ ?_;intro w hS;refine rQ (yai x1 _ _ _ ((hS.fo (R:=.blk x1.gp 331 x1.cells)).fo (R:=JN x1.gj x1.t x1.v x1.log x1.n))) ?_;intro w hS;refine Z.eff (Z.mks (l:=0) (c:=k0) hS rfl (congrArg (Value.int .i64) hk0) rfl (Nat.zero_le _) (by show 72 * k0≤281474976710656;omega) (by unfold maxLen;omega) ?_) rfl;clear hS;intro gz w hS _;replace hS:=ybn (sz:=9) (c:=k0) hS (by unfold maxLen;omega) (by rw [zerosL_ln];rfl);refine sQ ?_;intro w hS;refine cQ (yaK x1 _ _ _ ((hS.fo (R:=.blk x1.gp 331 x1.cells)).fo (R:=JN x1.gj x1.t x1.v x1.log x1.n)) oM) rfl ?_;clear hS;rintro e w ⟨Al,cl,rfl,hS⟩;refine ⟨_,rfl,?_⟩;have hlcl:x1.log.length≤cl:=by
   obtain ⟨_,_,e1,e2⟩:=(hS.slrows (e:=345) (v:=.slice Al x1.log.length cl) .here).mform
   injection e1 with _ _ e3
   subst e3
   simpa using e2
  refine sQ ?_;intro w hS;refine cQ (yai x1 _ _ _ ((hS.fo (R:=.blk x1.gp 331 x1.cells)).fo (R:=JN x1.gj x1.t x1.v x1.log x1.n))) rfl ?_;clear hS;rintro e w ⟨rfl,hS⟩;refine ⟨_,rfl,?_⟩;have hcn:x1.co.toNat=k0:=by omega
  refine sQ ?_;intro w hS;refine Z.lpS [4,6,33,34,35,36,37,38,39,40,41,42] (fun m w z=>∃ (i:Nat) (o:List En) (Ae:Option Addr) (ce:Nat),z=[(4,.slice Ae o.length ce),(33,.int .i64 i)]∧i≤k0∧o.length=i∧m=k0 - i∧Sep r [] (.sl 63 9 (.slice Ae o.length ce) (o.map En.cells)::.sl 345 10 (.slice Al x1.log.length cl) (x1.log.map Lg.cells)::.blk gq 248 [.slice (some ⟨ga,oa,none⟩) 3 c,nv,.slice Ad com.length dc]::.sl 249 1 (.slice (some ⟨ga,oa,none⟩) 3 c) ([x0.gp,x1.gp,x2.gp].map ptC)::JN x0.gj x0.t x0.v x0.log x0.n::.blk x0.gp 331 x0.cells::JN x1.gj x1.t x1.v x1.log x1.n::.blk x1.gp 331 x1.cells::JN x2.gj x2.t x2.v x2.log x2.n::.blk x2.gp 331 x2.cells::F) w) _ [(4,.slice (some ⟨gz,0,none⟩) 0 k0),(33,.int .i64 (0:Nat))] TrF ⟨0,[],_,_,rfl,oM,rfl,rfl,hS.sb⟩ ?_;clear hS;rintro m f1 w _ ⟨i,o,Ae,ce,rfl,hi,hol,rfl,hS⟩
  by_cases hlt:i < k0
  ·have hlt2:i < x1.log.length:=by omega
   obtain ⟨gl,ol,hAl,_,hrl⟩:=(hS.slrows (e:=345) (v:=.slice Al x1.log.length cl) AtF).mat oM (q:=i) (by simpa using hlt2);subst hAl;have hrl2:w.rangeAt gl (ol+i * 10) x1.log[i].cells:=by simpa using hrl
   clear hrl;generalize x1.log[i]=y at *
   repeat' first|refine K ?_|refine Sa ?_;intro w hS|refine K3 ?_;intro g w hS hge|refine KC ?_ ?_<;>intro hb<;>try exact JX|fail
   refine Z.eff (Z.apm (fc:=En.cells) (l:=o) (l':=[y.e]) hS rfl rfl rfl AtF (hS.lit1 AtF rfl rfl) LnF LnF ?_) rfl;clear hS;intro A2 c2 w hS;rw [← List.length_append] at hS ⊢;refine sQ ?_;intro w hS;refine Sh.again (k0 - (i+1)) [(4,_),(33,.int .i64 (i+1:Nat))] ?_;exact ⟨i+1,o++[y.e],A2,c2,rfl,oM,by simp [hol],rfl,hS.sb⟩
  ·refine sQ ?_;intro w hS;refine Sh.again (1) [(12,.int .i64 (2:Nat))] ?_;exact ⟨2,o,Ae,ce,rfl,oM,oM,rfl,hS.sb⟩
 ·have hra2:w.rangeAt ga (oa+2 * 1) (ptC x2.gp):=(hS.slrows (e:=249) (v:=.slice (some ⟨ga,oa,none⟩) 3 c) AtF).elem oM (q:=2) (by simp);refine sQ ?_;intro w hS;refine D.startS (Lr:=[.blk gq 248 [.slice (some ⟨ga,oa,none⟩) 3 c,nv,.slice Ad com.length dc]]) (hS.sb) 8 8 kR rfl ?_;replace hS:=hS.drew;refine Sh.dp 0 1 ?_;refine Sh.dp 2 5 ?_;refine Sh.dp 3 13 ?_;refine Sh.dp 4 29 ?_;refine Sh.dl 5 61 ?_;refine Sh.dp 6 125 ?_;refine D.ef 1 127 ?_;refine dQ (yai x2 _ _ _ ((hS.fo (R:=.blk x2.gp 331 x2.cells)).fo (R:=JN x2.gj x2.t x2.v x2.log x2.n))) ?_;intro w hS;refine Sh.dp 7 255 ?_;refine D.dn ?_
  by_cases hle:x2.co≤com.length
  ·refine sQ ?_;intro w hS;refine Sh.again (0) [(12,.int .i64 (3:Nat))] ?_;exact ⟨3,com,Ad,dc,rfl,oM,hcl,rfl,hS.sb⟩
  obtain ⟨k0,hk0⟩:=Int.eq_ofNat_of_zero_le (show 0≤x2.co by omega);refine sQ ?_;intro w hS;refine rQ (yai x2 _ _ _ ((hS.fo (R:=.blk x2.gp 331 x2.cells)).fo (R:=JN x2.gj x2.t x2.v x2.log x2.n))) ?_;intro w hS;refine Z.eff (Z.mks (l:=0) (c:=k0) hS rfl (congrArg (Value.int .i64) hk0) rfl (Nat.zero_le _) (by show 72 * k0≤281474976710656;omega) (by unfold maxLen;omega) ?_) rfl;clear hS;intro gz w hS _;replace hS:=ybn (sz:=9) (c:=k0) hS (by unfold maxLen;omega) (by rw [zerosL_ln];rfl);refine sQ ?_;intro w hS;refine cQ (yaK x2 _ _ _ ((hS.fo (R:=.blk x2.gp 331 x2.cells)).fo (R:=JN x2.gj x2.t x2.v x2.log x2.n)) oM) rfl ?_;clear hS;rintro e w ⟨Al,cl,rfl,hS⟩;refine ⟨_,rfl,?_⟩;have hlcl:x2.log.length≤cl:=by
   obtain ⟨_,_,e1,e2⟩:=(hS.slrows (e:=345) (v:=.slice Al x2.log.length cl) .here).mform
   injection e1 with _ _ e3
   subst e3
   simpa using e2
  refine sQ ?_;intro w hS;refine cQ (yai x2 _ _ _ ((hS.fo (R:=.blk x2.gp 331 x2.cells)).fo (R:=JN x2.gj x2.t x2.v x2.log x2.n))) rfl ?_;clear hS;rintro e w ⟨rfl,hS⟩;refine ⟨_,rfl,?_⟩;have hcn:x2.co.toNat=k0:=by omega
  refine sQ ?_;intro w hS;refine Z.lpS [4,6,33,34,35,36,37,38,39,40,41,42] (fun m w z=>∃ (i:Nat) (o:List En) (Ae:Option Addr) (ce:Nat),z=[(4,.slice Ae o.length ce),(33,.int .i64 i)]∧i≤k0∧o.length=i∧m=k0 - i∧Sep r [] (.sl 63 9 (.slice Ae o.length ce) (o.map En.cells)::.sl 345 10 (.slice Al x2.log.length cl) (x2.log.map Lg.cells)::.blk gq 248 [.slice (some ⟨ga,oa,none⟩) 3 c,nv,.slice Ad com.length dc]::.sl 249 1 (.slice (some ⟨ga,oa,none⟩) 3 c) ([x0.gp,x1.gp,x2.gp].map ptC)::JN x0.gj x0.t x0.v x0.log x0.n::.blk x0.gp 331 x0.cells::JN x1.gj x1.t x1.v x1.log x1.n::.blk x1.gp 331 x1.cells::JN x2.gj x2.t x2.v x2.log x2.n::.blk x2.gp 331 x2.cells::F) w) _ [(4,.slice (some ⟨gz,0,none⟩) 0 k0),(33,.int .i64 (0:Nat))] TrF ⟨0,[],_,_,rfl,oM,rfl,rfl,hS.sb⟩ ?_;clear hS;rintro m f1 w _ ⟨i,o,Ae,ce,rfl,hi,hol,rfl,hS⟩
  by_cases hlt:i < k0
  ·have hlt2:i < x2.log.length:=by omega
   obtain ⟨gl,ol,hAl,_,hrl⟩:=(hS.slrows (e:=345) (v:=.slice Al x2.log.length cl) AtF).mat oM (q:=i) (by simpa using hlt2);subst hAl;have hrl2:w.rangeAt gl (ol+i * 10) x2.log[i].cells:=by simpa using hrl
   clear hrl;generalize x2.log[i]=y at *
   repeat' first|refine K ?_|refine Sa ?_;intro w hS|refine K3 ?_;intro g w hS hge|refine KC ?_ ?_<;>intro hb<;>try exact JX|fail
   refine Z.eff (Z.apm (fc:=En.cells) (l:=o) (l':=[y.e]) hS rfl rfl rfl AtF (hS.lit1 AtF rfl rfl) LnF LnF ?_) rfl;clear hS;intro A2 c2 w hS;rw [← List.length_append] at hS ⊢;refine sQ ?_;intro w hS;refine Sh.again (k0 - (i+1)) [(4,_),(33,.int .i64 (i+1:Nat))] ?_;exact ⟨i+1,o++[y.e],A2,c2,rfl,oM,by simp [hol],rfl,hS.sb⟩
  ·refine sQ ?_;intro w hS;refine Sh.again (0) [(12,.int .i64 (3:Nat))] ?_;exact ⟨3,o,Ae,ce,rfl,oM,oM,rfl,hS.sb⟩
end
end Go.Proofs.YtfmnjbhncnldmaaGreat
