import Derived.Test.YtfmnjbhncnldmaaGreatW08
import Derived.Test.YtfmnjbhncnldmaaGreatW30
import Derived.Test.YtfmnjbhncnldmaaGreatW31
set_option maxHeartbeats 8000000
set_option linter.unusedSimpArgs false
set_option linter.unusedVariables false
namespace Go.Proofs.YtfmnjbhncnldmaaGreat
open Go.RowKit
attribute [local irreducible] Res.blk Res.sl Res.all Res.ex Res.pure Res.star
theorem ybo (c:Cfg) (a:CAd) (k:Int) (r:World) (F:List Res) (w:World) (hS:Sep r [] F w) (ho:c.ok) :
  Calls Tryz.prog 73 #[c.val a,.int .i64 k] w fun e w'=>e=.returned (.bool (inC c k))∧Sep r [] F w':=by
 refine Z.enter Tryz.func73 Tryz.ntmps73 rfl rfl ?_
 repeat' first|refine K ?_|refine Sa ?_;clear hS;intro w hS|refine K3 ?_;clear hS;intro g w hS hge|refine KC ?_ ?_<;>intro hb<;>try exact JX|fail
 ·refine Dnt Tryz.results73 ?_;refine ⟨?_,hS.sb⟩
  by_cases h2:k < c.cells.length
  ·simp [Z.packR,inC,hb,h2]
  ·simp [Z.packR,inC,hb,h2]
 ·refine Dnt Tryz.results73 ?_;refine ⟨?_,hS.sb⟩;have:¬ 0≤k:=by omega
  simp [Z.packR,inC,this]
def TS.val (x:TS):Value:=.agg x.cells.toArray
theorem ybz (x:TS) (p q:Int) (r:World) (F:List Res) (w:World) (hS:Sep r [] F w) :
  Calls Tryz.prog 251 #[x.val,.int .i64 p,.int .i64 q] w fun e w'=>e=.returned (.bool (btw37 x p q))∧Sep r [] F w':=by
 refine Z.enter Tryz.func251 Tryz.ntmps251 rfl rfl ?_
 repeat' first|refine K ?_|refine Sa ?_;clear hS;intro w hS|refine K3 ?_;clear hS;intro g w hS hge|refine KC ?_ ?_<;>intro hb<;>try exact JX|fail
 all_goals
  refine Dnt Tryz.results251 ?_;refine ⟨?_,hS.sb⟩
  simp [Z.packR,btw37,fst37,snd37, *]
theorem ycP {s:Sta} {i:Nat} (p q:Int) (h:i < s.tenants.length):(s.tenants.take (i+1)).any (conf1 p q)=((s.tenants.take i).any (conf1 p q) || conf1 p q s.tenants[i]):=by
 rw [List.take_succ_eq_append_getElem h,List.any_append]
 simp
theorem ygs {c:Cfg} {s:Sta} {p q:Int} (h0:p≠q) (h1:inC c p=true) (h2:inC c q=true):conf c s p q=s.tenants.any (conf1 p q):=by
 simp [conf,h0,h1,h2]
theorem ydB {s:Sta} {i:Nat} {p q:Int} (h:i < s.tenants.length) (h1:conf1 p q s.tenants[i]=true):s.tenants.any (conf1 p q)=true:=List.any_eq_true.2 ⟨_,List.getElem_mem h,h1⟩
theorem yei (c:Cfg) (a:CAd) (s:Sta) (b:SAd) (p q:Int) (r:World) (F:List Res) (w:World) (hS:Sep r [] F w) (ho:c.ok) (hs:s.ok c) (hq:StC r F s c b) :
  Calls Tryz.prog 156 #[c.val a,s.vc c b,.int .i64 p,.int .i64 q] w fun e w'=>e=.returned (.bool (conf c s p q))∧Sep r [] F w':=by
 have hlt:=ho.t;have hsl:=hs.tl;refine Z.enter Tryz.func156 Tryz.ntmps156 rfl rfl ?_
 repeat' first|refine K ?_|refine Sa ?_;clear hS;intro w hS|refine K3 ?_;clear hS;intro g w hS hge|refine KC ?_ ?_<;>intro hb<;>try exact JX|fail
 ·refine Dnt Tryz.results156 ?_;exact ⟨by simp [conf,hb,Z.packR],hS.sb⟩
 rename_i gc _ _;rename Nat=>gs;have hpq:p≠q:=by first|exact hb|omega
 refine cQ (ybo c a p _ _ _ hS ho) rfl ?_;clear hS;rintro e w ⟨rfl,hS⟩;refine ⟨_,rfl,?_⟩
 cases h1:inC c p
 ·refine sQ ?_;intro w hS;refine Dnt Tryz.results156 ?_;exact ⟨by simp [conf,h1,Z.packR],hS.sb⟩
 refine sQ ?_;intro w hS;refine cQ (ybo c a q _ _ _ hS ho) rfl ?_;clear hS;rintro e w ⟨rfl,hS⟩;refine ⟨_,rfl,?_⟩
 cases h2:inC c q
 ·refine sQ ?_;intro w hS;refine Dnt Tryz.results156 ?_;exact ⟨by simp [conf,h2,Z.packR],hS.sb⟩
 have hcf:=ygs (s:=s) hpq h1 h2;refine sQ ?_;intro w hS;refine Z.lpS [8,10,29,30,31,32,33,34,35,36,37,38,39,40,41,42,43,44,45,46,47] (fun m w z=>∃ i:Nat,z=[(29,.int .i64 i)]∧i≤c.tenants.length∧(s.tenants.take i).any (conf1 p q)=false∧m=c.tenants.length - i∧Sep r [] (.blk gs 69 (s.cc c b)::.blk gc 55 (c.cl a)::F) w) _ [(29,.int .i64 (0:Nat))] TrF ⟨0,rfl,oM,by simp,rfl,hS.sb⟩ ?_;clear hS;rintro m f0 w _ ⟨i,rfl,hi,hany,rfl,hS⟩
 by_cases hlt:i < c.tenants.length
 ·have hlt2:i < s.tenants.length:=by omega
  obtain ⟨gb,o,hA,hra⟩:=yax (hq.str hs) [_,_] hS hlt2;obtain ⟨tA,tc,kA,kc⟩:=b;simp only at hA;subst hA;have hsx:=ycP p q hlt2;have hfin:=ydB (p:=p) (q:=q) hlt2;rw [hany,Bool.false_or] at hsx;generalize s.tenants[i]=x at *;obtain ⟨pl,sh,xh,xs,xn,xt,xe,xw⟩:=x
  cases pl
  ·repeat' first|refine K ?_|refine Sa ?_;clear hS;intro w hS|refine K3 ?_;clear hS;intro g w hS hge|refine KC ?_ ?_<;>intro hb<;>try exact JX|fail
   refine Sh.again (c.tenants.length - (i+1)) [(29,.int .i64 (i+1:Nat))] ?_;exact ⟨i+1,rfl,oM,by rw [hsx];rfl,rfl,hS.sb⟩
  ·repeat' first|refine K ?_|refine Sa ?_;clear hS;intro w hS|refine K3 ?_;clear hS;intro g w hS hge|refine KC ?_ ?_<;>intro hb<;>try exact JX|fail
   refine cQ (ybz ⟨true,sh,xh,xs,xn,xt,xe,xw⟩ p q _ _ _ hS) rfl ?_;clear hS;rintro e w ⟨rfl,hS⟩;refine ⟨_,rfl,?_⟩
   cases h3:btw37 ⟨true,sh,xh,xs,xn,xt,xe,xw⟩ p q
   ·refine sQ ?_;intro w hS;refine cQ (ybz ⟨true,sh,xh,xs,xn,xt,xe,xw⟩ q p _ _ _ hS) rfl ?_;clear hS;rintro e w ⟨rfl,hS⟩;refine ⟨_,rfl,?_⟩
    cases h4:btw37 ⟨true,sh,xh,xs,xn,xt,xe,xw⟩ q p
    ·refine sQ ?_;intro w hS;refine Sh.again (c.tenants.length - (i+1)) [(29,.int .i64 (i+1:Nat))] ?_;exact ⟨i+1,rfl,oM,by rw [hsx];simp [conf1,h3,h4],rfl,hS.sb⟩
    ·refine sQ ?_;intro w hS;refine Dnt Tryz.results156 ?_;exact ⟨by rw [hcf,hfin (by simp [conf1,h3,h4])];rfl,hS.sb⟩
   ·refine sQ ?_;intro w hS;refine Dnt Tryz.results156 ?_;exact ⟨by rw [hcf,hfin (by simp [conf1,h3])];rfl,hS.sb⟩
 ·refine sQ ?_;intro w hS;refine Dnt Tryz.results156 ?_;rw [List.take_of_length_le oM] at hany;exact ⟨by rw [hcf,hany];rfl,hS.sb⟩
def joinC (c:Cfg) (s:Sta) (k x:Int):Bool:=decide (regOf c x=regOf c k) && !conf c s x k
theorem yde (c:Cfg) (s:Sta) (l:List Int) (k:Int):joinB c s l k=(decide ((l.length:Int) < c.blast) && l.all (joinC c s k)):=rfl
theorem ycO (c:Cfg) (s:Sta) {l:List Int} {i:Nat} (k:Int) (h:i < l.length):(l.take (i+1)).all (joinC c s k)=((l.take i).all (joinC c s k) && joinC c s k l[i]):=by
 rw [List.take_succ_eq_append_getElem h,List.all_append]
 simp
theorem yhN {c:Cfg} {s:Sta} {l:List Int} {i:Nat} {k:Int} (h:i < l.length) (h1:joinC c s k l[i]=false):joinB c s l k=false:=by
 rw [yde,List.all_eq_false.2 ⟨_,List.getElem_mem h,by rw [h1];decide⟩,Bool.and_false]
theorem StC.app {r:World} {F:List Res} {s:Sta} {c:Cfg} {b:SAd} (h:StC r F s c b) (L:List Res):StC r (L++F) s c b:=⟨h.t.app L,h.k.app L⟩
theorem yej (c:Cfg) (a:CAd) (s:Sta) (b:SAd) (A:Option Addr) (l:List Int) (cap:Nat) (k:Int) (r:World) (F:List Res) (w:World) (hS:Sep r [] F w) (hr:CfR r F c a) (ho:c.ok) (hs:s.ok c) (hq:StC r F s c b) (hrd:Reads r F 1 (.slice A l.length cap) (l.map ztC)) (hl:l.length≤100000) :
  Calls Tryz.prog 74 #[c.val a,s.vc c b,.slice A l.length cap,.int .i64 k] w fun e w'=>e=.returned (.bool (joinB c s l k))∧Sep r [] F w':=by
 refine Z.enter Tryz.func74 Tryz.ntmps74 rfl rfl ?_
 repeat' first|refine K ?_|refine Sa ?_;clear hS;intro w hS|refine K3 ?_;clear hS;intro g w hS hge|refine KC ?_ ?_<;>intro hb<;>try exact JX|fail
 ·refine Dnt Tryz.results74 ?_;have h1:¬ (l.length:Int) < c.blast:=by omega
  exact ⟨by simp [joinB,h1,Z.packR],hS.sb⟩
 rename_i gc _ _;rename Nat=>gs;refine Z.lpS [8,10,18,19,20,21,22,23,24,25,26,27,28,29,30,31,32,33,34,35,36] (fun m w z=>∃ i:Nat,z=[(18,.int .i64 i)]∧i≤l.length∧(l.take i).all (joinC c s k)=true∧m=l.length - i∧Sep r [] (.blk gs 69 (s.cc c b)::.blk gc 55 (c.cl a)::F) w) _ [(18,.int .i64 (0:Nat))] TrF ⟨0,rfl,oM,by simp,rfl,hS.sb⟩ ?_;clear hS;rintro m f0 w _ ⟨i,rfl,hi,hall,rfl,hS⟩
 by_cases hlt:i < l.length
 ·obtain ⟨gb,o,rfl,hra⟩:=yaF hrd [_,_] hS hlt;have hsx:=ycO c s k hlt;have hfin:=yhN (c:=c) (s:=s) (k:=k) hlt;rw [hall,Bool.true_and] at hsx;generalize l[i]=x at *;refine sQ ?_;intro w hS;clear hra
  by_cases hreg:regOf c x=regOf c k
  ·cases hcf:conf c s x k
   ·refine D.startS (Lr:=[.blk gs 69 (s.cc c b),.blk gc 55 (c.cl a)]) (hS.sb) 14 14 kR rfl ?_;replace hS:=hS.drew;refine Sh.dp 1 2 ?_;refine Sh.dp 4 18 ?_;refine Sh.dl 0 19 ?_;refine Sh.dl 3 27 ?_;refine D.ef 2 31 ?_;refine dQ (yam c a x _ _ _ hS (hr.app [_,_]) ho) ?_;intro w hS;refine D.ef 5 63 ?_;refine dQ (yam c a k _ _ _ hS (hr.app [_,_]) ho) ?_;intro w hS
    first|refine D.pr 6 127 rfl D.wantedN kR rfl ?_|refine D.pl 6 127 rfl D.wantedN kR (R.nea rfl rfl rfl rfl) ?_
    refine Sh.dp 7 255 ?_;refine D.slot 29 rfl NoF (fun hb=>?_)
    (try simp only [JJ] at hb)
    refine Sh.dp 10 1279 ?_;refine Sh.dp 11 3327 ?_;refine Sh.dl 8 3583 ?_;refine Sh.dl 9 4095 ?_;refine D.eff 12 8191 rfl (D.wantedT rfl rfl) kR kR (fun _ _ h=>h) ?_;refine WE.guard ?_;refine Z.cl (yei c a s b x k _ _ _ hS ho hs (hq.app [_,_])) rfl ?_;clear hS;rintro e w ⟨rfl,hS⟩;refine ⟨_,rfl,?_⟩;rw [hcf];refine HMs ?_;refine Sh.dp 13 16383 ?_;refine D.dn ?_;refine sQ ?_;intro w hS;refine Sh.again (l.length - (i+1)) [(18,.int .i64 (i+1:Nat))] ?_;exact ⟨i+1,rfl,oM,by rw [hsx];simp [joinC,hreg,hcf],rfl,hS.sb⟩
   ·refine D.startS (Lr:=[.blk gs 69 (s.cc c b),.blk gc 55 (c.cl a)]) (hS.sb) 14 14 kR rfl ?_;replace hS:=hS.drew;refine Sh.dp 1 2 ?_;refine Sh.dp 4 18 ?_;refine Sh.dl 0 19 ?_;refine Sh.dl 3 27 ?_;refine D.ef 2 31 ?_;refine dQ (yam c a x _ _ _ hS (hr.app [_,_]) ho) ?_;intro w hS;refine D.ef 5 63 ?_;refine dQ (yam c a k _ _ _ hS (hr.app [_,_]) ho) ?_;intro w hS
    first|refine D.pr 6 127 rfl D.wantedN kR rfl ?_|refine D.pl 6 127 rfl D.wantedN kR (R.nea rfl rfl rfl rfl) ?_
    refine Sh.dp 7 255 ?_;refine D.slot 29 rfl NoF (fun hb=>?_)
    (try simp only [JJ] at hb)
    refine Sh.dp 10 1279 ?_;refine Sh.dp 11 3327 ?_;refine Sh.dl 8 3583 ?_;refine Sh.dl 9 4095 ?_;refine D.eff 12 8191 rfl (D.wantedT rfl rfl) kR kR (fun _ _ h=>h) ?_;refine WE.guard ?_;refine Z.cl (yei c a s b x k _ _ _ hS ho hs (hq.app [_,_])) rfl ?_;clear hS;rintro e w ⟨rfl,hS⟩;refine ⟨_,rfl,?_⟩;rw [hcf];refine HMs ?_;refine Sh.dp 13 16383 ?_;refine D.dn ?_;refine sQ ?_;intro w hS;refine Dnt Tryz.results74 ?_;exact ⟨by rw [hfin (by simp [joinC,hreg,hcf])];rfl,hS.sb⟩
  ·refine D.startS (Lr:=[.blk gs 69 (s.cc c b),.blk gc 55 (c.cl a)]) (hS.sb) 14 14 kR rfl ?_;replace hS:=hS.drew;refine Sh.dp 1 2 ?_;refine Sh.dp 4 18 ?_;refine Sh.dl 0 19 ?_;refine Sh.dl 3 27 ?_;refine D.ef 2 31 ?_;refine dQ (yam c a x _ _ _ hS (hr.app [_,_]) ho) ?_;intro w hS;refine D.ef 5 63 ?_;refine dQ (yam c a k _ _ _ hS (hr.app [_,_]) ho) ?_;intro w hS
   first|refine D.pr 6 127 rfl D.wantedN kR rfl ?_|refine D.pl 6 127 rfl D.wantedN kR (R.nea rfl rfl rfl rfl) ?_
   refine Sh.dp 7 255 ?_;refine D.slot 29 rfl (fun hb=>?_) NoF
   (try simp only [JJ] at hb)
   refine D.sk 8 511 ?_;refine D.sk 9 1023 ?_;refine D.sk 10 2047 ?_;refine D.sk 11 4095 ?_;refine D.sk 12 8191 ?_;refine Sh.dp 13 16383 ?_;refine D.dn ?_;refine sQ ?_;intro w hS;refine Dnt Tryz.results74 ?_;exact ⟨by rw [hfin (by simp [joinC,hreg])];rfl,hS.sb⟩
 ·refine sQ ?_;intro w hS;refine Dnt Tryz.results74 ?_;rw [List.take_of_length_le oM] at hall;have hbl:(l.length:Int) < c.blast:=by omega
  exact ⟨by rw [yde,hall];simp [hbl,Z.packR],hS.sb⟩
theorem ygK (l:List Int) (A:Option Addr) (c:Nat) (r:World) (F:List Res) (w:World) (hS:Sep r [] F w) (hrd:Reads r F 1 (.slice A l.length c) (l.map ztC)) (hl:l.length≤100000) :
  Calls Tryz.prog 71 #[.slice A l.length c] w fun e w'=>∃ A c,e=.returned (.slice A l.length c)∧Sep r [] (.sl 3 1 (.slice A l.length c) (l.map ztC)::F) w':=by
 obtain ⟨_,_,_,hv,hnil,hc,_⟩:=hrd [] w hS
 injection hv with e1 e2 e3
 subst e1;simp only [List.length_map] at hnil hc
 cases A with
 | none=>
  have hl0:l=[]:=by have:=hnil rfl;exact List.eq_nil_of_length_eq_zero oM
  subst hl0;refine Z.enter Tryz.func71 Tryz.ntmps71 rfl rfl ?_;refine sQ ?_;intro w hS;refine Dnt Tryz.results71 ?_;exact ⟨none,0,rfl,Z.nilsl hS _ _ none⟩
 | some a=>
  refine Z.enter Tryz.func71 Tryz.ntmps71 rfl rfl ?_
  repeat' first|refine K ?_|refine Sa ?_;clear hS;intro w hS|refine K3 ?_;clear hS;intro g w hS hge|refine KC ?_ ?_<;>intro hb<;>try exact JX|fail
  refine Z.eff (Z.ap0m hS rfl rfl rfl (hrd [_] _ hS) LnF LnF ?_) rfl;clear hS;intro A' c' w hS;refine sQ ?_;intro w hS;refine Dnt Tryz.results71 ?_;exact ⟨_,_,rfl,hS.sb⟩
theorem ydj {c:Cfg} {s:Sta} {l:List Int} (h:mkOk c l=true):mkR c s l=(mkW c s (srt l),0):=by unfold mkR;rw [if_pos h]
theorem yiJ {c:Cfg} {s:Sta} {l:List Int} (h:mkOk c l=false):mkR c s l=([],1):=by unfold mkR;rw [if_neg (by rw [h];decide)]
theorem yiK (c:Cfg) {l q:List Int} (h:srt l=q):q.length=l.length∧(mkOk c l=true↔∀ i (hi:i < q.length),inC c q[i]=true∧(0 < i→q[i - 1]≠q[i])):=by subst h;exact ⟨srt_len l,mkOk_srt c l⟩
theorem len_set {W:List Wv} {j i:Nat} {y:Wv} (h:∀ x,x∈W→x.l.length≤i) (hy:y.l.length≤i+1):∀ x,x∈W.set j y→x.l.length≤i+1:=fun x hx=>by
 rcases List.mem_or_eq_of_mem_set hx with hx|rfl
 ·exact Nat.le_succ_of_le (h x hx)
 ·exact hy
theorem len_snoc {W:List Wv} {i:Nat} {y:Wv} (h:∀ x,x∈W→x.l.length≤i) (hy:y.l.length≤i+1):∀ x,x∈W++[y]→x.l.length≤i+1:=fun x hx=>by
 rcases List.mem_append.1 hx with hx|hx
 ·exact Nat.le_succ_of_le (h x hx)
 ·rw [List.mem_singleton] at hx;subst hx;exact hy
theorem setWv {W:List Wv} {j:Nat} {y:Wv}:(W.set j y).map Wv.l=(W.map Wv.l).set j y.l:=List.map_set
theorem yhZ (c:Cfg) (a:CAd) (s:Sta) (b:SAd) (A:Option Addr) (l:List Int) (cap:Nat) (r:World) (F:List Res) (w:World) (hS:Sep r [] F w) (hr:CfR r F c a) (ho:c.ok) (hs:s.ok c) (hq:StC r F s c b) (hrd:Reads r F 1 (.slice A l.length cap) (l.map ztC)) (hl:l.length≤1000) :
  Calls Tryz.prog 23 #[c.val a,s.vc c b,.slice A l.length cap] w fun e w'=>∃ (W:List Wv) (B:Option Addr) (C:Nat),e=.returned (.tuple #[.slice B W.length C,.int .i64 (mkR c s l).2])∧W.map Wv.l=(mkR c s l).1∧Sep r [] (WO B C W::F) w':=by
 refine Z.enter Tryz.func23 Tryz.ntmps23 rfl rfl ?_;refine aQ2 ?_;intro gc gs w hS;refine cQ (ygK l A cap _ _ _ hS (hrd.app [_,_]) oM) rfl ?_;clear hS;rintro e w ⟨A1,c1,rfl,hS⟩;refine eQ ?_;intro w hS;refine cQ (yf3 A1 l c1 _ _ _ hS oM) rfl ?_;clear hS;rintro e w ⟨rfl,hS⟩;refine ⟨_,rfl,?_⟩;have hno:mkOk c l=false→mkR c s l=([],1):=yiJ;have hyes:mkOk c l=true→mkR c s l=(mkW c s (srt l),0):=ydj;obtain ⟨q,hqq⟩:∃ q,srt l=q:=⟨_,rfl⟩;obtain ⟨hql,hchk⟩:=yiK c hqq;rw [hqq] at hS hyes;clear hqq;refine sQ ?_;intro w hS;refine Z.lpS [6,7,9,10,21,22,23,24,25,26,27,28,29,30,31,32,33,34,35,36,37,38,39,40,41,42,43] (fun m w z=>∃ i:Nat,z=[(21,.int .i64 i)]∧i≤l.length∧(∀ j (hj:j < q.length),j < i→inC c q[j]=true∧(0 < j→q[j - 1]≠q[j]))∧m=l.length - i∧Sep r [] (.sl 3 1 (.slice A1 l.length c1) (q.map ztC)::.blk gs 69 (s.cc c b)::.blk gc 55 (c.cl a)::F) w) _ [(21,.int .i64 (0:Nat))] TrF ⟨0,rfl,oM,fun j _ h=>absurd h oM,rfl,hS.sb⟩ ?_;clear hS;rintro m f0 w _ ⟨i,rfl,hi,hall,rfl,hS⟩
 by_cases hlt:i < l.length
 ·have hlt2:i < q.length:=by omega
  obtain ⟨g1,rfl⟩:=Z.Sep_slform hS (rows:=q.map ztC) .here (by simpa using (by omega:0 < q.length));have hra:w.rangeAt g1 (0+i * 1) (ztC q[i]):=by
   have h3:=(hS.slrows .here).elem (q:=i) oM (by simpa using hlt2)
   simpa using h3
  have hbad:(inC c q[i]=true→0 < i∧q[i - 1]=q[i])→mkR c s l=([],1):=fun h=>hno (by
   cases hok:mkOk c l
   ·rfl
   ·have h2:=hchk.1 hok i hlt2;have h3:=h h2.1;exact absurd h3.2 (h2.2 h3.1))
  have hnx:inC c q[i]=true→(0 < i→q[i - 1]≠q[i])→∀ j (hj:j < q.length),j < i+1→inC c q[j]=true∧(0 < j→q[j - 1]≠q[j]):=fun h1 h2 j hj hji=>by
   rcases Nat.lt_or_ge j i with h3|h3
   ·exact hall j hj h3
   ·have:j=i:=by omega
    subst this;exact ⟨h1,h2⟩
  refine sQ ?_;intro w hS;refine cQ (ybo c a q[i] _ _ _ hS ho) rfl ?_;clear hS;rintro e w ⟨rfl,hS⟩;refine ⟨_,rfl,?_⟩
  cases hic:inC c q[i]
  ·refine sQ ?_;intro w hS;refine Dntt Tryz.results23 ?_;rw [hbad (fun h=>by rw [hic] at h;cases h)];exact ⟨[],none,0,rfl,rfl,WO.nil (hS.sb) none⟩
  ·by_cases hi0:0 < i
   ·have hrb:w.rangeAt g1 (0+((i:Int) - 1).toNat * 1) (ztC q[i - 1]):=by
     have h3:=(hS.slrows (e:=3) (sz:=1) (v:=.slice (some ⟨g1,0,none⟩) l.length c1) (rows:=q.map ztC) .here).elem (q:=i - 1) oM oM;rw [show ((i:Int) - 1).toNat=i - 1 by omega]
     simpa using h3
    generalize q[i - 1]=x1 at *;generalize q[i]=x2 at *
    repeat' first|refine K ?_|refine Sa ?_;clear hS;intro w hS|refine K3 ?_;clear hS;intro g w hS hge|refine KC ?_ ?_<;>intro hb<;>try exact JX|fail
    ·refine Dntt Tryz.results23 ?_;rw [hbad (fun _=>⟨hi0,hb⟩)];exact ⟨[],none,0,rfl,rfl,WO.nil (hS.sb) none⟩
    ·refine Sh.again (l.length - (i+1)) [(21,.int .i64 (i+1:Nat))] ?_;exact ⟨i+1,rfl,oM,hnx hic (fun _=>hb),rfl,hS⟩
   ·have:i=0:=by omega
    subst this;refine sQ ?_;intro w hS;refine Sh.again (l.length - (0+1)) [(21,.int .i64 (0+1:Nat))] ?_;exact ⟨0+1,rfl,oM,hnx hic (fun h=>absurd h oM),rfl,hS⟩
 have hi2:i=l.length:=by omega
 have hok:mkOk c l=true:=hchk.2 fun j hj=>hall j hj oM
 rw [hyes hok]
 repeat' first|refine K ?_|refine Sa ?_;clear hS;intro w hS|refine K3 ?_;clear hS;intro g w hS hge|refine KC ?_ ?_<;>intro hb<;>try exact JX|fail
 clear hall hchk hno hyes hi hi2 hok hlt hb;replace hS:=WO.nil hS none;refine Z.lpS [11,13,14,46,47,48,49,50,51,52,53,54,55,56,57,58,59,60,61,62,63,64,65,66,67,68,69,70,71,72,73,74,75,76,77,78,79] (fun m w z=>∃ (i:Nat) (W:List Wv) (B:Option Addr) (C:Nat),z=[(11,.slice B W.length C),(46,.int .i64 i)]∧i≤l.length∧W.length≤i∧W.map Wv.l=mkW c s (q.take i)∧(∀ x,x∈W→x.l.length≤i)∧m=l.length - i∧Sep r [] (WO B C W::.sl 3 1 (.slice A1 l.length c1) (q.map ztC)::.blk gs 69 (s.cc c b)::.blk gc 55 (c.cl a)::F) w) _ [(11,.slice none 0 0),(46,.int .i64 (0:Nat))] TrF ⟨0,[],none,0,rfl,oM,by simp,by simp [mkW],by simp,rfl,hS⟩ ?_;clear hS;rintro m f0 w _ ⟨i,W,B,C,rfl,hi,hWl,hW,hWx,rfl,hS⟩
 by_cases hlt:i < l.length
 ·have hlt2:i < q.length:=by omega
  obtain ⟨g1,rfl⟩:=Z.Sep_slform hS (rows:=q.map ztC) (.next .here) (by simpa using (by omega:0 < q.length));have hra:w.rangeAt g1 (0+i * 1) (ztC q[i]):=by
   have h3:=(hS.slrows (.next .here)).elem (q:=i) oM (by simpa using hlt2)
   simpa using h3
  have hsx:mkW c s (q.take (i+1))=insWx c s (W.map Wv.l) q[i]:=by rw [List.take_succ_eq_append_getElem hlt2,mkW_snoc,hW]
  generalize q[i]=x at *;refine sQ ?_;intro w hS;clear hra;refine Z.lpS [14,50,51,52,53,54,55,56,57,58,59,60,61,62,63,64,65,66,67,68,69,70,71,72,73] (fun m w z=>∃ j:Nat,z=[(14,.int .i64 j)]∧1≤j∧(∀ p (hp:p < W.length),1≤p→p < j→joinB c s (W[p]).l x=false)∧m=W.length - j∧Sep r [] (WO B C W::.sl 3 1 (.slice (some ⟨g1,0,none⟩) l.length c1) (q.map ztC)::.blk gs 69 (s.cc c b)::.blk gc 55 (c.cl a)::F) w) _ [(14,.int .i64 (1:Nat))] TrF ⟨1,rfl,oM,fun p _ h1 h2=>absurd h2 oM,rfl,hS⟩ ?_;clear hS;rintro m f1 w _ ⟨j,rfl,hj,hno,rfl,hS⟩
  by_cases hjl:j < W.length
  ·obtain ⟨gB,rfl⟩:=Z.Sep_slform (WO.op hS) (rows:=W.map Wv.cells) .here (by simpa using (by omega:0 < W.length));have hrr:=fun X (h:Sep r [] (WO (some ⟨gB,0,none⟩) C W::.sl 3 1 (.slice (some ⟨g1,0,none⟩) l.length c1) (q.map ztC)::.blk gs 69 (s.cc c b)::.blk gc 55 (c.cl a)::F) X)=>(WvR.of_at (r:=r) (F:=WO (some ⟨gB,0,none⟩) C W::.sl 3 1 (.slice (some ⟨g1,0,none⟩) l.length c1) (q.map ztC)::.blk gs 69 (s.cc c b)::.blk gc 55 (c.cl a)::F) .here).geta [] h rfl hjl
   have hin:=(WvR.of_at (r:=r) (F:=WO (some ⟨gB,0,none⟩) C W::.sl 3 1 (.slice (some ⟨g1,0,none⟩) l.length c1) (q.map ztC)::.blk gs 69 (s.cc c b)::.blk gc 55 (c.cl a)::F) .here).inn _ (List.getElem_mem hjl);have hxl:=hWx _ (List.getElem_mem hjl);have hjw:=fun h=>ydE c s x (ws:=W.map Wv.l) (i:=j) hj (by simpa using hjl) (fun p h1 h2=>by simpa using hno p oM h1 h2) h
   have hnw:joinB c s (W[j]).l x=false→∀ p (hp:p < W.length),1≤p→p < j+1→joinB c s (W[p]).l x=false:=fun h p hp h1 h2=>by
    rcases Nat.lt_or_ge p j with h3|h3
    ·exact hno p hp h1 h3
    ·have:p=j:=by omega
     subst this;exact h
   simp only [List.getElem_map] at hjw;obtain ⟨y,hX⟩:∃ y,W[j]=y:=⟨_,rfl⟩;obtain ⟨l',A',c'⟩:=y;rw [hX] at hrr hin hxl hjw hnw;simp only at hin hxl hjw hnw;refine sQ ?_;intro w hS
   cases hjn:joinB c s l' x
   ·refine D.startS hS 8 8 kR rfl ?_;replace hS:=hS.drew;refine Sh.dp 2 4 ?_;refine Sh.dp 3 12 ?_
    first|refine D.ixn 4 28 rfl D.wantedN kR rfl rfl rfl oM ?_|refine D.ix 4 28 rfl D.wantedN kR rfl rfl rfl oM ?_|refine D.ia 4 28 rfl D.wantedN kR rfl rfl rfl oM ?_
    refine Sh.dp 6 92 ?_;refine Sh.dl 0 93 ?_;refine Sh.dl 1 95 ?_;refine D.ldR 5 127 rfl D.wantedN kR rfl hrr rfl ?_;refine D.ef 7 255 ?_;refine Z.cl (yej c a s b A' l' c' x _ _ _ hS (hr.app [_,_,_,_]) ho hs (hq.app [_,_,_,_]) hin oM) rfl ?_;clear hS;rintro e w ⟨rfl,hS⟩;refine ⟨_,rfl,?_⟩;rw [hjn];refine HMs ?_;refine D.dn ?_;refine sQ ?_;intro w hS;refine Sh.again (W.length - (j+1)) [(14,.int .i64 (j+1:Nat))] ?_;exact ⟨j+1,rfl,oM,hnw hjn,rfl,hS⟩
   ·refine D.startS hS 8 8 kR rfl ?_;replace hS:=hS.drew;refine Sh.dp 2 4 ?_;refine Sh.dp 3 12 ?_
    first|refine D.ixn 4 28 rfl D.wantedN kR rfl rfl rfl oM ?_|refine D.ix 4 28 rfl D.wantedN kR rfl rfl rfl oM ?_|refine D.ia 4 28 rfl D.wantedN kR rfl rfl rfl oM ?_
    refine Sh.dp 6 92 ?_;refine Sh.dl 0 93 ?_;refine Sh.dl 1 95 ?_;refine D.ldR 5 127 rfl D.wantedN kR rfl hrr rfl ?_;refine D.ef 7 255 ?_;refine Z.cl (yej c a s b A' l' c' x _ _ _ hS (hr.app [_,_,_,_]) ho hs (hq.app [_,_,_,_]) hin oM) rfl ?_;clear hS;rintro e w ⟨rfl,hS⟩;refine ⟨_,rfl,?_⟩;rw [hjn];refine HMs ?_;refine D.dn ?_
    skip
    have hrw:=hrr _ hS
    repeat' first|refine K ?_|refine Sa ?_;clear hS;intro w hS|refine K3 ?_;clear hS;intro g w hS hge|refine KC ?_ ?_<;>intro hb<;>try exact JX|fail
    clear hrw;replace hS:=WO.op (hS.fo (R:=WO (some ⟨gB,0,none⟩) C W));have hat:=fun R=>at_idx (f:=Wv.res) R hjl
    rw [hX] at hat
    refine Z.eff (Z.apm (fc:=ztC) (l:=l') (l':=[x]) hS rfl rfl rfl (.next (hat _)) (hS.lit1 (.next (at_app _ .here)) rfl rfl) LnF LnF ?_) rfl;clear hS hat;intro A2 c2 w hS;rw [← List.length_append] at hS ⊢;refine sQ ?_;intro w hS;refine Z.eff (Z.stF (j:=0) (fc:=Wv.cells) (⟨l'++[x],A2,c2⟩:Wv) hS rfl (.next .here) hjl rfl rfl rfl oM rfl ?_) rfl;clear hS;intro w hS;replace hS:=WO.set (⟨l'++[x],A2,c2⟩:Wv) hjl (hS.sub (.cons (.next .here) .rest));refine sQ ?_;intro w hS;refine Sh.again (l.length - (i+1)) [(11,_),(46,.int .i64 (i+1:Nat))] ?_;exact ⟨i+1,W.set j ⟨l'++[x],A2,c2⟩,some ⟨gB,0,none⟩,C,by rw [List.length_set],oM,by simp;omega,by rw [hsx,hjw hjn,setWv],len_set hWx (by simp;omega),rfl,hS.sb⟩
  ·repeat' first|refine K ?_|refine Sa ?_;clear hS;intro w hS|refine K3 ?_;clear hS;intro g w hS hge|refine KC ?_ ?_<;>intro hb<;>try exact JX|fail
   rename_i g3 _ _;rename Nat=>g2;replace hS:=hS.fo (R:=.blk g3 _ _);replace hS:=mk_sl (sz:=1) (n:=1) (rows:=[x].map ztC) hS rfl oM (by decide) (by intro row hrow;simp at hrow;subst hrow;exact ⟨rfl,by simp [ztC,Value.oneCell']⟩) rfl;replace hS:=hS.fo (R:=.blk g2 _ _);replace hS:=WO.op (hS.fo (R:=WO B C W));refine Z.eff (Z.apm (fc:=Wv.cells) (l:=W) (l':=[(⟨[x],some ⟨g3,0,none⟩,1⟩:Wv)]) hS rfl rfl rfl .here (hS.lit1 (.next (at_app _ .here)) rfl rfl) LnF LnF ?_) rfl;clear hS;intro B2 C2 w hS;rw [← List.length_append] at hS ⊢;replace hS:=WO.snoc (⟨[x],some ⟨g3,0,none⟩,1⟩:Wv) (hS.sub (.cons (.next (at_app _ (.next .here))) .rest)) rfl;refine sQ ?_;intro w hS;refine Sh.again (l.length - (i+1)) [(11,_),(46,.int .i64 (i+1:Nat))] ?_;exact ⟨i+1,W++[⟨[x],some ⟨g3,0,none⟩,1⟩],B2,C2,rfl,oM,by simp;omega,by rw [hsx,insWx_none c s x (fun p h1 h2=>by simpa using hno p (by simpa using h2) h1 (by simp at h2;omega))];simp,len_snoc hWx (by simp),rfl,hS.sb⟩
 ·have hi2:i=l.length:=by omega
  rw [List.take_of_length_le oM] at hW;refine sQ ?_;intro w hS;refine Dntt Tryz.results23 ?_;exact ⟨W,B,C,rfl,hW,hS.sb⟩
theorem mkW_len (c:Cfg) (s:Sta) (l:List Int):(mkW c s l).length≤l.length:=by
 suffices h:∀ (l:List Int) (a:List (List Int)),(l.foldl (insWx c s) a).length≤a.length+l.length by simpa [mkW] using h l []
 intro l
 induction l with
 | nil=>intro a;simp
 | cons k l ih=>
  intro a;have h1:=ih (insWx c s a k);have h2:=yfv c s k a;simp only [List.foldl_cons,List.length_cons];omega
theorem yiI {c:Cfg} {s:Sta} {l:List Int} (hb:1≤c.blast):(mkR c s l).1.length≤l.length∧∀ w,w∈(mkR c s l).1→w.length≤l.length:=by
 unfold mkR
 split
 ·refine ⟨Nat.le_trans (mkW_len c s _) (Nat.le_of_eq (srt_len l)),fun w hw=>?_⟩;have h1:=(mkW_made (s:=s) hb (srt l)).perm.length_eq;rw [srt_len] at h1;rw [← h1];exact (List.sublist_flatten_of_mem hw).length_le
 ·exact ⟨by simp,by simp⟩
end Go.Proofs.YtfmnjbhncnldmaaGreat
