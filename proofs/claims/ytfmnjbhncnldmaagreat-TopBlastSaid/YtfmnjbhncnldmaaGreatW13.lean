import Derived.Test.YtfmnjbhncnldmaaGreatW09
import Derived.Test.YtfmnjbhncnldmaaGreatW10
set_option maxHeartbeats 2000000
set_option linter.unusedSimpArgs false
set_option linter.unusedVariables false
namespace Go.Proofs.YtfmnjbhncnldmaaGreat
open Go.RowKit
attribute [local irreducible] Res.blk Res.sl Res.all Res.ex Res.pure Res.star
def codeZ (n:Int):Int:=if n < 0 then -2 * n - 1 else 2 * n
def leb (u:Nat):List Int:=if u < 128 then [(u:Int)] else ((u % 128+128:Nat):Int)::leb (u / 128)
termination_by u
decreasing_by omega
def byC (z:Int):List Value:=[.int .u8 z]
def putL (n:Int):List Int:=leb (codeZ n).toNat
def mixF (h n:Int):Int:=
 let y:=IntKind.u64.wrap (bitZ .u64 (· ^^^ ·) h (IntKind.u64.wrap n) * 1099511628211)
 bitZ .u64 (· ^^^ ·) y (y.fdiv (2 ^ 29))
def sumF (key:Int) (b:List Int):Int:=mixF (b.foldl mixF (mixF 14695981039346656037 key)) b.length
def i64ok (n:Int):Prop:=-9223372036854775808≤n∧n≤9223372036854775807
theorem ycZ {n:Int} (h:i64ok n):0≤codeZ n∧codeZ n < 18446744073709551616:=by
 unfold i64ok at h;unfold codeZ
 split<;>omega
theorem u64_wrap (z:Int):IntKind.u64.wrap z=z % 18446744073709551616:=by
 simp [IntKind.wrap,IntKind.signed,IntKind.bits]
theorem codeP_neg {n:Int} (h:i64ok n) (hn:n < 0):bitZ .u64 (· ^^^ ·) IntKind.u64.max (IntKind.u64.wrap (IntKind.u64.wrap n * 2 ^ min (1:Int).toNat IntKind.u64.bits))=codeZ n:=by
 unfold i64ok at h;have e1:IntKind.u64.wrap (IntKind.u64.wrap n * 2 ^ min (1:Int).toNat IntKind.u64.bits)=2 * n+18446744073709551616:=by
  rw [u64_wrap,u64_wrap];have:(2:Int) ^ min (1:Int).toNat IntKind.u64.bits=2:=by decide
  rw [this];omega
 rw [e1];unfold codeZ;rw [if_pos hn];unfold bitZ;have e2:BitVec.ofInt 64 18446744073709551615=BitVec.allOnes 64:=by decide
 show IntKind.u64.wrap ((BitVec.ofInt 64 18446744073709551615 ^^^ BitVec.ofInt 64 (2 * n+18446744073709551616)).toNat:Int)=_
 rw [e2,BitVec.allOnes_xor,BitVec.toNat_not,BitVec.toNat_ofInt,u64_wrap];omega
theorem codeP_pos {n:Int} (h:i64ok n) (hn:0≤n):IntKind.u64.wrap (IntKind.u64.wrap n * 2 ^ min (1:Int).toNat IntKind.u64.bits)=codeZ n:=by
 unfold i64ok at h;unfold codeZ;rw [if_neg oM,u64_wrap,u64_wrap];have:(2:Int) ^ min (1:Int).toNat IntKind.u64.bits=2:=by decide
 rw [this];omega
theorem yeu (z:Int):IntKind.u8.wrap z=z % 256:=by
 simp [IntKind.wrap,IntKind.signed,IntKind.bits]
set_option maxRecDepth 100000 in
theorem or128:∀ x:Fin 256,bitZ .u8 (· ||| ·) (x.val:Int) 128=((x.val % 128+128:Nat):Int):=by decide
theorem ygF (u:Nat):bitZ .u8 (· ||| ·) (IntKind.u8.wrap (u:Int)) 128=((u % 128+128:Nat):Int):=by
 rw [yeu];have h:=or128 ⟨u % 256,Nat.mod_lt _ oM⟩;simp only at h;have e:(u:Int) % 256=((u % 256:Nat):Int):=by omega
 rw [e,h]
 congr 2
 omega
theorem yb0 {u:Nat} (h:u < 128):leb u=[(u:Int)]:=by unfold leb;rw [if_pos h]
theorem ydh {u:Nat} (h:¬ u < 128):leb u=((u % 128+128:Nat):Int)::leb (u / 128):=by rw [leb,if_neg h]
theorem yd9:∀ (k u:Nat),u < 128 ^ (k+1)→(leb u).length≤k+1
 | 0,u,h=>by rw [yb0 (by simpa using h)];simp
 | k+1,u,h=>by
  by_cases h1:u < 128
  ·rw [yb0 h1];simp
  ·rw [ydh h1];have h2:u / 128 < 128 ^ (k+1):=by
    rw [Nat.div_lt_iff_lt_mul oM];rw [Nat.pow_succ] at h;exact h
   have:=yd9 k (u / 128) h2;simp only [List.length_cons];omega
theorem ya5 {n:Int} (h:i64ok n):(putL n).length≤10:=by
 have:=ycZ h;unfold putL;refine yd9 9 _ ?_;have e:(128:Nat) ^ (9+1)=1180591620717411303424:=by decide
 rw [e];omega
def bOk (l:List Int):Prop:=∀ x,x∈l→0≤x∧x < 256
theorem bOk.nil:bOk []:=by intro x h;cases h
theorem bOk.app {a b:List Int} (ha:bOk a) (hb:bOk b):bOk (a++b):=by
 intro x h
 rcases List.mem_append.1 h with h|h
 ·exact ha x h
 ·exact hb x h
theorem yiF (u:Nat):bOk (leb u):=by
 induction u using Nat.strongRecOn with
 | _ u ih=>
  by_cases h:u < 128
  ·rw [yb0 h];intro x hx;rw [List.mem_singleton] at hx;subst hx;omega
  ·rw [ydh h];intro x hx
   rcases List.mem_cons.1 hx with rfl|hx
   ·omega
   ·exact ih _ oM x hx
theorem putL_ok (n:Int):bOk (putL n):=yiF _
theorem fold_take {β:Type} (f:β→Int→β) (b:β) (l:List Int) {i:Nat} (hi:i < l.length):f ((l.take i).foldl f b) l[i]=(l.take (i+1)).foldl f b:=by
 rw [List.take_succ_eq_append_getElem hi,List.foldl_append]
 simp
theorem shr7 (u:Nat):(u:Int).fdiv (2 ^ min (7:Int).toNat IntKind.u64.bits)=((u / 128:Nat):Int):=by
 have e:(2:Int) ^ min (7:Int).toNat IntKind.u64.bits=128:=by decide
 rw [e,Int.fdiv_eq_ediv_of_nonneg _ oM]
 rfl
theorem yio (n:Int) (hn:i64ok n) (w:World):Calls Tryz.prog 444 #[.int .i64 n] w fun e w'=>e=.returned (.int .u64 (codeZ n))∧Chg [] w w':=by
 have hS:=Sep.root w;refine Z.enter Tryz.func444 Tryz.ntmps444 rfl rfl ?_
 repeat' first|refine K ?_|refine Sa ?_;intro w hS|refine K3 ?_;intro g w hS hge|refine KC ?_ ?_<;>intro hb<;>try exact JX|fail
 ·refine Dnt Tryz.results444 ?_;exact ⟨congrArg (fun z=>Ending.returned (Value.int .u64 z)) (codeP_neg hn oM),hS.chg⟩
 ·refine Dnt Tryz.results444 ?_;exact ⟨congrArg (fun z=>Ending.returned (Value.int .u64 z)) (codeP_pos hn oM),hS.chg⟩
theorem ygj (l:List Int) (v:Value) (k:Nat) (r:World) (F:List Res) (w:World) (hS:Sep r [] F w) (hrd:Reads r F 1 v (l.map byC)) (hl:l.length≤1000000) (hk:k≤1000000) :
  Calls Tryz.prog 428 #[v,.int .i64 k] w fun e w'=>∃ A c,e=.returned (.slice A l.length c)∧Sep r [] (.sl 5 1 (.slice A l.length c) (l.map byC)::F) w':=by
 obtain ⟨A,c,rfl,hc⟩:=(hrd [] w hS).mform;refine Z.enter Tryz.func428 Tryz.ntmps428 rfl rfl ?_;refine sQ ?_;intro w hS;refine Z.eff (Z.mks (bytes:=1) (l:=0) (c:=l.length+k) hS rfl (congrArg (Value.int .i64) (Int.natCast_add l.length k).symm) rfl (Nat.zero_le _) (by show 1 * (l.length+k)≤281474976710656;omega) (by unfold maxLen;omega) ?_) rfl;clear hS;intro gz w hS _;replace hS:=ybn (sz:=1) (c:=l.length+k) hS (by unfold maxLen;omega) (by rw [zerosL_ln];rfl);refine sQ ?_;intro w hS;refine Z.eff (Z.apm (l:=[]) (l':=l) hS rfl rfl rfl .here (hrd [_] w hS) LnF LnF ?_) rfl;clear hS;intro A2 c2 w hS;simp only [List.length_nil,Nat.zero_add,List.nil_append] at hS ⊢;refine sQ ?_;intro w hS;refine Dnt Tryz.results428 ?_;exact ⟨A2,c2,rfl,hS⟩
theorem wcopied_i (l:List Int) (v:Value) (k:Int) (r:World) (F:List Res) (w:World) (hS:Sep r [] F w) (hrd:Reads r F 1 v (l.map byC)) (hl:l.length≤1000000) (hk:0≤k∧k≤1000000) :
  Calls Tryz.prog 428 #[v,.int .i64 k] w fun e w'=>∃ A c,e=.returned (.slice A l.length c)∧Sep r [] (.sl 5 1 (.slice A l.length c) (l.map byC)::F) w':=by
 obtain ⟨q,rfl⟩:=Int.eq_ofNat_of_zero_le hk.1;exact ygj l v q r F w hS hrd hl oM
theorem yi8 (l:List Int) (A:Option Addr) (c:Nat) (n:Int) (hn:i64ok n) (r:World) (F:List Res) (w:World) (hS:Sep r [] (.sl 5 1 (.slice A l.length c) (l.map byC)::F) w) (hl:l.length≤2000000) :
  Calls Tryz.prog 427 #[.slice A l.length c,.int .i64 n] w fun e w'=>∃ A' c',e=.returned (.slice A' (l++putL n).length c')∧Sep r [] (.sl 5 1 (.slice A' (l++putL n).length c') ((l++putL n).map byC)::F) w':=by
 have hcz:=ycZ hn;refine Z.enter Tryz.func427 Tryz.ntmps427 rfl rfl ?_;refine sQ ?_;intro w hS;refine cQ (yio n hn _) rfl ?_;rintro e w' ⟨rfl,hC⟩;refine ⟨_,rfl,?_⟩;replace hS:=hS.ext hC;clear hC;obtain ⟨u,hu⟩:=Int.eq_ofNat_of_zero_le hcz.1;have hul:u < 18446744073709551616:=by omega
 have hpl:putL n=leb u:=by unfold putL;rw [hu];rfl
 rw [hu]
 repeat' first|refine K ?_|refine Sa ?_;intro w hS|refine K3 ?_;intro g w hS hge|refine KC ?_ ?_<;>intro hb<;>try exact JX|fail
 refine Z.lpS [0,5,8,9,10,11,12,13,14,15,16,17] (fun m w s=>∃ (l':List Int) (u':Nat) (A':Option Addr) (c':Nat),s=[(0,.slice A' l'.length c'),(5,.int .u64 (u':Int))]∧l'++leb u'=l++leb u∧u'=m∧Sep r [] (.sl 5 1 (.slice A' l'.length c') (l'.map byC)::F) w) _ [(0,.slice A l.length c),(5,.int .u64 (u:Int))] TrF ⟨l,u,A,c,rfl,rfl,rfl,hS⟩ ?_;clear hS;rintro m f0 w _ ⟨l',u',A',c',rfl,hlu,hum,hS⟩;subst hum;have hll:=congrArg List.length hlu;simp only [List.length_append] at hll;have hlb:=ya5 hn;rw [hpl] at hlb
 repeat' first|refine K ?_|refine Sa ?_;intro w hS|refine K3 ?_;intro g w hS hge|refine KC ?_ ?_<;>intro hb<;>try exact JX|fail
 ·have hge:¬ u' < 128:=by omega
  rw [ydh hge] at hlu hll;rw [ygF] at hS;simp only [List.length_cons] at hll;refine Z.eff (Z.apm (l':=[((u' % 128+128:Nat):Int)]) hS rfl rfl rfl AtF (hS.lit1 AtF rfl rfl) LnF LnF ?_) rfl;clear hS;intro A2 c2 w hS;rw [← List.length_append] at hS ⊢;refine sQ ?_;intro w hS;rw [shr7];refine Sh.again (u' / 128) [(0,.slice A2 _ c2),(5,.int .u64 ((u' / 128:Nat):Int))] ?_;exact ⟨l'++[((u' % 128+128:Nat):Int)],u' / 128,A2,c2,rfl,by rw [← hlu];simp,rfl,hS.sb⟩
 ·have hlt:u' < 128:=by omega
  rw [yb0 hlt] at hlu hll;have e8:IntKind.u8.wrap (u':Int)=(u':Int):=by rw [yeu];omega
  rw [e8] at hS;simp only [List.length_cons,List.length_nil] at hll;refine Z.eff (Z.apm (l':=[(u':Int)]) hS rfl rfl rfl AtF (hS.lit1 AtF rfl rfl) LnF LnF ?_) rfl;clear hS;intro A2 c2 w hS;rw [← List.length_append,hlu,← hpl] at hS ⊢;refine sQ ?_;intro w hS;refine Dnt Tryz.results427 ?_;exact ⟨A2,c2,rfl,hS.sb⟩
theorem ydA (l:List Int) (v:Value) (n:Int) (hn:i64ok n) (r:World) (F:List Res) (w:World) (hS:Sep r [] F w) (hrd:Reads r F 1 v (l.map byC)) (hl:l.length≤1000000) :
  Calls Tryz.prog 406 #[v,.int .i64 n] w fun e w'=>∃ A c,e=.returned (.slice A (l++putL n).length c)∧Sep r [] (.sl 5 1 (.slice A (l++putL n).length c) ((l++putL n).map byC)::F) w':=by
 obtain ⟨A0,c0,rfl,_⟩:=(hrd [] w hS).mform;refine Z.enter Tryz.func406 Tryz.ntmps406 rfl rfl ?_;refine sQ ?_;intro w hS;refine cQ (wcopied_i l (.slice A0 _ c0) 10 _ _ _ hS hrd hl oM) rfl ?_;clear hS;rintro e w ⟨A,c,rfl,hS⟩;refine eQ ?_;intro w hS;refine cQ (yi8 l A c n hn _ _ _ hS oM) rfl ?_;clear hS;rintro e w ⟨A,c,rfl,hS⟩;refine eQ ?_;intro w hS;refine Dnt Tryz.results406 ?_;exact ⟨A,c,rfl,hS⟩
theorem yc1 (h n:Int) (w:World):Calls Tryz.prog 431 #[.int .u64 h,.int .i64 n] w fun e w'=>e=.returned (.int .u64 (mixF h n))∧Chg [] w w':=by
 have hS:=Sep.root w;refine Z.enter Tryz.func431 Tryz.ntmps431 rfl rfl ?_;refine sQ ?_;intro w hS;refine Dnt Tryz.results431 ?_;exact ⟨rfl,hS.chg⟩
theorem yit (h:Int) (b:List Int) (v:Value) (r:World) (F:List Res) (w:World) (hS:Sep r [] F w) (hrd:Reads r F 1 v (b.map byC)) (hb0:bOk b) (hl:b.length≤1000000) :
  Calls Tryz.prog 430 #[.int .u64 h,v] w fun e w'=>e=.returned (.int .u64 (mixF (b.foldl mixF h) b.length))∧Sep r [] F w':=by
 obtain ⟨A2,c2,rfl,hc⟩:=(hrd [] w hS).mform;refine Z.enter Tryz.func430 Tryz.ntmps430 rfl rfl ?_;refine sQ ?_;intro w hS;refine Z.lpS [0,6,9,10,11,12,13,14,15,16,17] (fun m w s=>∃ i:Nat,s=[(0,.int .u64 ((b.take i).foldl mixF h)),(9,.int .i64 i)]∧i≤b.length∧m=b.length - i∧Sep r [] F w) _ [(0,.int .u64 h),(9,.int .i64 (0:Nat))] TrF ⟨0,rfl,oM,rfl,hS⟩ ?_;clear hS;rintro m f0 w _ ⟨i,rfl,hile,rfl,hS⟩
 by_cases hlt:i < b.length
 ·obtain ⟨gb,o,rfl,_,hra⟩:=(hrd [] w hS).mat oM (q:=i) hlt;have hbi:=hb0 b[i] (by simp);refine sQ ?_;intro w hS;refine cQ (yc1 ((b.take i).foldl mixF h) (IntKind.i64.wrap b[i]) _) rfl ?_;rintro e w' ⟨rfl,hC⟩;refine ⟨_,rfl,?_⟩;replace hS:=hS.ext hC;clear hC;rw [Z.wrap_in (c:=b[i]) oM oM,fold_take mixF h b hlt]
  repeat' first|refine K ?_|refine Sa ?_;intro w hS|refine K3 ?_;intro g w hS hge|refine KC ?_ ?_<;>intro hb<;>try exact JX|fail
  refine Sh.again (b.length - (i+1)) [(0,.int .u64 ((b.take (i+1)).foldl mixF h)),(9,.int .i64 (i+1:Nat))] ?_;exact ⟨i+1,rfl,oM,rfl,hS⟩
 ·have hi0:i=b.length:=by omega
  subst hi0;refine sQ ?_;intro w hS;refine cQ (yc1 ((b.take b.length).foldl mixF h) b.length _) rfl ?_;rintro e w' ⟨rfl,hC⟩;refine ⟨_,rfl,?_⟩;replace hS:=hS.ext hC;clear hC
  repeat' first|refine K ?_|refine Sa ?_;intro w hS|refine K3 ?_;intro g w hS hge|refine KC ?_ ?_<;>intro hb<;>try exact JX|fail
  refine Dnt Tryz.results430 ?_;rw [List.take_length];exact ⟨rfl,hS⟩
theorem yiw (key:Int) (b:List Int) (v:Value) (r:World) (F:List Res) (w:World) (hS:Sep r [] F w) (hrd:Reads r F 1 v (b.map byC)) (hb0:bOk b) (hl:b.length≤1000000) :
  Calls Tryz.prog 411 #[.int .i64 key,v] w fun e w'=>e=.returned (.int .u64 (sumF key b))∧Sep r [] F w':=by
 obtain ⟨A0,c0,rfl,_⟩:=(hrd [] w hS).mform;refine Z.enter Tryz.func411 Tryz.ntmps411 rfl rfl ?_;refine sQ ?_;intro w hS;refine cQ (yc1 14695981039346656037 key _) rfl ?_;rintro e w' ⟨rfl,hC⟩;refine ⟨_,rfl,?_⟩;replace hS:=hS.ext hC;clear hC
 repeat' first|refine K ?_|refine Sa ?_;intro w hS|refine K3 ?_;intro g w hS hge|refine KC ?_ ?_<;>intro hb<;>try exact JX|fail
 refine cQ (yit (mixF 14695981039346656037 key) b (.slice A0 _ c0) _ _ _ hS hrd hb0 hl) rfl ?_;clear hS;rintro e w ⟨rfl,hS⟩;refine ⟨_,rfl,?_⟩
 repeat' first|refine K ?_|refine Sa ?_;clear hS;intro w hS|refine K3 ?_;clear hS;intro g w hS hge|refine KC ?_ ?_<;>intro hb<;>try exact JX|fail
 refine Dnt Tryz.results411 ?_;exact ⟨rfl,hS⟩
structure Lg where
 term:Int
 e:En
def Lg.cells (x:Lg):List Value:=.int .i64 x.term::x.e.cells
def DK (gd n:Nat):Res:=.ex fun p:List Int×Option Addr×Nat×Int=>.all [.pure (p.1.length≤n),.blk gd 443 [.slice p.2.1 p.1.length p.2.2.1,.int .i64 p.2.2.2],.sl 5 1 (.slice p.2.1 p.1.length p.2.2.1) (p.1.map byC)]
section
variable {r w:World} {M:List Nat} {F:List Res} {gd gj n:Nat} {term vote:Int} {log:List Lg}
theorem DK.of (b:List Int) (A:Option Addr) (c:Nat) (d:Int) (hb:b.length≤n) (h:Sep r M (.blk gd 443 [.slice A b.length c,.int .i64 d]::.sl 5 1 (.slice A b.length c) (b.map byC)::F) w):Sep r M (DK gd n::F) w:=by
 simp only [DK,Sep.ex_open,Sep.all_open,Sep.pure_open,List.cons_append,List.nil_append];exact ⟨(b,A,c,d),hb,h⟩
theorem DK.op (h:Sep r M (DK gd n::F) w):∃ (b:List Int) (A:Option Addr) (c:Nat) (d:Int),b.length≤n∧Sep r M (.blk gd 443 [.slice A b.length c,.int .i64 d]::.sl 5 1 (.slice A b.length c) (b.map byC)::F) w:=by
 simp only [DK,Sep.ex_open,Sep.all_open,Sep.pure_open,List.cons_append,List.nil_append] at h;obtain ⟨⟨b,A,c,d⟩,h1,h2⟩:=h;exact ⟨b,A,c,d,h1,h2⟩
theorem DK.le {m:Nat} (h:Sep r M (DK gd n::F) w) (hm:n≤m):Sep r M (DK gd m::F) w:=by
 obtain ⟨b,A,c,d,h1,h2⟩:=DK.op h;exact DK.of b A c d oM h2
def JN (gj:Nat) (term vote:Int) (log:List Lg) (n:Nat):Res:=.ex fun q:Nat×Option Addr×Nat=>.all [.blk gj 390 [.pointer (some ⟨q.1,0,none⟩),.int .i64 term,.int .i64 vote,.slice q.2.1 log.length q.2.2],.sl 345 10 (.slice q.2.1 log.length q.2.2) (log.map Lg.cells),DK q.1 n]
theorem JN.of (gd:Nat) (A:Option Addr) (c:Nat) (h:Sep r M (.blk gj 390 [.pointer (some ⟨gd,0,none⟩),.int .i64 term,.int .i64 vote,.slice A log.length c]::.sl 345 10 (.slice A log.length c) (log.map Lg.cells)::DK gd n::F) w):Sep r M (JN gj term vote log n::F) w:=by
 simp only [JN,Sep.ex_open,Sep.all_open,List.cons_append,List.nil_append];exact ⟨(gd,A,c),h⟩
theorem JN.op (h:Sep r M (JN gj term vote log n::F) w):∃ (gd:Nat) (A:Option Addr) (c:Nat),Sep r M (.blk gj 390 [.pointer (some ⟨gd,0,none⟩),.int .i64 term,.int .i64 vote,.slice A log.length c]::.sl 345 10 (.slice A log.length c) (log.map Lg.cells)::DK gd n::F) w:=by
 simp only [JN,Sep.ex_open,Sep.all_open,List.cons_append,List.nil_append] at h;obtain ⟨⟨gd,A,c⟩,h⟩:=h;exact ⟨gd,A,c,h⟩
theorem JN.le {m:Nat} (h:Sep r M (JN gj term vote log n::F) w) (hm:n≤m):Sep r M (JN gj term vote log m::F) w:=by
 obtain ⟨gd,A,c,h⟩:=JN.op h;have h2:=DK.le (h.focus (.next (.next .here))) hm;exact JN.of gd A c (h2.sub (.cons (.next .here) (.cons (.next .here) .rest)))
end
theorem yiv (r:World) (F:List Res) (w:World) (hS:Sep r [] F w) :
  Calls Tryz.prog 285 #[] w fun e w'=>∃ g,e=.returned (.pointer (some ⟨g,0,none⟩))∧Sep r [] (DK g 0::F) w':=by
 refine Z.enter Tryz.func285 Tryz.ntmps285 rfl rfl ?_;refine aQ1 ?_;intro g w hS;replace hS:=Z.nilsl hS 5 1 none;refine Dnt Tryz.results285 ?_;exact ⟨g,rfl,DK.of [] none 0 0 (Nat.le_refl _) (hS.sb)⟩
theorem yfx (r:World) (F:List Res) (w:World) (hS:Sep r [] F w) :
  Calls Tryz.prog 215 #[] w fun e w'=>∃ g,e=.returned (.pointer (some ⟨g,0,none⟩))∧Sep r [] (JN g 0 (-1) [] 0::F) w':=by
 refine Z.enter Tryz.func215 Tryz.ntmps215 rfl rfl ?_;refine sQ ?_;intro w hS;refine cQ (yiv _ _ _ hS) rfl ?_;clear hS;rintro e w ⟨gd,rfl,hS⟩;refine ⟨_,rfl,?_⟩
 repeat' first|refine K ?_|refine Sa ?_;clear hS;intro w hS|refine K3 ?_;clear hS;intro g w hS hge|refine KC ?_ ?_<;>intro hb<;>try exact JX|fail
 rename Nat=>g;replace hS:=Z.nilsl hS 345 10 none;refine Dnt Tryz.results215 ?_;exact ⟨g,rfl,JN.of gd none 0 (hS.sb)⟩
theorem yhC (gd n:Nat) (r:World) (F:List Res) (w:World) (hS:Sep r [] (DK gd n::F) w) :
  Calls Tryz.prog 366 #[.pointer (some ⟨gd,0,none⟩)] w fun e w'=>e=.returned (.tuple #[])∧Sep r [] (DK gd n::F) w':=by
 obtain ⟨b,A,c,d,hb0,hS⟩:=DK.op hS;refine Z.enter Tryz.func366 Tryz.ntmps366 rfl rfl ?_;refine sQ ?_;intro w hS;refine Dn Tryz.results366 ?_;exact ⟨rfl,DK.of b A c _ hb0 hS⟩
theorem yiu (gd n:Nat) (l:List Int) (v:Value) (r:World) (F:List Res) (w:World) (hS:Sep r [] (DK gd n::F) w) (hrd:Reads r F 1 v (l.map byC)) (hl:l.length≤1000000) (hn:n≤1000000000) :
  Calls Tryz.prog 404 #[.pointer (some ⟨gd,0,none⟩),v] w fun e w'=>e=.returned (.tuple #[])∧Sep r [] (DK gd (n+l.length)::F) w':=by
 obtain ⟨b,A,c,d,hb0,hS⟩:=DK.op hS;obtain ⟨A0,c0,rfl,_⟩:=(hrd [_,_] w hS).mform;refine Z.enter Tryz.func404 Tryz.ntmps404 rfl rfl ?_;refine sQ ?_;intro w hS;refine Z.eff (Z.apm (l':=l) hS rfl rfl rfl AtF (hrd [_,_] _ hS) LnF LnF ?_) rfl;clear hS;intro A2 c2 w hS;rw [← List.length_append] at hS ⊢;refine sQ ?_;intro w hS;refine Dn Tryz.results404 ?_;exact ⟨rfl,DK.of (b++l) A2 c2 d (by simp;omega) (hS.sb)⟩
theorem yaY (gj n:Nat) (t v:Int) (log:List Lg) (r:World) (F:List Res) (w:World) (hS:Sep r [] (JN gj t v log n::F) w) :
  Calls Tryz.prog 301 #[.pointer (some ⟨gj,0,none⟩)] w fun e w'=>e=.returned (.tuple #[])∧Sep r [] (JN gj t v log n::F) w':=by
 obtain ⟨gd,A,c,hS⟩:=JN.op hS;refine Z.enter Tryz.func301 Tryz.ntmps301 rfl rfl ?_;refine sQ ?_;intro w hS;refine rQ (yhC gd n _ _ _ (hS.fo (R:=DK gd n))) ?_;intro w hS;refine Dn Tryz.results301 ?_;exact ⟨rfl,JN.of gd A c (hS.sb)⟩
theorem yd8 (gj n:Nat) (t v:Int) (log:List Lg) (r:World) (F:List Res) (w:World) (hS:Sep r [] (JN gj t v log n::F) w) :
  Calls Tryz.prog 291 #[.pointer (some ⟨gj,0,none⟩)] w fun e w'=>e=.returned (.int .i64 t)∧Sep r [] (JN gj t v log n::F) w':=by
 obtain ⟨gd,A,c,hS⟩:=JN.op hS;refine Z.enter Tryz.func291 Tryz.ntmps291 rfl rfl ?_;refine sQ ?_;intro w hS;refine Dnt Tryz.results291 ?_;exact ⟨rfl,JN.of gd A c hS⟩
theorem yfw (gj n:Nat) (t v:Int) (log:List Lg) (r:World) (F:List Res) (w:World) (hS:Sep r [] (JN gj t v log n::F) w) :
  Calls Tryz.prog 360 #[.pointer (some ⟨gj,0,none⟩)] w fun e w'=>e=.returned (.int .i64 (log.length:Nat))∧Sep r [] (JN gj t v log n::F) w':=by
 obtain ⟨gd,A,c,hS⟩:=JN.op hS;refine Z.enter Tryz.func360 Tryz.ntmps360 rfl rfl ?_;refine sQ ?_;intro w hS;refine Dnt Tryz.results360 ?_;exact ⟨rfl,JN.of gd A c hS⟩
def lg0:Lg:=⟨0,⟨0,0,0,0,0,0,0,0,0⟩⟩
def lgAt (log:List Lg) (i:Int):Lg:=if 0≤i∧i < log.length then log.getD i.toNat lg0 else lg0
def Lg.val (x:Lg):Value:=.agg x.cells.toArray
theorem yeG (gj n:Nat) (t v:Int) (log:List Lg) (i:Int) (r:World) (F:List Res) (w:World) (hS:Sep r [] (JN gj t v log n::F) w) :
  Calls Tryz.prog 403 #[.pointer (some ⟨gj,0,none⟩),.int .i64 i] w fun e w'=>e=.returned (.tuple #[(lgAt log i).val,.bool (decide (0≤i∧i < log.length))])∧Sep r [] (JN gj t v log n::F) w':=by
 obtain ⟨gd,A,c,hS⟩:=JN.op hS
 by_cases h:0≤i∧i < log.length
 ·have hk:i.toNat < log.length:=by omega
  have e0:lgAt log i=log[i.toNat]:=by unfold lgAt;rw [if_pos h];simp [List.getD_eq_getElem?_getD,hk]
  obtain ⟨g,rfl⟩:=Z.Sep_slform hS (rows:=log.map Lg.cells) (.next .here) (by simpa using (by omega:0 < log.length));have hra:∀ X L,Sep r [] (L++(.blk gj 390 [.pointer (some ⟨gd,0,none⟩),.int .i64 t,.int .i64 v,.slice (some ⟨g,0,none⟩) log.length c]::.sl 345 10 (.slice (some ⟨g,0,none⟩) log.length c) (log.map Lg.cells)::DK gd n::F)) X→X.rangeAt g (0+i.toNat * 10) (lgAt log i).cells:=fun X L hX=>by
   have h3:=(hX.slrows (at_app L (.next .here))).elem (q:=i.toNat) oM hk;rw [e0]
   simpa using h3
  rw [decide_eq_true h];refine Z.enter Tryz.func403 Tryz.ntmps403 rfl rfl ?_
  repeat' first|refine K ?_|refine Sa ?_;clear hS;intro w hS|refine K3 ?_;clear hS;intro g w hS hge|refine KC ?_ ?_<;>intro hb<;>try exact JX|fail
  rename Nat=>g4;have hw:=hra _ [_] hS;refine sQ ?_;intro w hS;refine Dct Tryz.results403 ?_;exact ⟨rfl,JN.of gd _ c (hS.sb)⟩
 ·have e0:lgAt log i=lg0:=by unfold lgAt;rw [if_neg h]
  rw [e0,decide_eq_false h];refine Z.enter Tryz.func403 Tryz.ntmps403 rfl rfl ?_
  repeat' first|refine K ?_|refine Sa ?_;intro w hS|refine K3 ?_;intro g w hS hge|refine KC ?_ ?_<;>intro hb<;>try exact JX|fail
  all_goals
   refine Dct Tryz.results403 ?_;exact ⟨rfl,JN.of gd _ c (hS.sb)⟩
theorem yaN (gj n:Nat) (t v:Int) (log:List Lg) (i:Int) (r:World) (F:List Res) (w:World) (hS:Sep r [] (JN gj t v log n::F) w) :
  Calls Tryz.prog 361 #[.pointer (some ⟨gj,0,none⟩),.int .i64 i] w fun e w'=>e=.returned (.int .i64 (lgAt log i).term)∧Sep r [] (JN gj t v log n::F) w':=by
 refine Z.enter Tryz.func361 Tryz.ntmps361 rfl rfl ?_;refine sQ ?_;intro w hS;refine cQ (yeG gj n t v log i _ _ _ hS) rfl ?_;clear hS;rintro e w ⟨rfl,hS⟩;refine ⟨_,rfl,?_⟩
 repeat' first|refine K ?_|refine Sa ?_;clear hS;intro w hS|refine K3 ?_;clear hS;intro g w hS hge|refine KC ?_ ?_<;>intro hb<;>try exact JX|fail
 refine Dnt Tryz.results361 ?_;exact ⟨rfl,hS.sb⟩
def stE (t v t' v':Int):Int:=if t' < 0∨1073741824 < t'∨v' < -1∨5≤v' then 1 else if t' < t∨(t'=t∧v≠-1∧v≠v') then 20 else 0
theorem yiD (gj n:Nat) (t v:Int) (log:List Lg) (t' v':Int) (r:World) (F:List Res) (w:World) (hS:Sep r [] (JN gj t v log n::F) w) :
  Calls Tryz.prog 402 #[.pointer (some ⟨gj,0,none⟩),.int .i64 t',.int .i64 v'] w fun e w'=>e=.returned (.int .i64 (stE t v t' v'))∧Sep r [] (JN gj (if stE t v t' v'=0 then t' else t) (if stE t v t' v'=0 then v' else v) log n::F) w':=by
 obtain ⟨gd,A,c,hS⟩:=JN.op hS
 by_cases h1:t' < 0∨1073741824 < t'∨v' < -1∨5≤v'
 ·have e0:stE t v t' v'=1:=by unfold stE;rw [if_pos h1]
  rw [e0,if_neg (by decide),if_neg (by decide)];refine Z.enter Tryz.func402 Tryz.ntmps402 rfl rfl ?_
  repeat' first|refine K ?_|refine Sa ?_;intro w hS|refine K3 ?_;intro g w hS hge|refine KC ?_ ?_<;>intro hb<;>try exact JX|fail
  all_goals
   refine Dnt Tryz.results402 ?_;exact ⟨rfl,JN.of gd _ c (hS.sb)⟩
 ·by_cases h2:t' < t∨(t'=t∧v≠-1∧v≠v')
  ·have e0:stE t v t' v'=20:=by unfold stE;rw [if_neg h1,if_pos h2]
   rw [e0,if_neg (by decide),if_neg (by decide)];refine Z.enter Tryz.func402 Tryz.ntmps402 rfl rfl ?_
   repeat' first|refine K ?_|refine Sa ?_;intro w hS|refine K3 ?_;intro g w hS hge|refine KC ?_ ?_<;>intro hb<;>try exact JX|fail
   all_goals
    refine Dnt Tryz.results402 ?_;exact ⟨rfl,JN.of gd _ c (hS.sb)⟩
  ·have e0:stE t v t' v'=0:=by unfold stE;rw [if_neg h1,if_neg h2]
   rw [e0,if_pos rfl,if_pos rfl];refine Z.enter Tryz.func402 Tryz.ntmps402 rfl rfl ?_
   repeat' first|refine K ?_|refine Sa ?_;intro w hS|refine K3 ?_;intro g w hS hge|refine KC ?_ ?_<;>intro hb<;>try exact JX|fail
   all_goals
    refine Dnt Tryz.results402 ?_;exact ⟨rfl,JN.of gd _ c (hS.sb)⟩
theorem yd6 (l:List Int) (A:Option Addr) (cap:Nat) (r:World) (F:List Res) (w:World) (hS:Sep r [] F w) (hrd:Reads r F 1 (.slice A l.length cap) (l.map ztC)) (hl:l.length≤100) (hi:∀ x,x∈l→i64ok x) :
  Calls Tryz.prog 364 #[.slice A l.length cap] w fun e w'=>∃ (o:List Int) (A2:Option Addr) (c2:Nat),e=.returned (.slice A2 o.length c2)∧(bOk o∧o.length≤10 * l.length)∧Sep r [] (.sl 5 1 (.slice A2 o.length c2) (o.map byC)::F) w':=by
 refine Z.enter Tryz.func364 Tryz.ntmps364 rfl rfl ?_;refine sQ ?_;intro w hS;replace hS:=Z.nilsl hS 5 1 none;refine Z.lpS [3,5,8,9,10,11,12,13,14,15] (fun m w z=>∃ (i:Nat) (o:List Int) (A2:Option Addr) (c2:Nat),z=[(3,.slice A2 o.length c2),(8,.int .i64 i)]∧i≤l.length∧bOk o∧o.length≤10 * i∧m=l.length - i∧Sep r [] (.sl 5 1 (.slice A2 o.length c2) (o.map byC)::F) w) _ [(3,.slice none 0 0),(8,.int .i64 (0:Nat))] TrF ⟨0,[],none,0,rfl,oM,bOk.nil,by simp,rfl,hS⟩ ?_;clear hS;rintro m f0 w _ ⟨i,o,A2,c2,rfl,hi0,hob,hol,rfl,hS⟩
 by_cases hlt:i < l.length
 ·obtain ⟨gb,ob,hAe,_,hra⟩:=(hrd [_] w hS).mat oM (q:=i) (by simpa using hlt);subst hAe;have hx:=hi _ (List.getElem_mem hlt);have hra2:w.rangeAt gb (ob+i * 1) (ztC l[i]):=by simpa using hra
  clear hra;generalize l[i]=x at *;refine sQ ?_;intro w hS;clear hra2;refine cQ (ydA o (.slice A2 o.length c2) x hx _ _ _ hS (Reads.of_at (e:=5) (v:=.slice A2 o.length c2) AtF) oM) rfl ?_;clear hS;rintro e w ⟨A3,c3,rfl,hS⟩;refine ⟨_,rfl,?_⟩;have hpl:=ya5 hx;refine sQ ?_;intro w hS;refine Sh.again (l.length - (i+1)) [(3,_),(8,.int .i64 (i+1:Nat))] ?_;exact ⟨i+1,o++putL x,A3,c3,rfl,oM,hob.app (putL_ok x),by simp;omega,rfl,hS.sb⟩
 ·refine sQ ?_;intro w hS;refine Dnt Tryz.results364 ?_;exact ⟨o,A2,c2,rfl,⟨hob,oM⟩,hS⟩
theorem yiz (key:Int) (l:List Int) (v:Value) (r:World) (F:List Res) (w:World) (hS:Sep r [] F w) (hrd:Reads r F 1 v (l.map byC)) (hb0:bOk l) (hl:l.length≤65536) :
  Calls Tryz.prog 405 #[.slice none 0 0,.int .i64 key,v] w fun e w'=>∃ (o:List Int) (A:Option Addr) (c:Nat),e=.returned (.slice A o.length c)∧o.length≤l.length+18∧Sep r [] (.sl 5 1 (.slice A o.length c) (o.map byC)::F) w':=by
 obtain ⟨A0,c0,rfl,_⟩:=(hrd [] w hS).mform;refine Z.enter Tryz.func405 Tryz.ntmps405 rfl rfl ?_;refine sQ ?_;intro w hS;replace hS:=Z.nilsl hS 5 1 none;refine cQ (ydA [] (.slice none 0 0) l.length (by unfold i64ok;omega) _ _ _ hS (Reads.of_at (e:=5) .here) (by simp)) rfl ?_;clear hS;rintro e w ⟨A1,c1,rfl,hS⟩;refine ⟨_,rfl,?_⟩;have hpl:=ya5 (n:=(l.length:Int)) (by unfold i64ok;omega);rw [List.nil_append] at hS ⊢;refine sQ ?_;intro w hS;refine cQ (yiw key l _ _ _ _ hS (hrd.app [_,_]) hb0 oM) rfl ?_;clear hS;rintro e w ⟨rfl,hS⟩;refine ⟨_,rfl,?_⟩;generalize sumF key l=h0;generalize putL (l.length:Int)=o0 at *;refine sQ ?_;intro w hS;refine Z.lpS [7,8,21,22,23,24,25,26,27,28,29,30] (fun m w z=>∃ (i:Nat) (o:List Int) (A2:Option Addr) (c2:Nat) (h:Int),z=[(7,.slice A2 o.length c2),(8,.int .u64 h),(21,.int .i64 i)]∧i≤8∧o.length≤10+i∧m=8 - i∧Sep r [] (.sl 5 1 (.slice A2 o.length c2) (o.map byC)::F) w) _ [(7,.slice A1 o0.length c1),(8,.int .u64 h0),(21,.int .i64 (0:Nat))] TrF ⟨0,o0,A1,c1,h0,rfl,oM,oM,rfl,hS.sb⟩ ?_;clear hS;rintro m f0 w _ ⟨i,o,A2,c2,h,rfl,hi,hol,rfl,hS⟩
 by_cases hlt:i < 8
 ·repeat' first|refine K ?_|refine Sa ?_;intro w hS|refine K3 ?_;intro g w hS hge|refine KC ?_ ?_<;>intro hb<;>try exact JX|fail
  refine Z.eff (Z.apm (l':=[IntKind.u8.wrap h]) hS rfl rfl rfl AtF (hS.lit1 AtF rfl rfl) LnF LnF ?_) rfl;clear hS;intro A3 c3 w hS;rw [← List.length_append] at hS ⊢;refine sQ ?_;intro w hS;refine Sh.again (8 - (i+1)) [(7,_),(8,.int .u64 _),(21,.int .i64 (i+1:Nat))] ?_;exact ⟨i+1,o++[IntKind.u8.wrap h],A3,c3,_,rfl,oM,by simp;omega,rfl,hS.sb⟩
 ·refine sQ ?_;intro w hS;refine Z.eff (Z.apm (l':=l) hS rfl rfl rfl AtF (hrd [_] _ hS) LnF LnF ?_) rfl;clear hS;intro A3 c3 w hS;rw [← List.length_append] at hS ⊢;refine sQ ?_;intro w hS;refine Dnt Tryz.results405 ?_;exact ⟨o++l,A3,c3,rfl,by simp;omega,hS.sb⟩
theorem ydf (gj n:Nat) (t v:Int) (log:List Lg) (l:List Int) (vv:Value) (r:World) (F:List Res) (w:World) (hS:Sep r [] (JN gj t v log n::F) w) (hrd:Reads r F 1 vv (l.map byC)) (hb0:bOk l) (hl:l.length≤60000) (hn:n≤1000000000) :
  Calls Tryz.prog 363 #[.pointer (some ⟨gj,0,none⟩),vv] w fun e w'=>e=.returned (.tuple #[])∧Sep r [] (JN gj t v log (n+(l.length+18))::F) w':=by
 obtain ⟨gd,A,c,hS⟩:=JN.op hS;obtain ⟨A0,c0,rfl,_⟩:=(hrd [_,_,_] w hS).mform;refine Z.enter Tryz.func363 Tryz.ntmps363 rfl rfl ?_;refine sQ ?_;intro w hS;refine D.startS (Lr:=[.blk gj 390 [.pointer (some ⟨gd,0,none⟩),.int .i64 t,.int .i64 v,.slice A log.length c]]) (hS.sb) 7 7 kR rfl ?_;replace hS:=hS.drew;refine Sh.dp 0 1 ?_;refine Sh.dp 1 3 ?_;refine Sh.dp 2 7 ?_;refine Sh.dp 4 23 ?_;refine Sh.dl 3 31 ?_;refine D.ef 5 63 ?_;refine Z.cl (yiz 8 l (.slice A0 l.length c0) _ _ _ hS (hrd.app [_,_,_]) hb0 oM) rfl ?_;clear hS;rintro e w ⟨o,A2,c2,rfl,hol,hS⟩;refine ⟨_,rfl,?_⟩;refine HMs ?_;refine D.ef 6 127 ?_;refine Z.cl (yiu gd n o (.slice A2 o.length c2) _ _ _ (hS.fo (R:=DK gd n)) (Reads.of_at (e:=5) AtF) oM hn) rfl ?_;clear hS;rintro e w ⟨rfl,hS⟩;refine ⟨_,rfl,?_⟩;refine HMs ?_;refine D.dn ?_;refine sQ ?_;intro w hS;refine Dn Tryz.results363 ?_;have h2:=DK.le (m:=n+(l.length+18)) hS oM;exact ⟨rfl,JN.of gd A c (h2.sub SuF)⟩
theorem yda {x:Int} (h : -1≤x∧x≤1073741824):i64ok x:=by unfold i64ok;omega
theorem yd7 (gj n:Nat) (t v:Int) (log:List Lg) (t' v':Int) (r:World) (F:List Res) (w:World) (hS:Sep r [] (JN gj t v log n::F) w) (h0:stE t v t' v'=0) (hn:n≤1000000000) :
  Calls Tryz.prog 359 #[.pointer (some ⟨gj,0,none⟩),.int .i64 t',.int .i64 v'] w fun e w'=>e=.returned (.int .i64 0)∧Sep r [] (JN gj t' v' log (n+48)::F) w':=by
 have hb1:0≤t'∧t'≤1073741824∧-1≤v'∧v' < 5:=by
  unfold stE at h0
  split at h0
  ·omega
  ·omega
 refine Z.enter Tryz.func359 Tryz.ntmps359 rfl rfl ?_;refine sQ ?_;intro w hS;refine cQ (yiD gj n t v log t' v' _ _ _ hS) rfl ?_;clear hS;rintro e w ⟨rfl,hS⟩;refine ⟨_,rfl,?_⟩;rw [h0,if_pos rfl,if_pos rfl] at hS;rw [h0]
 repeat' first|refine K ?_|refine Sa ?_;clear hS;intro w hS|refine K3 ?_;clear hS;intro g w hS hge|refine KC ?_ ?_<;>intro hb<;>try exact JX|fail
 rename Nat=>g;replace hS:=hS.fo (R:=.blk g _ _);replace hS:=mk_sl (sz:=1) (n:=3) (rows:=[1,t',v'].map ztC) hS rfl oM (by decide) (by intro row hrow;simp at hrow;rcases hrow with rfl|rfl|rfl<;>exact ⟨rfl,by simp [ztC,Value.oneCell']⟩) rfl;refine cQ (yd6 [1,t',v'] (some ⟨g,0,none⟩) 3 _ _ _ hS (Reads.of_at (e:=3) .here) (by simp) (by intro x hx;simp at hx;rcases hx with rfl|rfl|rfl<;>exact yda oM)) rfl ?_;clear hS;rintro e w ⟨o,A2,c2,rfl,⟨hob,hol⟩,hS⟩;refine ⟨_,rfl,?_⟩;simp only [List.length_cons,List.length_nil] at hol;refine sQ ?_;intro w hS;refine cQ (ydf gj n t' v' log o (.slice A2 o.length c2) _ _ _ (hS.fo (R:=JN gj t' v' log n)) (Reads.of_at (e:=5) .here) hob oM hn) rfl ?_;clear hS;rintro e w ⟨rfl,hS⟩;refine eQ ?_;intro w hS;refine Dnt Tryz.results359 ?_;exact ⟨rfl,(JN.le (m:=n+48) hS oM).sub SuF⟩
def En.i64 (e:En):Prop:=i64ok e.kind∧i64ok e.tick∧i64ok e.tenant∧i64ok e.cell∧i64ok e.other∧i64ok e.epoch∧i64ok e.from_∧i64ok e.until_∧i64ok e.n
def En.ints (e:En):List Int:=[e.kind,e.tick,e.tenant,e.cell,e.other,e.epoch,e.from_,e.until_,e.n]
theorem En.i64.all {e:En} (h:e.i64):∀ x,x∈e.ints→i64ok x:=by
 obtain ⟨h1,h2,h3,h4,h5,h6,h7,h8,h9⟩:=h;intro x hx;simp only [En.ints,List.mem_cons,List.not_mem_nil,or_false] at hx
 rcases hx with rfl|rfl|rfl|rfl|rfl|rfl|rfl|rfl|rfl<;>assumption
theorem yhD (e:En):∀ i:Nat,i < 9→partL false ((i:Int).toNat * 1) 1 e.cells=some (.int .i64 (e.ints.getD i 0))
 | 0,_=>rfl
 | 1,_=>rfl
 | 2,_=>rfl
 | 3,_=>rfl
 | 4,_=>rfl
 | 5,_=>rfl
 | 6,_=>rfl
 | 7,_=>rfl
 | 8,_=>rfl
theorem En.i64.at {e:En} (h:e.i64) (i:Nat) (hi:i < 9):i64ok (e.ints.getD i 0):=by
 have hl:i < e.ints.length:=hi;rw [List.getD_eq_getElem?_getD,List.getElem?_eq_getElem hl];exact h.all _ (List.getElem_mem hl)
theorem ygv (e:En) (he:e.i64) (r:World) (F:List Res) (w:World) (hS:Sep r [] F w) :
  Calls Tryz.prog 365 #[e.val] w fun x w'=>∃ (o:List Int) (A2:Option Addr) (c2:Nat),x=.returned (.slice A2 o.length c2)∧(bOk o∧o.length≤90)∧Sep r [] (.sl 5 1 (.slice A2 o.length c2) (o.map byC)::F) w':=by
 refine Z.enter Tryz.func365 Tryz.ntmps365 rfl rfl ?_
 repeat' first|refine K ?_|refine Sa ?_;intro w hS|refine K3 ?_;intro g w hS hge|refine KC ?_ ?_<;>intro hb<;>try exact JX|fail
 replace hS:=Z.nilsl hS 5 1 none;refine Z.lpS [3,5,25,26,27,28,29,30,31] (fun m w z=>∃ (i:Nat) (o:List Int) (A2:Option Addr) (c2:Nat),z=[(3,.slice A2 o.length c2),(25,.int .i64 i)]∧i≤9∧bOk o∧o.length≤10 * i∧m=9 - i∧Sep r [] (.sl 5 1 (.slice A2 o.length c2) (o.map byC)::F) w) _ [(3,.slice none 0 0),(25,.int .i64 (0:Nat))] TrF ⟨0,[],none,0,rfl,oM,bOk.nil,by simp,rfl,hS.sb⟩ ?_;clear hS;rintro m f0 w _ ⟨i,o,A2,c2,rfl,hi0,hob,hol,rfl,hS⟩
 by_cases hlt:i < 9
 ·have hrow:=yhD e i hlt;have hx:=he.at i hlt;generalize e.ints.getD i 0=x at *;refine sQ ?_;intro w hS;refine Z.pl (R.ixv rfl rfl rfl oM hrow) ?_;refine sQ ?_;intro w hS;refine cQ (ydA o (.slice A2 o.length c2) x hx _ _ _ hS (Reads.of_at (e:=5) (v:=.slice A2 o.length c2) AtF) oM) rfl ?_;clear hS;rintro e w ⟨A3,c3,rfl,hS⟩;refine ⟨_,rfl,?_⟩;have hpl:=ya5 hx;refine sQ ?_;intro w hS;refine Sh.again (9 - (i+1)) [(3,_),(25,.int .i64 (i+1:Nat))] ?_;exact ⟨i+1,o++putL x,A3,c3,rfl,oM,hob.app (putL_ok x),by simp;omega,rfl,hS.sb⟩
 ·refine sQ ?_;intro w hS;refine Dnt Tryz.results365 ?_;exact ⟨o,A2,c2,rfl,⟨hob,oM⟩,hS⟩
theorem yiC (gj n:Nat) (t v:Int) (log:List Lg) (tm:Int) (e:En) (r:World) (F:List Res) (w:World) (hS:Sep r [] (JN gj t v log n::F) w) (h1:1≤tm∧tm≤1073741824) (h2:shapeP e=true) (h3:tm≤t) (h4:(lgAt log (log.length - 1)).term≤tm) (h5:log.length < 4096) :
  Calls Tryz.prog 362 #[.pointer (some ⟨gj,0,none⟩),.int .i64 tm,e.val] w fun x w'=>x=.returned (.int .i64 0)∧Sep r [] (JN gj t v (log++[⟨tm,e⟩]) n::F) w':=by
 refine Z.enter Tryz.func362 Tryz.ntmps362 rfl rfl ?_;refine aQ1 ?_;intro g w hS;refine cQ (ybK e _ _ _ hS) rfl ?_;clear hS;rintro e w ⟨rfl,hS⟩;refine ⟨_,rfl,?_⟩;rw [h2];obtain ⟨gd,A,c,hS⟩:=JN.op (hS.fo (R:=JN gj t v log n));refine sQ ?_;intro w hS;refine cQ (yaN gj n t v log (log.length - 1) _ _ _ (JN.of gd A c (hS.sb))) rfl ?_;clear hS;rintro e w ⟨rfl,hS⟩;refine ⟨_,rfl,?_⟩;obtain ⟨gd,A,c,hS⟩:=JN.op (hS.fo (R:=JN gj t v log n));refine sQ ?_;intro w hS;refine D.startS (Lr:=[.blk gj 390 [.pointer (some ⟨gd,0,none⟩),.int .i64 t,.int .i64 v,.slice A log.length c],.blk g 63 e.cells]) (hS.sb) 12 13 kR rfl ?_;replace hS:=hS.drew;refine Sh.dp 0 1 ?_;refine Sh.dp 1 3 ?_;refine Sh.dp 2 7 ?_;refine Sh.dp 3 15 ?_;refine Sh.dp 5 47 ?_;refine Sh.dl 4 63 ?_;refine Sh.dl 6 127 ?_
 first|refine D.bu 7 255 rfl D.wantedN kR rfl rfl ?_|refine D.buA 7 255 rfl D.wantedN kR rfl rfl ?_
 refine D.ef 8 511 ?_;refine Z.bs hS rfl rfl rfl ?_;clear hS;intro g w hS hge;refine HMs ?_;refine D.ef 9 1023 ?_;refine Z.apm (fc:=Lg.cells) (l':=[(⟨tm,e⟩:Lg)]) hS rfl rfl rfl AtF (hS.lit1 AtF rfl rfl) LnF LnF ?_;clear hS;intro A3 c3 w hS;rw [← List.length_append] at hS ⊢;refine HMs ?_;refine Sh.dp 10 2047 ?_;refine Sh.dp 11 4095 ?_;refine D.ef 12 8191 ?_;refine Z.st hS rfl AtF rfl rfl ?_;clear hS;intro w hS;refine HMl ?_;refine D.dn ?_;refine sQ ?_;intro w hS;refine Dnt Tryz.results362 ?_;exact ⟨rfl,JN.of gd _ _ (hS.sb)⟩
theorem ybm (gj n:Nat) (t v:Int) (log:List Lg) (tm:Int) (e:En) (he:e.i64) (r:World) (F:List Res) (w:World) (hS:Sep r [] (JN gj t v log n::F) w) (h1:1≤tm∧tm≤1073741824) (h2:shapeP e=true) (h3:tm≤t) (h4:(lgAt log (log.length - 1)).term≤tm) (h5:log.length < 4096) (hn:n≤1000000000) :
  Calls Tryz.prog 300 #[.pointer (some ⟨gj,0,none⟩),.int .i64 tm,e.val] w fun x w'=>x=.returned (.int .i64 0)∧Sep r [] (JN gj t v (log++[⟨tm,e⟩]) (n+128)::F) w':=by
 refine Z.enter Tryz.func300 Tryz.ntmps300 rfl rfl ?_
 repeat' first|refine K ?_|refine Sa ?_;intro w hS|refine K3 ?_;intro g w hS hge|refine KC ?_ ?_<;>intro hb<;>try exact JX|fail
 refine rQ (yiC gj n t v log tm e _ _ _ (hS.fo (R:=JN gj t v log n)) h1 h2 h3 h4 h5) ?_;intro w hS;refine D.startS (Lr:=[.blk g 63 e.cells]) (hS.sb) 8 8 kR rfl ?_;replace hS:=hS.drew;refine Sh.dp 0 1 ?_;refine Sh.dp 1 3 ?_;refine Sh.dl 4 19 ?_;refine D.ef 2 23 ?_;refine Z.bs hS rfl rfl rfl ?_;clear hS;intro gb w hS hge;refine HMs ?_;refine D.ef 3 31 ?_;replace hS:=hS.focus (R:=.blk gb _ _) AtF;replace hS:=mk_sl (sz:=1) (n:=2) (rows:=[2,tm].map ztC) hS rfl oM (by decide) (by intro row hrow;simp at hrow;rcases hrow with rfl|rfl<;>exact ⟨rfl,by simp [ztC,Value.oneCell']⟩) rfl;refine Z.cl (yd6 [2,tm] (some ⟨gb,0,none⟩) 2 _ _ _ hS (Reads.of_at (e:=3) .here) (by simp) (by intro x hx;simp at hx;rcases hx with rfl|rfl<;>exact yda oM)) rfl ?_;clear hS;rintro e w ⟨o,A2,c2,rfl,⟨hob,hol⟩,hS⟩;refine ⟨_,rfl,?_⟩;simp only [List.length_cons,List.length_nil] at hol;refine HMs ?_;refine D.ef 5 63 ?_;refine Z.cl (ygv e he _ _ _ hS) rfl ?_;clear hS;rintro e w ⟨o2,A3,c3,rfl,⟨hob2,hol2⟩,hS⟩;refine ⟨_,rfl,?_⟩;refine HMs ?_;refine D.ef 6 127 ?_;refine Z.apm (l':=o2) hS rfl rfl rfl AtF (hS.slrows AtF) LnF LnF ?_;clear hS;intro A4 c4 w hS;rw [← List.length_append] at hS ⊢;refine HMs ?_;refine D.ef 7 255 ?_;refine Z.cl (ydf gj n t v (log++[⟨tm,e⟩]) (o++o2) _ _ _ _ (hS.fo (R:=JN gj t v (log++[⟨tm,e⟩]) n)) (Reads.of_at (e:=5) AtF) (hob.app hob2) (by simp only [List.length_append];omega) hn) rfl ?_;clear hS;rintro e w ⟨rfl,hS⟩;refine ⟨_,rfl,?_⟩;refine HMs ?_;refine D.dn ?_;refine sQ ?_;intro w hS;refine Dnt Tryz.results300 ?_;refine ⟨rfl,(JN.le (m:=n+128) hS ?_).sub SuF⟩;simp only [List.length_append];omega
end Go.Proofs.YtfmnjbhncnldmaaGreat
