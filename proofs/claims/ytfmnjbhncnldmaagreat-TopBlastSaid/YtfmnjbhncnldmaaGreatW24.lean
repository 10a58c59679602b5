import Derived.Test.YtfmnjbhncnldmaaGreatRows
import Derived.BigGuardPart
import Derived.Deep.QuietTactic
import Derived.BigQuiet
import Derived.Deep.RegionHeld3
import Derived.Handy
import Derived.Deep.DeepCutAuto
import Derived.Test.YtfmnjbhncnldmaaGreatW00
import Derived.Test.YtfmnjbhncnldmaaGreatW02
set_option maxHeartbeats 4000000
set_option linter.unusedSimpArgs false
set_option linter.unusedVariables false
namespace Go.Proofs.YtfmnjbhncnldmaaGreat
open Go.RowKit
attribute [local irreducible] Res.blk Res.sl Res.all Res.ex Res.pure Res.star
structure Wi where
 cell:Int
 epoch:Int
 version:Int
 from_:Int
 until_:Int
deriving DecidableEq
def Wi.cells (x:Wi):List Value:=[.int .i64 x.cell,.int .i64 x.epoch,.int .i64 x.version,.int .i64 x.from_,.int .i64 x.until_]
def Wi.val (x:Wi):Value:=.agg x.cells.toArray
theorem zerosL_len (zs:List Value) (q:Nat):(Z.zerosL zs q).length=q * zs.length:=by
 induction q with
 | zero=>simp [Z.zerosL]
 | succ q ih=>simp [Z.zerosL,ih,Nat.add_mul,Nat.add_comm]
theorem sub_rows {α:Type} {c:α→List Value} {sz:Nat} (hc:∀ x,(c x).length=sz) {l:List α} {cs:List Value} (hct:cs.take (l.length * sz)=(l.map c).flatten) (a m:Nat) (h:a+m≤l.length):(cs.drop (a * sz)).take (m * sz)=(((l.drop a).take m).map c).flatten:=by
 have hlen:∀ l:List α,((l.map c).flatten).length=l.length * sz:=fun l=>by rw [flatten_length (sz:=sz) fun row hr=>by obtain ⟨x,_,rfl⟩:=List.mem_map.1 hr;exact hc x,List.length_map]
 have h1:l=l.take a++((l.drop a).take m++(l.drop a).drop m):=by rw [List.take_append_drop,List.take_append_drop]
 have h2:cs=cs.take (l.length * sz)++cs.drop (l.length * sz):=(List.take_append_drop _ _).symm;rw [hct] at h2
 conv at h2=>rhs;rw [h1]
 rw [List.map_append,List.flatten_append,List.map_append,List.flatten_append] at h2;rw [h2,List.append_assoc,List.drop_left' (by rw [hlen,List.length_take,Nat.min_eq_left oM]),List.append_assoc];exact List.take_left' (by rw [hlen,List.length_take,List.length_drop,Nat.min_eq_left oM])
theorem splice_grow {a x b cs:List Value} {A s B:Nat} (ha:cs.take A=a) (hal:a.length=A) (hx:x.length=s) (hb:b.length=B) (hl:A+s+B≤cs.length) :
  ((cs.take A++x++cs.drop (A+s)).take (A+s)++b++(cs.take A++x++cs.drop (A+s)).drop (A+s+B)).take (A+s+B)=a++x++b∧((cs.take A++x++cs.drop (A+s)).take (A+s)++b++(cs.take A++x++cs.drop (A+s)).drop (A+s+B)).length=cs.length:=by
 have h1:(cs.take A++x++cs.drop (A+s)).take (A+s)=a++x:=by rw [ha];exact List.take_left' (by simp;omega)
 constructor
 ·rw [h1];exact List.take_left' (by simp;omega)
 ·rw [h1];simp only [List.length_append,List.length_drop,List.length_take];omega
theorem splice_room {a x b cs:List Value} {A s B:Nat} (ha:cs.take A=a) (hal:a.length=A) (hx:x.length=s) (hb:b.length=B) (hl:A+s+B≤cs.length) :
  ((cs.take (A+s)++b++cs.drop (A+s+B)).take A++x++(cs.take (A+s)++b++cs.drop (A+s+B)).drop (A+s)).take (A+s+B)=a++x++b∧((cs.take (A+s)++b++cs.drop (A+s+B)).take A++x++(cs.take (A+s)++b++cs.drop (A+s+B)).drop (A+s)).length=cs.length:=by
 have hl1:(cs.take (A+s)).length=A+s:=by simp;omega
 have h1:(cs.take (A+s)++b++cs.drop (A+s+B)).take A=a:=by rw [List.append_assoc,List.take_append_of_le_length oM,List.take_take,Nat.min_eq_left oM,ha]
 have h2:(cs.take (A+s)++b++cs.drop (A+s+B)).drop (A+s)=b++cs.drop (A+s+B):=by rw [List.append_assoc];exact List.drop_left' hl1
 rw [h1,h2];constructor
 ·rw [← List.append_assoc];exact List.take_left' (by simp;omega)
 ·simp only [List.length_append,List.length_drop];omega
theorem wi_ok {l:List Wi}:∀ row,row∈l.map Wi.cells→row.length=5∧∀ u,u∈row→u.oneCell'=true:=by
 intro row hr;obtain ⟨x,_,rfl⟩:=List.mem_map.1 hr;exact ⟨rfl,by simp [Wi.cells,Value.oneCell']⟩
theorem yew (l:List Wi):(l.map Wi.cells).flatten.length=l.length * 5:=by rw [flatten_length fun row hr=>(wi_ok row hr).1,List.length_map]
theorem wi_overlaps (g g' o m c:Nat) (cs cs':List Value) (r:World) (F:List Res) (w:World) (hS:Sep r [] (.blk g 105 cs::.blk g' 105 cs'::F) w) (h0:0 < cs'.length) :
  (callFunc 191 #[.slice (some ⟨g,0,none⟩) 1 1,.slice (some ⟨g',o,none⟩) m c]).run Tryz.prog w=.ok (.value (.bool false)) w:=by
 have hb:=hS.blk .here;have hb':=hS.blk (.next .here);have hs:w.shape? g=some (105,cs.length):=by have:w.heap[g]?=some (.cells cs.toArray 105 (0,0)):=hb;simp [World.shape?,this]
 have hs':w.shape? g'=some (105,cs'.length):=by have:w.heap[g']?=some (.cells cs'.toArray 105 (0,0)):=hb';simp [World.shape?,this]
 rw [run_callFunc_extern Tryz.func191 kR kR kR (e:=Extern.SlicesOverlaps.overlaps #[214,214] #[4]) kR,
  Lib.run_overlaps_apart w 214 4 105 Tryz.underlying214 5 (fun w=>by rw [Tryz.sizeOf105]) ⟨g,0,none⟩ ⟨g',o,none⟩ 1 1 m c (blk_ne hS) _ _ _ _ hs hs' oM (hb.frozen _) (hb.frozen _)]
 rfl
theorem wi_insert (l:List Wi) (i:Nat) (x:Wi) (A:Option Addr) (c gl:Nat) (r:World) (F:List Res) (w:World) (hS:Sep r [] (.sl 105 5 (.slice A l.length c) (l.map Wi.cells)::.blk gl 105 x.cells::F) w) (hi:i≤l.length) (hl:l.length≤100000) :
  Calls Tryz.prog 102 #[.slice A l.length c,.int .i64 (i:Nat),.slice (some ⟨gl,0,none⟩) 1 1] w fun e w'=>∃ A' c',e=.returned (.slice A' (l.length+1) c')∧Sep r [] (.sl 105 5 (.slice A' (l.length+1) c') ((l.take i++x::l.drop i).map Wi.cells)::.blk gl 105 x.cells::F) w':=by
 have ei:(i:Int).toNat=i:=rfl
 by_cases hlt:i < l.length
 case neg=>
  refine Z.enter Tryz.func102 Tryz.ntmps102 rfl rfl ?_;refine sQ ?_;intro w hS;refine Z.eff (Z.apm (l':=[x]) hS rfl rfl rfl AtF (hS.lit1 AtF rfl rfl) LnF LnF ?_) rfl;clear hS;intro A' c' w hS;refine sQ ?_;intro w hS;refine Dnt Tryz.results102 ?_;have hie:i=l.length:=by omega
  subst hie;rw [List.take_length,List.drop_length];exact ⟨_,_,rfl,hS.sb⟩
 case pos=>
 obtain ⟨g0,cs,rfl,_,hnc,hcm,hcl,hct,_,hS⟩:=yar hS (by simp;omega);have hsub:=fun a m h=>sub_rows (c:=Wi.cells) (sz:=5) (fun _=>rfl) (l:=l) (cs:=cs) hct a m h
 have hta:cs.take (i * 5)=((l.take i).map Wi.cells).flatten:=by have:=hsub 0 i oM;simpa using this
 have hal:((l.take i).map Wi.cells).flatten.length=i * 5:=by rw [yew,List.length_take,Nat.min_eq_left hi]
 have hbl:((l.drop i).map Wi.cells).flatten.length=(l.length - i) * 5:=by rw [yew,List.length_drop]
 have hdi:(cs.drop (0+(i:Int).toNat * 5)).take ((l.length - i) * 5)=((l.drop i).map Wi.cells).flatten:=by
  have:=hsub i (l.length - i) oM;rw [List.take_of_length_le (l:=l.drop i) (by simp)] at this;rw [ei,Nat.zero_add];exact this
 have hfin:((l.take i++x::l.drop i).map Wi.cells).flatten=((l.take i).map Wi.cells).flatten++x.cells++((l.drop i).map Wi.cells).flatten:=by simp
 have hfl:(l.take i++x::l.drop i).length=l.length+1:=by simp;omega
 refine Z.enter Tryz.func102 Tryz.ntmps102 rfl rfl ?_
 repeat' first|refine K ?_|refine Sa ?_;intro w hS|refine K3 ?_;intro g w hS hge|refine KC ?_ ?_<;>intro hb<;>try exact JX|fail
 ·
  have hsrc:Rows' w 5 (.slice (some ⟨g0,0,none⟩) (i:Int).toNat c) ((l.take i).map Wi.cells):=rows_mid (hS.bk) wi_ok (by simp;omega) oM (by rw [List.drop_zero];exact hta);refine Z.eff (Z.apz (m:=l.length+1 - i) hS rfl rfl rfl Tryz.underlying3 oM hsrc rfl oM oM oM (by show _≤9223372036854775807;omega) ?_) rfl;clear hS hsrc;intro A' c' w hS;obtain ⟨g2,cs2,rfl,_,hnc2,hcm2,hcl2,hct2,_,hS⟩:=yar hS (by simp;omega);have ht2:cs2.take (i * 5)=((l.take i).map Wi.cells).flatten:=by
   have h1:i * 5≤((i:Int).toNat+(l.length+1 - i)) * 5:=Nat.mul_le_mul_right _ oM;rw [← Nat.min_eq_left h1,← List.take_take,hct2,List.flatten_append];exact List.take_left' hal
  clear hct2;refine sQ ?_;intro w hS;refine Z.eff (Z.cp 1 hS rfl rfl rfl AtF oM (hS.lit1 (row:=x.cells) AtF rfl rfl) (by rw [hcl2];omega) ?_) rfl;clear hS;intro w hS;refine sQ ?_;intro w hS;refine D.startS (Lr:=([]:List Res)) (hS.sb) 9 9 kR rfl ?_;replace hS:=hS.drew;refine Sh.dp 0 1 ?_;refine Sh.dp 1 3 ?_;refine Sh.dp 2 7 ?_
  first|refine D.sum 3 15 rfl D.wantedN kR rfl (by constructor<;>omega) ?_|refine D.sumW 3 15 rfl D.wantedN kR rfl ?_
  refine D.pl 4 31 rfl D.wantedN kR (R.sinceL rfl rfl rfl oM oM) ?_;refine Sh.dp 5 63 ?_;refine Sh.dp 6 127 ?_;refine D.pl 7 255 rfl D.wantedN kR (R.sinceL rfl rfl rfl oM oM) ?_;refine D.ef 8 511 ?_;refine Z.cp (l.length - i) hS rfl rfl rfl AtF oM (rows_mid (rows:=(l.drop i).map Wi.cells) (hS.bk) wi_ok (by simp) (Nat.le_refl _) hdi) (by simp only [List.length_append,List.length_take,List.length_drop,hcl2,List.flatten_cons,List.flatten_nil,List.append_nil,Wi.cells,List.length_cons,List.length_nil];omega) ?_;clear hS;intro w hS;refine HMs ?_;refine D.dn ?_;refine sQ ?_;intro w hS;refine Dnt Tryz.results102 ?_;refine ⟨_,c',by rw [show (i:Int).toNat+(l.length+1 - i)=l.length+1 by omega];rfl,?_⟩;have e2:((i:Int)+(1:Nat)).toNat=i+1:=by omega
  obtain ⟨h1,h2⟩:=splice_grow (a:=((l.take i).map Wi.cells).flatten) (x:=x.cells) (b:=((l.drop i).map Wi.cells).flatten) (A:=i * 5) (s:=5) (B:=(l.length - i) * 5) (cs:=cs2) ht2 hal rfl hbl (by rw [hcl2];omega);have h3:=yao (rows:=(l.take i++x::l.drop i).map Wi.cells) (c:=c') (sz:=5) (cs:=(cs2.take (i * 5)++x.cells++cs2.drop (i * 5+5)).take (i * 5+5)++((l.drop i).map Wi.cells).flatten++(cs2.take (i * 5)++x.cells++cs2.drop (i * 5+5)).drop (i * 5+5+(l.length - i) * 5)) (g:=g2) (e:=105) (F:=.blk gl 105 x.cells::F) (r:=r) (M:=[]) (w:=w) (by
   have h4:=hS.sub (L':=.blk g2 105 _::.blk gl 105 x.cells::F) SuF;simp only [List.flatten_cons,List.flatten_nil,List.append_nil,Nat.zero_add,Nat.one_mul,ei,e2,Nat.add_mul] at h4;exact h4) oM hcm2 (by rw [h2,hcl2]) (by simp;omega) (by rw [List.length_map,hfl,hfin,← h1];congr 1;omega) wi_ok
  rw [List.length_map,hfl] at h3;exact h3
 ·
  refine Z.eff (Z.clx (wi_overlaps gl g0 _ _ _ _ _ r _ w (hS.sub (L':=.blk gl 105 x.cells::.blk g0 105 cs::F) SuF) (by rw [hcl];omega)) rfl ?_) rfl;refine sQ ?_;intro w hS;refine D.startS (Lr:=([]:List Res)) (hS.sb) 9 9 kR rfl ?_;replace hS:=hS.drew;refine Sh.dp 0 1 ?_;refine Sh.dp 1 3 ?_;refine Sh.dp 2 7 ?_
  first|refine D.sum 3 15 rfl D.wantedN kR rfl (by constructor<;>omega) ?_|refine D.sumW 3 15 rfl D.wantedN kR rfl ?_
  refine D.pl 4 31 rfl D.wantedN kR (R.sinceL rfl rfl rfl oM oM) ?_;refine Sh.dp 5 63 ?_;refine Sh.dp 6 127 ?_;refine D.pl 7 255 rfl D.wantedN kR (R.sinceL rfl rfl rfl oM oM) ?_;refine D.ef 8 511 ?_;refine Z.cp (l.length - i) hS rfl rfl rfl AtF oM (rows_mid (rows:=(l.drop i).map Wi.cells) (hS.bk) wi_ok (by simp) (Nat.le_refl _) hdi) (by rw [hcl];omega) ?_;clear hS;intro w hS;refine HMs ?_;refine D.dn ?_;refine sQ ?_;intro w hS;refine Z.eff (Z.cp 1 hS rfl rfl rfl AtF oM (hS.lit1 (row:=x.cells) AtF rfl rfl) (by simp only [List.length_append,List.length_take,List.length_drop,hcl,hbl];omega) ?_) rfl;clear hS;intro w hS;refine sQ ?_;intro w hS;refine Dnt Tryz.results102 ?_;refine ⟨_,c,by rw [show ((l.length:Int)+(1:Nat)).toNat=l.length+1 by omega];rfl,?_⟩;have e2:((i:Int)+(1:Nat)).toNat=i+1:=by omega
  obtain ⟨h1,h2⟩:=splice_room (a:=((l.take i).map Wi.cells).flatten) (x:=x.cells) (b:=((l.drop i).map Wi.cells).flatten) (A:=i * 5) (s:=5) (B:=(l.length - i) * 5) (cs:=cs) hta hal rfl hbl (by rw [hcl];omega);have h3:=yao (rows:=(l.take i++x::l.drop i).map Wi.cells) (c:=c) (sz:=5) (cs:=(cs.take (i * 5+5)++((l.drop i).map Wi.cells).flatten++cs.drop (i * 5+5+(l.length - i) * 5)).take (i * 5)++x.cells++(cs.take (i * 5+5)++((l.drop i).map Wi.cells).flatten++cs.drop (i * 5+5+(l.length - i) * 5)).drop (i * 5+5)) (g:=g0) (e:=105) (F:=.blk gl 105 x.cells::F) (r:=r) (M:=[]) (w:=w) (by
   have h4:=hS.sub (L':=.blk g0 105 _::.blk gl 105 x.cells::F) SuF;simp only [List.flatten_cons,List.flatten_nil,List.append_nil,Nat.zero_add,Nat.one_mul,ei,e2,Nat.add_mul] at h4;exact h4) oM hcm (by rw [h2,hcl]) (by simp;omega) (by rw [List.length_map,hfl,hfin,← h1];congr 1;omega) wi_ok
  rw [List.length_map,hfl] at h3;exact h3
def ltW (a b:Wi):Prop:=a.from_ < b.from_∨(a.from_=b.from_∧(a.epoch < b.epoch∨(a.epoch=b.epoch∧(a.until_ < b.until_∨(a.until_=b.until_∧a.version < b.version)))))
def eqK (a b:Wi):Prop:=a.from_=b.from_∧a.epoch=b.epoch∧a.until_=b.until_∧a.version=b.version
instance (a b:Wi):Decidable (ltW a b):=by unfold ltW;infer_instance
instance (a b:Wi):Decidable (eqK a b):=by unfold eqK;infer_instance
def ci3 (a b:Int):Int:=if a < b then -1 else if b < a then 1 else 0
def orL:List Int→Int
 | []=>0
 | a::l=>if a=0 then orL l else a
def cmpW (a b:Wi):Int:=orL [ci3 a.from_ b.from_,ci3 a.epoch b.epoch,ci3 a.until_ b.until_,ci3 a.version b.version]
theorem ybu (a b:Int):ci3 a b < 0↔a < b:=by unfold ci3;repeat' split<;>omega
theorem yaw (a b:Int):ci3 a b=0↔a=b:=by unfold ci3;repeat' split<;>omega
theorem ygr (a b:Wi):cmpW a b < 0↔ltW a b:=by
 simp only [cmpW,orL,ltW];have h1:=ybu a.from_ b.from_;have h2:=yaw a.from_ b.from_;have h3:=ybu a.epoch b.epoch;have h4:=yaw a.epoch b.epoch;have h5:=ybu a.until_ b.until_;have h6:=yaw a.until_ b.until_;have h7:=ybu a.version b.version
 repeat' split
 all_goals omega
theorem yfi (a b:Wi):cmpW a b=0↔eqK a b:=by
 simp only [cmpW,orL,eqK];have h2:=yaw a.from_ b.from_;have h4:=yaw a.epoch b.epoch;have h6:=yaw a.until_ b.until_;have h7:=yaw a.version b.version
 repeat' split
 all_goals omega
theorem ltW_trans {a b c:Wi} (h:ltW a b) (k:ltW b c):ltW a c:=by unfold ltW at *;omega
def okW (x:Wi):Prop:=1≤x.epoch∧x.epoch≤1048576∧0≤x.version∧x.version < 30∧0≤x.from_∧x.from_≤1073741824∧x.from_ < x.until_∧x.until_≤1073743824
instance (a:Wi):Decidable (okW a):=by unfold okW;infer_instance
structure Ga where
 cell:Int
 closed:Int
 ws:List Wi
def GP (g:Nat) (G:Ga):Res:=.ex fun A=>.ex fun c=>.all [.blk g 216 [.int .i64 G.cell,.int .i64 G.closed,.slice A G.ws.length c],.sl 105 5 (.slice A G.ws.length c) (G.ws.map Wi.cells)]
section
variable {r w:World} {M:List Nat} {F:List Res} {g:Nat} {G:Ga}
theorem Sep.GP_open:Sep r M (GP g G::F) w↔∃ A c,Sep r M (.blk g 216 [.int .i64 G.cell,.int .i64 G.closed,.slice A G.ws.length c]::.sl 105 5 (.slice A G.ws.length c) (G.ws.map Wi.cells)::F) w:=by
 simp only [GP,Sep.ex_open,Sep.all_open,List.cons_append,List.nil_append]
end
theorem yd4 (a:Int) (r:World) (F:List Res) (w:World) (hS:Sep r [] F w):Calls Tryz.prog 265 #[.int .i64 a] w fun e w'=>e=.returned (.bool false)∧Sep r [] F w':=by
 refine Z.enter Tryz.func265 Tryz.ntmps265 rfl rfl ?_;refine sQ ?_;intro w hS;refine Dnt Tryz.results265 ?_;exact ⟨by simp [Z.packR],hS⟩
theorem ycV (a b:Int) (r:World) (F:List Res) (w:World) (hS:Sep r [] F w):Calls Tryz.prog 190 #[.int .i64 a,.int .i64 b] w fun e w'=>e=.returned (.int .i64 (ci3 a b))∧Sep r [] F w':=by
 refine Z.enter Tryz.func190 Tryz.ntmps190 rfl rfl ?_;refine sQ ?_;intro w hS;refine rQ (yd4 _ _ _ _ hS) ?_;intro w hS;refine cQ (yd4 _ _ _ _ hS) rfl ?_;clear hS;rintro e w ⟨rfl,hS⟩;refine ⟨_,rfl,?_⟩
 repeat' first|refine K ?_|refine Sa ?_;intro w hS|refine K3 ?_;intro g w hS hge|refine KC ?_ ?_<;>intro hb<;>try exact JX|fail
 ·refine Dnt Tryz.results190 ?_;exact ⟨by simp [Z.packR,ci3,hb],hS⟩
 ·refine Dnt Tryz.results190 ?_;have h1:¬ a < b:=by omega
  exact ⟨by simp [Z.packR,ci3,hb,h1],hS⟩
 ·refine Dnt Tryz.results190 ?_;have h1:¬ a < b:=by omega
  have h2:¬ b < a:=by omega
  exact ⟨by simp [Z.packR,ci3,h1,h2],hS⟩
theorem ygS {l:List Int} {q:Nat} (hq:q < l.length):orL (l.drop q)=if l[q]=0 then orL (l.drop (q+1)) else l[q]:=by rw [List.drop_eq_getElem_cons hq];rfl
theorem yje (l:List Int) (v:Value) (r:World) (F:List Res) (w:World) (hS:Sep r [] F w) (hrd:Reads r F 1 v (l.map intC)) (hl:l.length≤1000) :
  Calls Tryz.prog 189 #[v] w fun e w'=>e=.returned (.int .i64 (orL l))∧Sep r [] F w':=by
 obtain ⟨A,c,rfl,hc⟩:=(hrd [] w hS).mform;refine Z.enter Tryz.func189 Tryz.ntmps189 rfl rfl ?_;refine sQ ?_;intro w hS;refine Z.lpS [2,5,8,9,10,11,12,13,14,15,16] (fun m w s=>∃ q:Nat,s=[(8,.int .i64 q)]∧q≤l.length∧orL l=orL (l.drop q)∧m=l.length - q∧Sep r [] F w) _ [(8,.int .i64 (0:Nat))] TrF ⟨0,rfl,oM,by simp,rfl,hS⟩ ?_;clear hS;rintro m f0 w _ ⟨q,rfl,hq,ho,rfl,hS⟩
 by_cases hlt:q < l.length
 ·obtain ⟨gb,o,rfl,_,hra⟩:=(hrd [] w hS).mat oM hlt;have hd:=ygS hlt
  repeat' first|refine K ?_|refine Sa ?_;intro w hS|refine K3 ?_;intro g w hS hge|refine KC ?_ ?_<;>intro hb<;>try exact JX|fail
  ·refine Dnt Tryz.results189 ?_;rw [if_neg hb] at hd;exact ⟨by rw [ho,hd];rfl,hS⟩
  ·refine Sh.again (l.length - (q+1)) [(8,.int .i64 (q+1:Nat))] ?_;rw [if_pos oM] at hd;exact ⟨q+1,rfl,oM,by rw [ho,hd],rfl,hS⟩
 ·refine sQ ?_;intro w hS;refine Dnt Tryz.results189 ?_;rw [ho,List.drop_eq_nil_of_le oM];exact ⟨rfl,hS⟩
theorem yfh (a b:Wi) (r:World) (F:List Res) (w:World) (hS:Sep r [] F w):Calls Tryz.prog 101 #[a.val,b.val] w fun e w'=>e=.returned (.int .i64 (cmpW a b))∧Sep r [] F w':=by
 refine Z.enter Tryz.func101 Tryz.ntmps101 rfl rfl ?_;refine aQ2 ?_;intro ga gb w hS;refine D.startS (Lr:=[.blk ga 105 a.cells,.blk gb 105 b.cells]) (hS.sb) 23 23 kR rfl ?_;replace hS:=hS.drew;refine Sh.dp 0 1 ?_;refine Sh.dp 2 5 ?_;refine Sh.dp 5 37 ?_;refine Sh.dp 7 165 ?_;refine Sh.dp 10 1189 ?_;refine Sh.dp 12 5285 ?_;refine Sh.dp 15 38053 ?_;refine Sh.dp 17 169125 ?_;refine Sh.dl 1 169127 ?_;refine Sh.dl 3 169135 ?_;refine Sh.dl 6 169199 ?_;refine Sh.dl 8 169455 ?_;refine Sh.dl 11 171503 ?_;refine Sh.dl 13 179695 ?_;refine Sh.dl 16 245231 ?_;refine Sh.dl 18 507375 ?_;refine D.ef 4 507391 ?_;refine dQ (ycV _ _ _ _ _ hS) ?_;intro w hS;refine D.ef 9 507903 ?_;refine dQ (ycV _ _ _ _ _ hS) ?_;intro w hS;refine D.ef 14 524287 ?_;refine dQ (ycV _ _ _ _ _ hS) ?_;intro w hS;refine D.ef 19 1048575 ?_;refine dQ (ycV _ _ _ _ _ hS) ?_;intro w hS;refine D.ef 20 2097151 ?_;refine Z.bs hS rfl rfl rfl ?_;clear hS;intro g w hS hge;refine HMs ?_;refine D.ef 21 4194303 ?_;replace hS:=mk_sl (sz:=1) (n:=4) (rows:=[ci3 a.from_ b.from_,ci3 a.epoch b.epoch,ci3 a.until_ b.until_,ci3 a.version b.version].map intC) hS rfl oM (by decide) (fun row hr=>by obtain ⟨z,_,rfl⟩:=List.mem_map.1 hr;exact ⟨rfl,by simp [intC,Value.oneCell']⟩) rfl;refine Z.cl (yje _ _ _ _ _ hS (Reads.of_at AtF) (by simp)) rfl ?_;clear hS;rintro e w ⟨rfl,hS⟩;refine ⟨_,rfl,?_⟩;refine HMs ?_;refine Sh.dp 22 8388607 ?_;refine D.dn ?_;refine sQ ?_;intro w hS;refine Dnt Tryz.results101 ?_;exact ⟨rfl,hS.sb⟩
structure Spot (ws:List Wi) (x:Wi) (i:Nat):Prop where
 le:i≤ws.length
 lo:∀ j (hj:j < ws.length),j < i→ltW ws[j] x
 hi:∀ j (hj:j < ws.length),i≤j→¬ ltW ws[j] x
theorem sorted_at {ws:List Wi} (h:ws.Pairwise ltW) {i j:Nat} (hj:j < ws.length) (hij:i < j):ltW (ws[i]'oM) ws[j]:=List.pairwise_iff_getElem.1 h i j oM hj hij
theorem ycg (k:IntKind) (hk:k=.i64∨k=.u64) {a:Int} (h0:0≤a) (h1:a≤9223372036854775807):k.wrap a=a:=by
 rcases hk with rfl|rfl
 ·exact IntWalk.i64_in _ oM
 ·simp [IntKind.wrap,IntKind.signed,IntKind.bits]
  omega
theorem yhd (ws:List Wi) (x:Wi) (v:Value) (r:World) (F:List Res) (w:World) (hS:Sep r [] F w) (hrd:Reads r F 5 v (ws.map Wi.cells)) (hl:ws.length≤100000) (hs:ws.Pairwise ltW) :
  Calls Tryz.prog 100 #[v,x.val,.func (.func 101) #[] #[]] w fun e w'=>∃ (i:Nat) (b:Bool),e=.returned (.tuple #[.int .i64 i,.bool b])∧Spot ws x i∧(b=true↔∃ hi:i < ws.length,eqK ws[i] x)∧Sep r [] F w':=by
 obtain ⟨A,c,rfl,hc⟩:=(hrd [] w hS).mform;refine Z.enter Tryz.func100 Tryz.ntmps100 rfl rfl ?_;refine aQ1 ?_;intro gx w hS;refine Z.lpS [9,10,11,15,16,17,18,19,20,21,22,23,24,25,26,27,28,29,30,31,32,33,34] (fun m w s=>∃ i j:Nat,s=[(9,.int .i64 i),(10,.int .i64 j)]∧i≤j∧j≤ws.length∧(∀ k (hk:k < ws.length),k < i→ltW ws[k] x)∧(∀ k (hk:k < ws.length),j≤k→¬ ltW ws[k] x)∧m=j - i∧Sep r [] (.blk gx 105 x.cells::F) w) _ [(9,.int .i64 (0:Nat)),(10,.int .i64 (ws.length:Nat))] TrF ⟨0,ws.length,rfl,oM,oM,by intro k _ h;omega,by intro k _ h;omega,rfl,hS⟩ ?_;clear hS;rintro m f0 w _ ⟨i,j,rfl,hij,hj,hlo,hhi,rfl,hS⟩
 by_cases hlt:i < j
 ·have hm:(i+j) / 2 < ws.length:=by omega
  obtain ⟨gb,o,rfl,_,_⟩:=(hrd [_] w hS).mat oM hm;have hra:∀ W,Sep r [] (.blk gx 105 x.cells::F) W→W.rangeAt gb (o+((i+j) / 2) * 5) ws[(i+j) / 2].cells:=fun W h=>(hrd [_] W h).elem oM hm
  have ew:IntKind.u64.wrap ((i:Int)+j)=(i:Int)+j:=ycg _ (.inr rfl) oM oM;have ew2:IntKind.i64.wrap (((i:Int)+j) / 2)=(((i+j) / 2:Nat):Int):=by rw [ycg _ (.inl rfl) oM oM];rfl
  refine sQ ?_;intro w hS;refine Z.pl (R.cvt rfl Tryz.underlying3 Tryz.underlying82) ?_;rw [ew];refine Z.pl (R.shr1 rfl rfl (by decide)) ?_;refine Z.pl (R.cvt rfl Tryz.underlying82 Tryz.underlying3) ?_;rw [ew2];refine sQ ?_;intro w hS;generalize hmid:(i+j) / 2=mid at *;refine D.startS hS 8 8 kR rfl ?_;replace hS:=hS.drew;refine Sh.dp 0 1 ?_;refine Sh.dp 1 3 ?_;refine Sh.dp 2 7 ?_
  first|refine D.ixn 3 15 rfl D.wantedN kR rfl rfl rfl oM ?_|refine D.ix 3 15 rfl D.wantedN kR rfl rfl rfl oM ?_|refine D.ia 3 15 rfl D.wantedN kR rfl rfl rfl oM ?_
  refine D.ldR 4 31 rfl D.wantedN kR rfl hra rfl ?_;refine Sh.dl 5 63 ?_;refine D.ef 6 127 ?_;refine Z.clf (caps:=[]) rfl (yfh ws[mid] x _ _ _ hS) rfl ?_;clear hS;rintro e w ⟨rfl,hS⟩;refine ⟨_,rfl,?_⟩;refine HMs ?_;refine Sh.dp 7 255 ?_;refine D.dn ?_;have hneg:=ygr ws[mid] x
  repeat' first|refine K ?_|refine Sa ?_;intro w hS|refine K3 ?_;intro g w hS hge|refine KC ?_ ?_<;>intro hb<;>try exact JX|fail
  ·refine Sh.again (j - (mid+1)) [(9,.int .i64 (mid+1:Nat)),(10,.int .i64 (j:Nat))] ?_;refine ⟨mid+1,j,rfl,oM,hj,fun k hk hki=>?_,hhi,rfl,hS⟩;have hx:=hneg.1 hb
   rcases Nat.lt_or_ge k mid with h1|h1
   ·exact ltW_trans (sorted_at hs hm h1) hx
   ·have:k=mid:=by omega
    subst this;exact hx
  ·refine Sh.again (mid - i) [(9,.int .i64 (i:Nat)),(10,.int .i64 (mid:Nat))] ?_;refine ⟨i,mid,rfl,oM,oM,hlo,fun k hk hki=>?_,rfl,hS⟩;have hx:¬ ltW ws[mid] x:=fun h=>by have:=hneg.2 h;omega
   rcases Nat.lt_or_ge mid k with h1|h1
   ·exact fun h=>hx (ltW_trans (sorted_at hs hk h1) h)
   ·have:k=mid:=by omega
    subst this;exact hx
 ·have hij':i=j:=by omega
  subst hij';refine sQ ?_;intro w hS
  by_cases hin:i < ws.length
  ·obtain ⟨gb,o,rfl,_,_⟩:=(hrd [_] w hS).mat oM hin;have hra:∀ W,Sep r [] (.blk gx 105 x.cells::F) W→W.rangeAt gb (o+i * 5) ws[i].cells:=fun W h=>(hrd [_] W h).elem oM hin
   refine D.startS hS 16 16 kR rfl ?_;replace hS:=hS.drew;refine Sh.dp 0 1 ?_;refine Sh.dp 1 3 ?_;refine Sh.dp 2 7 ?_;refine Sh.dp 3 15 ?_;refine Sh.dp 4 31 ?_;refine D.slot 39 rfl (fun hb=>?_) NoF
   (try simp only [JJ] at hb)
   refine Sh.dp 5 63 ?_;refine Sh.dp 6 127 ?_;refine Sh.dp 7 255 ?_
   first|refine D.ixn 8 511 rfl (D.wantedT rfl rfl) kR rfl rfl rfl oM ?_|refine D.ix 8 511 rfl (D.wantedT rfl rfl) kR rfl rfl rfl oM ?_|refine D.ia 8 511 rfl (D.wantedT rfl rfl) kR rfl rfl rfl oM ?_
   refine D.ldR 9 1023 rfl (D.wantedT rfl rfl) kR rfl hra rfl ?_;refine Sh.dl 10 2047 ?_;refine D.eff 11 4095 rfl (D.wantedT rfl rfl) kR kR (fun _ _ h=>h) ?_;refine WE.guard ?_;refine Z.clf (caps:=[]) rfl (yfh ws[i] x _ _ _ hS) rfl ?_;clear hS;rintro e w ⟨rfl,hS⟩;refine ⟨_,rfl,?_⟩;refine HMs ?_
   first|refine D.pr 12 8191 rfl (D.wantedT rfl rfl) kR rfl ?_|refine D.pl 12 8191 rfl (D.wantedT rfl rfl) kR (R.eqa rfl rfl rfl rfl) ?_
   refine Sh.dp 13 16383 ?_;refine Sh.dp 14 32767 ?_;refine Sh.dp 15 65535 ?_;refine D.dn ?_;refine sQ ?_;intro w hS;refine Dntt Tryz.results100 ?_;refine ⟨i,decide (cmpW ws[i] x=0),by simp [Z.packR,hin],⟨oM,hlo,hhi⟩,?_,hS.sb⟩;rw [decide_eq_true_eq,yfi];exact ⟨fun h=>⟨hin,h⟩,fun ⟨_,h⟩=>h⟩
  ·refine D.startS hS 16 16 kR rfl ?_;replace hS:=hS.drew;refine Sh.dp 0 1 ?_;refine Sh.dp 1 3 ?_;refine Sh.dp 2 7 ?_;refine Sh.dp 3 15 ?_;refine Sh.dp 4 31 ?_;refine D.slot 39 rfl NoF (fun hb=>?_)
   (try simp only [JJ] at hb)
   refine D.sk 5 63 ?_;refine D.sk 6 127 ?_;refine D.sk 7 255 ?_;refine D.sk 8 511 ?_;refine D.sk 9 1023 ?_;refine D.sk 10 2047 ?_;refine D.sk 11 4095 ?_;refine D.sk 12 8191 ?_;refine Sh.dp 13 16383 ?_;refine Sh.dp 14 32767 ?_;refine Sh.dp 15 65535 ?_;refine D.dn ?_
   repeat' first|refine K ?_|refine Sa ?_;intro w hS|refine K3 ?_;intro g w hS hge|refine KC ?_ ?_<;>intro hb<;>try exact JX|fail
   refine Dntt Tryz.results100 ?_;exact ⟨i,false,by simp [Z.packR,hin],⟨oM,hlo,hhi⟩,by simp [hin],hS.sb⟩
def accs (ws:List Wi) (v t e:Int):Int:=ws.foldl (fun e x=>if x.version=v∧x.from_≤t∧t < x.until_ then max e x.epoch else e) e
def insB (x:Wi):List Wi→List Wi
 | []=>[x]
 | y::l=>if ltW y x then y::insB x l else x::y::l
theorem ygG (x:Wi) (r:World) (F:List Res) (w:World) (hS:Sep r [] F w):Calls Tryz.prog 99 #[x.val] w fun e w'=>e=.returned (.bool (decide (okW x)))∧Sep r [] F w':=by
 refine Z.enter Tryz.func99 Tryz.ntmps99 rfl rfl ?_
 repeat' first|refine K ?_|refine Sa ?_;intro w hS|refine K3 ?_;intro g w hS hge|refine KC ?_ ?_<;>intro hb<;>try exact JX|fail
 all_goals
  refine Dnt Tryz.results99 ?_;refine ⟨?_,hS.sb⟩;simp only [Z.packR]
  congr 2
  first
   | (rw [eq_comm,decide_eq_false_iff_not];unfold okW;omega)
   | (rw [decide_eq_decide];unfold okW;omega)
theorem ye6 {ws:List Wi} {v t e:Int} {q:Nat} (hq:q < ws.length):accs (ws.take (q+1)) v t e=if ws[q].version=v∧ws[q].from_≤t∧t < ws[q].until_ then max (accs (ws.take q) v t e) ws[q].epoch else accs (ws.take q) v t e:=by
 rw [List.take_succ_eq_append_getElem hq];unfold accs;rw [List.foldl_append];rfl
theorem yeE (gg:Nat) (G:Ga) (v t:Int) (r:World) (F:List Res) (w:World) (hS:Sep r [] (GP gg G::F) w) (hl:G.ws.length≤100000):Calls Tryz.prog 104 #[.pointer (some ⟨gg,0,none⟩),.int .i64 v,.int .i64 t] w fun e w'=>e=.returned (.tuple #[.int .i64 (accs G.ws v t 0),.bool (decide (0 < accs G.ws v t 0))])∧Sep r [] (GP gg G::F) w':=by
 obtain ⟨A,c,hS⟩:=Sep.GP_open.1 hS;refine Z.enter Tryz.func104 Tryz.ntmps104 rfl rfl ?_;refine sQ ?_;intro w hS;refine Z.lpS [8,10,16,17,18,19,20,21,22,23,24,25,26,27,28,29,30,31,32,33,34,35,36,37,38,39,40] (fun m w s=>∃ (q:Nat) (e:Int),s=[(8,.int .i64 e),(16,.int .i64 q)]∧q≤G.ws.length∧e=accs (G.ws.take q) v t 0∧m=G.ws.length - q∧Sep r [] (.blk gg 216 [.int .i64 G.cell,.int .i64 G.closed,.slice A G.ws.length c]::.sl 105 5 (.slice A G.ws.length c) (G.ws.map Wi.cells)::F) w) _ [(8,.int .i64 0),(16,.int .i64 (0:Nat))] TrF ⟨0,0,rfl,oM,by simp [accs],rfl,hS⟩ ?_;clear hS;rintro m f0 w _ ⟨q,e,rfl,hq,he,rfl,hS⟩
 by_cases hlt:q < G.ws.length
 ·obtain ⟨gb,o,rfl,_,hra⟩:=(hS.slrows (.next .here)).mat oM hlt;have hn:=ye6 (v:=v) (t:=t) (e:=0) hlt;rw [← he] at hn
  repeat' first|refine K ?_|refine Sa ?_;intro w hS|refine K3 ?_;intro g w hS hge|refine KC ?_ ?_<;>intro hb<;>try exact JX|fail
  ·refine Sh.again (G.ws.length - (q+1)) [(8,.int .i64 (max e G.ws[q].epoch)),(16,.int .i64 (q+1:Nat))] ?_;exact ⟨q+1,_,rfl,oM,by rw [hn,if_pos oM],rfl,hS.sb⟩
  all_goals
   refine Sh.again (G.ws.length - (q+1)) [(8,.int .i64 e),(16,.int .i64 (q+1:Nat))] ?_;exact ⟨q+1,_,rfl,oM,by rw [hn,if_neg oM],rfl,hS.sb⟩
 ·refine sQ ?_;intro w hS;refine Dntt Tryz.results104 ?_;rw [List.take_of_length_le oM] at he;exact ⟨by rw [he];rfl,Sep.GP_open.2 ⟨_,_,hS⟩⟩
def insW (x:Wi):List Wi→List Wi
 | []=>[x]
 | y::l=>if ltW y x then y::insW x l else if eqK y x then y::l else x::y::l
theorem yd3 {x:Wi}:∀ {l:List Wi} {i:Nat},Spot l x i→insW x l=if ∃ hi:i < l.length,eqK l[i] x then l else l.take i++x::l.drop i
 | [],i,h=>by have:=h.le;simp at this;subst this;simp [insW]
 | y::l,0,h=>by
  have h1:=h.hi 0 (by simp) (Nat.le_refl _);simp only [List.getElem_cons_zero] at h1;simp only [insW,if_neg h1]
  by_cases he:eqK y x
  ·rw [if_pos he,if_pos ⟨by simp,by simpa using he⟩]
  ·rw [if_neg he,if_neg (by rintro ⟨_,h2⟩;exact he (by simpa using h2))]
   simp
 | y::l,i+1,h=>by
  have h0:=h.lo 0 (by simp) oM;simp only [List.getElem_cons_zero] at h0;have ih:=yd3 (x:=x) (l:=l) (i:=i) ⟨by have:=h.le;simpa using this,fun j hj hji=>by have:=h.lo (j+1) (by simpa using hj) oM;simpa using this,fun j hj hji=>by have:=h.hi (j+1) (by simpa using hj) oM;simpa using this⟩;simp only [insW,if_pos h0,ih]
  by_cases he:∃ hi:i < l.length,eqK l[i] x
  ·have he':∃ hi:i+1 < (y::l).length,eqK (y::l)[i+1] x:=by
    obtain ⟨a,b⟩:=he;exact ⟨by simpa using a,by simpa using b⟩
   rw [if_pos he,if_pos he']
  ·have he':¬ ∃ hi:i+1 < (y::l).length,eqK (y::l)[i+1] x:=by
    rintro ⟨a,b⟩;exact he ⟨by simpa using a,by simpa using b⟩
   rw [if_neg he,if_neg he']
   simp
def giveP (G:Ga) (x:Wi):Ga×Int:=if okW x then if x.cell=G.cell then if x.epoch≤G.closed then (G,7) else (⟨G.cell,G.closed,insW x G.ws⟩,0) else (G,5) else (G,1)
theorem yhH (gg:Nat) (G:Ga) (x:Wi) (r:World) (F:List Res) (w:World) (hS:Sep r [] (GP gg G::F) w) (hl:G.ws.length≤100000) (hs:G.ws.Pairwise ltW):Calls Tryz.prog 38 #[.pointer (some ⟨gg,0,none⟩),x.val] w fun e w'=>e=.returned (.int .i64 (giveP G x).2)∧Sep r [] (GP gg (giveP G x).1::F) w':=by
 obtain ⟨A,c,hS⟩:=Sep.GP_open.1 hS;refine Z.enter Tryz.func38 Tryz.ntmps38 rfl rfl ?_;refine aQ1 ?_;intro gx w hS;refine cQ (ygG x _ _ _ hS) rfl ?_;clear hS;rintro e w ⟨rfl,hS⟩;refine ⟨_,rfl,?_⟩
 repeat' first|refine K ?_|refine Sa ?_;intro w hS|refine K3 ?_;intro g w hS hge|refine KC ?_ ?_<;>intro hb<;>try exact JX|fail
 ·refine Dnt Tryz.results38 ?_;have e:giveP G x=(G,1):=by unfold giveP;rw [if_neg hb]
  rw [e];exact ⟨rfl,Sep.GP_open.2 ⟨A,c,hS.sb⟩⟩
 have hok:okW x:=hb;refine D.startS hS 7 7 kR rfl ?_;replace hS:=hS.drew;refine Sh.dp 0 1 ?_;refine Sh.dp 2 5 ?_;refine Sh.dp 3 13 ?_;refine Sh.dp 4 29 ?_;refine Sh.dl 1 31 ?_;refine Sh.dl 5 63 ?_
 first|refine D.pr 6 127 rfl D.wantedN kR rfl ?_|refine D.pl 6 127 rfl D.wantedN kR (R.nea rfl rfl rfl rfl) ?_
 refine D.dn ?_
 repeat' first|refine K ?_|refine Sa ?_;intro w hS|refine K3 ?_;intro g w hS hge|refine KC ?_ ?_<;>intro hb<;>try exact JX|fail
 ·refine Dnt Tryz.results38 ?_;have e:giveP G x=(G,5):=by unfold giveP;rw [if_pos hok,if_neg hb]
  rw [e];exact ⟨rfl,Sep.GP_open.2 ⟨A,c,hS.sb⟩⟩
 have hcell:x.cell=G.cell:=by omega
 refine D.startS hS 7 7 kR rfl ?_;replace hS:=hS.drew;refine Sh.dp 0 1 ?_;refine Sh.dp 2 5 ?_;refine Sh.dp 3 13 ?_;refine Sh.dp 4 29 ?_;refine Sh.dl 1 31 ?_;refine Sh.dl 5 63 ?_;refine Sh.dp 6 127 ?_;refine D.dn ?_
 repeat' first|refine K ?_|refine Sa ?_;intro w hS|refine K3 ?_;intro g w hS hge|refine KC ?_ ?_<;>intro hb<;>try exact JX|fail
 ·refine Dnt Tryz.results38 ?_;have e:giveP G x=(G,7):=by unfold giveP;rw [if_pos hok,if_pos hcell,if_pos hb]
  rw [e];exact ⟨rfl,Sep.GP_open.2 ⟨A,c,hS.sb⟩⟩
 have hep:¬ x.epoch≤G.closed:=by omega
 have e:giveP G x=(⟨G.cell,G.closed,insW x G.ws⟩,0):=by unfold giveP;rw [if_pos hok,if_pos hcell,if_neg hep]
 rw [e];clear e;refine Z.cut [5,6,24,25,26,27,28,29,30,31,32] (fun w s=>∃ (i:Nat) (b:Bool),s=[(5,.int .i64 i),(6,.bool b)]∧Spot G.ws x i∧(b=true↔∃ hi:i < G.ws.length,eqK G.ws[i] x)∧Sep r [] (.blk gx 105 x.cells::.blk gg 216 [.int .i64 G.cell,.int .i64 G.closed,.slice A G.ws.length c]::.sl 105 5 (.slice A G.ws.length c) (G.ws.map Wi.cells)::F) w) ?_ ?_
 ·refine D.startS hS 11 11 kR rfl ?_;replace hS:=hS.drew;refine Sh.dp 0 1 ?_;refine Sh.dp 1 3 ?_;refine Sh.dp 2 7 ?_;refine Sh.dl 3 15 ?_;refine Sh.dl 4 31 ?_;refine D.ef 5 63 ?_;refine Z.cl (yhd G.ws x _ _ _ _ hS (Reads.of_at AtF) hl hs) rfl ?_;clear hS;rintro e w ⟨i,b,rfl,hsp,hbi,hS⟩;refine ⟨_,rfl,?_⟩;refine HMs ?_;refine Sh.dp 6 127 ?_;refine Sh.dp 7 255 ?_;refine Sh.dp 8 511 ?_;refine Sh.dp 9 1023 ?_;refine Sh.dp 10 2047 ?_;refine D.dn ?_;refine Sh.cut [(5,_),(6,_)] ?_;exact ⟨i,b,rfl,hsp,hbi,hS.sb⟩
 clear hS;rintro f1 w _ ⟨i,b,rfl,hsp,hbi,hS⟩;have hins:=yd3 hsp
 cases b
 ·have hno:¬ ∃ hi:i < G.ws.length,eqK G.ws[i] x:=fun h=>by have:=hbi.2 h;cases this
  rw [if_neg hno] at hins;have hle:=hsp.le;refine sQ ?_;intro w hS;refine D.startS (Lr:=[.blk gx 105 x.cells,.blk gg 216 [.int .i64 G.cell,.int .i64 G.closed,.slice A G.ws.length c]]) (hS.sb) 11 12 kR rfl ?_;replace hS:=hS.drew;refine Sh.dp 0 1 ?_;refine Sh.dp 1 3 ?_;refine Sh.dp 2 7 ?_;refine Sh.dp 3 15 ?_;refine Sh.dp 5 47 ?_;refine Sh.dl 4 63 ?_;refine Sh.dl 6 127 ?_;refine D.ef 7 255 ?_;refine Z.bs hS rfl rfl rfl ?_;clear hS;intro g w hS hge;refine HMs ?_;refine D.ef 8 511 ?_;replace hS:Sep r [] (.sl 105 5 (.slice A G.ws.length c) (G.ws.map Wi.cells)::.blk g 105 x.cells::.blk gx 105 x.cells::.blk gg 216 [.int .i64 G.cell,.int .i64 G.closed,.slice A G.ws.length c]::F) _:=hS.sb;refine Z.cl (wi_insert G.ws i x A c g _ _ _ hS hle hl) rfl ?_;clear hS;rintro e w ⟨A1,c1,rfl,hS⟩;refine ⟨_,rfl,?_⟩;refine HMs ?_;refine Sh.dp 9 1023 ?_;refine Sh.dp 10 2047 ?_;refine D.ef 11 4095 ?_;refine Z.st hS rfl AtF rfl rfl ?_;clear hS;intro w hS;refine HMl ?_;refine D.dn ?_;refine sQ ?_;intro w hS;refine Dnt Tryz.results38 ?_;refine ⟨rfl,Sep.GP_open.2 ⟨A1,c1,?_⟩⟩;have hlen:(insW x G.ws).length=G.ws.length+1:=by rw [hins];simp;omega
  simp only [hlen];rw [hins];exact hS.sb
 ·have hyes:=hbi.1 rfl;rw [if_pos hyes] at hins;refine sQ ?_;intro w hS;refine Dnt Tryz.results38 ?_;rw [hins];exact ⟨rfl,Sep.GP_open.2 ⟨A,c,hS.sb⟩⟩
end Go.Proofs.YtfmnjbhncnldmaaGreat
namespace Go.Proofs.YtfmnjbhncnldmaaGreat
def hits (x:Wi) (v t:Int):Prop:=x.version=v∧x.from_≤t∧t < x.until_
theorem ycW:∀ (ws:List Wi) (v t e:Int),e≤accs ws v t e∧(∀ x,x∈ws→hits x v t→x.epoch≤accs ws v t e)∧(accs ws v t e=e∨∃ x,x∈ws∧hits x v t∧x.epoch=accs ws v t e)
 | [],v,t,e=>⟨Int.le_refl _,by simp,.inl rfl⟩
 | a::ws,v,t,e=>by
  have eq:accs (a::ws) v t e=accs ws v t (if a.version=v∧a.from_≤t∧t < a.until_ then max e a.epoch else e):=rfl;rw [eq];obtain ⟨h1,h2,h3⟩:=ycW ws v t (if a.version=v∧a.from_≤t∧t < a.until_ then max e a.epoch else e)
  by_cases ha:a.version=v∧a.from_≤t∧t < a.until_
  ·rw [if_pos ha] at h1 h2 h3 ⊢;refine ⟨oM,fun x hx hh=>?_,?_⟩
   ·rcases List.mem_cons.1 hx with rfl|hx
    ·omega
    ·exact h2 x hx hh
   ·rcases h3 with h3|⟨x,hx,hh,he⟩
    ·rcases Int.le_total a.epoch e with hle|hle
     ·exact .inl oM
     ·exact .inr ⟨a,by simp,ha,oM⟩
    ·exact .inr ⟨x,by simp [hx],hh,he⟩
  ·rw [if_neg ha] at h1 h2 h3 ⊢;refine ⟨h1,fun x hx hh=>?_,?_⟩
   ·rcases List.mem_cons.1 hx with rfl|hx
    ·exact (ha hh).elim
    ·exact h2 x hx hh
   ·rcases h3 with h3|⟨x,hx,hh,he⟩
    ·exact .inl h3
    ·exact .inr ⟨x,by simp [hx],hh,he⟩
open Go.RowKit
attribute [local irreducible] Res.blk Res.sl Res.all Res.ex Res.pure Res.star
end Go.Proofs.YtfmnjbhncnldmaaGreat
