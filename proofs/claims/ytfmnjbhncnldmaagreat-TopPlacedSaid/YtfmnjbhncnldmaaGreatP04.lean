import Derived.Test.YtfmnjbhncnldmaaGreatP03
set_option linter.unusedSimpArgs false
set_option linter.unusedVariables false
namespace Go.Proofs.YtfmnjbhncnldmaaGreat
open Go.RowKit
def bitZ (k : IntKind) (f : BitVec k.bits → BitVec k.bits → BitVec k.bits) (a b : Int) : Int := k.wrap (f (BitVec.ofInt k.bits a) (BitVec.ofInt k.bits b)).toNat
def isI64 : IntKind → Bool
  | .i64 => true
  | _ => false
def ibo (op : BinOp) (k : IntKind) (a b : Int) : Option Value :=
  match op with
  | .and => some (.int k (bitZ k (· &&& ·) a b))
  | .or => some (.int k (bitZ k (· ||| ·) a b))
  | .xor => some (.int k (bitZ k (· ^^^ ·) a b))
  | .andNot => some (.int k (bitZ k (fun x y => x &&& ~~~y) a b))
  | .add => cond (isI64 k) none (some (.int k (k.wrap (a + b))))
  | .sub => cond (isI64 k) none (some (.int k (k.wrap (a - b))))
  | .mul => cond (isI64 k) none (some (.int k (k.wrap (a * b))))
  | op => cmpI op a b
def ish (op : BinOp) (k : IntKind) (a b : Int) : Option Value :=
  match op with
  | .shl => some (.int k (k.wrap (a * 2 ^ min b.toNat k.bits)))
  | .shr => some (.int k (a.fdiv (2 ^ min b.toNat k.bits)))
  | _ => none
def iquo (op : BinOp) (k : IntKind) (a b : Int) : Option Value :=
  match op with
  | .quo => some (.int k (k.wrap (a.tdiv b)))
  | .rem => some (.int k (a.tmod b))
  | _ => none
theorem ibo_run {P : Program} {op : BinOp} {k : IntKind} {a b : Int} {v : Value} (h : ibo op k a b = some v) (T : TypeId) (w : World) : (binOp op T (.int k a) (.int k b)).run P w = .ok v w := by
  cases op <;> simp only [ibo, cmpI, Option.some.injEq, reduceCtorEq] at h
  all_goals first
    | (subst h; simp [binOp, Op.intBits, Op.intArith, Op.intCmp, bitZ, bne, BEq.beq]; done)
    | (revert h; cases k <;> simp [isI64] <;> rintro rfl <;> simp [binOp, Op.intArith])
theorem ish_run {P : Program} {op : BinOp} {k k' : IntKind} {a b : Int} {v : Value} (h : ish op k a b = some v) (hb : 0 ≤ b) (T : TypeId) (w : World) : (binOp op T (.int k a) (.int k' b)).run P w = .ok v w := by
  have hn : ¬ b < 0 := by omega
  cases op <;> simp only [ish, Option.some.injEq, reduceCtorEq] at h <;> subst h <;> simp [binOp, Op.shift, hn]
theorem iquo_run {P : Program} {op : BinOp} {k : IntKind} {a b : Int} {v : Value} (h : iquo op k a b = some v) (hb : b ≠ 0) (T : TypeId) (w : World) : (binOp op T (.int k a) (.int k b)).run P w = .ok v w := by
  cases op <;> simp only [iquo, Option.some.injEq, reduceCtorEq] at h <;> subst h <;> simp [binOp, Op.intDiv, hb]
section
variable {P : Program} {n : Nat} {f : Nat → Value} {d : Option Tmp} {ty t t' : TypeId} {pos : String} {aft : Array Edge} {gd : Option (Nat × Bool)} {x y : Operand} {v : Value} {op : BinOp} {k k' : IntKind} {a b : Int}
theorem R.ibo (hx : ev n f x = .int k a) (hy : ev n f y = .int k b) (hv : Go.Proofs.YtfmnjbhncnldmaaGreat.ibo op k a b = some v) : Runs P n f ⟨d, .binOp op t x y t', ty, pos, aft, gd⟩ v := by
  refine ⟨fun W => ?_⟩
  have hg := eqGuard_none (P := P) op t x y (a := .int k a) (b := .int k b) (fun c h => by cases h) (fun h => by cases h) W
  unfold execOp
  simp only [hx, hy, Sem.run_bind, hg, Result.andThen_ok, ibo_run hv]
  rfl
theorem R.ish (hx : ev n f x = .int k a) (hy : ev n f y = .int k' b) (hv : Go.Proofs.YtfmnjbhncnldmaaGreat.ish op k a b = some v) (hb : 0 ≤ b) : Runs P n f ⟨d, .binOp op t x y t', ty, pos, aft, gd⟩ v := by
  refine ⟨fun W => ?_⟩
  have hg := eqGuard_none (P := P) op t x y (a := .int k a) (b := .int k' b) (fun c h => by cases h) (fun h => by cases h) W
  unfold execOp
  simp only [hx, hy, Sem.run_bind, hg, Result.andThen_ok, ish_run hv hb]
  rfl
theorem R.iquo (hx : ev n f x = .int k a) (hy : ev n f y = .int k b) (hv : Go.Proofs.YtfmnjbhncnldmaaGreat.iquo op k a b = some v) (hb : b ≠ 0) : Runs P n f ⟨d, .binOp op t x y t', ty, pos, aft, gd⟩ v := by
  refine ⟨fun W => ?_⟩
  have hg := eqGuard_none (P := P) op t x y (a := .int k a) (b := .int k b) (fun c h => by cases h) (fun h => by cases h) W
  unfold execOp
  simp only [hx, hy, Sem.run_bind, hg, Result.andThen_ok, iquo_run hv hb]
  rfl
theorem R.icv [hs : HasK P t k] [hd : HasK P t' k'] (hx : ev n f x = .int k a) : Runs P n f ⟨d, .convert t t' x, ty, pos, aft, gd⟩ (.int k' (k'.wrap a)) := R.cvt hx hs.ok hd.ok
def iun (op : UnOp) (k : IntKind) (a : Int) : Option Value :=
  match op with
  | .neg => some (.int k (k.wrap (0 - a)))
  | .xor => some (.int k (bitZ k (· ^^^ ·) (cond k.signed (-1) k.max) a))
  | _ => none
theorem R.iun (hx : ev n f x = .int k a) {op : UnOp} (hv : Go.Proofs.YtfmnjbhncnldmaaGreat.iun op k a = some v) : Runs P n f ⟨d, .unOp op t x, ty, pos, aft, gd⟩ v := by
  refine ⟨fun W => ?_⟩
  unfold execOp
  cases op <;> simp only [Go.Proofs.YtfmnjbhncnldmaaGreat.iun, Option.some.injEq, reduceCtorEq] at hv <;> subst hv
  · simp [hx, Op.unary, Op.intArith]
  · cases hk : k.signed <;> simp [hx, Op.unary, Op.intBits, bitZ, hk]
def notIface : Option TypeDesc → Bool
  | some (.interface _) => false
  | some _ => true
  | none => false
theorem R.mki (hu : notIface (P.underlying t) = true) : Runs P n f ⟨d, .makeInterface t x, ty, pos, aft, gd⟩ (.iface t (ev n f x)) := by
  refine ⟨fun W => ?_⟩
  unfold execOp
  cases h : P.underlying t with
  | none => rw [h] at hu; cases hu
  | some dd =>
    rw [h] at hu
    simp only [Instr.makeInterface, Sem.run_bind, run_under h, Result.andThen_ok]
    cases dd <;> first | rfl | cases hu
theorem R.asT (hu : notIface (P.underlying t') = true) {u : Value} (hx : ev n f x = .iface t' u) : Runs P n f ⟨d, .typeAssert x t t' true, ty, pos, aft, gd⟩ (.tuple #[u, .bool true]) := by
  refine ⟨fun W => ?_⟩
  unfold execOp
  cases h : P.underlying t' with
  | none => rw [h] at hu; cases hu
  | some dd =>
    rw [h] at hu
    simp only [hx, Instr.typeAssert, Sem.run_bind, run_under h, Result.andThen_ok]
    cases dd <;> first | (simp; done) | cases hu
end
section
variable {P : Program} {ops : Array Oper} {Q : Exit → Act → World → Prop} {n : Nat} {f : Nat → Value} {w : World} {rest : List Oper} {d : Tmp} {ty t t' : TypeId} {pos : String} {aft : Array Edge} {v u : Value} {x y : Operand} {op : BinOp} {k k' : IntKind} {a b : Int}
theorem IB (h : WL P ops Q rest n (upd' f d v) w) (hx : ev n f x = .int k a := by exact rfl) (hy : ev n f y = .int k b := by exact rfl) (hv : Go.Proofs.YtfmnjbhncnldmaaGreat.ibo op k a b = some v := by exact rfl) : WL P ops Q (⟨some d, .binOp op t x y t', ty, pos, aft, none⟩ :: rest) n f w := Z.pl (R.ibo hx hy hv) h
theorem IS (h : WL P ops Q rest n (upd' f d v) w) (hx : ev n f x = .int k a := by exact rfl) (hy : ev n f y = .int k' b := by exact rfl) (hv : Go.Proofs.YtfmnjbhncnldmaaGreat.ish op k a b = some v := by exact rfl) (hb : 0 ≤ b := by omega) : WL P ops Q (⟨some d, .binOp op t x y t', ty, pos, aft, none⟩ :: rest) n f w := Z.pl (R.ish hx hy hv hb) h
theorem IQ (h : WL P ops Q rest n (upd' f d v) w) (hx : ev n f x = .int k a := by exact rfl) (hy : ev n f y = .int k b := by exact rfl) (hv : Go.Proofs.YtfmnjbhncnldmaaGreat.iquo op k a b = some v := by exact rfl) (hb : b ≠ 0 := by omega) : WL P ops Q (⟨some d, .binOp op t x y t', ty, pos, aft, none⟩ :: rest) n f w := Z.pl (R.iquo hx hy hv hb) h
theorem IC [hs : HasK P t k] [hd : HasK P t' k'] (h : WL P ops Q rest n (upd' f d (.int k' (k'.wrap a))) w) (hx : ev n f x = .int k a := by exact rfl) : WL P ops Q (⟨some d, .convert t t' x, ty, pos, aft, none⟩ :: rest) n f w := Z.pl (R.icv hx) h
theorem IU {op : UnOp} (h : WL P ops Q rest n (upd' f d v) w) (hx : ev n f x = .int k a := by exact rfl) (hv : Go.Proofs.YtfmnjbhncnldmaaGreat.iun op k a = some v := by exact rfl) : WL P ops Q (⟨some d, .unOp op t x, ty, pos, aft, none⟩ :: rest) n f w := Z.pl (R.iun hx hv) h
theorem IM (h : WL P ops Q rest n (upd' f d (.iface t (ev n f x))) w) (hu : notIface (P.underlying t) = true := by kernel_rfl) : WL P ops Q (⟨some d, .makeInterface t x, ty, pos, aft, none⟩ :: rest) n f w := Z.pl (R.mki hu) h
theorem IA (h : WL P ops Q rest n (upd' f d (.tuple #[u, .bool true])) w) (hx : ev n f x = .iface t' u := by exact rfl) (hu : notIface (P.underlying t') = true := by kernel_rfl) : WL P ops Q (⟨some d, .typeAssert x t t' true, ty, pos, aft, none⟩ :: rest) n f w := Z.pl (R.asT hu hx) h
end
end Go.Proofs.YtfmnjbhncnldmaaGreat
namespace Go.Proofs.YtfmnjbhncnldmaaGreat
open Go.RowKit
attribute [local irreducible] Res.blk Res.sl Res.all Res.ex Res.pure Res.star
def TpM (g : Nat) (A : Option Addr) (n c : Nat) (lo B : Int) : Res := .ex fun a : Int => .all [.pure (0 ≤ a ∧ lo ≤ a ∧ a ≤ B), .blk g 243 [.slice A n c, .int .i64 a]]
section
variable {r w : World} {M : List Nat} {F : List Res} {g n c : Nat} {A : Option Addr} {lo B : Int}
theorem Sep.TpM_open : Sep r M (TpM g A n c lo B :: F) w ↔ ∃ a : Int, (0 ≤ a ∧ lo ≤ a ∧ a ≤ B) ∧ Sep r M (.blk g 243 [.slice A n c, .int .i64 a] :: F) w := by
  simp only [TpM, Sep.ex_open, Sep.all_open, Sep.pure_open, List.cons_append, List.nil_append]
theorem Sep.TpM_le {B' : Int} (h : Sep r M (TpM g A n c lo B :: F) w) (hb : B ≤ B') : Sep r M (TpM g A n c lo B' :: F) w := by
  obtain ⟨a, ha, hS⟩ := Sep.TpM_open.1 h
  exact Sep.TpM_open.2 ⟨a, by omega, hS⟩
theorem Sep.TpM_lo {lo' : Int} (h : Sep r M (TpM g A n c lo B :: F) w) (hb : lo' ≤ lo) : Sep r M (TpM g A n c lo' B :: F) w := by
  obtain ⟨a, ha, hS⟩ := Sep.TpM_open.1 h
  exact Sep.TpM_open.2 ⟨a, by omega, hS⟩
end
def modM (v n : Int) : Int := (v.tmod n + n).tmod n
theorem modM_bd (v n : Int) (hn : 1 ≤ n) : 0 ≤ modM v n ∧ modM v n < n := by
  have h1 := Int.lt_tmod_of_pos v (show 0 < n by omega)
  have h2 := Int.tmod_lt_of_pos (v.tmod n + n) (show 0 < n by omega)
  have h3 := Int.tmod_nonneg n (show 0 ≤ v.tmod n + n by omega)
  exact ⟨h3, h2⟩
theorem mmod_z (v n : Int) (r : World) (F : List Res) (w : World) (hS : Sep r [] F w) (hn : 1 ≤ n) (hm : n ≤ 4611686018427387904) :
    Calls Tryz.prog 12 #[.int .i64 v, .int .i64 n] w fun e w' => e = .returned (.int .i64 (modM v n)) ∧ Sep r [] F w' := by
  have h1 := Int.lt_tmod_of_pos v (show 0 < n by omega)
  have h2 := Int.tmod_lt_of_pos v (show 0 < n by omega)
  refine Z.enter Tryz.func12 Tryz.ntmps12 rfl rfl ?_
  repeat' (first|refine K ?_|(refine Sh.sa hS ?_;clear hS;intro w hS)|(refine K3 ?_;clear hS;intro g w hS hge)|(refine KB ?_ ?_<;>intro hb<;>(try simp only [JJ] at hb)<;>(try exact JX))|fail)
  refine Dnt Tryz.results12 ?_
  exact ⟨rfl, hS⟩
theorem between_z (v lo hi : Int) (r : World) (F : List Res) (w : World) (hS : Sep r [] F w) (h0 : -1000000 ≤ lo) (h1 : lo ≤ hi) (h2 : hi ≤ 1000000000) :
    Calls Tryz.prog 7 #[.int .i64 v, .int .i64 lo, .int .i64 hi] w fun e w' => ∃ z, e = .returned (.int .i64 z) ∧ (lo ≤ z ∧ z ≤ hi) ∧ Sep r [] F w' := by
  have hb := modM_bd v (hi - lo + 1) (by omega)
  refine Z.enter Tryz.func7 Tryz.ntmps7 rfl rfl ?_
  repeat' (first|refine K ?_|(refine Sh.sa hS ?_;clear hS;intro w hS)|(refine K3 ?_;clear hS;intro g w hS hge)|(refine KB ?_ ?_<;>intro hb<;>(try simp only [JJ] at hb)<;>(try exact JX))|fail)
  refine Z.eff (Z.cl (mmod_z v (hi - lo + 1) _ _ _ hS (by omega) (by omega)) rfl ?_) rfl
  clear hS
  rintro e w ⟨rfl, hS⟩
  refine ⟨_, rfl, ?_⟩
  generalize modM v (hi - lo + 1) = z at *
  repeat' (first|refine K ?_|(refine Sh.sa hS ?_;clear hS;intro w hS)|(refine K3 ?_;clear hS;intro g w hS hge)|(refine KB ?_ ?_<;>intro hb<;>(try simp only [JJ] at hb)<;>(try exact JX))|fail)
  refine Dnt Tryz.results7 ?_
  exact ⟨_, rfl, by omega, hS⟩
theorem mnew_z (A : Option Addr) (n c : Nat) (r : World) (F : List Res) (w : World) (hS : Sep r [] F w) :
    Calls Tryz.prog 56 #[.slice A n c] w fun e w' => ∃ g, e = .returned (.pointer (some ⟨g, 0, .none⟩)) ∧ Sep r [] (TpM g A n c 0 0 :: F) w' := by
  refine Z.enter Tryz.func56 Tryz.ntmps56 rfl rfl ?_
  repeat' (first|refine K ?_|(refine Sh.sa hS ?_;clear hS;intro w hS)|(refine K3 ?_;clear hS;intro g w hS hge)|(refine KB ?_ ?_<;>intro hb<;>(try simp only [JJ] at hb)<;>(try exact JX))|fail)
  refine Dnt Tryz.results56 ?_
  exact ⟨_, rfl, Sep.TpM_open.2 ⟨0, by omega, hS⟩⟩
set_option maxHeartbeats 1000000 in
theorem mnext_up {lo : Int} (g : Nat) (A : Option Addr) (l : List Int) (c : Nat) (B n : Int) (r : World) (F : List Res) (w : World) (hS : Sep r [] (TpM g A l.length c lo B :: F) w) (hrd : Reads r F 1 (.slice A l.length c) (l.map ztC)) (hl : l.length ≤ 1000) (hB : B ≤ 1000000) (hn : 1 ≤ n) (hm : n ≤ 1099511627776) :
    Calls Tryz.prog 57 #[.pointer (some ⟨g, 0, .none⟩), .int .i64 n] w fun e w' => ∃ (z lo' : Int), e = .returned (.int .i64 z) ∧ (0 ≤ z ∧ z < n) ∧ (lo ≤ lo' ∧ (0 < l.length → lo + 1 ≤ lo')) ∧ Sep r [] (TpM g A l.length c lo' (B + 1) :: F) w' := by
  obtain ⟨a, ha, hS⟩ := Sep.TpM_open.1 hS
  refine Z.enter Tryz.func57 Tryz.ntmps57 rfl rfl ?_
  repeat' (first|refine K ?_|(refine Sh.sa hS ?_;clear hS;intro w hS)|(refine K3 ?_;clear hS;intro g w hS hge)|(refine KB ?_ ?_<;>intro hb<;>(try simp only [JJ] at hb)<;>(try exact JX))|fail)
  · refine Dnt Tryz.results57 ?_
    exact ⟨0, lo, rfl, by omega, by omega, Sep.TpM_open.2 ⟨a, by omega, hS⟩⟩
  have hl0 : 0 < l.length := by omega
  have h1 := Int.tmod_lt_of_pos a (show 0 < (l.length : Int) by omega)
  have h2 := Int.tmod_nonneg (l.length : Int) ha.1
  obtain ⟨gb, o, hAe, _, _⟩ := (hrd [_] w hS).mat (by omega) (q := (a.tmod l.length).toNat) (by simpa using (by omega : (a.tmod l.length).toNat < l.length))
  subst hAe
  have hra : ∀ W, Sep r [] (.blk g 243 [.slice (some ⟨gb, o, .none⟩) l.length c, .int .i64 a] :: F) W → W.rangeAt gb (o + (a.tmod l.length).toNat * 1) (ztC (l[(a.tmod l.length).toNat]'(by omega))) := fun W h => by
    have h3 := (hrd [_] W h).elem (q := (a.tmod l.length).toNat) (by omega) (by simpa using (by omega : (a.tmod l.length).toNat < l.length))
    simpa using h3
  generalize l[(a.tmod l.length).toNat]'(by omega) = v at *
  refine D.startS hS 17 17 (by kernel_rfl) rfl ?_
  replace hS := hS.drew
  refine Sh.dp 0 1 ?_
  refine Sh.dp 1 3 ?_
  refine Sh.dp 2 7 ?_
  refine Sh.dp 4 23 ?_
  refine Sh.dp 5 55 ?_
  refine Sh.dp 6 119 ?_
  refine Sh.dp 8 375 ?_
  refine Sh.dp 9 887 ?_
  refine Sh.dp 10 1911 ?_
  refine Sh.dl 3 1919 ?_
  refine Sh.dl 7 2047 ?_
  refine Sh.dl 11 4095 ?_
  refine Sh.dp 12 8191 ?_
  refine D.pl 13 16383 rfl D.wantedN (by kernel_rfl) (R.iquo rfl rfl rfl (by omega)) ?_
  first | refine D.ixn 14 32767 rfl D.wantedN (by kernel_rfl) rfl rfl rfl (by omega) ?_ | refine D.ix 14 32767 rfl D.wantedN (by kernel_rfl) rfl rfl rfl (by omega) ?_ | refine D.ia 14 32767 rfl D.wantedN (by kernel_rfl) rfl rfl rfl (by omega) ?_
  refine D.ldR 15 65535 rfl D.wantedN (by kernel_rfl) rfl hra rfl ?_
  refine Sh.dp 16 131071 ?_
  refine D.done (by kernel_rfl) ?_
  repeat' (first|refine K ?_|(refine Sh.sa hS ?_;clear hS;intro w hS)|(refine K3 ?_;clear hS;intro g w hS hge)|(refine KB ?_ ?_<;>intro hb<;>(try simp only [JJ] at hb)<;>(try exact JX))|fail)
  refine D.startS hS 11 11 (by kernel_rfl) rfl ?_
  replace hS := hS.drew
  refine Sh.dp 0 1 ?_
  refine Sh.dp 1 3 ?_
  refine Sh.dp 2 7 ?_
  refine Sh.dp 4 23 ?_
  refine Sh.dp 5 55 ?_
  refine Sh.dp 6 119 ?_
  refine Sh.dl 3 127 ?_
  refine Sh.dl 7 255 ?_
  refine Sh.dp 8 511 ?_
  refine D.pl 9 1023 rfl D.wantedN (by kernel_rfl) (R.iquo rfl rfl rfl (by omega)) ?_
  refine Sh.dp 10 2047 ?_
  refine D.done (by kernel_rfl) ?_
  repeat' (first|refine K ?_|(refine Sh.sa hS ?_;clear hS;intro w hS)|(refine K3 ?_;clear hS;intro g w hS hge)|(refine KB ?_ ?_<;>intro hb<;>(try simp only [JJ] at hb)<;>(try exact JX))|fail)
  refine Z.eff (Z.cl (mmod_z v 1073741824 _ _ _ hS (by omega) (by omega)) rfl ?_) rfl
  clear hS
  rintro e w ⟨rfl, hS⟩
  refine ⟨_, rfl, ?_⟩
  repeat' (first|refine K ?_|(refine Sh.sa hS ?_;clear hS;intro w hS)|(refine K3 ?_;clear hS;intro g w hS hge)|(refine KB ?_ ?_<;>intro hb<;>(try simp only [JJ] at hb)<;>(try exact JX))|fail)
  refine Z.sumW rfl ?_
  repeat' (first|refine K ?_|(refine Sh.sa hS ?_;clear hS;intro w hS)|(refine K3 ?_;clear hS;intro g w hS hge)|(refine KB ?_ ?_<;>intro hb<;>(try simp only [JJ] at hb)<;>(try exact JX))|fail)
  refine Z.sumW rfl ?_
  repeat' (first|refine K ?_|(refine Sh.sa hS ?_;clear hS;intro w hS)|(refine K3 ?_;clear hS;intro g w hS hge)|(refine KB ?_ ?_<;>intro hb<;>(try simp only [JJ] at hb)<;>(try exact JX))|fail)
  refine Z.eff (Z.cl (mmod_z _ n _ _ _ hS (by omega) (by omega)) rfl ?_) rfl
  clear hS
  rintro e w ⟨rfl, hS⟩
  refine ⟨_, rfl, ?_⟩
  repeat' (first|refine K ?_|(refine Sh.sa hS ?_;clear hS;intro w hS)|(refine K3 ?_;clear hS;intro g w hS hge)|(refine KB ?_ ?_<;>intro hb<;>(try simp only [JJ] at hb)<;>(try exact JX))|fail)
  refine Dnt Tryz.results57 ?_
  exact ⟨_, lo + 1, rfl, modM_bd _ n hn, by omega, Sep.TpM_open.2 ⟨a + 1, by omega, hS⟩⟩
theorem mnext_z {lo : Int} (g : Nat) (A : Option Addr) (l : List Int) (c : Nat) (B n : Int) (r : World) (F : List Res) (w : World) (hS : Sep r [] (TpM g A l.length c lo B :: F) w) (hrd : Reads r F 1 (.slice A l.length c) (l.map ztC)) (hl : l.length ≤ 1000) (hB : B ≤ 1000000) (hn : 1 ≤ n) (hm : n ≤ 1099511627776) :
    Calls Tryz.prog 57 #[.pointer (some ⟨g, 0, .none⟩), .int .i64 n] w fun e w' => ∃ z, e = .returned (.int .i64 z) ∧ (0 ≤ z ∧ z < n) ∧ Sep r [] (TpM g A l.length c lo (B + 1) :: F) w' :=
  (mnext_up g A l c B n r F w hS hrd hl hB hn hm).mono fun e w' ⟨z, lo', h1, h2, h3, h4⟩ => ⟨z, h1, h2, h4.TpM_lo h3.1⟩
theorem mrange_z {lw : Int} (g : Nat) (A : Option Addr) (l : List Int) (c : Nat) (B lo hi : Int) (r : World) (F : List Res) (w : World) (hS : Sep r [] (TpM g A l.length c lw B :: F) w) (hrd : Reads r F 1 (.slice A l.length c) (l.map ztC)) (hl : l.length ≤ 1000) (hB : B ≤ 1000000) (h0 : -1000000 ≤ lo) (h1 : lo ≤ hi) (h2 : hi ≤ 1000000000) :
    Calls Tryz.prog 58 #[.pointer (some ⟨g, 0, .none⟩), .int .i64 lo, .int .i64 hi] w fun e w' => ∃ z, e = .returned (.int .i64 z) ∧ (lo ≤ z ∧ z ≤ hi) ∧ Sep r [] (TpM g A l.length c lw (B + 1) :: F) w' := by
  refine Z.enter Tryz.func58 Tryz.ntmps58 rfl rfl ?_
  repeat' (first|refine K ?_|(refine Sh.sa hS ?_;clear hS;intro w hS)|(refine K3 ?_;clear hS;intro g w hS hge)|(refine KB ?_ ?_<;>intro hb<;>(try simp only [JJ] at hb)<;>(try exact JX))|fail)
  refine Z.eff (Z.cl (mnext_z g A l c B (hi - lo + 1) _ _ _ hS hrd hl hB (by omega) (by omega)) rfl ?_) rfl
  clear hS
  rintro e w ⟨z, rfl, hz, hS⟩
  refine ⟨_, rfl, ?_⟩
  repeat' (first|refine K ?_|(refine Sh.sa hS ?_;clear hS;intro w hS)|(refine K3 ?_;clear hS;intro g w hS hge)|(refine KB ?_ ?_<;>intro hb<;>(try simp only [JJ] at hb)<;>(try exact JX))|fail)
  refine Dnt Tryz.results58 ?_
  exact ⟨_, rfl, by omega, hS⟩
theorem myes_z {lo : Int} (g : Nat) (A : Option Addr) (l : List Int) (c : Nat) (B n : Int) (r : World) (F : List Res) (w : World) (hS : Sep r [] (TpM g A l.length c lo B :: F) w) (hrd : Reads r F 1 (.slice A l.length c) (l.map ztC)) (hl : l.length ≤ 1000) (hB : B ≤ 1000000) (hn : 1 ≤ n) (hm : n ≤ 1099511627776) :
    Calls Tryz.prog 59 #[.pointer (some ⟨g, 0, .none⟩), .int .i64 n] w fun e w' => ∃ b, e = .returned (.bool b) ∧ Sep r [] (TpM g A l.length c lo (B + 1) :: F) w' := by
  refine Z.enter Tryz.func59 Tryz.ntmps59 rfl rfl ?_
  repeat' (first|refine K ?_|(refine Sh.sa hS ?_;clear hS;intro w hS)|(refine K3 ?_;clear hS;intro g w hS hge)|(refine KB ?_ ?_<;>intro hb<;>(try simp only [JJ] at hb)<;>(try exact JX))|fail)
  refine Z.eff (Z.cl (mnext_z g A l c B n _ _ _ hS hrd hl hB (by omega) (by omega)) rfl ?_) rfl
  clear hS
  rintro e w ⟨z, rfl, hz, hS⟩
  refine ⟨_, rfl, ?_⟩
  repeat' (first|refine K ?_|(refine Sh.sa hS ?_;clear hS;intro w hS)|(refine K3 ?_;clear hS;intro g w hS hge)|(refine KB ?_ ?_<;>intro hb<;>(try simp only [JJ] at hb)<;>(try exact JX))|fail)
  refine Dnt Tryz.results59 ?_
  exact ⟨_, rfl, hS⟩
end Go.Proofs.YtfmnjbhncnldmaaGreat
namespace Go.Proofs.YtfmnjbhncnldmaaGreat
open Go.RowKit
attribute [local irreducible] Res.blk Res.sl Res.all Res.ex Res.pure Res.star
def zoneOf (c : Cfg) (k : Int) : Int := if 0 ≤ k ∧ k < c.cells.length then (c.cells.getD k.toNat ⟨0, 0⟩).zone else -1
theorem zoneOf_bd {c : Cfg} (ho : c.ok) (k : Int) : (0 ≤ k ∧ k < c.cells.length → 0 ≤ zoneOf c k ∧ zoneOf c k < c.zones.length) ∧ (¬ (0 ≤ k ∧ k < c.cells.length) → zoneOf c k = -1) := by
  unfold zoneOf
  refine ⟨fun h => ?_, fun h => by rw [if_neg h]⟩
  rw [if_pos h]
  have hk : k.toNat < c.cells.length := by omega
  have e : c.cells.getD k.toNat ⟨0, 0⟩ = c.cells[k.toNat] := by simp [List.getD_eq_getElem?_getD, hk]
  rw [e]
  exact ho.kz _ (List.getElem_mem hk)
theorem regOf_zone (c : Cfg) (k : Int) : regOf c k = if 0 ≤ k ∧ k < c.cells.length then c.zones.getD (zoneOf c k).toNat 0 else -1 := by
  unfold regOf zoneOf
  split <;> rfl
theorem reads_k {r w : World} {F : List Res} {c : Cfg} {a : CAd} (hr : CfR r F c a) (L : List Res) (hS : Sep r [] (L ++ F) w) {k : Int} (h : 0 ≤ k ∧ k < c.cells.length) : ∃ gb o, a.kA = some ⟨gb, o, none⟩ ∧ w.rangeAt gb (o + k.toNat * 2) (c.cells.getD k.toNat ⟨0, 0⟩).cells := by
  have hk : k.toNat < c.cells.length := by omega
  have e : c.cells.getD k.toNat ⟨0, 0⟩ = c.cells[k.toNat] := by simp [List.getD_eq_getElem?_getD, hk]
  obtain ⟨gb, o, hA, _, hra⟩ := (hr.k L w hS).mat (by omega) (q := k.toNat) (by simpa using hk)
  exact ⟨gb, o, hA, by rw [e]; simpa using hra⟩
theorem reads_zn {r w : World} {F : List Res} {c : Cfg} {a : CAd} (hr : CfR r F c a) (L : List Res) (hS : Sep r [] (L ++ F) w) {k : Int} (h : 0 ≤ k ∧ k < c.zones.length) : ∃ gb o, a.zA = some ⟨gb, o, none⟩ ∧ w.rangeAt gb (o + k.toNat * 1) (ztC (c.zones.getD k.toNat 0)) := by
  have hk : k.toNat < c.zones.length := by omega
  have e : c.zones.getD k.toNat 0 = c.zones[k.toNat] := by simp [List.getD_eq_getElem?_getD, hk]
  obtain ⟨gb, o, hA, _, hra⟩ := (hr.z L w hS).mat (by omega) (q := k.toNat) (by simpa using hk)
  exact ⟨gb, o, hA, by rw [e]; simpa using hra⟩
theorem reads_t {r w : World} {F : List Res} {c : Cfg} {a : CAd} (hr : CfR r F c a) (L : List Res) (hS : Sep r [] (L ++ F) w) {k : Int} (h : 0 ≤ k ∧ k < c.tenants.length) : ∃ gb o, a.tA = some ⟨gb, o, none⟩ ∧ w.rangeAt gb (o + k.toNat * 7) (c.tenants.getD k.toNat ⟨0, 0, 0, 0, 0, 0, false⟩).cells := by
  have hk : k.toNat < c.tenants.length := by omega
  have e : c.tenants.getD k.toNat ⟨0, 0, 0, 0, 0, 0, false⟩ = c.tenants[k.toNat] := by simp [List.getD_eq_getElem?_getD, hk]
  obtain ⟨gb, o, hA, _, hra⟩ := (hr.t L w hS).mat (by omega) (q := k.toNat) (by simpa using hk)
  exact ⟨gb, o, hA, by rw [e]; simpa using hra⟩
theorem within_z (k lo hi : Int) (r : World) (F : List Res) (w : World) (hS : Sep r [] F w) :
    Calls Tryz.prog 182 #[.int .i64 k, .int .i64 lo, .int .i64 hi] w fun e w' => e = .returned (.bool (decide (lo ≤ k ∧ k ≤ hi))) ∧ Sep r [] F w' := by
  refine Z.enter Tryz.func182 Tryz.ntmps182 rfl rfl ?_
  repeat' (first|refine K ?_|(refine Sh.sa hS ?_;clear hS;intro w hS)|(refine K3 ?_;clear hS;intro g w hS hge)|(refine KB ?_ ?_<;>intro hb<;>(try simp only [JJ] at hb)<;>(try exact JX))|fail)
  all_goals
    refine Dnt Tryz.results182 ?_
    exact ⟨by (simp [Z.packR, *]; try (intros; omega)), hS⟩
theorem pzone_z (c : Cfg) (a : CAd) (k : Int) (r : World) (F : List Res) (w : World) (hS : Sep r [] F w) (hr : CfR r F c a) (ho : c.ok) :
    Calls Tryz.prog 91 #[c.val a, .int .i64 k] w fun e w' => e = .returned (.int .i64 (zoneOf c k)) ∧ Sep r [] F w' := by
  have hl := ho.k
  unfold zoneOf
  by_cases h : 0 ≤ k ∧ k < c.cells.length
  · have h' : 0 ≤ k ∧ k ≤ (c.cells.length : Int) - 1 := by omega
    obtain ⟨gb, o, hA, _⟩ := reads_k hr [] hS h
    rw [if_pos h]
    refine Z.enter Tryz.func91 Tryz.ntmps91 rfl rfl ?_
    repeat' (first|refine K ?_|(refine Sh.sa hS ?_;clear hS;intro w hS)|(refine K3 ?_;clear hS;intro g w hS hge)|(refine KB ?_ ?_<;>intro hb<;>(try simp only [JJ] at hb)<;>(try exact JX))|fail)
    refine Z.eff (Z.cl (within_z k 0 _ _ _ _ hS) rfl ?_) rfl
    clear hS
    rintro e w ⟨rfl, hS⟩
    refine ⟨_, rfl, ?_⟩
    rw [decide_eq_true h']
    obtain ⟨zA, zc, kA, kc, tA, tc, vA, vc, rA, rc, oA, oc⟩ := a
    simp only at hA
    subst hA
    repeat' (first|refine K ?_|(refine Sh.sa hS ?_;clear hS;intro w hS)|(refine K3 ?_;clear hS;intro g w hS hge)|(refine KB ?_ ?_<;>intro hb<;>(try simp only [JJ] at hb)<;>(try exact JX))|fail)
    obtain ⟨gb', o', hA, hra⟩ := reads_k hr [_] hS h
    simp only [Option.some.injEq, Addr.mk.injEq] at hA
    obtain ⟨rfl, rfl, _⟩ := hA
    repeat' (first|refine K ?_|(refine Sh.sa hS ?_;clear hS;intro w hS)|(refine K3 ?_;clear hS;intro g w hS hge)|(refine KB ?_ ?_<;>intro hb<;>(try simp only [JJ] at hb)<;>(try exact JX))|fail)
    refine Dnt Tryz.results91 ?_
    exact ⟨rfl, hS.sb⟩
  · have h' : ¬ (0 ≤ k ∧ k ≤ (c.cells.length : Int) - 1) := by omega
    rw [if_neg h]
    refine Z.enter Tryz.func91 Tryz.ntmps91 rfl rfl ?_
    repeat' (first|refine K ?_|(refine Sh.sa hS ?_;clear hS;intro w hS)|(refine K3 ?_;clear hS;intro g w hS hge)|(refine KB ?_ ?_<;>intro hb<;>(try simp only [JJ] at hb)<;>(try exact JX))|fail)
    refine Z.eff (Z.cl (within_z k 0 _ _ _ _ hS) rfl ?_) rfl
    clear hS
    rintro e w ⟨rfl, hS⟩
    refine ⟨_, rfl, ?_⟩
    rw [decide_eq_false h']
    repeat' (first|refine K ?_|(refine Sh.sa hS ?_;clear hS;intro w hS)|(refine K3 ?_;clear hS;intro g w hS hge)|(refine KB ?_ ?_<;>intro hb<;>(try simp only [JJ] at hb)<;>(try exact JX))|fail)
    refine Dnt Tryz.results91 ?_
    exact ⟨rfl, hS.sb⟩
theorem pzreg_z (c : Cfg) (a : CAd) (k : Int) (r : World) (F : List Res) (w : World) (hS : Sep r [] F w) (hr : CfR r F c a) (ho : c.ok) :
    Calls Tryz.prog 90 #[c.val a, .int .i64 k] w fun e w' => e = .returned (.int .i64 (if 0 ≤ k ∧ k < c.zones.length then c.zones.getD k.toNat 0 else -1)) ∧ Sep r [] F w' := by
  have hl := ho.z
  by_cases h : 0 ≤ k ∧ k < c.zones.length
  · have h' : 0 ≤ k ∧ k ≤ (c.zones.length : Int) - 1 := by omega
    obtain ⟨gb, o, hA, _⟩ := reads_zn hr [] hS h
    rw [if_pos h]
    refine Z.enter Tryz.func90 Tryz.ntmps90 rfl rfl ?_
    repeat' (first|refine K ?_|(refine Sh.sa hS ?_;clear hS;intro w hS)|(refine K3 ?_;clear hS;intro g w hS hge)|(refine KB ?_ ?_<;>intro hb<;>(try simp only [JJ] at hb)<;>(try exact JX))|fail)
    refine Z.eff (Z.cl (within_z k 0 _ _ _ _ hS) rfl ?_) rfl
    clear hS
    rintro e w ⟨rfl, hS⟩
    refine ⟨_, rfl, ?_⟩
    rw [decide_eq_true h']
    obtain ⟨zA, zc, kA, kc, tA, tc, vA, vc, rA, rc, oA, oc⟩ := a
    simp only at hA
    subst hA
    repeat' (first|refine K ?_|(refine Sh.sa hS ?_;clear hS;intro w hS)|(refine K3 ?_;clear hS;intro g w hS hge)|(refine KB ?_ ?_<;>intro hb<;>(try simp only [JJ] at hb)<;>(try exact JX))|fail)
    obtain ⟨gb', o', hA, hra⟩ := reads_zn hr [_] hS h
    simp only [Option.some.injEq, Addr.mk.injEq] at hA
    obtain ⟨rfl, rfl, _⟩ := hA
    repeat' (first|refine K ?_|(refine Sh.sa hS ?_;clear hS;intro w hS)|(refine K3 ?_;clear hS;intro g w hS hge)|(refine KB ?_ ?_<;>intro hb<;>(try simp only [JJ] at hb)<;>(try exact JX))|fail)
    refine Dnt Tryz.results90 ?_
    exact ⟨rfl, hS.sb⟩
  · have h' : ¬ (0 ≤ k ∧ k ≤ (c.zones.length : Int) - 1) := by omega
    rw [if_neg h]
    refine Z.enter Tryz.func90 Tryz.ntmps90 rfl rfl ?_
    repeat' (first|refine K ?_|(refine Sh.sa hS ?_;clear hS;intro w hS)|(refine K3 ?_;clear hS;intro g w hS hge)|(refine KB ?_ ?_<;>intro hb<;>(try simp only [JJ] at hb)<;>(try exact JX))|fail)
    refine Z.eff (Z.cl (within_z k 0 _ _ _ _ hS) rfl ?_) rfl
    clear hS
    rintro e w ⟨rfl, hS⟩
    refine ⟨_, rfl, ?_⟩
    rw [decide_eq_false h']
    repeat' (first|refine K ?_|(refine Sh.sa hS ?_;clear hS;intro w hS)|(refine K3 ?_;clear hS;intro g w hS hge)|(refine KB ?_ ?_<;>intro hb<;>(try simp only [JJ] at hb)<;>(try exact JX))|fail)
    refine Dnt Tryz.results90 ?_
    exact ⟨rfl, hS.sb⟩
theorem pregion_z (c : Cfg) (a : CAd) (k : Int) (r : World) (F : List Res) (w : World) (hS : Sep r [] F w) (hr : CfR r F c a) (ho : c.ok) :
    Calls Tryz.prog 32 #[c.val a, .int .i64 k] w fun e w' => e = .returned (.int .i64 (regOf c k)) ∧ Sep r [] F w' := by
  obtain ⟨hb1, hb2⟩ := zoneOf_bd ho k
  have hreg : regOf c k = if 0 ≤ zoneOf c k ∧ zoneOf c k < c.zones.length then c.zones.getD (zoneOf c k).toNat 0 else -1 := by
    rw [regOf_zone]
    by_cases h : 0 ≤ k ∧ k < c.cells.length
    · rw [if_pos h, if_pos (hb1 h)]
    · rw [if_neg h, if_neg (by rw [hb2 h]; omega)]
  rw [hreg]
  refine Z.enter Tryz.func32 Tryz.ntmps32 rfl rfl ?_
  repeat' (first|refine K ?_|(refine Sh.sa hS ?_;clear hS;intro w hS)|(refine K3 ?_;clear hS;intro g w hS hge)|(refine KB ?_ ?_<;>intro hb<;>(try simp only [JJ] at hb)<;>(try exact JX))|fail)
  refine D.startS (Lr := [.blk g 55 (c.cl a)]) (hS.sb) 6 6 (by kernel_rfl) rfl ?_
  replace hS := hS.drew
  refine Sh.dp 2 4 ?_
  refine Sh.dl 0 5 ?_
  refine Sh.dl 1 7 ?_
  refine D.ef 3 15 ?_
  refine Z.cl (pzone_z c a k _ _ _ hS (hr.cons _) ho) rfl ?_
  clear hS
  rintro e w ⟨rfl, hS⟩
  refine ⟨_, rfl, ?_⟩
  refine HMs ?_
  refine D.ef 4 31 ?_
  refine Z.cl (pzreg_z c a _ _ _ _ hS (hr.cons _) ho) rfl ?_
  clear hS
  rintro e w ⟨rfl, hS⟩
  refine ⟨_, rfl, ?_⟩
  refine HMs ?_
  refine Sh.dp 5 63 ?_
  refine D.done (by kernel_rfl) ?_
  repeat' (first|refine K ?_|(refine Sh.sa hS ?_;clear hS;intro w hS)|(refine K3 ?_;clear hS;intro g w hS hge)|(refine KB ?_ ?_<;>intro hb<;>(try simp only [JJ] at hb)<;>(try exact JX))|fail)
  refine Dnt Tryz.results32 ?_
  exact ⟨rfl, hS.sb⟩
end Go.Proofs.YtfmnjbhncnldmaaGreat
