/-
  FollowTakes: what a follower makes of any messages, right or wrong. No condition.
-/
import Derived.Test.YtmjdkgpckcdndaaNWs
namespace Go.Proofs.Ytmjdkgpckcdndaa
open Go.RowKit Go.ChangeShapes Go.WideShapes Go.ChangeAt
set_option linter.unusedSimpArgs false
set_option linter.unusedVariables false

theorem tp_at {r w : World} {F : List Res} {g : Nat} {l : List Int} {i : Nat} (hS : Sep r [] (TpR r g l i :: F) w) : w.rangeAt g (0 + 1) [.int .i64 i] := by
  obtain ⟨A, c, hb, _⟩ := hS.tape
  exact range_blk hb fun j u hu => by
    cases j with
    | zero => simpa using hu
    | succ j => simp at hu
theorem adv_bd (l : List Int) {i : Nat} (h : i ≤ l.length) : i ≤ adv l i ∧ adv l i ≤ l.length ∧ (i < l.length → adv l i = i + 1) := by
  unfold adv
  split <;> omega
theorem fork_n (h : List Ch) (v : Value) (nn : Int) (l : List Int) (A : Option Addr) (n cap : Nat) (r : World) (F : List Res) (w : World) (hS : Sep r [] F w) (hrd : Reads r F 8 v (h.map Ch.cells)) (hh : IsH h) (hl : h.length ≤ 60) (he : ∀ x, x ∈ h → x.epoch ≤ 61) (hn : n = l.length) (hr : Rd r 1 A l.length (l.map (Value.int .i64))) (hl' : l.length ≤ 150) :
    Calls Try.prog 19 #[v, .int .i64 nn, .slice A n cap] w fun e w' => ∃ (gl : List Ch) (Ag : Option Addr) (cg : Nat), e = .returned (.slice Ag gl.length cg) ∧ gl.length ≤ 90 ∧ gl.length ≤ cg ∧ (∀ x, x ∈ gl → 1 ≤ x.epoch ∧ x.epoch ≤ 900) ∧ Sep r [] (.sl 51 8 (.slice Ag gl.length cg) (gl.map Ch.cells) :: F) w' := by
  subst hn
  refine (fork_z h v nn l A cap r F w hS hrd hh (by omega) (fun x hx => by have := he x hx; omega) hr hl').mono ?_
  rintro e w' ⟨v', he', h'⟩
  obtain ⟨Ag, cg, rfl, hcg⟩ := (h'.slrows .here).mform
  obtain ⟨_, ext, e1, x1, _⟩ := hh.fork nn l
  have hep := hh.fork_epochs nn l (B := 61) (by omega) he
  refine ⟨_, Ag, cg, he', ?_, hcg, fun x hx => by have := hep x hx; omega, h'⟩
  rw [e1, List.length_append, List.length_take]
  omega
set_option maxRecDepth 100000 in
set_option maxHeartbeats 8000000 in
theorem takes_z (l : List Int) (A : Option Addr) (cap : Nat) (raw : List ShV) (A1 : Option Addr) (cap1 : Nat) (l2 : List Int) (A2 : Option Addr) (cap2 : Nat) (z3 : Int) (r : World) (hr0 : Rd r 1 A l.length (l.map (Value.int .i64))) (hr1 : Rows' r 4 (.slice A1 raw.length cap1) (raw.map ShV.cells) ∧ ∀ x, x ∈ raw → Rows' r 8 x.v (x.m.ch.map Ch.cells)) (hr2 : Rows' r 1 (.slice A2 l2.length cap2) (l2.map intC)) (hz3 : -9223372036854775808 ≤ z3 ∧ z3 ≤ 9223372036854775807) :
    Calls Try.prog 3 #[.slice A l.length cap, .slice A1 raw.length cap1, .slice A2 l2.length cap2, .int .i64 z3] r fun e w' => e = .returned (.bool true) ∧ Chg [] r w' := by
  have hS := Sep.root r
  obtain ⟨hraw, hrx⟩ := hr1
  have hrr := Reads.root (F := []) hraw
  refine Z.enter Try.func3 Try.ntmps3 rfl rfl ?_
  repeat' (first|refine VP ?_|refine Sh.la hS ?_|refine Sh.lb ?_|refine Sh.lc ?_|refine Sh.su ?_|(refine Sh.sa hS ?_;clear hS;intro w hS)|((first|refine Sh.aa hS ?_|refine Sh.ab hS ?_|refine Sh.ac hS ?_);clear hS;intro g w hS hge)|refine Sh.ix ?_|refine Sh.up ?_|refine Sh.sl1 ?_|refine Sh.sl2 ?_|refine Sh.sl5 ?_|refine Sh.sl3 ?_|refine Sh.sl4 ?_|refine Sh.eq ?_|refine Sh.ne ?_|refine Sh.ix2 ?_|refine Sh.ix3 ?_|refine Z.bu rfl rfl ?_|refine VM ?_|refine Z.pl (R.cap rfl rfl) ?_|refine Z.pl R.mf ?_|refine Z.pl (R.min2 rfl rfl) ?_|refine G1 ?_|refine G2 ?_|refine G3 ?_|refine G4 ?_|with_reducible (first|refine V0 ?_|refine Z.block ?_)|((with_reducible refine Z.blX ?_ ?_);rotate_left;rfl)|refine VT ?_|refine VF ?_|((first|refine GS ?_ ?_|refine VB ?_ ?_)<;>intro hb<;>(try simp only [J1,J2,J3,J4,J5,J6] at hb)<;>(try (exfalso;first|omega|exact hb trivial))))
  refine Z.eff (Z.cl (awake29_z _ _ _ hS) rfl ?_) rfl
  clear hS
  rintro e w ⟨rfl, hS⟩
  refine ⟨_, rfl, ?_⟩
  repeat' (first|refine VP ?_|refine Sh.la hS ?_|refine Sh.lb ?_|refine Sh.lc ?_|refine Sh.su ?_|(refine Sh.sa hS ?_;clear hS;intro w hS)|((first|refine Sh.aa hS ?_|refine Sh.ab hS ?_|refine Sh.ac hS ?_);clear hS;intro g w hS hge)|refine Sh.ix ?_|refine Sh.up ?_|refine Sh.sl1 ?_|refine Sh.sl2 ?_|refine Sh.sl5 ?_|refine Sh.sl3 ?_|refine Sh.sl4 ?_|refine Sh.eq ?_|refine Sh.ne ?_|refine Sh.ix2 ?_|refine Sh.ix3 ?_|refine Z.bu rfl rfl ?_|refine VM ?_|refine Z.pl (R.cap rfl rfl) ?_|refine Z.pl R.mf ?_|refine Z.pl (R.min2 rfl rfl) ?_|refine G1 ?_|refine G2 ?_|refine G3 ?_|refine G4 ?_|with_reducible (first|refine V0 ?_|refine Z.block ?_)|((with_reducible refine Z.blX ?_ ?_);rotate_left;rfl)|refine VT ?_|refine VF ?_|((first|refine GS ?_ ?_|refine VB ?_ ?_)<;>intro hb<;>(try simp only [J1,J2,J3,J4,J5,J6] at hb)<;>(try (exfalso;first|omega|exact hb trivial))))
  refine Z.eff (Z.cl (lightS_z A l.length cap _ _ _ hS) rfl ?_) rfl
  clear hS
  rintro e w ⟨rfl, hS⟩
  refine ⟨_, rfl, ?_⟩
  repeat' (first|refine VP ?_|refine Sh.la hS ?_|refine Sh.lb ?_|refine Sh.lc ?_|refine Sh.su ?_|(refine Sh.sa hS ?_;clear hS;intro w hS)|((first|refine Sh.aa hS ?_|refine Sh.ab hS ?_|refine Sh.ac hS ?_);clear hS;intro g w hS hge)|refine Sh.ix ?_|refine Sh.up ?_|refine Sh.sl1 ?_|refine Sh.sl2 ?_|refine Sh.sl5 ?_|refine Sh.sl3 ?_|refine Sh.sl4 ?_|refine Sh.eq ?_|refine Sh.ne ?_|refine Sh.ix2 ?_|refine Sh.ix3 ?_|refine Z.bu rfl rfl ?_|refine VM ?_|refine Z.pl (R.cap rfl rfl) ?_|refine Z.pl R.mf ?_|refine Z.pl (R.min2 rfl rfl) ?_|refine G1 ?_|refine G2 ?_|refine G3 ?_|refine G4 ?_|with_reducible (first|refine V0 ?_|refine Z.block ?_)|((with_reducible refine Z.blX ?_ ?_);rotate_left;rfl)|refine VT ?_|refine VF ?_|((first|refine GS ?_ ?_|refine VB ?_ ?_)<;>intro hb<;>(try simp only [J1,J2,J3,J4,J5,J6] at hb)<;>(try (exfalso;first|omega|exact hb trivial))))
  · first | refine Z.done hS Try.results3 (Z.RV.tmp rfl Z.RV.nil) ?_ | refine Z.doneN hS Try.results3 (Z.RV.tmp rfl Z.RV.nil) ?_
    exact ⟨rfl, hS.chg⟩
  rename _ ≤ (150 : Int) => hlt
  refine Z.eff (Z.cl (lightS_z A2 l2.length cap2 _ _ _ hS) rfl ?_) rfl
  clear hS
  rintro e w ⟨rfl, hS⟩
  refine ⟨_, rfl, ?_⟩
  repeat' (first|refine VP ?_|refine Sh.la hS ?_|refine Sh.lb ?_|refine Sh.lc ?_|refine Sh.su ?_|(refine Sh.sa hS ?_;clear hS;intro w hS)|((first|refine Sh.aa hS ?_|refine Sh.ab hS ?_|refine Sh.ac hS ?_);clear hS;intro g w hS hge)|refine Sh.ix ?_|refine Sh.up ?_|refine Sh.sl1 ?_|refine Sh.sl2 ?_|refine Sh.sl5 ?_|refine Sh.sl3 ?_|refine Sh.sl4 ?_|refine Sh.eq ?_|refine Sh.ne ?_|refine Sh.ix2 ?_|refine Sh.ix3 ?_|refine Z.bu rfl rfl ?_|refine VM ?_|refine Z.pl (R.cap rfl rfl) ?_|refine Z.pl R.mf ?_|refine Z.pl (R.min2 rfl rfl) ?_|refine G1 ?_|refine G2 ?_|refine G3 ?_|refine G4 ?_|with_reducible (first|refine V0 ?_|refine Z.block ?_)|((with_reducible refine Z.blX ?_ ?_);rotate_left;rfl)|refine VT ?_|refine VF ?_|((first|refine GS ?_ ?_|refine VB ?_ ?_)<;>intro hb<;>(try simp only [J1,J2,J3,J4,J5,J6] at hb)<;>(try (exfalso;first|omega|exact hb trivial))))
  · first | refine Z.done hS Try.results3 (Z.RV.tmp rfl Z.RV.nil) ?_ | refine Z.doneN hS Try.results3 (Z.RV.tmp rfl Z.RV.nil) ?_
    exact ⟨rfl, hS.chg⟩
  · first | refine Z.done hS Try.results3 (Z.RV.tmp rfl Z.RV.nil) ?_ | refine Z.doneN hS Try.results3 (Z.RV.tmp rfl Z.RV.nil) ?_
    exact ⟨rfl, hS.chg⟩
  rename _ ≤ (150 : Int) => hlt2
  rename _ ≤ (10 : Int) => hrl
  refine Z.lpS [8, 10, 48, 49, 50, 51, 52, 53, 54, 55, 56] (fun m w s => ∃ k : Nat, s = [(48, .int .i64 k)] ∧ k ≤ raw.length ∧ (∀ j (hj : j < raw.length), j < k → raw[j].m.ch.length ≤ 12) ∧ m = raw.length - k ∧ Sep r [] [] w) _ [(48, .int .i64 (0 : Nat))] (by repeat (first | exact trivial | refine ⟨rfl, ?_⟩)) ⟨0, rfl, by omega, fun _ _ h => absurd h (by omega), rfl, hS⟩ ?_
  clear hS
  rintro m f0 w _ ⟨k, rfl, hk, hk12, rfl, hS⟩
  by_cases hlt1 : k < raw.length
  · obtain ⟨gb, o, rfl, _, hrb⟩ := (hrr [] w hS).mat (by omega) hlt1
    have hx := hrx raw[k] (by simp)
    generalize hxe : raw[k] = x at *
    repeat' (first|refine VP ?_|refine Sh.la hS ?_|refine Sh.lb ?_|refine Sh.lc ?_|refine Sh.su ?_|(refine Sh.sa hS ?_;clear hS;intro w hS)|((first|refine Sh.aa hS ?_|refine Sh.ab hS ?_|refine Sh.ac hS ?_);clear hS;intro g w hS hge)|refine Sh.ix ?_|refine Sh.up ?_|refine Sh.sl1 ?_|refine Sh.sl2 ?_|refine Sh.sl5 ?_|refine Sh.sl3 ?_|refine Sh.sl4 ?_|refine Sh.eq ?_|refine Sh.ne ?_|refine Sh.ix2 ?_|refine Sh.ix3 ?_|refine Z.bu rfl rfl ?_|refine VM ?_|refine Z.pl (R.cap rfl rfl) ?_|refine Z.pl R.mf ?_|refine Z.pl (R.min2 rfl rfl) ?_|refine G1 ?_|refine G2 ?_|refine G3 ?_|refine G4 ?_|with_reducible (first|refine V0 ?_|refine Z.block ?_)|((with_reducible refine Z.blX ?_ ?_);rotate_left;rfl)|refine VT ?_|refine VF ?_|((first|refine GS ?_ ?_|refine VB ?_ ?_)<;>intro hb<;>(try simp only [J1,J2,J3,J4,J5,J6] at hb)<;>(try (exfalso;first|omega|exact hb trivial))))
    refine Z.eff (Z.cl (fewS_z x.m.ch _ 12 _ _ _ hS ((Reads.root (F := []) hx).sub .nil) (by omega)) rfl ?_) rfl
    clear hS
    rintro e w ⟨bf, rfl, hbf, hS⟩
    refine ⟨_, rfl, ?_⟩
    repeat' (first|refine VP ?_|refine Sh.la hS ?_|refine Sh.lb ?_|refine Sh.lc ?_|refine Sh.su ?_|(refine Sh.sa hS ?_;clear hS;intro w hS)|((first|refine Sh.aa hS ?_|refine Sh.ab hS ?_|refine Sh.ac hS ?_);clear hS;intro g w hS hge)|refine Sh.ix ?_|refine Sh.up ?_|refine Sh.sl1 ?_|refine Sh.sl2 ?_|refine Sh.sl5 ?_|refine Sh.sl3 ?_|refine Sh.sl4 ?_|refine Sh.eq ?_|refine Sh.ne ?_|refine Sh.ix2 ?_|refine Sh.ix3 ?_|refine Z.bu rfl rfl ?_|refine VM ?_|refine Z.pl (R.cap rfl rfl) ?_|refine Z.pl R.mf ?_|refine Z.pl (R.min2 rfl rfl) ?_|refine G1 ?_|refine G2 ?_|refine G3 ?_|refine G4 ?_|with_reducible (first|refine V0 ?_|refine Z.block ?_)|((with_reducible refine Z.blX ?_ ?_);rotate_left;rfl)|refine VT ?_|refine VF ?_|((first|refine GS ?_ ?_|refine VB ?_ ?_)<;>intro hb<;>(try simp only [J1,J2,J3,J4,J5,J6] at hb)<;>(try (exfalso;first|omega|exact hb trivial))))
    · first | refine Z.done hS Try.results3 (Z.RV.tmp rfl Z.RV.nil) ?_ | refine Z.doneN hS Try.results3 (Z.RV.tmp rfl Z.RV.nil) ?_
      exact ⟨rfl, hS.chg⟩
    · refine Sh.again (raw.length - (k + 1)) [(48, .int .i64 (k + 1 : Nat))] ?_
      refine ⟨k + 1, rfl, by omega, fun j hj hjk => ?_, rfl, hS.sub .nil⟩
      by_cases hjk' : j < k
      · exact hk12 j hj hjk'
      · have : j = k := by omega
        subst this
        rw [hxe]
        have := hbf (by assumption)
        omega
  have hr12 : ∀ x, x ∈ raw → x.m.ch.length ≤ 12 := fun x hx => by
    obtain ⟨j, hj, rfl⟩ := List.getElem_of_mem hx
    exact hk12 j hj (by omega)
  repeat' (first|refine VP ?_|refine Sh.la hS ?_|refine Sh.lb ?_|refine Sh.lc ?_|refine Sh.su ?_|(refine Sh.sa hS ?_;clear hS;intro w hS)|((first|refine Sh.aa hS ?_|refine Sh.ab hS ?_|refine Sh.ac hS ?_);clear hS;intro g w hS hge)|refine Sh.ix ?_|refine Sh.up ?_|refine Sh.sl1 ?_|refine Sh.sl2 ?_|refine Sh.sl5 ?_|refine Sh.sl3 ?_|refine Sh.sl4 ?_|refine Sh.eq ?_|refine Sh.ne ?_|refine Sh.ix2 ?_|refine Sh.ix3 ?_|refine Z.bu rfl rfl ?_|refine VM ?_|refine Z.pl (R.cap rfl rfl) ?_|refine Z.pl R.mf ?_|refine Z.pl (R.min2 rfl rfl) ?_|refine G1 ?_|refine G2 ?_|refine G3 ?_|refine G4 ?_|with_reducible (first|refine V0 ?_|refine Z.block ?_)|((with_reducible refine Z.blX ?_ ?_);rotate_left;rfl)|refine VT ?_|refine VF ?_|((first|refine GS ?_ ?_|refine VB ?_ ?_)<;>intro hb<;>(try simp only [J1,J2,J3,J4,J5,J6] at hb)<;>(try (exfalso;first|omega|exact hb trivial))))
  refine Z.eff (Z.cl (history_z l A cap _ _ _ hS hr0 (by omega)) rfl ?_) rfl
  clear hS
  rintro e w ⟨vh, rfl, hS⟩
  refine ⟨_, rfl, ?_⟩
  have hH := hist_isH l
  have hHl := hist_len l
  have hHe := hist_epochs l
  generalize (hist l).h = h at *
  obtain ⟨Ah, ch, rfl, _⟩ := (hS.slrows .here).mform
  repeat' (first|refine VP ?_|refine Sh.la hS ?_|refine Sh.lb ?_|refine Sh.lc ?_|refine Sh.su ?_|(refine Sh.sa hS ?_;clear hS;intro w hS)|((first|refine Sh.aa hS ?_|refine Sh.ab hS ?_|refine Sh.ac hS ?_);clear hS;intro g w hS hge)|refine Sh.ix ?_|refine Sh.up ?_|refine Sh.sl1 ?_|refine Sh.sl2 ?_|refine Sh.sl5 ?_|refine Sh.sl3 ?_|refine Sh.sl4 ?_|refine Sh.eq ?_|refine Sh.ne ?_|refine Sh.ix2 ?_|refine Sh.ix3 ?_|refine Z.bu rfl rfl ?_|refine VM ?_|refine Z.pl (R.cap rfl rfl) ?_|refine Z.pl R.mf ?_|refine Z.pl (R.min2 rfl rfl) ?_|refine G1 ?_|refine G2 ?_|refine G3 ?_|refine G4 ?_|with_reducible (first|refine V0 ?_|refine Z.block ?_)|((with_reducible refine Z.blX ?_ ?_);rotate_left;rfl)|refine VT ?_|refine VF ?_|((first|refine GS ?_ ?_|refine VB ?_ ?_)<;>intro hb<;>(try simp only [J1,J2,J3,J4,J5,J6] at hb)<;>(try (exfalso;first|omega|exact hb trivial))))
  refine Z.eff (Z.cl (pcfold_ok 2 0 h _ _ _ _ hS (Reads.of_at .here) (by omega) hH) rfl ?_) rfl
  clear hS
  rintro e w ⟨gc, gg, rfl, hS⟩
  refine ⟨_, rfl, ?_⟩
  repeat' (first|refine VP ?_|refine Sh.la hS ?_|refine Sh.lb ?_|refine Sh.lc ?_|refine Sh.su ?_|(refine Sh.sa hS ?_;clear hS;intro w hS)|((first|refine Sh.aa hS ?_|refine Sh.ab hS ?_|refine Sh.ac hS ?_);clear hS;intro g w hS hge)|refine Sh.ix ?_|refine Sh.up ?_|refine Sh.sl1 ?_|refine Sh.sl2 ?_|refine Sh.sl5 ?_|refine Sh.sl3 ?_|refine Sh.sl4 ?_|refine Sh.eq ?_|refine Sh.ne ?_|refine Sh.ix2 ?_|refine Sh.ix3 ?_|refine Z.bu rfl rfl ?_|refine VM ?_|refine Z.pl (R.cap rfl rfl) ?_|refine Z.pl R.mf ?_|refine Z.pl (R.min2 rfl rfl) ?_|refine G1 ?_|refine G2 ?_|refine G3 ?_|refine G4 ?_|with_reducible (first|refine V0 ?_|refine Z.block ?_)|((with_reducible refine Z.blX ?_ ?_);rotate_left;rfl)|refine VT ?_|refine VF ?_|((first|refine GS ?_ ?_|refine VB ?_ ?_)<;>intro hb<;>(try simp only [J1,J2,J3,J4,J5,J6] at hb)<;>(try (exfalso;first|omega|exact hb trivial))))
  refine Z.eff (Z.cl (rcfold_ok 2 0 h _ _ _ _ hS (Reads.of_at (by repeat (first | exact At.here | apply At.next))) (by omega) hH) rfl ?_) rfl
  clear hS
  rintro e w ⟨gw, gg1, rfl, hS⟩
  refine ⟨_, rfl, ?_⟩
  repeat' (first|refine VP ?_|refine Sh.la hS ?_|refine Sh.lb ?_|refine Sh.lc ?_|refine Sh.su ?_|(refine Sh.sa hS ?_;clear hS;intro w hS)|((first|refine Sh.aa hS ?_|refine Sh.ab hS ?_|refine Sh.ac hS ?_);clear hS;intro g w hS hge)|refine Sh.ix ?_|refine Sh.up ?_|refine Sh.sl1 ?_|refine Sh.sl2 ?_|refine Sh.sl5 ?_|refine Sh.sl3 ?_|refine Sh.sl4 ?_|refine Sh.eq ?_|refine Sh.ne ?_|refine Sh.ix2 ?_|refine Sh.ix3 ?_|refine Z.bu rfl rfl ?_|refine VM ?_|refine Z.pl (R.cap rfl rfl) ?_|refine Z.pl R.mf ?_|refine Z.pl (R.min2 rfl rfl) ?_|refine G1 ?_|refine G2 ?_|refine G3 ?_|refine G4 ?_|with_reducible (first|refine V0 ?_|refine Z.block ?_)|((with_reducible refine Z.blX ?_ ?_);rotate_left;rfl)|refine VT ?_|refine VF ?_|((first|refine GS ?_ ?_|refine VB ?_ ?_)<;>intro hb<;>(try simp only [J1,J2,J3,J4,J5,J6] at hb)<;>(try (exfalso;first|omega|exact hb trivial))))
  refine Z.eff (Z.cl (pfnew_z gc _ _ _ hS) rfl ?_) rfl
  clear hS
  rintro e w ⟨gf, rfl, hS⟩
  refine ⟨_, rfl, ?_⟩
  repeat' (first|refine VP ?_|refine Sh.la hS ?_|refine Sh.lb ?_|refine Sh.lc ?_|refine Sh.su ?_|(refine Sh.sa hS ?_;clear hS;intro w hS)|((first|refine Sh.aa hS ?_|refine Sh.ab hS ?_|refine Sh.ac hS ?_);clear hS;intro g w hS hge)|refine Sh.ix ?_|refine Sh.up ?_|refine Sh.sl1 ?_|refine Sh.sl2 ?_|refine Sh.sl5 ?_|refine Sh.sl3 ?_|refine Sh.sl4 ?_|refine Sh.eq ?_|refine Sh.ne ?_|refine Sh.ix2 ?_|refine Sh.ix3 ?_|refine Z.bu rfl rfl ?_|refine VM ?_|refine Z.pl (R.cap rfl rfl) ?_|refine Z.pl R.mf ?_|refine Z.pl (R.min2 rfl rfl) ?_|refine G1 ?_|refine G2 ?_|refine G3 ?_|refine G4 ?_|with_reducible (first|refine V0 ?_|refine Z.block ?_)|((with_reducible refine Z.blX ?_ ?_);rotate_left;rfl)|refine VT ?_|refine VF ?_|((first|refine GS ?_ ?_|refine VB ?_ ?_)<;>intro hb<;>(try simp only [J1,J2,J3,J4,J5,J6] at hb)<;>(try (exfalso;first|omega|exact hb trivial))))
  rename Nat => gr
  refine Z.eff (Z.cl (tnew_z l2 A2 cap2 hS (rd_of_rows hr2).2 (by omega)) rfl ?_) rfl
  clear hS
  rintro e w ⟨gt, rfl, hS⟩
  refine ⟨_, rfl, ?_⟩
  repeat' (first|refine VP ?_|refine Sh.la hS ?_|refine Sh.lb ?_|refine Sh.lc ?_|refine Sh.su ?_|(refine Sh.sa hS ?_;clear hS;intro w hS)|((first|refine Sh.aa hS ?_|refine Sh.ab hS ?_|refine Sh.ac hS ?_);clear hS;intro g w hS hge)|refine Sh.ix ?_|refine Sh.up ?_|refine Sh.sl1 ?_|refine Sh.sl2 ?_|refine Sh.sl5 ?_|refine Sh.sl3 ?_|refine Sh.sl4 ?_|refine Sh.eq ?_|refine Sh.ne ?_|refine Sh.ix2 ?_|refine Sh.ix3 ?_|refine Z.bu rfl rfl ?_|refine VM ?_|refine Z.pl (R.cap rfl rfl) ?_|refine Z.pl R.mf ?_|refine Z.pl (R.min2 rfl rfl) ?_|refine G1 ?_|refine G2 ?_|refine G3 ?_|refine G4 ?_|with_reducible (first|refine V0 ?_|refine Z.block ?_)|((with_reducible refine Z.blX ?_ ?_);rotate_left;rfl)|refine VT ?_|refine VF ?_|((first|refine GS ?_ ?_|refine VB ?_ ?_)<;>intro hb<;>(try simp only [J1,J2,J3,J4,J5,J6] at hb)<;>(try (exfalso;first|omega|exact hb trivial))))
  refine Z.eff (Z.ap0m (l := raw) (fc := ShV.cells) hS rfl rfl rfl (hrr.sub .nil [] _ hS) (by (try simp only [maxLen, List.length_take, List.length_drop, List.length_append, List.length_cons, List.length_nil, List.length_map]); omega) (by (try simp only [maxLen, List.length_take, List.length_drop, List.length_append, List.length_cons, List.length_nil, List.length_map]); omega) ?_) rfl
  clear hS; intro Am cm w hS
  repeat' (first|refine VP ?_|refine Sh.la hS ?_|refine Sh.lb ?_|refine Sh.lc ?_|refine Sh.su ?_|(refine Sh.sa hS ?_;clear hS;intro w hS)|((first|refine Sh.aa hS ?_|refine Sh.ab hS ?_|refine Sh.ac hS ?_);clear hS;intro g w hS hge)|refine Sh.ix ?_|refine Sh.up ?_|refine Sh.sl1 ?_|refine Sh.sl2 ?_|refine Sh.sl5 ?_|refine Sh.sl3 ?_|refine Sh.sl4 ?_|refine Sh.eq ?_|refine Sh.ne ?_|refine Sh.ix2 ?_|refine Sh.ix3 ?_|refine Z.bu rfl rfl ?_|refine VM ?_|refine Z.pl (R.cap rfl rfl) ?_|refine Z.pl R.mf ?_|refine Z.pl (R.min2 rfl rfl) ?_|refine G1 ?_|refine G2 ?_|refine G3 ?_|refine G4 ?_|with_reducible (first|refine V0 ?_|refine Z.block ?_)|((with_reducible refine Z.blX ?_ ?_);rotate_left;rfl)|refine VT ?_|refine VF ?_|((first|refine GS ?_ ?_|refine VB ?_ ?_)<;>intro hb<;>(try simp only [J1,J2,J3,J4,J5,J6] at hb)<;>(try (exfalso;first|omega|exact hb trivial))))
  refine Z.lpS [21, 22, 23, 24, 87, 88, 89, 90, 91, 92, 93, 94, 95, 96, 97, 98, 99, 100, 101, 102, 103, 104, 105, 106, 107, 108, 109, 110, 111, 112, 113, 114, 115, 116, 117, 118, 119, 120, 121, 122, 123, 124, 125, 126, 127, 128, 129, 130, 131, 132, 133, 134, 135, 136, 137, 138, 139, 140, 141, 142, 143, 144, 145, 146] (fun m w s => ∃ (i : Nat) (ms : List ShV) (Am : Option Addr) (cm : Nat) (G : Res), s = [(21, .slice Am ms.length cm)] ∧ i ≤ l2.length ∧ ms.length ≤ 25 ∧ m = l2.length - i ∧ (∀ x, x ∈ ms → Reads r [G] 8 x.v (x.m.ch.map Ch.cells) ∧ x.m.ch.length ≤ 12) ∧
    Sep r [] (TpR r gt l2 i :: .sl 28 4 (.slice Am ms.length cm) (ms.map ShV.cells) :: G :: PC gc 2 0 (.pointer (some ⟨gg, 0, .none⟩)) (cpOf h) :: CR gw 2 0 (.pointer (some ⟨gg1, 0, .none⟩)) (cpOf h) :: .blk gf 102 [.pointer (some ⟨gc, 0, .none⟩), .int .i64 0, .int .i64 0] :: .blk gr 42 [.pointer (some ⟨gw, 0, .none⟩), .int .i64 0, .int .i64 0] :: .sl 51 8 (.slice Ah h.length ch) (h.map Ch.cells) :: []) w) _ [(21, .slice Am raw.length cm)] (by repeat (first | exact trivial | refine ⟨rfl, ?_⟩)) ⟨0, raw, Am, cm, .pure True, rfl, by omega, by omega, rfl, fun x hx => ⟨(Reads.root (F := []) (hrx x hx)).sub .nil, hr12 x hx⟩, hS.none.sub (by repeat (first | exact Sub.rest | exact Sub.nil | exact .skip .rest | exact .skip (.skip .rest) | exact .skip (.skip (.skip .rest)) | apply Sub.keep | refine Sub.cons (by repeat (first | exact At.here | apply At.next)) ?_ | apply Sub.skip))⟩ ?_
  clear hS
  rintro m f1 w _ ⟨i, ms, Am, cm, G, rfl, hi, hml, rfl, hms, hS⟩
  have hadv := adv_bd l2 hi
  refine Z.seq ?_
  refine Z.seq ?_
  refine Z.cut [87, 88, 89, 90, 91, 92, 93] (fun w s => s = [(93, .bool (decide (i < l2.length ∧ ms.length < 25)))] ∧ Sep r [] (TpR r gt l2 i :: .sl 28 4 (.slice Am ms.length cm) (ms.map ShV.cells) :: G :: PC gc 2 0 (.pointer (some ⟨gg, 0, .none⟩)) (cpOf h) :: CR gw 2 0 (.pointer (some ⟨gg1, 0, .none⟩)) (cpOf h) :: .blk gf 102 [.pointer (some ⟨gc, 0, .none⟩), .int .i64 0, .int .i64 0] :: .blk gr 42 [.pointer (some ⟨gw, 0, .none⟩), .int .i64 0, .int .i64 0] :: .sl 51 8 (.slice Ah h.length ch) (h.map Ch.cells) :: []) w) ?_ ?_
  · repeat' (first|refine VP ?_|refine Sh.la hS ?_|refine Sh.lb ?_|refine Sh.lc ?_|refine Sh.su ?_|(refine Sh.sa hS ?_;clear hS;intro w hS)|((first|refine Sh.aa hS ?_|refine Sh.ab hS ?_|refine Sh.ac hS ?_);clear hS;intro g w hS hge)|refine Sh.ix ?_|refine Sh.up ?_|refine Sh.sl1 ?_|refine Sh.sl2 ?_|refine Sh.sl5 ?_|refine Sh.sl3 ?_|refine Sh.sl4 ?_|refine Sh.eq ?_|refine Sh.ne ?_|refine Sh.ix2 ?_|refine Sh.ix3 ?_|refine Z.bu rfl rfl ?_|refine VM ?_|refine Z.pl (R.cap rfl rfl) ?_|refine Z.pl R.mf ?_|refine Z.pl (R.min2 rfl rfl) ?_|refine G1 ?_|refine G2 ?_|refine G3 ?_|refine G4 ?_|with_reducible (first|refine V0 ?_|refine Z.block ?_)|((with_reducible refine Z.blX ?_ ?_);rotate_left;rfl)|refine VT ?_|refine VF ?_|((first|refine GS ?_ ?_|refine VB ?_ ?_)<;>intro hb<;>(try simp only [J1,J2,J3,J4,J5,J6] at hb)<;>(try (exfalso;first|omega|exact hb trivial))))
    refine Z.eff (Z.cl (more_z hS) rfl ?_) rfl
    clear hS
    rintro e w ⟨rfl, hS⟩
    refine ⟨_, rfl, ?_⟩
    repeat' (first|refine VP ?_|refine Sh.la hS ?_|refine Sh.lb ?_|refine Sh.lc ?_|refine Sh.su ?_|(refine Sh.sa hS ?_;clear hS;intro w hS)|((first|refine Sh.aa hS ?_|refine Sh.ab hS ?_|refine Sh.ac hS ?_);clear hS;intro g w hS hge)|refine Sh.ix ?_|refine Sh.up ?_|refine Sh.sl1 ?_|refine Sh.sl2 ?_|refine Sh.sl5 ?_|refine Sh.sl3 ?_|refine Sh.sl4 ?_|refine Sh.eq ?_|refine Sh.ne ?_|refine Sh.ix2 ?_|refine Sh.ix3 ?_|refine Z.bu rfl rfl ?_|refine VM ?_|refine Z.pl (R.cap rfl rfl) ?_|refine Z.pl R.mf ?_|refine Z.pl (R.min2 rfl rfl) ?_|refine G1 ?_|refine G2 ?_|refine G3 ?_|refine G4 ?_|with_reducible (first|refine V0 ?_|refine Z.block ?_)|((with_reducible refine Z.blX ?_ ?_);rotate_left;rfl)|refine VT ?_|refine VF ?_|((first|refine GS ?_ ?_|refine VB ?_ ?_)<;>intro hb<;>(try simp only [J1,J2,J3,J4,J5,J6] at hb)<;>(try (exfalso;first|omega|exact hb trivial))))
    · refine Sh.cut [(93, _)] ?_
      refine ⟨?_, hS⟩
      have e : ((ms.length : Int) < 25) = (ms.length < 25) := by apply propext; omega
      simp_all
    · refine Sh.cut [(93, _)] ?_
      refine ⟨?_, hS⟩
      rw [decide_eq_false (by omega : ¬ (i < l2.length ∧ ms.length < 25))]
  clear hS
  rintro f2 w _ ⟨rfl, hS⟩
  repeat' (first|refine VP ?_|refine Sh.la hS ?_|refine Sh.lb ?_|refine Sh.lc ?_|refine Sh.su ?_|(refine Sh.sa hS ?_;clear hS;intro w hS)|((first|refine Sh.aa hS ?_|refine Sh.ab hS ?_|refine Sh.ac hS ?_);clear hS;intro g w hS hge)|refine Sh.ix ?_|refine Sh.up ?_|refine Sh.sl1 ?_|refine Sh.sl2 ?_|refine Sh.sl5 ?_|refine Sh.sl3 ?_|refine Sh.sl4 ?_|refine Sh.eq ?_|refine Sh.ne ?_|refine Sh.ix2 ?_|refine Sh.ix3 ?_|refine Z.bu rfl rfl ?_|refine VM ?_|refine Z.pl (R.cap rfl rfl) ?_|refine Z.pl R.mf ?_|refine Z.pl (R.min2 rfl rfl) ?_|refine G1 ?_|refine G2 ?_|refine G3 ?_|refine G4 ?_|with_reducible (first|refine V0 ?_|refine Z.block ?_)|((with_reducible refine Z.blX ?_ ?_);rotate_left;rfl)|refine VT ?_|refine VF ?_|((first|refine GS ?_ ?_|refine VB ?_ ?_)<;>intro hb<;>(try simp only [J1,J2,J3,J4,J5,J6] at hb)<;>(try (exfalso;first|omega|exact hb trivial))))
  · obtain ⟨hb1, hb2⟩ := hb
    have h9 := hadv.2.2 hb1
    have h10 := hadv.2.1
    refine Z.cut [22, 94, 95, 96, 97, 98, 99, 100, 101, 102, 103, 104, 105] (fun w s => ∃ (gl : List Ch) (Ag : Option Addr) (cg i' : Nat), s = [(22, .slice Ag gl.length cg)] ∧ gl.length ≤ 90 ∧ gl.length ≤ cg ∧ (∀ x, x ∈ gl → 1 ≤ x.epoch ∧ x.epoch ≤ 900) ∧ i' ≤ l2.length ∧ i + 1 ≤ i' ∧
      Sep r [] (.sl 51 8 (.slice Ag gl.length cg) (gl.map Ch.cells) :: TpR r gt l2 i' :: .sl 28 4 (.slice Am ms.length cm) (ms.map ShV.cells) :: G :: PC gc 2 0 (.pointer (some ⟨gg, 0, .none⟩)) (cpOf h) :: CR gw 2 0 (.pointer (some ⟨gg1, 0, .none⟩)) (cpOf h) :: .blk gf 102 [.pointer (some ⟨gc, 0, .none⟩), .int .i64 0, .int .i64 0] :: .blk gr 42 [.pointer (some ⟨gw, 0, .none⟩), .int .i64 0, .int .i64 0] :: .sl 51 8 (.slice Ah h.length ch) (h.map Ch.cells) :: []) w) ?_ ?_
    · refine D.startS (Lr := ([] : List Res)) (hS.sb) 13 13 (by kernel_rfl) rfl ?_
      replace hS := hS.drew
      refine Sh.dp 0 1 ?_
      refine Sh.dp 1 3 ?_
      refine Sh.dp 2 7 ?_
      refine Sh.dp 5 39 ?_
      refine Sh.dp 6 103 ?_
      refine Sh.dp 7 231 ?_
      refine Sh.dp 8 487 ?_
      refine D.each [3, 9] (by kernel_rfl) rfl ?_
      refine D.econs 3 495 rfl D.wantedN (by kernel_rfl) (fun _ _ h => h) ?_ ?_
      · replace hS := hS.fo (R := TpR r gt l2 _)
        refine Z.cl (next_z 3 hS (by omega) (by omega)) rfl ?_
        clear hS
        rintro e w ⟨rfl, hS⟩
        refine ⟨_, rfl, ?_⟩
        refine ⟨HM.s (hS.sb), ?_⟩
        refine D.sumW 4 511 rfl D.wantedN (by kernel_rfl) rfl ?_
        refine D.eff 9 1023 rfl D.wantedN (by kernel_rfl) (by kernel_rfl) (fun _ _ h => h) ?_
        refine Z.ldR rfl (tp_at (hS.focus (R := TpR r gt l2 _) (by repeat (first | exact At.here | apply At.next)))) rfl ?_
        refine ⟨HM.s (hS.sb), ?_⟩
        refine D.pl 10 2047 rfl D.wantedN (by kernel_rfl) (R.since rfl rfl rfl (by omega)) ?_
        refine D.eff 11 4095 rfl D.wantedN (by kernel_rfl) (by kernel_rfl) (fun _ _ h => h) ?_
        first | refine Z.cl (fork_n h _ _ (l2.drop i) _ _ _ _ _ _ hS (Reads.of_at (e := 51) (v := .slice Ah h.length ch) (by repeat (first | exact At.here | apply At.next))) hH (by omega) (fun x hx => (hHe x hx).2) (rd_of_rows (hr2.mdrop (q := i) hi)).1 (rd_of_rows (hr2.mdrop (q := i) hi)).2 (by rw [List.length_drop]; omega)) rfl ?_ | refine Z.cl (fork_n h _ _ (l2.drop (adv l2 i)) _ _ _ _ _ _ hS (Reads.of_at (e := 51) (v := .slice Ah h.length ch) (by repeat (first | exact At.here | apply At.next))) hH (by omega) (fun x hx => (hHe x hx).2) (rd_of_rows (hr2.mdrop (q := adv l2 i) h10)).1 (rd_of_rows (hr2.mdrop (q := adv l2 i) h10)).2 (by rw [List.length_drop]; omega)) rfl ?_
        clear hS
        rintro e w ⟨gl, Ag, cg, rfl, hgl, hgc, hgep, hS⟩
        refine ⟨_, rfl, ?_⟩
        refine ⟨HM.s (hS.sb), ?_⟩
        refine Sh.dp 12 8191 ?_
        refine D.done (by kernel_rfl) ?_
        refine Sh.cut [(22, _)] ?_
        exact ⟨gl, Ag, cg, _, rfl, hgl, hgc, hgep, by omega, by omega, hS.sb⟩
      refine D.econs 9 999 rfl D.wantedN (by kernel_rfl) (fun _ _ h => h) ?_ ?_
      · refine Z.ldR rfl (tp_at (hS.focus (R := TpR r gt l2 _) (by repeat (first | exact At.here | apply At.next)))) rfl ?_
        refine ⟨HM.s (hS.sb), ?_⟩
        refine D.pl 10 2023 rfl D.wantedN (by kernel_rfl) (R.since rfl rfl rfl (by omega)) ?_
        refine D.eff 3 2031 rfl D.wantedN (by kernel_rfl) (by kernel_rfl) (fun _ _ h => h) ?_
        replace hS := hS.fo (R := TpR r gt l2 _)
        refine Z.cl (next_z 3 hS (by omega) (by omega)) rfl ?_
        clear hS
        rintro e w ⟨rfl, hS⟩
        refine ⟨_, rfl, ?_⟩
        refine ⟨HM.s (hS.sb), ?_⟩
        refine D.sumW 4 2047 rfl D.wantedN (by kernel_rfl) rfl ?_
        refine D.eff 11 4095 rfl D.wantedN (by kernel_rfl) (by kernel_rfl) (fun _ _ h => h) ?_
        first | refine Z.cl (fork_n h _ _ (l2.drop i) _ _ _ _ _ _ hS (Reads.of_at (e := 51) (v := .slice Ah h.length ch) (by repeat (first | exact At.here | apply At.next))) hH (by omega) (fun x hx => (hHe x hx).2) (rd_of_rows (hr2.mdrop (q := i) hi)).1 (rd_of_rows (hr2.mdrop (q := i) hi)).2 (by rw [List.length_drop]; omega)) rfl ?_ | refine Z.cl (fork_n h _ _ (l2.drop (adv l2 i)) _ _ _ _ _ _ hS (Reads.of_at (e := 51) (v := .slice Ah h.length ch) (by repeat (first | exact At.here | apply At.next))) hH (by omega) (fun x hx => (hHe x hx).2) (rd_of_rows (hr2.mdrop (q := adv l2 i) h10)).1 (rd_of_rows (hr2.mdrop (q := adv l2 i) h10)).2 (by rw [List.length_drop]; omega)) rfl ?_
        clear hS
        rintro e w ⟨gl, Ag, cg, rfl, hgl, hgc, hgep, hS⟩
        refine ⟨_, rfl, ?_⟩
        refine ⟨HM.s (hS.sb), ?_⟩
        refine Sh.dp 12 8191 ?_
        refine D.done (by kernel_rfl) ?_
        refine Sh.cut [(22, _)] ?_
        exact ⟨gl, Ag, cg, _, rfl, hgl, hgc, hgep, by omega, by omega, hS.sb⟩
      exact D.enil
    clear hS
    rintro f3 w _ ⟨gl, Ag, cg, i1, rfl, hgl, hgc, hgep, hi1, hi2, hS⟩
    repeat' (first|refine VP ?_|refine Sh.la hS ?_|refine Sh.lb ?_|refine Sh.lc ?_|refine Sh.su ?_|(refine Sh.sa hS ?_;clear hS;intro w hS)|((first|refine Sh.aa hS ?_|refine Sh.ab hS ?_|refine Sh.ac hS ?_);clear hS;intro g w hS hge)|refine Sh.ix ?_|refine Sh.up ?_|refine Sh.sl1 ?_|refine Sh.sl2 ?_|refine Sh.sl5 ?_|refine Sh.sl3 ?_|refine Sh.sl4 ?_|refine Sh.eq ?_|refine Sh.ne ?_|refine Sh.ix2 ?_|refine Sh.ix3 ?_|refine Z.bu rfl rfl ?_|refine VM ?_|refine Z.pl (R.cap rfl rfl) ?_|refine Z.pl R.mf ?_|refine Z.pl (R.min2 rfl rfl) ?_|refine G1 ?_|refine G2 ?_|refine G3 ?_|refine G4 ?_|with_reducible (first|refine V0 ?_|refine Z.block ?_)|((with_reducible refine Z.blX ?_ ?_);rotate_left;rfl)|refine VT ?_|refine VF ?_|((first|refine GS ?_ ?_|refine VB ?_ ?_)<;>intro hb<;>(try simp only [J1,J2,J3,J4,J5,J6] at hb)<;>(try (exfalso;first|omega|exact hb trivial))))
    replace hS := hS.fo (R := TpR r gt l2 _)
    refine Z.eff (Z.cl (next_z ((gl.length : Int) + 1) hS (by omega) (by omega)) rfl ?_) rfl
    clear hS
    rintro e w ⟨rfl, hS⟩
    refine ⟨_, rfl, ?_⟩
    have hnb := nxt_bd l2 i1 ((gl.length : Int) + 1) (by omega)
    generalize nxt l2 i1 ((gl.length : Int) + 1) = n at *
    have ha2 := adv_bd l2 hi1
    generalize adv l2 i1 = i2 at *
    repeat' (first|refine VP ?_|refine Sh.la hS ?_|refine Sh.lb ?_|refine Sh.lc ?_|refine Sh.su ?_|(refine Sh.sa hS ?_;clear hS;intro w hS)|((first|refine Sh.aa hS ?_|refine Sh.ab hS ?_|refine Sh.ac hS ?_);clear hS;intro g w hS hge)|refine Sh.ix ?_|refine Sh.up ?_|refine Sh.sl1 ?_|refine Sh.sl2 ?_|refine Sh.sl5 ?_|refine Sh.sl3 ?_|refine Sh.sl4 ?_|refine Sh.eq ?_|refine Sh.ne ?_|refine Sh.ix2 ?_|refine Sh.ix3 ?_|refine Z.bu rfl rfl ?_|refine VM ?_|refine Z.pl (R.cap rfl rfl) ?_|refine Z.pl R.mf ?_|refine Z.pl (R.min2 rfl rfl) ?_|refine G1 ?_|refine G2 ?_|refine G3 ?_|refine G4 ?_|with_reducible (first|refine V0 ?_|refine Z.block ?_)|((with_reducible refine Z.blX ?_ ?_);rotate_left;rfl)|refine VT ?_|refine VF ?_|((first|refine GS ?_ ?_|refine VB ?_ ?_)<;>intro hb<;>(try simp only [J1,J2,J3,J4,J5,J6] at hb)<;>(try (exfalso;first|omega|exact hb trivial))))
    replace hS := hS.fo (R := TpR r gt l2 _)
    refine Z.eff (Z.cl (rangeN_z 1 70 hS (by omega) (by omega) (by omega)) rfl ?_) rfl
    clear hS
    rintro e w ⟨rfl, hS⟩
    refine ⟨_, rfl, ?_⟩
    have heb := nxt_bd l2 i2 (70 - 1 + 1) (by omega)
    generalize nxt l2 i2 (70 - 1 + 1) = e0 at *
    generalize hep : 1 + e0 = ep at *
    have ha3 := adv_bd l2 ha2.2.1
    generalize adv l2 i2 = i3 at *
    repeat' (first|refine VP ?_|refine Sh.la hS ?_|refine Sh.lb ?_|refine Sh.lc ?_|refine Sh.su ?_|(refine Sh.sa hS ?_;clear hS;intro w hS)|((first|refine Sh.aa hS ?_|refine Sh.ab hS ?_|refine Sh.ac hS ?_);clear hS;intro g w hS hge)|refine Sh.ix ?_|refine Sh.up ?_|refine Sh.sl1 ?_|refine Sh.sl2 ?_|refine Sh.sl5 ?_|refine Sh.sl3 ?_|refine Sh.sl4 ?_|refine Sh.eq ?_|refine Sh.ne ?_|refine Sh.ix2 ?_|refine Sh.ix3 ?_|refine Z.bu rfl rfl ?_|refine VM ?_|refine Z.pl (R.cap rfl rfl) ?_|refine Z.pl R.mf ?_|refine Z.pl (R.min2 rfl rfl) ?_|refine G1 ?_|refine G2 ?_|refine G3 ?_|refine G4 ?_|with_reducible (first|refine V0 ?_|refine Z.block ?_)|((with_reducible refine Z.blX ?_ ?_);rotate_left;rfl)|refine VT ?_|refine VF ?_|((first|refine GS ?_ ?_|refine VB ?_ ?_)<;>intro hb<;>(try simp only [J1,J2,J3,J4,J5,J6] at hb)<;>(try (exfalso;first|omega|exact hb trivial))))
    replace hS := hS.fo (R := TpR r gt l2 _)
    refine Z.eff (Z.cl (next_z 9 hS (by omega) (by omega)) rfl ?_) rfl
    clear hS
    rintro e w ⟨rfl, hS⟩
    refine ⟨_, rfl, ?_⟩
    have hqb := nxt_bd l2 i3 9 (by omega)
    generalize nxt l2 i3 9 = q at *
    have ha4 := adv_bd l2 ha3.2.1
    generalize adv l2 i3 = i4 at *
    repeat' (first
      | refine Z.pr rfl ?_ | refine Sh.la hS ?_ | refine Sh.lb ?_ | refine Sh.lc ?_ | refine Sh.su ?_
      | (refine Sh.sa hS ?_; clear hS; intro w hS)
      | ((first | refine Sh.aa hS ?_ | refine Sh.ab hS ?_ | refine Sh.ac hS ?_); clear hS; intro g w hS hge)
      | refine Sh.ix ?_ | refine Sh.up ?_ | refine Sh.sl1 ?_ | refine Sh.sl2 ?_ | refine Sh.sl5 ?_ | refine Sh.sl3 ?_ | refine Sh.sl4 ?_ | refine Z.pl (R.min2 rfl rfl) ?_ | refine Sh.ix2 ?_ | refine Sh.ix3 ?_
      | refine Z.bu rfl rfl ?_ | refine Z.pl (R.max2 rfl rfl) ?_ | refine Z.pl (R.cap rfl rfl) ?_ | refine Z.pl R.mf ?_
      | refine Z.gT rfl rfl ?_ | refine Z.gF rfl rfl ?_ | refine Z.gF0 rfl rfl ?_ | refine Z.gU rfl rfl ?_
      | with_reducible (first | refine Z.seq ?_ | refine Z.reg ?_ | refine Z.nil ?_ | refine Z.skip ?_ | refine Z.exit ?_ | refine Z.ret ?_ | refine Z.block ?_ | refine Z.thU ?_ | refine Z.thE ?_ | refine Z.thR ?_ | refine Z.blN ?_ | refine Z.blR ?_ | refine Z.blE ?_ | refine Z.label ?_ | refine Z.scope ?_ | refine Z.ngN ?_ | refine Z.ngR ?_ | refine Z.ngE ?_)
      | ((with_reducible refine Z.blX ?_ ?_); rotate_left; rfl)
      | refine Z.brT rfl ?_ | refine Z.brF rfl ?_
      | ((first | refine Z.gS rfl rfl ?_ ?_ | refine Z.br rfl ?_ ?_) <;> intro hb <;> (try simp only [decide_eq_true_eq, decide_eq_false_iff_not, Bool.not_eq_true', Bool.not_eq_false', Int.not_lt, Int.not_le] at hb) <;> (try (exfalso; first | omega | exact hb trivial))))
    rename Nat => gs
    refine Z.thN ?_
    refine Z.seq ?_
    generalize hcx : (gl.take (min (gl.length : Int) (n + q)).toNat).drop n.toNat = cx at *
    have hcl : (min (gl.length : Int) (n + q)).toNat - n.toNat = cx.length := by rw [← hcx, List.length_drop, List.length_take]; omega
    have hc12 : cx.length ≤ 12 := by omega
    rw [hcl] at hS
    have hrG : ∀ G, Reads r [Res.star (.sl 51 8 (.slice Ag gl.length cg) (gl.map Ch.cells)) G] 8 (.slice (if cg = n.toNat then Ag else Ag.map fun x => x.add (n.toNat * 8)) cx.length (cg - n.toNat)) (cx.map Ch.cells) := fun G L w h => by
      have h1 := ((Reads.starL L w h).mtake (q := (min (gl.length : Int) (n + q)).toNat) (by omega)).mdrop (q := n.toNat) (by rw [List.length_take]; omega)
      rw [hcx, hcl] at h1
      exact h1
    generalize (if cg = n.toNat then Ag else Ag.map fun x => x.add (n.toNat * 8)) = Ax at *
    generalize cg - n.toNat = kx at *
    refine Z.cut [125, 126, 127, 128, 129, 130, 131, 132, 133] (fun w s => s = [] ∧ ∃ bf : Int, 0 ≤ bf ∧ bf ≤ 900 ∧ Sep r [] (.blk gs 28 [.int .i64 ep, .int .i64 n, .int .i64 bf, .slice Ax cx.length kx] :: TpR r gt l2 i4 :: .sl 51 8 (.slice Ag gl.length cg) (gl.map Ch.cells) :: .sl 28 4 (.slice Am ms.length cm) (ms.map ShV.cells) :: G :: PC gc 2 0 (.pointer (some ⟨gg, 0, .none⟩)) (cpOf h) :: CR gw 2 0 (.pointer (some ⟨gg1, 0, .none⟩)) (cpOf h) :: .blk gf 102 [.pointer (some ⟨gc, 0, .none⟩), .int .i64 0, .int .i64 0] :: .blk gr 42 [.pointer (some ⟨gw, 0, .none⟩), .int .i64 0, .int .i64 0] :: .sl 51 8 (.slice Ah h.length ch) (h.map Ch.cells) :: []) w) ?_ ?_
    · by_cases hn0 : 0 < n
      · have hq1 : (n - 1).toNat < gl.length := by omega
        have hge1 := hgep gl[(n - 1).toNat] (by simp)
        obtain ⟨gb, o, rfl, _, _⟩ := (hS.slrows (e := 51) (v := .slice Ag gl.length cg) (by repeat (first | exact At.here | apply At.next))).mat (by omega) hq1
        repeat' (first|refine VP ?_|refine Sh.la hS ?_|refine Sh.lb ?_|refine Sh.lc ?_|refine Sh.su ?_|(refine Sh.sa hS ?_;clear hS;intro w hS)|((first|refine Sh.aa hS ?_|refine Sh.ab hS ?_|refine Sh.ac hS ?_);clear hS;intro g w hS hge)|refine Sh.ix ?_|refine Sh.up ?_|refine Sh.sl1 ?_|refine Sh.sl2 ?_|refine Sh.sl5 ?_|refine Sh.sl3 ?_|refine Sh.sl4 ?_|refine Sh.eq ?_|refine Sh.ne ?_|refine Sh.ix2 ?_|refine Sh.ix3 ?_|refine Z.bu rfl rfl ?_|refine VM ?_|refine Z.pl (R.cap rfl rfl) ?_|refine Z.pl R.mf ?_|refine Z.pl (R.min2 rfl rfl) ?_|refine G1 ?_|refine G2 ?_|refine G3 ?_|refine G4 ?_|with_reducible (first|refine V0 ?_|refine Z.block ?_)|((with_reducible refine Z.blX ?_ ?_);rotate_left;rfl)|refine VT ?_|refine VF ?_|((first|refine GS ?_ ?_|refine VB ?_ ?_)<;>intro hb<;>(try simp only [J1,J2,J3,J4,J5,J6] at hb)<;>(try (exfalso;first|omega|exact hb trivial))))
        refine Sh.cut [] ?_
        exact ⟨rfl, gl[(n - 1).toNat].epoch, by omega, by omega, hS.sb⟩
      · repeat' (first|refine VP ?_|refine Sh.la hS ?_|refine Sh.lb ?_|refine Sh.lc ?_|refine Sh.su ?_|(refine Sh.sa hS ?_;clear hS;intro w hS)|((first|refine Sh.aa hS ?_|refine Sh.ab hS ?_|refine Sh.ac hS ?_);clear hS;intro g w hS hge)|refine Sh.ix ?_|refine Sh.up ?_|refine Sh.sl1 ?_|refine Sh.sl2 ?_|refine Sh.sl5 ?_|refine Sh.sl3 ?_|refine Sh.sl4 ?_|refine Sh.eq ?_|refine Sh.ne ?_|refine Sh.ix2 ?_|refine Sh.ix3 ?_|refine Z.bu rfl rfl ?_|refine VM ?_|refine Z.pl (R.cap rfl rfl) ?_|refine Z.pl R.mf ?_|refine Z.pl (R.min2 rfl rfl) ?_|refine G1 ?_|refine G2 ?_|refine G3 ?_|refine G4 ?_|with_reducible (first|refine V0 ?_|refine Z.block ?_)|((with_reducible refine Z.blX ?_ ?_);rotate_left;rfl)|refine VT ?_|refine VF ?_|((first|refine GS ?_ ?_|refine VB ?_ ?_)<;>intro hb<;>(try simp only [J1,J2,J3,J4,J5,J6] at hb)<;>(try (exfalso;first|omega|exact hb trivial))))
        refine Sh.cut [] ?_
        exact ⟨rfl, 0, by omega, by omega, hS.sb⟩
    clear hS
    rintro f4 w _ ⟨rfl, bf, hbf0, hbf1, hS⟩
    refine Z.seq ?_
    refine Z.cut [134, 135, 136, 137, 138, 139, 140, 141, 142] (fun w s => s = [] ∧ ∃ (bf : Int) (i5 : Nat), i4 ≤ i5 ∧ i5 ≤ l2.length ∧ Sep r [] (.blk gs 28 [.int .i64 ep, .int .i64 n, .int .i64 bf, .slice Ax cx.length kx] :: TpR r gt l2 i5 :: .sl 51 8 (.slice Ag gl.length cg) (gl.map Ch.cells) :: .sl 28 4 (.slice Am ms.length cm) (ms.map ShV.cells) :: G :: PC gc 2 0 (.pointer (some ⟨gg, 0, .none⟩)) (cpOf h) :: CR gw 2 0 (.pointer (some ⟨gg1, 0, .none⟩)) (cpOf h) :: .blk gf 102 [.pointer (some ⟨gc, 0, .none⟩), .int .i64 0, .int .i64 0] :: .blk gr 42 [.pointer (some ⟨gw, 0, .none⟩), .int .i64 0, .int .i64 0] :: .sl 51 8 (.slice Ah h.length ch) (h.map Ch.cells) :: []) w) ?_ ?_
    · repeat' (first|refine VP ?_|refine Sh.la hS ?_|refine Sh.lb ?_|refine Sh.lc ?_|refine Sh.su ?_|(refine Sh.sa hS ?_;clear hS;intro w hS)|((first|refine Sh.aa hS ?_|refine Sh.ab hS ?_|refine Sh.ac hS ?_);clear hS;intro g w hS hge)|refine Sh.ix ?_|refine Sh.up ?_|refine Sh.sl1 ?_|refine Sh.sl2 ?_|refine Sh.sl5 ?_|refine Sh.sl3 ?_|refine Sh.sl4 ?_|refine Sh.eq ?_|refine Sh.ne ?_|refine Sh.ix2 ?_|refine Sh.ix3 ?_|refine Z.bu rfl rfl ?_|refine VM ?_|refine Z.pl (R.cap rfl rfl) ?_|refine Z.pl R.mf ?_|refine Z.pl (R.min2 rfl rfl) ?_|refine G1 ?_|refine G2 ?_|refine G3 ?_|refine G4 ?_|with_reducible (first|refine V0 ?_|refine Z.block ?_)|((with_reducible refine Z.blX ?_ ?_);rotate_left;rfl)|refine VT ?_|refine VF ?_|((first|refine GS ?_ ?_|refine VB ?_ ?_)<;>intro hb<;>(try simp only [J1,J2,J3,J4,J5,J6] at hb)<;>(try (exfalso;first|omega|exact hb trivial))))
      replace hS := hS.fo (R := TpR r gt l2 _)
      refine Z.eff (Z.cl (next_z 8 hS (by omega) (by omega)) rfl ?_) rfl
      clear hS
      rintro e w ⟨rfl, hS⟩
      refine ⟨_, rfl, ?_⟩
      have ha5 := adv_bd l2 ha4.2.1
      generalize adv l2 i4 = i5 at *
      repeat' (first|refine VP ?_|refine Sh.la hS ?_|refine Sh.lb ?_|refine Sh.lc ?_|refine Sh.su ?_|(refine Sh.sa hS ?_;clear hS;intro w hS)|((first|refine Sh.aa hS ?_|refine Sh.ab hS ?_|refine Sh.ac hS ?_);clear hS;intro g w hS hge)|refine Sh.ix ?_|refine Sh.up ?_|refine Sh.sl1 ?_|refine Sh.sl2 ?_|refine Sh.sl5 ?_|refine Sh.sl3 ?_|refine Sh.sl4 ?_|refine Sh.eq ?_|refine Sh.ne ?_|refine Sh.ix2 ?_|refine Sh.ix3 ?_|refine Z.bu rfl rfl ?_|refine VM ?_|refine Z.pl (R.cap rfl rfl) ?_|refine Z.pl R.mf ?_|refine Z.pl (R.min2 rfl rfl) ?_|refine G1 ?_|refine G2 ?_|refine G3 ?_|refine G4 ?_|with_reducible (first|refine V0 ?_|refine Z.block ?_)|((with_reducible refine Z.blX ?_ ?_);rotate_left;rfl)|refine VT ?_|refine VF ?_|((first|refine GS ?_ ?_|refine VB ?_ ?_)<;>intro hb<;>(try simp only [J1,J2,J3,J4,J5,J6] at hb)<;>(try (exfalso;first|omega|exact hb trivial))))
      · have ha6 := adv_bd l2 ha5.2.1
        have hnb3 := nxt_bd l2 i5 (1 - -1 + 1) (by omega)
        refine D.startS (Lr := [.blk gs 28 [.int .i64 ep, .int .i64 n, .int .i64 bf, .slice Ax cx.length kx]]) (hS.sb) 6 7 (by kernel_rfl) rfl ?_
        replace hS := hS.drew
        refine Sh.dp 0 1 ?_
        refine Sh.dp 2 5 ?_
        refine Sh.dl 1 7 ?_
        refine D.eff 3 15 rfl D.wantedN (by kernel_rfl) (by kernel_rfl) (fun _ _ h => h) ?_
        replace hS := hS.fo (R := TpR r gt l2 _)
        refine Z.cl (rangeN_z (-1) 1 hS (by omega) (by omega) (by omega)) rfl ?_
        clear hS
        rintro e w ⟨rfl, hS⟩
        refine ⟨_, rfl, ?_⟩
        refine ⟨HM.s (hS.sb), ?_⟩
        first | refine D.sum 4 31 rfl D.wantedN (by kernel_rfl) rfl (by constructor <;> omega) ?_ | refine D.sumW 4 31 rfl D.wantedN (by kernel_rfl) rfl ?_
        refine Sh.dp 5 63 ?_
        refine D.eff 6 127 rfl D.wantedN (by kernel_rfl) (by kernel_rfl) (fun _ _ h => h) ?_
        refine Z.st hS rfl (by repeat (first | exact At.here | apply At.next)) rfl rfl ?_
        clear hS; intro w hS
        refine ⟨HM.last (by kernel_rfl), ?_⟩
        refine D.done (by kernel_rfl) ?_
        repeat' (first|refine VP ?_|refine Sh.la hS ?_|refine Sh.lb ?_|refine Sh.lc ?_|refine Sh.su ?_|(refine Sh.sa hS ?_;clear hS;intro w hS)|((first|refine Sh.aa hS ?_|refine Sh.ab hS ?_|refine Sh.ac hS ?_);clear hS;intro g w hS hge)|refine Sh.ix ?_|refine Sh.up ?_|refine Sh.sl1 ?_|refine Sh.sl2 ?_|refine Sh.sl5 ?_|refine Sh.sl3 ?_|refine Sh.sl4 ?_|refine Sh.eq ?_|refine Sh.ne ?_|refine Sh.ix2 ?_|refine Sh.ix3 ?_|refine Z.bu rfl rfl ?_|refine VM ?_|refine Z.pl (R.cap rfl rfl) ?_|refine Z.pl R.mf ?_|refine Z.pl (R.min2 rfl rfl) ?_|refine G1 ?_|refine G2 ?_|refine G3 ?_|refine G4 ?_|with_reducible (first|refine V0 ?_|refine Z.block ?_)|((with_reducible refine Z.blX ?_ ?_);rotate_left;rfl)|refine VT ?_|refine VF ?_|((first|refine GS ?_ ?_|refine VB ?_ ?_)<;>intro hb<;>(try simp only [J1,J2,J3,J4,J5,J6] at hb)<;>(try (exfalso;first|omega|exact hb trivial))))
        refine Sh.cut [] ?_
        exact ⟨rfl, _, _, by omega, ha6.2.1, hS.sb⟩
      · refine Sh.cut [] ?_
        exact ⟨rfl, _, _, by omega, ha5.2.1, hS.sb⟩
    clear hS
    rintro f5 w _ ⟨rfl, bf2, i5, hi5, hi5', hS⟩
    repeat' (first|refine VP ?_|refine Sh.la hS ?_|refine Sh.lb ?_|refine Sh.lc ?_|refine Sh.su ?_|(refine Sh.sa hS ?_;clear hS;intro w hS)|((first|refine Sh.aa hS ?_|refine Sh.ab hS ?_|refine Sh.ac hS ?_);clear hS;intro g w hS hge)|refine Sh.ix ?_|refine Sh.up ?_|refine Sh.sl1 ?_|refine Sh.sl2 ?_|refine Sh.sl5 ?_|refine Sh.sl3 ?_|refine Sh.sl4 ?_|refine Sh.eq ?_|refine Sh.ne ?_|refine Sh.ix2 ?_|refine Sh.ix3 ?_|refine Z.bu rfl rfl ?_|refine VM ?_|refine Z.pl (R.cap rfl rfl) ?_|refine Z.pl R.mf ?_|refine Z.pl (R.min2 rfl rfl) ?_|refine G1 ?_|refine G2 ?_|refine G3 ?_|refine G4 ?_|with_reducible (first|refine V0 ?_|refine Z.block ?_)|((with_reducible refine Z.blX ?_ ?_);rotate_left;rfl)|refine VT ?_|refine VF ?_|((first|refine GS ?_ ?_|refine VB ?_ ?_)<;>intro hb<;>(try simp only [J1,J2,J3,J4,J5,J6] at hb)<;>(try (exfalso;first|omega|exact hb trivial))))
    refine Z.eff (Z.apm (fc := ShV.cells) (l' := [ShV.mk (Shp.mk ep n bf2 cx) Ax kx]) hS rfl rfl rfl (by repeat (first | exact At.here | apply At.next)) (hS.lit1 (by repeat (first | exact At.here | apply At.next)) rfl rfl) (by (try simp only [maxLen, List.length_take, List.length_drop, List.length_append, List.length_cons, List.length_nil, List.length_map]); omega) (by (try simp only [maxLen, List.length_take, List.length_drop, List.length_append, List.length_cons, List.length_nil, List.length_map]); omega) ?_) rfl
    clear hS; intro Am1 cm1 w hS
    rw [← List.length_append] at hS ⊢
    repeat' (first|refine VP ?_|refine Sh.la hS ?_|refine Sh.lb ?_|refine Sh.lc ?_|refine Sh.su ?_|(refine Sh.sa hS ?_;clear hS;intro w hS)|((first|refine Sh.aa hS ?_|refine Sh.ab hS ?_|refine Sh.ac hS ?_);clear hS;intro g w hS hge)|refine Sh.ix ?_|refine Sh.up ?_|refine Sh.sl1 ?_|refine Sh.sl2 ?_|refine Sh.sl5 ?_|refine Sh.sl3 ?_|refine Sh.sl4 ?_|refine Sh.eq ?_|refine Sh.ne ?_|refine Sh.ix2 ?_|refine Sh.ix3 ?_|refine Z.bu rfl rfl ?_|refine VM ?_|refine Z.pl (R.cap rfl rfl) ?_|refine Z.pl R.mf ?_|refine Z.pl (R.min2 rfl rfl) ?_|refine G1 ?_|refine G2 ?_|refine G3 ?_|refine G4 ?_|with_reducible (first|refine V0 ?_|refine Z.block ?_)|((with_reducible refine Z.blX ?_ ?_);rotate_left;rfl)|refine VT ?_|refine VF ?_|((first|refine GS ?_ ?_|refine VB ?_ ?_)<;>intro hb<;>(try simp only [J1,J2,J3,J4,J5,J6] at hb)<;>(try (exfalso;first|omega|exact hb trivial))))
    refine Sh.again (l2.length - i5) [(21, .slice Am1 (ms ++ [ShV.mk (Shp.mk ep n bf2 cx) Ax kx]).length cm1)] ?_
    refine ⟨i5, ms ++ [ShV.mk (Shp.mk ep n bf2 cx) Ax kx], Am1, cm1, Res.star (.sl 51 8 (.slice Ag gl.length cg) (gl.map Ch.cells)) G, rfl, hi5', by rw [List.length_append, List.length_singleton]; omega, rfl, fun x hx => ?_, ?_⟩
    · rcases List.mem_append.1 hx with hx | hx
      · exact ⟨(hms x hx).1.starR, (hms x hx).2⟩
      · simp only [List.mem_singleton] at hx
        rw [hx]
        exact ⟨hrG G, hc12⟩
    · exact (Sep.star_open.2 (hS.sub (L' := .sl 51 8 (.slice Ag gl.length cg) (gl.map Ch.cells) :: G :: TpR r gt l2 i5 :: .sl 28 4 (.slice Am1 (ms ++ [ShV.mk (Shp.mk ep n bf2 cx) Ax kx]).length cm1) ((ms ++ [ShV.mk (Shp.mk ep n bf2 cx) Ax kx]).map ShV.cells) :: PC gc 2 0 (.pointer (some ⟨gg, 0, .none⟩)) (cpOf h) :: CR gw 2 0 (.pointer (some ⟨gg1, 0, .none⟩)) (cpOf h) :: .blk gf 102 [.pointer (some ⟨gc, 0, .none⟩), .int .i64 0, .int .i64 0] :: .blk gr 42 [.pointer (some ⟨gw, 0, .none⟩), .int .i64 0, .int .i64 0] :: .sl 51 8 (.slice Ah h.length ch) (h.map Ch.cells) :: []) (by repeat (first | exact Sub.rest | exact Sub.nil | exact .skip .rest | exact .skip (.skip .rest) | exact .skip (.skip (.skip .rest)) | apply Sub.keep | refine Sub.cons (by repeat (first | exact At.here | apply At.next)) ?_ | apply Sub.skip)))).sub (by repeat (first | exact Sub.rest | exact Sub.nil | exact .skip .rest | exact .skip (.skip .rest) | exact .skip (.skip (.skip .rest)) | apply Sub.keep | refine Sub.cons (by repeat (first | exact At.here | apply At.next)) ?_ | apply Sub.skip))
  · have hgH := hH.good
    refine Z.lpS [8, 26, 27, 28, 29, 30, 149, 150, 151, 152, 153, 154, 155, 156, 157, 158, 159, 160, 161, 162, 163, 164, 165, 166, 167, 168, 169, 170, 171, 172, 173, 174, 175, 176, 177, 178, 179, 180, 181, 182, 183, 184, 185, 186, 187, 188] (fun m w s => ∃ (q : Nat) (f : Fo), s = [(149, .int .i64 q)] ∧ q ≤ ms.length ∧ m = ms.length - q ∧ Good f.c ∧ f.c.h.length ≤ 60 + 12 * q ∧
      Sep r [] (.sl 28 4 (.slice Am ms.length cm) (ms.map ShV.cells) :: .blk gf 102 [.pointer (some ⟨gc, 0, .none⟩), .int .i64 f.seen, .int .i64 f.agreed] :: PC gc 2 0 (.pointer (some ⟨gg, 0, .none⟩)) f.c :: .blk gr 42 [.pointer (some ⟨gw, 0, .none⟩), .int .i64 f.seen, .int .i64 f.agreed] :: CR gw 2 0 (.pointer (some ⟨gg1, 0, .none⟩)) f.c :: G :: []) w) _ [(149, .int .i64 (0 : Nat))] (by repeat (first | exact trivial | refine ⟨rfl, ?_⟩))
      ⟨0, ⟨cpOf h, 0, 0⟩, rfl, by omega, rfl, hgH.1, by rw [hgH.2.1]; omega, hS.sb⟩ ?_
    clear hS
    rintro m f2 w _ ⟨q, f, rfl, hq, rfl, hfg, hfl, hS⟩
    by_cases hlt3 : q < ms.length
    · obtain ⟨gb, o, rfl, _, hrb⟩ := (hS.slrows (e := 28) (v := .slice Am ms.length cm) (by repeat (first | exact At.here | apply At.next))).mat (by omega) hlt3
      have hx := hms ms[q] (by simp)
      generalize ms[q] = x at *
      have htg := takeF_good hfg x.m
      repeat' (first|refine VP ?_|refine Sh.la hS ?_|refine Sh.lb ?_|refine Sh.lc ?_|refine Sh.su ?_|(refine Sh.sa hS ?_;clear hS;intro w hS)|((first|refine Sh.aa hS ?_|refine Sh.ab hS ?_|refine Sh.ac hS ?_);clear hS;intro g w hS hge)|refine Sh.ix ?_|refine Sh.up ?_|refine Sh.sl1 ?_|refine Sh.sl2 ?_|refine Sh.sl5 ?_|refine Sh.sl3 ?_|refine Sh.sl4 ?_|refine Sh.eq ?_|refine Sh.ne ?_|refine Sh.ix2 ?_|refine Sh.ix3 ?_|refine Z.bu rfl rfl ?_|refine VM ?_|refine Z.pl (R.cap rfl rfl) ?_|refine Z.pl R.mf ?_|refine Z.pl (R.min2 rfl rfl) ?_|refine G1 ?_|refine G2 ?_|refine G3 ?_|refine G4 ?_|with_reducible (first|refine V0 ?_|refine Z.block ?_)|((with_reducible refine Z.blX ?_ ?_);rotate_left;rfl)|refine VT ?_|refine VF ?_|((first|refine GS ?_ ?_|refine VB ?_ ?_)<;>intro hb<;>(try simp only [J1,J2,J3,J4,J5,J6] at hb)<;>(try (exfalso;first|omega|exact hb trivial))))
      rename Nat => gm
      replace hS := hS.sub (L' := .blk gf 102 [.pointer (some ⟨gc, 0, .none⟩), .int .i64 f.seen, .int .i64 f.agreed] :: PC gc 2 0 (.pointer (some ⟨gg, 0, .none⟩)) f.c :: .blk gr 42 [.pointer (some ⟨gw, 0, .none⟩), .int .i64 f.seen, .int .i64 f.agreed] :: CR gw 2 0 (.pointer (some ⟨gg1, 0, .none⟩)) f.c :: .blk gm 28 x.cells :: .sl 28 4 (.slice (some ⟨gb, o, none⟩) ms.length cm) (ms.map ShV.cells) :: G :: []) (by repeat (first | exact Sub.rest | exact Sub.nil | exact .skip .rest | exact .skip (.skip .rest) | exact .skip (.skip (.skip .rest)) | apply Sub.keep | refine Sub.cons (by repeat (first | exact At.here | apply At.next)) ?_ | apply Sub.skip))
      refine Z.eff (Z.cl (ptake_z gf gc 2 0 _ f x.m x.v _ _ _ hS (hx.1.sub (by repeat (first | exact Sub.rest | exact Sub.nil | exact .skip .rest | exact .skip (.skip .rest) | exact .skip (.skip (.skip .rest)) | apply Sub.keep | refine Sub.cons (by repeat (first | exact At.here | apply At.next)) ?_ | apply Sub.skip))) hfg) rfl ?_) rfl
      clear hS
      rintro e w ⟨rfl, hS⟩
      refine ⟨_, rfl, ?_⟩
      repeat' (first|refine VP ?_|refine Sh.la hS ?_|refine Sh.lb ?_|refine Sh.lc ?_|refine Sh.su ?_|(refine Sh.sa hS ?_;clear hS;intro w hS)|((first|refine Sh.aa hS ?_|refine Sh.ab hS ?_|refine Sh.ac hS ?_);clear hS;intro g w hS hge)|refine Sh.ix ?_|refine Sh.up ?_|refine Sh.sl1 ?_|refine Sh.sl2 ?_|refine Sh.sl5 ?_|refine Sh.sl3 ?_|refine Sh.sl4 ?_|refine Sh.eq ?_|refine Sh.ne ?_|refine Sh.ix2 ?_|refine Sh.ix3 ?_|refine Z.bu rfl rfl ?_|refine VM ?_|refine Z.pl (R.cap rfl rfl) ?_|refine Z.pl R.mf ?_|refine Z.pl (R.min2 rfl rfl) ?_|refine G1 ?_|refine G2 ?_|refine G3 ?_|refine G4 ?_|with_reducible (first|refine V0 ?_|refine Z.block ?_)|((with_reducible refine Z.blX ?_ ?_);rotate_left;rfl)|refine VT ?_|refine VF ?_|((first|refine GS ?_ ?_|refine VB ?_ ?_)<;>intro hb<;>(try simp only [J1,J2,J3,J4,J5,J6] at hb)<;>(try (exfalso;first|omega|exact hb trivial))))
      rename Nat => ga
      replace hS := hS.sub (L' := .blk gr 42 [.pointer (some ⟨gw, 0, .none⟩), .int .i64 f.seen, .int .i64 f.agreed] :: CR gw 2 0 (.pointer (some ⟨gg1, 0, .none⟩)) f.c :: .blk gf 102 [.pointer (some ⟨gc, 0, .none⟩), .int .i64 (takeF f x.m).1.seen, .int .i64 (takeF f x.m).1.agreed] :: PC gc 2 0 (.pointer (some ⟨gg, 0, .none⟩)) (takeF f x.m).1.c :: .blk ga 53 (takeF f x.m).2.1.cells :: .blk gm 28 x.cells :: .sl 28 4 (.slice (some ⟨gb, o, none⟩) ms.length cm) (ms.map ShV.cells) :: G :: []) (by repeat (first | exact Sub.rest | exact Sub.nil | exact .skip .rest | exact .skip (.skip .rest) | exact .skip (.skip (.skip .rest)) | apply Sub.keep | refine Sub.cons (by repeat (first | exact At.here | apply At.next)) ?_ | apply Sub.skip))
      refine Z.eff (Z.cl (rtake_z gr gw 2 0 _ f x.m x.v _ _ _ hS (hx.1.sub (by repeat (first | exact Sub.rest | exact Sub.nil | exact .skip .rest | exact .skip (.skip .rest) | exact .skip (.skip (.skip .rest)) | apply Sub.keep | refine Sub.cons (by repeat (first | exact At.here | apply At.next)) ?_ | apply Sub.skip))) hfg (by omega)) rfl ?_) rfl
      clear hS
      rintro e w ⟨rfl, hS⟩
      refine ⟨_, rfl, ?_⟩
      generalize takeF f x.m = Q at *
      repeat' (first|refine VP ?_|refine Sh.la hS ?_|refine Sh.lb ?_|refine Sh.lc ?_|refine Sh.su ?_|(refine Sh.sa hS ?_;clear hS;intro w hS)|((first|refine Sh.aa hS ?_|refine Sh.ab hS ?_|refine Sh.ac hS ?_);clear hS;intro g w hS hge)|refine Sh.ix ?_|refine Sh.up ?_|refine Sh.sl1 ?_|refine Sh.sl2 ?_|refine Sh.sl5 ?_|refine Sh.sl3 ?_|refine Sh.sl4 ?_|refine Sh.eq ?_|refine Sh.ne ?_|refine Sh.ix2 ?_|refine Sh.ix3 ?_|refine Z.bu rfl rfl ?_|refine VM ?_|refine Z.pl (R.cap rfl rfl) ?_|refine Z.pl R.mf ?_|refine Z.pl (R.min2 rfl rfl) ?_|refine G1 ?_|refine G2 ?_|refine G3 ?_|refine G4 ?_|with_reducible (first|refine V0 ?_|refine Z.block ?_)|((with_reducible refine Z.blX ?_ ?_);rotate_left;rfl)|refine VT ?_|refine VF ?_|((first|refine GS ?_ ?_|refine VB ?_ ?_)<;>intro hb<;>(try simp only [J1,J2,J3,J4,J5,J6] at hb)<;>(try (exfalso;first|omega|exact hb trivial))))
      rename Nat => gb2
      refine D.startS hS 23 23 (by kernel_rfl) rfl ?_
      replace hS := hS.drew
      refine Sh.dl 0 1 ?_
      refine Sh.dl 1 3 ?_
      refine D.pl 2 7 rfl D.wantedN (by kernel_rfl) (R.nea rfl rfl rfl (he_self Q.2.1)) ?_
      refine Sh.dp 3 15 ?_
      refine D.slot 168 rfl (fun hb => by exfalso; (try simp only [decide_eq_true_eq, decide_eq_false_iff_not, Bool.not_eq_true', Bool.not_eq_false', Int.not_lt, Int.not_le] at hb) <;> first | omega | exact hb trivial | cases hb) (fun hb => ?_)
      (try simp only [decide_eq_true_eq, decide_eq_false_iff_not, Bool.not_eq_true', Bool.not_eq_false', Int.not_lt, Int.not_le] at hb)
      refine Sh.dp 4 31 ?_
      refine Sh.dp 5 63 ?_
      first | refine D.pr 6 127 rfl (D.wantedT rfl rfl) (by kernel_rfl) rfl ?_ | refine D.pl 6 127 rfl (D.wantedT rfl rfl) (by kernel_rfl) (R.nea rfl rfl rfl rfl) ?_
      refine Sh.dp 7 255 ?_
      refine Sh.dp 8 511 ?_
      refine D.slot 173 rfl (fun hb => by exfalso; (try simp only [decide_eq_true_eq, decide_eq_false_iff_not, Bool.not_eq_true', Bool.not_eq_false', Int.not_lt, Int.not_le] at hb) <;> first | omega | exact hb trivial | cases hb) (fun hb => ?_)
      (try simp only [decide_eq_true_eq, decide_eq_false_iff_not, Bool.not_eq_true', Bool.not_eq_false', Int.not_lt, Int.not_le] at hb)
      refine Sh.dp 9 1023 ?_
      refine Sh.dp 11 3071 ?_
      refine Sh.dp 12 7167 ?_
      refine Sh.dp 13 15359 ?_
      refine Sh.dl 14 31743 ?_
      refine D.eff 10 32767 rfl (D.wantedT rfl rfl) (by kernel_rfl) (by kernel_rfl) (fun _ _ h => h) ?_
      refine WE.guard ?_
      replace hS := hS.fo (R := .blk gf _ _)
      refine Z.cl (pfseen_z gf _ _ Q.1.seen _ _ _ hS) rfl ?_
      clear hS
      rintro e w ⟨rfl, hS⟩
      refine ⟨_, rfl, ?_⟩
      refine ⟨HM.s (hS.sb), ?_⟩
      first | refine D.pr 15 65535 rfl (D.wantedT rfl rfl) (by kernel_rfl) rfl ?_ | refine D.pl 15 65535 rfl (D.wantedT rfl rfl) (by kernel_rfl) (R.nea rfl rfl rfl rfl) ?_
      refine Sh.dp 16 131071 ?_
      refine Sh.dp 17 262143 ?_
      refine D.slot 182 rfl (fun hb => by exfalso; (try simp only [decide_eq_true_eq, decide_eq_false_iff_not, Bool.not_eq_true', Bool.not_eq_false', Int.not_lt, Int.not_le] at hb) <;> first | omega | exact hb trivial | cases hb) (fun hb => ?_)
      (try simp only [decide_eq_true_eq, decide_eq_false_iff_not, Bool.not_eq_true', Bool.not_eq_false', Int.not_lt, Int.not_le] at hb)
      refine Sh.dp 18 524287 ?_
      refine Sh.dp 19 1048575 ?_
      refine D.eff 20 2097151 rfl (D.wantedT rfl rfl) (by kernel_rfl) (by kernel_rfl) (fun _ _ h => h) ?_
      refine WE.guard ?_
      replace hS := hS.sub (L' := PC gc 2 0 (.pointer (some ⟨gg, 0, .none⟩)) Q.1.c :: CR gw 2 0 (.pointer (some ⟨gg1, 0, .none⟩)) Q.1.c :: .blk gr 42 [.pointer (some ⟨gw, 0, .none⟩), .int .i64 Q.1.seen, .int .i64 Q.1.agreed] :: .blk gf 102 [.pointer (some ⟨gc, 0, .none⟩), .int .i64 Q.1.seen, .int .i64 Q.1.agreed] :: .blk gb2 53 Q.2.1.cells :: .blk ga 53 Q.2.1.cells :: .blk gm 28 x.cells :: .sl 28 4 (.slice (some ⟨gb, o, none⟩) ms.length cm) (ms.map ShV.cells) :: G :: []) (by repeat (first | exact Sub.rest | exact Sub.nil | exact .skip .rest | exact .skip (.skip .rest) | exact .skip (.skip (.skip .rest)) | apply Sub.keep | refine Sub.cons (by repeat (first | exact At.here | apply At.next)) ?_ | apply Sub.skip))
      refine Z.cl (same29_z gc gw 2 0 2 0 _ _ Q.1.c _ _ _ hS (by omega)) rfl ?_
      clear hS
      rintro e w ⟨rfl, hS⟩
      refine ⟨_, rfl, ?_⟩
      refine ⟨HM.s (hS.sb), ?_⟩
      refine Sh.dp 21 4194303 ?_
      refine Sh.dp 22 8388607 ?_
      refine D.done (by kernel_rfl) ?_
      repeat' (first|refine VP ?_|refine Sh.la hS ?_|refine Sh.lb ?_|refine Sh.lc ?_|refine Sh.su ?_|(refine Sh.sa hS ?_;clear hS;intro w hS)|((first|refine Sh.aa hS ?_|refine Sh.ab hS ?_|refine Sh.ac hS ?_);clear hS;intro g w hS hge)|refine Sh.ix ?_|refine Sh.up ?_|refine Sh.sl1 ?_|refine Sh.sl2 ?_|refine Sh.sl5 ?_|refine Sh.sl3 ?_|refine Sh.sl4 ?_|refine Sh.eq ?_|refine Sh.ne ?_|refine Sh.ix2 ?_|refine Sh.ix3 ?_|refine Z.bu rfl rfl ?_|refine VM ?_|refine Z.pl (R.cap rfl rfl) ?_|refine Z.pl R.mf ?_|refine Z.pl (R.min2 rfl rfl) ?_|refine G1 ?_|refine G2 ?_|refine G3 ?_|refine G4 ?_|with_reducible (first|refine V0 ?_|refine Z.block ?_)|((with_reducible refine Z.blX ?_ ?_);rotate_left;rfl)|refine VT ?_|refine VF ?_|((first|refine GS ?_ ?_|refine VB ?_ ?_)<;>intro hb<;>(try simp only [J1,J2,J3,J4,J5,J6] at hb)<;>(try (exfalso;first|omega|exact hb trivial))))
      refine Sh.again (ms.length - (q + 1)) [(149, .int .i64 (q + 1 : Nat))] ?_
      exact ⟨q + 1, Q.1, rfl, by omega, rfl, htg.1, by omega, hS.sb⟩
    · repeat' (first|refine VP ?_|refine Sh.la hS ?_|refine Sh.lb ?_|refine Sh.lc ?_|refine Sh.su ?_|(refine Sh.sa hS ?_;clear hS;intro w hS)|((first|refine Sh.aa hS ?_|refine Sh.ab hS ?_|refine Sh.ac hS ?_);clear hS;intro g w hS hge)|refine Sh.ix ?_|refine Sh.up ?_|refine Sh.sl1 ?_|refine Sh.sl2 ?_|refine Sh.sl5 ?_|refine Sh.sl3 ?_|refine Sh.sl4 ?_|refine Sh.eq ?_|refine Sh.ne ?_|refine Sh.ix2 ?_|refine Sh.ix3 ?_|refine Z.bu rfl rfl ?_|refine VM ?_|refine Z.pl (R.cap rfl rfl) ?_|refine Z.pl R.mf ?_|refine Z.pl (R.min2 rfl rfl) ?_|refine G1 ?_|refine G2 ?_|refine G3 ?_|refine G4 ?_|with_reducible (first|refine V0 ?_|refine Z.block ?_)|((with_reducible refine Z.blX ?_ ?_);rotate_left;rfl)|refine VT ?_|refine VF ?_|((first|refine GS ?_ ?_|refine VB ?_ ?_)<;>intro hb<;>(try simp only [J1,J2,J3,J4,J5,J6] at hb)<;>(try (exfalso;first|omega|exact hb trivial))))
      first | refine Z.done hS Try.results3 (Z.RV.tmp rfl Z.RV.nil) ?_ | refine Z.doneN hS Try.results3 (Z.RV.tmp rfl Z.RV.nil) ?_
      exact ⟨rfl, hS.chg⟩
set_option maxRecDepth 100000 in
theorem followTakes_lifted (os : Os) (started : os.Started) (H : Type) (enc : TypeId × Value → H) :
    ReturnsInHanded {} Try.checked os 3 .any (Rows.followTakesSpec.pre6 enc Try.prog Try.f3 Rows.followTakesRow.domain false) (Rows.followTakesSpec.post enc Try.prog Try.f3 false Rows.followTakesRow.fresh Rows.followTakesRow.handsOn Rows.followTakesRow.again) := by
  refine returnsInHanded_of_change (C := Try.checked) Try.own started (by kernel_rfl) Try.func3
    (ChangeSpec.witness6 (enc := enc) (C := Try.checked) false ⟨#[], #[.slice none 0 0, .slice none 0 0, .slice none 0 0, .int .i64 0], []⟩ 8 (by kernel_rfl) (by kernel_rfl) (by kernel_rfl) (by kernel_rfl)) ?_
  intro W base args ds gs before hval0 hW _ _
  have hval : ∀ (j : Nat) t v, Try.f3.params[j]? = some t → args[j]? = some v → Value.okWide Try.prog W .any base t v := hval0
  have hW0 := hW
  obtain ⟨p, q, hA0, hV, hpq, _, _⟩ := hW
  obtain ⟨la⟩ := args
  have hA : DataW.TrodAll enc Try.prog W 0 (fun _ => true) true [22, 23, 22, 3] la ds p := by have := hA0; rw [Try.params3] at this; exact this
  rw [Try.params3] at hval
  obtain ⟨v0, la0, d0, ds0, p0, q0, rfl, rfl, rfl, h0, hA⟩ := trodAll_cons hA
  obtain ⟨v1, la1, d1, ds1, p1, q1, rfl, rfl, rfl, h1, hA⟩ := trodAll_cons hA
  obtain ⟨v2, la2, d2, ds2, p2, q2, rfl, rfl, rfl, h2, hA⟩ := trodAll_cons hA
  obtain ⟨v3, la3, d3, ds3, p3, q3, rfl, rfl, rfl, h3, hA⟩ := trodAll_cons hA
  obtain ⟨rfl, rfl, rfl⟩ := trodAll_nil hA
  obtain ⟨l0, A0, cap0, rfl, hr0⟩ := arg_ints (hval 0 _ _ rfl rfl) h0
  obtain ⟨l1, A1, cap1, rfl, hr1⟩ := arg_ships (hval 1 _ _ rfl rfl) h1
  obtain ⟨l2, A2, cap2, rfl, _, hr2⟩ := arg_intsr (hval 2 _ _ rfl rfl) h2
  obtain ⟨z3, rfl, hr3⟩ := arg_int (hval 3 _ _ rfl rfl) h3
  have fin : Calls Try.prog 3 _ W fun e W' => e = .returned (.bool true) ∧ Chg [] W W' := takes_z l0 A0 cap0 l1 A1 cap1 l2 A2 cap2 z3 W hr0 hr1 hr2 hr3
  refine fin.mono fun e W' ⟨he, hc⟩ => ⟨_, he, ?_⟩
  exact law_post Try.laidOut (by rw [Try.params3]; intro t ht; simp only [List.mem_cons, List.not_mem_nil, or_false] at ht; rcases ht with rfl | rfl | rfl | rfl <;> exact ⟨by kernel_rfl, of_decide_eq_true (by kernel_rfl)⟩) rfl rfl Try.underlying4 rfl hW0 hc.below
theorem followTakes_holds : Rows.FollowTakesSaid :=
  OpenClaim.holds_of_wide 3 Try.f3 rfl rfl rfl rfl rfl rfl rfl ⟨rfl, rfl, rfl, rfl, rfl⟩ rfl rfl rfl rfl rfl (by kernel_rfl) Try.func3 (by kernel_rfl)
    (of_decide_eq_true (by kernel_rfl)) (by unfold Func.isWrapper; rw [if_neg (of_decide_eq_false (by kernel_rfl))]; exact ⟨rfl, rfl⟩)
    (fun os started H enc _ => followTakes_lifted os started H enc)
end Go.Proofs.Ytmjdkgpckcdndaa
