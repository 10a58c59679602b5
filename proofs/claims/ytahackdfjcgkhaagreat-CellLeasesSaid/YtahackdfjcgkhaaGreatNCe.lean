/-
  CellLeases: for every input the call returns true, and the arguments read afterwards as they read before.
-/
import Derived.Test.YtahackdfjcgkhaaGreatYd
import Derived.Test.YtahackdfjcgkhaaGreatCG
import Derived.Test.YtahackdfjcgkhaaGreatNCeP
import Derived.Test.YtahackdfjcgkhaaGreatH1
import Derived.Test.YtahackdfjcgkhaaGreatML
import Derived.Test.YtahackdfjcgkhaaGreatA1
import Derived.Test.YtahackdfjcgkhaaGreatNLaw27
import Derived.Test.YtahackdfjcgkhaaGreatNOnP
import Derived.Test.YtahackdfjcgkhaaGreatNRfP
namespace Go.Proofs.YtahackdfjcgkhaaGreat
open Go.RowKit Go.ChangeShapes Go.WideShapes Go.ChangeAt
set_option linter.unusedSimpArgs false
set_option linter.unusedVariables false

theorem give1 {z ep : Int} (h1 : 1 ≤ ep) (h2 : ep ≤ 1048576) {cl : Int} (hc : cl < ep) : giveP ⟨z, cl, []⟩ ⟨z, ep, 0, 0, 100⟩ = (⟨z, cl, [⟨z, ep, 0, 0, 100⟩]⟩, 0) := by
  unfold giveP
  rw [if_pos (by unfold okW; simp only; omega), if_pos rfl, if_neg (by simp only; omega)]
  rfl
theorem holds1 (n c1 c2 e E t u : Int) : holdsP [⟨n, c1, e, u⟩] c2 E n t = (decide (c1 = c2) && decide (e = E ∧ t < u)) := by
  by_cases h1 : c1 = c2 <;> by_cases h2 : e = E <;> by_cases h3 : t < u <;> simp [holdsP, liveL, h1, h2, h3]
theorem accs1 {z ep tk : Int} (h1 : 1 ≤ ep) (ht : 0 ≤ tk ∧ tk < 100) : accs [⟨z, ep, 0, 0, 100⟩] 0 tk 0 = ep := by
  unfold accs
  simp only [List.foldl_cons, List.foldl_nil]
  rw [if_pos ⟨trivial, ht⟩]
  omega
set_option maxHeartbeats 8000000 in
theorem leases_z (l : List Int) (A : Option Addr) (cap : Nat) (z1 z2 z3 z4 : Int) (r : World) (hr0 : Rd r 1 A l.length (l.map (Value.int .i64))) (hz1 : -9223372036854775808 ≤ z1 ∧ z1 ≤ 9223372036854775807) (hz2 : -9223372036854775808 ≤ z2 ∧ z2 ≤ 9223372036854775807) (hz3 : -9223372036854775808 ≤ z3 ∧ z3 ≤ 9223372036854775807) (hz4 : -9223372036854775808 ≤ z4 ∧ z4 ≤ 9223372036854775807) :
    Calls Tryz.prog 9 #[.slice A l.length cap, .int .i64 z1, .int .i64 z2, .int .i64 z3, .int .i64 z4] r fun e w' => e = .returned (.bool true) ∧ Chg [] r w' := by
  have hS := Sep.root r
  refine Z.enter Tryz.func9 Tryz.ntmps9 rfl rfl ?_
  repeat' (first|refine Kd ?_|(refine Sh.sa hS ?_;clear hS;intro w hS)|(refine K3 ?_;clear hS;intro g w hS hge)|((first|refine GS ?_ ?_|refine VB ?_ ?_)<;>intro hb<;>(try simp only [J1,J2,J3,J4,J5,J6] at hb)<;>(try (exfalso;first|omega|exact hb trivial))))
  refine Z.eff (Z.cl (awake28_z _ _ _ hS) rfl ?_) rfl
  clear hS
  rintro e w ⟨rfl, hS⟩
  refine ⟨_, rfl, ?_⟩
  repeat' (first|refine Kd ?_|(refine Sh.sa hS ?_;clear hS;intro w hS)|(refine K3 ?_;clear hS;intro g w hS hge)|((first|refine GS ?_ ?_|refine VB ?_ ?_)<;>intro hb<;>(try simp only [J1,J2,J3,J4,J5,J6] at hb)<;>(try (exfalso;first|omega|exact hb trivial))))
  refine Z.eff (Z.cl (lightS_z A l.length cap _ _ _ hS) rfl ?_) rfl
  clear hS
  rintro e w ⟨rfl, hS⟩
  refine ⟨_, rfl, ?_⟩
  repeat' (first|refine Kd ?_|(refine Sh.sa hS ?_;clear hS;intro w hS)|(refine K3 ?_;clear hS;intro g w hS hge)|((first|refine GS ?_ ?_|refine VB ?_ ?_)<;>intro hb<;>(try simp only [J1,J2,J3,J4,J5,J6] at hb)<;>(try (exfalso;first|omega|exact hb trivial))))
  · refine Dnt Tryz.results9 ?_
    exact ⟨rfl, hS.chg⟩
  rename _ ≤ (150 : Int) => hlt
  refine Z.eff (Z.cl (history_z l A cap _ _ _ hS hr0 (by omega)) rfl ?_) rfl
  clear hS
  rintro e w ⟨vh, rfl, hS⟩
  refine ⟨_, rfl, ?_⟩
  have hH := hist_isH l
  have hHl := hist_len l
  have hHe := hist_ep l
  generalize (hist l).h = h at *
  obtain ⟨Ah, ch, rfl, _⟩ := (hS.slrows .here).mform
  repeat' (first|refine Kd ?_|(refine Sh.sa hS ?_;clear hS;intro w hS)|(refine K3 ?_;clear hS;intro g w hS hge)|((first|refine GS ?_ ?_|refine VB ?_ ?_)<;>intro hb<;>(try simp only [J1,J2,J3,J4,J5,J6] at hb)<;>(try (exfalso;first|omega|exact hb trivial))))
  refine Z.eff (Z.cl (pcfold_ok 1 0 h _ _ _ _ hS (Reads.of_at (e := 49) .here) (by omega) hH) rfl ?_) rfl
  clear hS
  rintro e w ⟨gc, gg, rfl, hS⟩
  refine ⟨_, rfl, ?_⟩
  obtain ⟨hg, hch, _⟩ := hH.good
  generalize cpOf h = c at *
  subst hch
  have hok := hg.ok
  have hge := hg.epoch
  replace hS := (Sep.gate0 (hS.focus (R := .blk gg _ _) (by repeat (first | exact At.here | apply At.next)))).focus (R := PC gc _ _ _ _) (by repeat (first | exact At.here | apply At.next))
  replace hS := hS.sub (L' := PC gc 1 0 (.pointer (some ⟨gg, 0, .none⟩)) c :: GP gg ⟨1, 0, []⟩ :: []) (by repeat (first | exact Sub.rest | exact Sub.nil | exact .skip .rest | exact .skip (.skip .rest) | exact .skip (.skip (.skip .rest)) | apply Sub.keep | refine Sub.cons (by repeat (first | exact At.here | apply At.next)) ?_ | apply Sub.skip))
  repeat' (first|refine Kd ?_|(refine Sh.sa hS ?_;clear hS;intro w hS)|(refine K3 ?_;clear hS;intro g w hS hge)|((first|refine GS ?_ ?_|refine VB ?_ ?_)<;>intro hb<;>(try simp only [J1,J2,J3,J4,J5,J6] at hb)<;>(try (exfalso;first|omega|exact hb trivial))))
  refine Z.eff (Z.cl (pcepoch_z gc 1 0 _ c _ _ _ hS (by omega)) rfl ?_) rfl
  clear hS
  rintro e w ⟨rfl, hS⟩
  refine ⟨_, rfl, ?_⟩
  repeat' (first|refine Kd ?_|(refine Sh.sa hS ?_;clear hS;intro w hS)|(refine K3 ?_;clear hS;intro g w hS hge)|((first|refine GS ?_ ?_|refine VB ?_ ?_)<;>intro hb<;>(try simp only [J1,J2,J3,J4,J5,J6] at hb)<;>(try (exfalso;first|omega|exact hb trivial))))
  generalize hep : max 1 (epochOf c.h) = ep at *
  have hep1 : 1 ≤ ep ∧ ep ≤ 61 := by omega
  have hep3 : epochOf c.h ≤ ep := by omega
  refine Z.eff (Z.cl (pcgate_z gc gg 1 0 c _ _ _ hS) rfl ?_) rfl
  clear hS
  rintro e w ⟨rfl, hS⟩
  refine ⟨_, rfl, ?_⟩
  repeat' (first|refine Kd ?_|(refine Sh.sa hS ?_;clear hS;intro w hS)|(refine K3 ?_;clear hS;intro g w hS hge)|((first|refine GS ?_ ?_|refine VB ?_ ?_)<;>intro hb<;>(try simp only [J1,J2,J3,J4,J5,J6] at hb)<;>(try (exfalso;first|omega|exact hb trivial))))
  replace hS := hS.fo (R := GP gg _)
  refine Z.eff (Z.cl (ggive_z gg ⟨1, 0, []⟩ ⟨1, ep, 0, 0, 100⟩ _ _ _ hS (by simp) (by simp)) rfl ?_) rfl
  clear hS
  rintro e w ⟨rfl, hS⟩
  refine ⟨_, rfl, ?_⟩
  rw [give1 (by omega) (by omega) (by omega)] at hS ⊢
  repeat' (first|refine Kd ?_|(refine Sh.sa hS ?_;clear hS;intro w hS)|(refine K3 ?_;clear hS;intro g w hS hge)|((first|refine GS ?_ ?_|refine VB ?_ ?_)<;>intro hb<;>(try simp only [J1,J2,J3,J4,J5,J6] at hb)<;>(try (exfalso;first|omega|exact hb trivial))))
  refine Z.eff (Z.cl (modS_z z1 8 _ _ _ hS (by omega) (by omega)) rfl ?_) rfl
  clear hS
  rintro e w ⟨rfl, hS⟩
  refine ⟨_, rfl, ?_⟩
  have hm1 := modN_bd z1 8 (by omega)
  repeat' (first|refine Kd ?_|(refine Sh.sa hS ?_;clear hS;intro w hS)|(refine K3 ?_;clear hS;intro g w hS hge)|((first|refine GS ?_ ?_|refine VB ?_ ?_)<;>intro hb<;>(try simp only [J1,J2,J3,J4,J5,J6] at hb)<;>(try (exfalso;first|omega|exact hb trivial))))
  refine Z.eff (Z.cl (modS_z z2 8 _ _ _ hS (by omega) (by omega)) rfl ?_) rfl
  clear hS
  rintro e w ⟨rfl, hS⟩
  refine ⟨_, rfl, ?_⟩
  have hm2 := modN_bd z2 8 (by omega)
  repeat' (first|refine Kd ?_|(refine Sh.sa hS ?_;clear hS;intro w hS)|(refine K3 ?_;clear hS;intro g w hS hge)|((first|refine GS ?_ ?_|refine VB ?_ ?_)<;>intro hb<;>(try simp only [J1,J2,J3,J4,J5,J6] at hb)<;>(try (exfalso;first|omega|exact hb trivial))))
  refine Z.eff (Z.cl (modS_z z3 40 _ _ _ hS (by omega) (by omega)) rfl ?_) rfl
  clear hS
  rintro e w ⟨rfl, hS⟩
  refine ⟨_, rfl, ?_⟩
  have hm3 := modN_bd z3 40 (by omega)
  repeat' (first|refine Kd ?_|(refine Sh.sa hS ?_;clear hS;intro w hS)|(refine K3 ?_;clear hS;intro g w hS hge)|((first|refine GS ?_ ?_|refine VB ?_ ?_)<;>intro hb<;>(try simp only [J1,J2,J3,J4,J5,J6] at hb)<;>(try (exfalso;first|omega|exact hb trivial))))
  generalize hc1 : 1 + modN z1 8 = c1 at *
  generalize hc2 : 1 + modN z2 8 = c2 at *
  generalize modN z3 40 = wt at *
  have hb1 : 1 ≤ c1 ∧ c1 ≤ 8 := by omega
  have hb2 : 1 ≤ c2 ∧ c2 ≤ 8 := by omega
  replace hS := hS.focus (R := PC gc _ _ _ _) (by repeat (first | exact At.here | apply At.next))
  refine Z.eff (Z.cl (pexec_z gc gg 1 0 c ⟨1, 0, [⟨1, ep, 0, 0, 100⟩]⟩ 0 10 (takeRq c1) _ _ _ hS (hg.cg hg.qok) (by intro y hy; simp at hy; subst hy; simp only; omega) (by simp) (by omega)) rfl ?_) rfl
  clear hS
  rintro e w ⟨rfl, hS⟩
  refine ⟨_, rfl, ?_⟩
  rw [show (⟨1, 0, [⟨1, ep, 0, 0, 100⟩]⟩ : Ga).ws = [⟨1, ep, 0, 0, 100⟩] from rfl, accs1 (by omega) (by omega)] at hS ⊢
  rcases hql : c.q.l with _ | ⟨y, ys⟩
  · rw [take_none hg hb1 (by omega) hep3 hql] at hS ⊢
    repeat' (first|refine Kd ?_|(refine Sh.sa hS ?_;clear hS;intro w hS)|(refine K3 ?_;clear hS;intro g w hS hge)|((first|refine GS ?_ ?_|refine VB ?_ ?_)<;>intro hb<;>(try simp only [J1,J2,J3,J4,J5,J6] at hb)<;>(try (exfalso;first|omega|exact hb trivial))))
    replace hS := hS.fo (R := PC gc _ _ _ _)
    refine Z.eff (Z.cl (pcitems_z gc 1 0 _ c _ _ _ hS (by omega)) rfl ?_) rfl
    clear hS
    rintro e w ⟨A2, k2, rfl, hS⟩
    refine ⟨_, rfl, ?_⟩
    rw [hql] at hS ⊢
    repeat' (first|refine Kd ?_|(refine Sh.sa hS ?_;clear hS;intro w hS)|(refine K3 ?_;clear hS;intro g w hS hge)|((first|refine GS ?_ ?_|refine VB ?_ ?_)<;>intro hb<;>(try simp only [J1,J2,J3,J4,J5,J6] at hb)<;>(try (exfalso;first|omega|exact hb trivial))))
    all_goals (try (exfalso; simp at hb; done))
    refine Dnt Tryz.results9 ?_
    exact ⟨by simp [Z.packR, errR], hS.chg⟩
  have hyl : c.q.l.length = ys.length + 1 := by rw [hql]; rfl
  rw [take_some hg hb1 (by omega) hep3 hql] at hS ⊢
  have hqk := lease_qok (ep := ep) hg hb1 hql
  generalize hR : ([⟨y.number, c1, ep, 30⟩] : List Le) = rs at *
  repeat' (first|refine Kd ?_|(refine Sh.sa hS ?_;clear hS;intro w hS)|(refine K3 ?_;clear hS;intro g w hS hge)|((first|refine GS ?_ ?_|refine VB ?_ ?_)<;>intro hb<;>(try simp only [J1,J2,J3,J4,J5,J6] at hb)<;>(try (exfalso;first|omega|exact hb trivial))))
  rename Nat => g15
  have hy0 : c.q.l[0]'(by omega) = y := by simp [hql]
  replace hS := hS.fo (R := PC gc _ _ _ _)
  refine Z.eff (Z.cl (pcitems_z gc 1 0 _ (leased c rs) _ _ _ hS (by show c.q.l.length ≤ 1000; omega)) rfl ?_) rfl
  clear hS
  rintro e w ⟨A2, k2, rfl, hS⟩
  refine ⟨_, rfl, ?_⟩
  rw [show (leased c rs).q.l = c.q.l from rfl] at hS ⊢
  repeat' (first|refine Kd ?_|(refine Sh.sa hS ?_;clear hS;intro w hS)|(refine K3 ?_;clear hS;intro g w hS hge)|((first|refine GS ?_ ?_|refine VB ?_ ?_)<;>intro hb<;>(try simp only [J1,J2,J3,J4,J5,J6] at hb)<;>(try (exfalso;first|omega|exact hb trivial))))
  all_goals (try (exfalso; omega))
  refine D.startS (Lr := [.blk g15 51 (⟨0, 0, y.number, y.value⟩ : Rep).cells]) (hS.sb) 23 23 (by kernel_rfl) rfl ?_
  replace hS := hS.drew
  refine Sh.dp 0 1 ?_
  refine Sh.dl 1 3 ?_
  first | refine D.pr 2 7 rfl D.wantedN (by kernel_rfl) rfl ?_ | refine D.pl 2 7 rfl D.wantedN (by kernel_rfl) (R.nea rfl rfl rfl rfl) ?_
  refine Sh.dp 3 15 ?_
  refine D.slot 66 rfl (fun hb => by exfalso; (try simp only [decide_eq_true_eq, decide_eq_false_iff_not, Bool.not_eq_true', Bool.not_eq_false', Int.not_lt, Int.not_le] at hb) <;> first | omega | exact hb trivial | cases hb | simp at hb) (fun hb => ?_)
  (try simp only [decide_eq_true_eq, decide_eq_false_iff_not, Bool.not_eq_true', Bool.not_eq_false', Int.not_lt, Int.not_le] at hb)
  refine Sh.dp 4 31 ?_
  refine Sh.dp 6 95 ?_
  refine Sh.dl 5 127 ?_
  refine D.eff 7 255 rfl (D.wantedT rfl rfl) (by kernel_rfl) (by kernel_rfl) (fun _ _ h => h) ?_
  refine WE.guard ?_
  replace hS := hS.fo (R := PC gc _ _ _ _)
  refine Z.cl (pcitems_z gc 1 0 _ (leased c rs) _ _ _ hS (by show c.q.l.length ≤ 1000; omega)) rfl ?_
  clear hS
  rintro e w ⟨A3, k3, rfl, hS⟩
  refine ⟨_, rfl, ?_⟩
  rw [show (leased c rs).q.l = c.q.l from rfl] at hS ⊢
  obtain ⟨gb, o, rfl, _, hra⟩ := (hS.slrows (e := 79) (v := .slice A3 c.q.l.length k3) (by repeat (first | exact At.here | apply At.next))).mat (by omega) (q := 0) (by omega)
  rw [hy0] at hra
  refine ⟨HM.s (hS.sb), ?_⟩
  first | refine D.ixn 8 511 rfl (D.wantedT rfl rfl) (by kernel_rfl) rfl rfl rfl (by omega) ?_ | refine D.ix 8 511 rfl (D.wantedT rfl rfl) (by kernel_rfl) rfl rfl rfl (by omega) ?_ | refine D.ia 8 511 rfl (D.wantedT rfl rfl) (by kernel_rfl) rfl rfl rfl (by omega) ?_
  refine Sh.dp 9 1023 ?_
  refine D.eff 10 2047 rfl (D.wantedT rfl rfl) (by kernel_rfl) (by kernel_rfl) (fun _ _ h => h) ?_
  refine WE.guard ?_
  first | refine Z.ldR rfl hra rfl ?_ | refine Z.ldE (q := 0) rfl hra rfl ?_
  refine ⟨HM.s (hS.sb), ?_⟩
  first | refine D.pr 11 4095 rfl (D.wantedT rfl rfl) (by kernel_rfl) rfl ?_ | refine D.pl 11 4095 rfl (D.wantedT rfl rfl) (by kernel_rfl) (R.nea rfl rfl rfl rfl) ?_
  refine Sh.dp 12 8191 ?_
  refine Sh.dp 13 16383 ?_
  refine D.slot 76 rfl (fun hb => by exfalso; (try simp only [decide_eq_true_eq, decide_eq_false_iff_not, Bool.not_eq_true', Bool.not_eq_false', Int.not_lt, Int.not_le] at hb) <;> first | omega | exact hb trivial | cases hb | simp at hb) (fun hb => ?_)
  (try simp only [decide_eq_true_eq, decide_eq_false_iff_not, Bool.not_eq_true', Bool.not_eq_false', Int.not_lt, Int.not_le] at hb)
  refine Sh.dp 14 32767 ?_
  refine Sh.dp 16 98303 ?_
  refine Sh.dl 15 131071 ?_
  refine D.eff 17 262143 rfl (D.wantedT rfl rfl) (by kernel_rfl) (by kernel_rfl) (fun _ _ h => h) ?_
  refine WE.guard ?_
  replace hS := hS.fo (R := PC gc _ _ _ _)
  refine Z.cl (pcitems_z gc 1 0 _ (leased c rs) _ _ _ hS (by show c.q.l.length ≤ 1000; omega)) rfl ?_
  clear hS
  rintro e w ⟨A4, k4, rfl, hS⟩
  refine ⟨_, rfl, ?_⟩
  rw [show (leased c rs).q.l = c.q.l from rfl] at hS ⊢
  obtain ⟨gb, o, rfl, _, hra⟩ := (hS.slrows (e := 79) (v := .slice A4 c.q.l.length k4) (by repeat (first | exact At.here | apply At.next))).mat (by omega) (q := 0) (by omega)
  rw [hy0] at hra
  refine ⟨HM.s (hS.sb), ?_⟩
  first | refine D.ixn 18 524287 rfl (D.wantedT rfl rfl) (by kernel_rfl) rfl rfl rfl (by omega) ?_ | refine D.ix 18 524287 rfl (D.wantedT rfl rfl) (by kernel_rfl) rfl rfl rfl (by omega) ?_ | refine D.ia 18 524287 rfl (D.wantedT rfl rfl) (by kernel_rfl) rfl rfl rfl (by omega) ?_
  refine Sh.dp 19 1048575 ?_
  refine D.eff 20 2097151 rfl (D.wantedT rfl rfl) (by kernel_rfl) (by kernel_rfl) (fun _ _ h => h) ?_
  refine WE.guard ?_
  refine Z.ldE (q := 1) rfl hra rfl ?_
  refine ⟨HM.s (hS.sb), ?_⟩
  first | refine D.pr 21 4194303 rfl (D.wantedT rfl rfl) (by kernel_rfl) rfl ?_ | refine D.pl 21 4194303 rfl (D.wantedT rfl rfl) (by kernel_rfl) (R.nea rfl rfl rfl rfl) ?_
  refine Sh.dp 22 8388607 ?_
  refine D.done (by kernel_rfl) ?_
  replace hS := hS.sub (L' := .blk g15 51 (⟨0, 0, y.number, y.value⟩ : Rep).cells :: PC gc 1 0 (.pointer (some ⟨gg, 0, .none⟩)) (leased c rs) :: GP gg ⟨1, 0, [⟨1, ep, 0, 0, 100⟩]⟩ :: []) (by repeat (first | exact Sub.rest | exact Sub.nil | exact .skip .rest | exact .skip (.skip .rest) | exact .skip (.skip (.skip .rest)) | apply Sub.keep | refine Sub.cons (by repeat (first | exact At.here | apply At.next)) ?_ | apply Sub.skip))
  repeat' (first|refine Kdn ?_|(refine Sh.sa hS ?_;clear hS;intro w hS)|(refine K3 ?_;clear hS;intro g w hS hge)|((first|refine GS ?_ ?_|refine VB ?_ ?_)<;>intro hb<;>(try simp only [J1,J2,J3,J4,J5,J6] at hb)<;>(try (exfalso;first|omega|exact hb trivial))))
  refine Z.thN ?_
  repeat' (first|refine Kdn ?_|(refine Sh.sa hS ?_;clear hS;intro w hS)|(refine K3 ?_;clear hS;intro g w hS hge)|((first|refine GS ?_ ?_|refine VB ?_ ?_)<;>intro hb<;>(try simp only [J1,J2,J3,J4,J5,J6] at hb)<;>(try (exfalso;first|omega|exact hb trivial))))
  refine Z.thN ?_
  refine Z.seq ?_
  refine Z.cut [16, 86, 87, 88, 89, 90, 91, 92] (fun w s => s = [(16, .bool (decide (c1 = c2) && decide (wt < 20)))] ∧ Sep r [] (.blk g15 51 (⟨0, 0, y.number, y.value⟩ : Rep).cells :: PC gc 1 0 (.pointer (some ⟨gg, 0, .none⟩)) (leased c rs) :: GP gg ⟨1, 0, [⟨1, ep, 0, 0, 100⟩]⟩ :: []) w) ?_ ?_
  · repeat' (first|refine Kd ?_|(refine Sh.sa hS ?_;clear hS;intro w hS)|(refine K3 ?_;clear hS;intro g w hS hge)|((first|refine GS ?_ ?_|refine VB ?_ ?_)<;>intro hb<;>(try simp only [J1,J2,J3,J4,J5,J6] at hb)<;>(try (exfalso;first|omega|exact hb trivial))))
    all_goals
      refine Sh.cut [(16, _)] ?_
      refine ⟨?_, hS.sb⟩
      simp_all
  clear hS
  rintro q1 w _ ⟨rfl, hS⟩
  refine Z.seq ?_
  refine Z.cut [16, 93, 94, 95, 96, 97, 98, 99, 100, 101, 102, 103, 104, 105, 106, 107, 108, 109, 110, 111, 112, 113, 114, 115] (fun w s => ∃ (rs2 : List Le) (G : Ga) (E : Int), s = [(16, .bool (holdsP rs2 c2 E y.number (10 + wt)))] ∧ QOk ⟨c.q.l, rs2, c.q.most⟩ ∧ accs G.ws 0 (10 + wt) 0 = E ∧ ep ≤ E ∧ E ≤ 62 ∧ (∀ z, z ∈ G.ws → 1 ≤ z.epoch ∧ z.epoch ≤ 1048576) ∧ G.ws.length ≤ 10 ∧ Sep r [] (.blk g15 51 (⟨0, 0, y.number, y.value⟩ : Rep).cells :: PC gc 1 0 (.pointer (some ⟨gg, 0, .none⟩)) (leased c rs2) :: GP gg G :: []) w) ?_ ?_
  · repeat' (first|refine Kd ?_|(refine Sh.sa hS ?_;clear hS;intro w hS)|(refine K3 ?_;clear hS;intro g w hS hge)|((first|refine GS ?_ ?_|refine VB ?_ ?_)<;>intro hb<;>(try simp only [J1,J2,J3,J4,J5,J6] at hb)<;>(try (exfalso;first|omega|exact hb trivial))))
    refine Z.eff (Z.cl (modS_z z4 3 _ _ _ hS (by omega) (by omega)) rfl ?_) rfl
    clear hS
    rintro e w ⟨rfl, hS⟩
    refine ⟨_, rfl, ?_⟩
    repeat' (first|refine Kd ?_|(refine Sh.sa hS ?_;clear hS;intro w hS)|(refine K3 ?_;clear hS;intro g w hS hge)|((first|refine GS ?_ ?_|refine VB ?_ ?_)<;>intro hb<;>(try simp only [J1,J2,J3,J4,J5,J6] at hb)<;>(try (exfalso;first|omega|exact hb trivial))))
    · replace hS := (hS.focus (R := GP gg _) (by repeat (first | exact At.here | apply At.next))).focus (R := PC gc _ _ _ _) (by repeat (first | exact At.here | apply At.next))
      refine Z.eff (Z.cl (pccrash_z gc gg 1 0 (leased c rs) ⟨1, 0, [⟨1, ep, 0, 0, 100⟩]⟩ _ _ _ hS) rfl ?_) rfl
      clear hS
      rintro e w ⟨v1, rfl, hS⟩
      refine ⟨_, rfl, ?_⟩
      repeat' (first|refine Kd ?_|(refine Sh.sa hS ?_;clear hS;intro w hS)|(refine K3 ?_;clear hS;intro g w hS hge)|((first|refine GS ?_ ?_|refine VB ?_ ?_)<;>intro hb<;>(try simp only [J1,J2,J3,J4,J5,J6] at hb)<;>(try (exfalso;first|omega|exact hb trivial))))
      refine Z.eff (Z.cl (pcgate_z gc gg 1 0 _ _ _ _ hS) rfl ?_) rfl
      clear hS
      rintro e w ⟨rfl, hS⟩
      refine ⟨_, rfl, ?_⟩
      repeat' (first|refine Kd ?_|(refine Sh.sa hS ?_;clear hS;intro w hS)|(refine K3 ?_;clear hS;intro g w hS hge)|((first|refine GS ?_ ?_|refine VB ?_ ?_)<;>intro hb<;>(try simp only [J1,J2,J3,J4,J5,J6] at hb)<;>(try (exfalso;first|omega|exact hb trivial))))
      replace hS := hS.fo (R := GP gg _)
      refine Z.eff (Z.cl (ggive_z gg ⟨1, 0, []⟩ ⟨1, ep, 0, 0, 100⟩ _ _ _ hS (by simp) (by simp)) rfl ?_) rfl
      clear hS
      rintro e w ⟨rfl, hS⟩
      refine ⟨_, rfl, ?_⟩
      rw [give1 (by omega) (by omega) (by omega)] at hS ⊢
      repeat' (first|refine Kd ?_|(refine Sh.sa hS ?_;clear hS;intro w hS)|(refine K3 ?_;clear hS;intro g w hS hge)|((first|refine GS ?_ ?_|refine VB ?_ ?_)<;>intro hb<;>(try simp only [J1,J2,J3,J4,J5,J6] at hb)<;>(try (exfalso;first|omega|exact hb trivial))))
      refine Z.cutE [(16, _)] (by repeat (first | with_reducible exact Same.refl | with_reducible exact Same.mix | ((with_reducible refine Same.upd ?_ ?_); · rfl) | ((with_reducible refine Same.cons ?_ ?_); · rfl) | with_reducible refine Same.nil ?_ | ((with_reducible refine Same.mixS ?_ ?_); · rfl))) (by repeat (first | exact trivial | refine ⟨rfl, ?_⟩)) ?_
      exact ⟨[], ⟨1, 0, [⟨1, ep, 0, 0, 100⟩]⟩, ep, by simp [holdsP], hqk.forget, accs1 (by omega) (by omega), by omega, by omega, by intro z hz; simp at hz; subst hz; simp only; omega, by simp, hS.sb⟩
    · replace hS := hS.fo (R := PC gc _ _ _ _)
      refine Z.eff (Z.cl (pcgate_z gc gg 1 0 _ _ _ _ hS) rfl ?_) rfl
      clear hS
      rintro e w ⟨rfl, hS⟩
      refine ⟨_, rfl, ?_⟩
      repeat' (first|refine Kd ?_|(refine Sh.sa hS ?_;clear hS;intro w hS)|(refine K3 ?_;clear hS;intro g w hS hge)|((first|refine GS ?_ ?_|refine VB ?_ ?_)<;>intro hb<;>(try simp only [J1,J2,J3,J4,J5,J6] at hb)<;>(try (exfalso;first|omega|exact hb trivial))))
      replace hS := hS.fo (R := GP gg _)
      refine Z.eff (Z.cl (gclose_f gg ⟨1, 0, [⟨1, ep, 0, 0, 100⟩]⟩ ep _ _ _ hS (by simp)) rfl ?_) rfl
      clear hS
      rintro e w ⟨rfl, hS⟩
      refine ⟨_, rfl, ?_⟩
      rw [show closeP ⟨1, 0, [⟨1, ep, 0, 0, 100⟩]⟩ ep = (⟨1, ep, []⟩, 0) from by unfold closeP; rw [if_pos (by omega)]; simp; omega] at hS ⊢
      repeat' (first|refine Kd ?_|(refine Sh.sa hS ?_;clear hS;intro w hS)|(refine K3 ?_;clear hS;intro g w hS hge)|((first|refine GS ?_ ?_|refine VB ?_ ?_)<;>intro hb<;>(try simp only [J1,J2,J3,J4,J5,J6] at hb)<;>(try (exfalso;first|omega|exact hb trivial))))
      replace hS := hS.fo (R := PC gc _ _ _ _)
      refine Z.eff (Z.cl (pcgate_z gc gg 1 0 _ _ _ _ hS) rfl ?_) rfl
      clear hS
      rintro e w ⟨rfl, hS⟩
      refine ⟨_, rfl, ?_⟩
      repeat' (first|refine Kd ?_|(refine Sh.sa hS ?_;clear hS;intro w hS)|(refine K3 ?_;clear hS;intro g w hS hge)|((first|refine GS ?_ ?_|refine VB ?_ ?_)<;>intro hb<;>(try simp only [J1,J2,J3,J4,J5,J6] at hb)<;>(try (exfalso;first|omega|exact hb trivial))))
      replace hS := hS.fo (R := GP gg _)
      refine Z.eff (Z.cl (ggive_z gg ⟨1, ep, []⟩ ⟨1, ep + 1, 0, 0, 100⟩ _ _ _ hS (by simp) (by simp)) rfl ?_) rfl
      clear hS
      rintro e w ⟨rfl, hS⟩
      refine ⟨_, rfl, ?_⟩
      rw [give1 (by omega) (by omega) (by omega)] at hS ⊢
      repeat' (first|refine Kd ?_|(refine Sh.sa hS ?_;clear hS;intro w hS)|(refine K3 ?_;clear hS;intro g w hS hge)|((first|refine GS ?_ ?_|refine VB ?_ ?_)<;>intro hb<;>(try simp only [J1,J2,J3,J4,J5,J6] at hb)<;>(try (exfalso;first|omega|exact hb trivial))))
      refine Z.cutE [(16, _)] (by repeat (first | with_reducible exact Same.refl | with_reducible exact Same.mix | ((with_reducible refine Same.upd ?_ ?_); · rfl) | ((with_reducible refine Same.cons ?_ ?_); · rfl) | with_reducible refine Same.nil ?_ | ((with_reducible refine Same.mixS ?_ ?_); · rfl))) (by repeat (first | exact trivial | refine ⟨rfl, ?_⟩)) ?_
      exact ⟨rs, ⟨1, ep, [⟨1, ep + 1, 0, 0, 100⟩]⟩, ep + 1, by rw [← hR, holds1, decide_eq_false (show ¬ (ep = ep + 1 ∧ 10 + wt < 30) by omega), Bool.and_false], hqk, accs1 (by omega) (by omega), by omega, by omega, by intro z hz; simp at hz; subst hz; simp only; omega, by simp, hS.sb⟩
    · refine Z.cutE [(16, _)] (by repeat (first | with_reducible exact Same.refl | with_reducible exact Same.mix | ((with_reducible refine Same.upd ?_ ?_); · rfl) | ((with_reducible refine Same.cons ?_ ?_); · rfl) | with_reducible refine Same.nil ?_ | ((with_reducible refine Same.mixS ?_ ?_); · rfl))) (by repeat (first | exact trivial | refine ⟨rfl, ?_⟩)) ?_
      exact ⟨rs, ⟨1, 0, [⟨1, ep, 0, 0, 100⟩]⟩, ep, by rw [← hR, holds1, show decide (ep = ep ∧ 10 + wt < 30) = decide (wt < 20) from decide_eq_decide.2 ⟨fun h => by omega, fun h => ⟨rfl, by omega⟩⟩], hqk, accs1 (by omega) (by omega), by omega, by omega, by intro z hz; simp at hz; subst hz; simp only; omega, by simp, hS.sb⟩
  clear hS
  rintro q2 w _ ⟨rs2, G, E, rfl, hq2, hE, hE1, hE2, hG1, hG2, hS⟩
  have hcg2 := leased_cg hg hq2
  have hdx := done_ex (R := rs2) (ep := E) (tk := 10 + wt) hg hHl hb2 (by omega) (by omega) (by omega) hql
  obtain ⟨hxf, _⟩ := ex_facts (ten := 0) (tk := 10 + wt) (x := doneRq c2 (c.t.n (c2 - 1).toNat + 1) y.number) hcg2 (show c.h.length ≤ 4000 by omega) (show E ≤ 1048576 by omega) _ rfl
  have hxb := ex_bare (ten := 0) (tk := 10 + wt) (x := doneRq c2 (c.t.n (c2 - 1).toNat + 1) y.number) hcg2 (show E ≤ 1048576 by omega) _ rfl
  have hl8 : (lastsL c.t).length = 8 := by simp [lastsL]
  have hlr : (lastsL c.t)[(c2 - 1).toNat]'(by omega) = c.t.n (c2 - 1).toNat := by simp [lastsL]
  have hn1 := hg.lasts (c2 - 1).toNat
  have hn0 := hok.1 (c2 - 1).toNat
  repeat' (first|refine Kd ?_|(refine Sh.sa hS ?_;clear hS;intro w hS)|(refine K3 ?_;clear hS;intro g w hS hge)|((first|refine GS ?_ ?_|refine VB ?_ ?_)<;>intro hb<;>(try simp only [J1,J2,J3,J4,J5,J6] at hb)<;>(try (exfalso;first|omega|exact hb trivial))))
  refine Z.cut [17, 116, 117, 118, 119, 120, 121, 122, 123, 124, 125, 126, 127, 128, 129, 130] (fun w s => ∃ g17, s = [(17, .pointer (some ⟨g17, 0, .none⟩))] ∧ Sep r [] (.blk g17 51 (exP (leased c rs2) 0 E (10 + wt) (doneRq c2 (c.t.n (c2 - 1).toNat + 1) y.number)).p.cells :: .blk g15 51 (⟨0, 0, y.number, y.value⟩ : Rep).cells :: PC gc 1 0 (.pointer (some ⟨gg, 0, .none⟩)) (exP (leased c rs2) 0 E (10 + wt) (doneRq c2 (c.t.n (c2 - 1).toNat + 1) y.number)).c :: []) w) ?_ ?_
  · refine D.startS (Lr := [.blk g15 51 (⟨0, 0, y.number, y.value⟩ : Rep).cells]) (hS.sb) 16 17 (by kernel_rfl) rfl ?_
    replace hS := hS.drew
    refine Sh.dp 0 1 ?_
    refine Sh.dp 1 3 ?_
    first | refine D.sum 2 7 rfl D.wantedN (by kernel_rfl) rfl (by constructor <;> omega) ?_ | refine D.sumW 2 7 rfl D.wantedN (by kernel_rfl) rfl ?_
    refine Sh.dp 3 15 ?_
    refine Sh.dp 4 31 ?_
    refine Sh.dp 6 95 ?_
    first | refine D.sum 7 223 rfl D.wantedN (by kernel_rfl) rfl (by constructor <;> omega) ?_ | refine D.sumW 7 223 rfl D.wantedN (by kernel_rfl) rfl ?_
    refine Sh.dp 11 2271 ?_
    refine Sh.dl 12 6367 ?_
    refine D.each [5, 15] (by kernel_rfl) rfl ?_
    refine D.econs 5 6399 rfl D.wantedN (by kernel_rfl) (fun _ _ h => h) ?_ ?_
    · replace hS := hS.fo (R := PC gc _ _ _ _)
      refine Z.cl (pclasts_z gc 1 0 _ (leased c rs2) _ _ _ hS) rfl ?_
      clear hS
      rintro e w ⟨v5, rfl, hS⟩
      refine ⟨_, rfl, ?_⟩
      rw [show (leased c rs2).t = c.t from rfl] at hS
      obtain ⟨A5, k5, rfl, _⟩ := (hS.slrows (e := 3) (v := v5) (by repeat (first | exact At.here | apply At.next))).mform
      obtain ⟨gb, o, rfl, _, hra⟩ := (hS.slrows (e := 3) (v := .slice A5 (lastsL c.t).length k5) (by repeat (first | exact At.here | apply At.next))).mat (by omega) (q := (c2 - 1).toNat) (by omega)
      rw [hlr] at hra
      rw [hl8]
      refine ⟨HM.s (hS.sb), ?_⟩
      first | refine D.ixn 8 6655 rfl D.wantedN (by kernel_rfl) rfl rfl rfl (by omega) ?_ | refine D.ix 8 6655 rfl D.wantedN (by kernel_rfl) rfl rfl rfl (by omega) ?_ | refine D.ia 8 6655 rfl D.wantedN (by kernel_rfl) rfl rfl rfl (by omega) ?_
      refine D.each [9, 15] (by kernel_rfl) rfl ?_
      refine D.econs 9 7167 rfl D.wantedN (by kernel_rfl) (fun _ _ h => h) ?_ ?_
      · have hra := (hS.slrows (e := 3) (v := .slice (some ⟨gb, o, .none⟩) (lastsL c.t).length k5) (by repeat (first | exact At.here | apply At.next))).elem (by omega) (q := (c2 - 1).toNat) (by omega)
        rw [hlr] at hra
        refine Z.ldR rfl hra rfl ?_
        refine ⟨HM.s (hS.sb), ?_⟩
        first | refine D.sum 10 8191 rfl D.wantedN (by kernel_rfl) rfl (by constructor <;> omega) ?_ | refine D.sumW 10 8191 rfl D.wantedN (by kernel_rfl) rfl ?_
        first | refine D.bu 13 16383 rfl D.wantedN (by kernel_rfl) rfl rfl ?_ | refine D.buA 13 16383 rfl D.wantedN (by kernel_rfl) rfl rfl ?_
        refine D.each [14, 15] (by kernel_rfl) rfl ?_
        refine D.econs 14 32767 rfl D.wantedN (by kernel_rfl) (fun _ _ h => h) ?_ ?_
        · replace hS := (hS.focus (R := GP gg _) (by repeat (first | exact At.here | apply At.next))).focus (R := PC gc _ _ _ _) (by repeat (first | exact At.here | apply At.next))
          refine Z.cl (pexec_z gc gg 1 0 (leased c rs2) G 0 (10 + wt) (doneRq c2 (c.t.n (c2 - 1).toNat + 1) y.number) _ _ _ hS hcg2 hG1 (by omega) (show c.h.length ≤ 4300 by omega)) rfl ?_
          clear hS
          rintro e w ⟨rfl, hS⟩
          refine ⟨_, rfl, ?_⟩
          rw [hE] at hS ⊢
          refine ⟨HM.s (hS.sb), ?_⟩
          refine D.eff 15 65535 rfl D.wantedN (by kernel_rfl) (by kernel_rfl) (fun _ _ h => h) ?_
          refine Z.al hS ?_
          clear hS; intro g w hS hge
          refine ⟨HM.s (hS.sb), ?_⟩
          refine D.eff 16 131071 rfl D.wantedN (by kernel_rfl) (by kernel_rfl) (fun _ _ h => h) ?_
          refine Z.st hS rfl (by repeat (first | exact At.here | apply At.next)) rfl rfl ?_
          clear hS; intro w hS
          refine ⟨HM.last (by kernel_rfl), ?_⟩
          refine D.done (by kernel_rfl) ?_
          refine Sh.cut [(17, _)] ?_
          exact ⟨_, rfl, hS.sb⟩
        refine D.econs 15 49151 rfl D.wantedN (by kernel_rfl) (fun _ _ h => h) ?_ ?_
        · refine Z.al hS ?_
          clear hS; intro g w hS hge
          refine ⟨HM.s (hS.sb), ?_⟩
          refine D.eff 14 65535 rfl D.wantedN (by kernel_rfl) (by kernel_rfl) (fun _ _ h => h) ?_
          replace hS := (hS.focus (R := GP gg _) (by repeat (first | exact At.here | apply At.next))).focus (R := PC gc _ _ _ _) (by repeat (first | exact At.here | apply At.next))
          refine Z.cl (pexec_z gc gg 1 0 (leased c rs2) G 0 (10 + wt) (doneRq c2 (c.t.n (c2 - 1).toNat + 1) y.number) _ _ _ hS hcg2 hG1 (by omega) (show c.h.length ≤ 4300 by omega)) rfl ?_
          clear hS
          rintro e w ⟨rfl, hS⟩
          refine ⟨_, rfl, ?_⟩
          rw [hE] at hS ⊢
          refine ⟨HM.s (hS.sb), ?_⟩
          refine D.eff 16 131071 rfl D.wantedN (by kernel_rfl) (by kernel_rfl) (fun _ _ h => h) ?_
          refine Z.st hS rfl (by repeat (first | exact At.here | apply At.next)) rfl rfl ?_
          clear hS; intro w hS
          refine ⟨HM.last (by kernel_rfl), ?_⟩
          refine D.done (by kernel_rfl) ?_
          refine Sh.cut [(17, _)] ?_
          exact ⟨_, rfl, hS.sb⟩
        exact D.enil
      refine D.econs 15 39423 rfl D.wantedN (by kernel_rfl) (fun _ _ h => h) ?_ ?_
      · refine Z.al hS ?_
        clear hS; intro g w hS hge
        refine ⟨HM.s (hS.sb), ?_⟩
        refine D.eff 9 39935 rfl D.wantedN (by kernel_rfl) (by kernel_rfl) (fun _ _ h => h) ?_
        have hra := (hS.slrows (e := 3) (v := .slice (some ⟨gb, o, .none⟩) (lastsL c.t).length k5) (by repeat (first | exact At.here | apply At.next))).elem (by omega) (q := (c2 - 1).toNat) (by omega)
        rw [hlr] at hra
        refine Z.ldR rfl hra rfl ?_
        refine ⟨HM.s (hS.sb), ?_⟩
        first | refine D.sum 10 40959 rfl D.wantedN (by kernel_rfl) rfl (by constructor <;> omega) ?_ | refine D.sumW 10 40959 rfl D.wantedN (by kernel_rfl) rfl ?_
        first | refine D.bu 13 49151 rfl D.wantedN (by kernel_rfl) rfl rfl ?_ | refine D.buA 13 49151 rfl D.wantedN (by kernel_rfl) rfl rfl ?_
        refine D.eff 14 65535 rfl D.wantedN (by kernel_rfl) (by kernel_rfl) (fun _ _ h => h) ?_
        replace hS := (hS.focus (R := GP gg _) (by repeat (first | exact At.here | apply At.next))).focus (R := PC gc _ _ _ _) (by repeat (first | exact At.here | apply At.next))
        refine Z.cl (pexec_z gc gg 1 0 (leased c rs2) G 0 (10 + wt) (doneRq c2 (c.t.n (c2 - 1).toNat + 1) y.number) _ _ _ hS hcg2 hG1 (by omega) (show c.h.length ≤ 4300 by omega)) rfl ?_
        clear hS
        rintro e w ⟨rfl, hS⟩
        refine ⟨_, rfl, ?_⟩
        rw [hE] at hS ⊢
        refine ⟨HM.s (hS.sb), ?_⟩
        refine D.eff 16 131071 rfl D.wantedN (by kernel_rfl) (by kernel_rfl) (fun _ _ h => h) ?_
        refine Z.st hS rfl (by repeat (first | exact At.here | apply At.next)) rfl rfl ?_
        clear hS; intro w hS
        refine ⟨HM.last (by kernel_rfl), ?_⟩
        refine D.done (by kernel_rfl) ?_
        refine Sh.cut [(17, _)] ?_
        exact ⟨_, rfl, hS.sb⟩
      exact D.enil
    refine D.econs 15 39135 rfl D.wantedN (by kernel_rfl) (fun _ _ h => h) ?_ ?_
    · refine Z.al hS ?_
      clear hS; intro g w hS hge
      refine ⟨HM.s (hS.sb), ?_⟩
      refine D.eff 5 39167 rfl D.wantedN (by kernel_rfl) (by kernel_rfl) (fun _ _ h => h) ?_
      replace hS := hS.fo (R := PC gc _ _ _ _)
      refine Z.cl (pclasts_z gc 1 0 _ (leased c rs2) _ _ _ hS) rfl ?_
      clear hS
      rintro e w ⟨v5, rfl, hS⟩
      refine ⟨_, rfl, ?_⟩
      rw [show (leased c rs2).t = c.t from rfl] at hS
      obtain ⟨A5, k5, rfl, _⟩ := (hS.slrows (e := 3) (v := v5) (by repeat (first | exact At.here | apply At.next))).mform
      obtain ⟨gb, o, rfl, _, hra⟩ := (hS.slrows (e := 3) (v := .slice A5 (lastsL c.t).length k5) (by repeat (first | exact At.here | apply At.next))).mat (by omega) (q := (c2 - 1).toNat) (by omega)
      rw [hlr] at hra
      rw [hl8]
      refine ⟨HM.s (hS.sb), ?_⟩
      first | refine D.ixn 8 39423 rfl D.wantedN (by kernel_rfl) rfl rfl rfl (by omega) ?_ | refine D.ix 8 39423 rfl D.wantedN (by kernel_rfl) rfl rfl rfl (by omega) ?_ | refine D.ia 8 39423 rfl D.wantedN (by kernel_rfl) rfl rfl rfl (by omega) ?_
      refine D.eff 9 39935 rfl D.wantedN (by kernel_rfl) (by kernel_rfl) (fun _ _ h => h) ?_
      have hra := (hS.slrows (e := 3) (v := .slice (some ⟨gb, o, .none⟩) (lastsL c.t).length k5) (by repeat (first | exact At.here | apply At.next))).elem (by omega) (q := (c2 - 1).toNat) (by omega)
      rw [hlr] at hra
      refine Z.ldR rfl hra rfl ?_
      refine ⟨HM.s (hS.sb), ?_⟩
      first | refine D.sum 10 40959 rfl D.wantedN (by kernel_rfl) rfl (by constructor <;> omega) ?_ | refine D.sumW 10 40959 rfl D.wantedN (by kernel_rfl) rfl ?_
      first | refine D.bu 13 49151 rfl D.wantedN (by kernel_rfl) rfl rfl ?_ | refine D.buA 13 49151 rfl D.wantedN (by kernel_rfl) rfl rfl ?_
      refine D.eff 14 65535 rfl D.wantedN (by kernel_rfl) (by kernel_rfl) (fun _ _ h => h) ?_
      replace hS := (hS.focus (R := GP gg _) (by repeat (first | exact At.here | apply At.next))).focus (R := PC gc _ _ _ _) (by repeat (first | exact At.here | apply At.next))
      refine Z.cl (pexec_z gc gg 1 0 (leased c rs2) G 0 (10 + wt) (doneRq c2 (c.t.n (c2 - 1).toNat + 1) y.number) _ _ _ hS hcg2 hG1 (by omega) (show c.h.length ≤ 4300 by omega)) rfl ?_
      clear hS
      rintro e w ⟨rfl, hS⟩
      refine ⟨_, rfl, ?_⟩
      rw [hE] at hS ⊢
      refine ⟨HM.s (hS.sb), ?_⟩
      refine D.eff 16 131071 rfl D.wantedN (by kernel_rfl) (by kernel_rfl) (fun _ _ h => h) ?_
      refine Z.st hS rfl (by repeat (first | exact At.here | apply At.next)) rfl rfl ?_
      clear hS; intro w hS
      refine ⟨HM.last (by kernel_rfl), ?_⟩
      refine D.done (by kernel_rfl) ?_
      refine Sh.cut [(17, _)] ?_
      exact ⟨_, rfl, hS.sb⟩
    exact D.enil
  clear hS
  generalize hX : exP (leased c rs2) 0 E (10 + wt) (doneRq c2 (c.t.n (c2 - 1).toNat + 1) y.number) = X at *
  obtain ⟨xc, xp⟩ := X
  simp only at hdx hxf hxb
  rintro q3 w _ ⟨g17, rfl, hS⟩
  simp only at hS
  cases hH : holdsP rs2 c2 E y.number (10 + wt)
  · rw [hH] at hdx
    have hdx' : xp = errR 35 := hdx
    subst hdx'
    repeat' (first|refine Kd ?_|(refine Sh.sa hS ?_;clear hS;intro w hS)|(refine K3 ?_;clear hS;intro g w hS hge)|((first|refine GS ?_ ?_|refine VB ?_ ?_)<;>intro hb<;>(try simp only [J1,J2,J3,J4,J5,J6] at hb)<;>(try (exfalso;first|omega|exact hb trivial))))
    refine Dnt Tryz.results9 ?_
    exact ⟨by simp [Z.packR, errR], hS.chg⟩
  · rw [hH] at hdx
    have hdx' : xp = ⟨0, (c.h.length : Int) + 1, y.number, ⟨#[]⟩⟩ := hdx
    subst hdx'
    have hlen : xc.h.length = c.h.length + 1 := by
      have h1 := (hxf rfl).1
      rcases hxb with hxb | ⟨z, hxb, _⟩
      · have h2 : xc.h = c.h := by have := congrArg Cp.h hxb; exact this
        have h3 : ¬ ((c.h.length : Int) + 1 ≤ c.h.length) := by omega
        have h4 : decide ((c.h.length : Int) = c.h.length) = (decide ((6 : Int) = 1) || (decide ((6 : Int) = 5) || decide ((c.h.length : Int) + 1 ≤ c.h.length))) := by rw [h2] at h1; exact h1
        rw [decide_eq_true rfl, decide_eq_false h3] at h4
        simp at h4
      · obtain ⟨_, _, _, _, _, _, e⟩ := cApp_ok (by rw [hxb] : (cApp (bare (leased c rs2)) z).2 = 0)
        rw [hxb] at e
        have h2 : xc.h = c.h ++ [z] := by have := congrArg Cp.h e; exact this
        rw [h2]
        simp
    repeat' (first|refine Kd ?_|(refine Sh.sa hS ?_;clear hS;intro w hS)|(refine K3 ?_;clear hS;intro g w hS hge)|((first|refine GS ?_ ?_|refine VB ?_ ?_)<;>intro hb<;>(try simp only [J1,J2,J3,J4,J5,J6] at hb)<;>(try (exfalso;first|omega|exact hb trivial))))
    refine D.startS (Lr := [.blk g17 51 (⟨0, (c.h.length : Int) + 1, y.number, ⟨#[]⟩⟩ : Rep).cells, .blk g15 51 (⟨0, 0, y.number, y.value⟩ : Rep).cells]) (hS.sb) 8 8 (by kernel_rfl) rfl ?_
    replace hS := hS.drew
    refine Sh.dp 1 2 ?_
    refine Sh.dp 3 10 ?_
    refine Sh.dl 0 11 ?_
    refine Sh.dl 4 27 ?_
    refine D.eff 2 31 rfl D.wantedN (by kernel_rfl) (by kernel_rfl) (fun _ _ h => h) ?_
    replace hS := hS.fo (R := PC gc _ _ _ _)
    refine Z.cl (pclen_z gc 1 0 _ xc _ _ _ hS) rfl ?_
    clear hS
    rintro e w ⟨rfl, hS⟩
    refine ⟨_, rfl, ?_⟩
    rw [hlen]
    refine ⟨HM.s (hS.sb), ?_⟩
    first | refine D.bu 5 63 rfl D.wantedN (by kernel_rfl) rfl rfl ?_ | refine D.buA 5 63 rfl D.wantedN (by kernel_rfl) rfl rfl ?_
    first | refine D.pr 6 127 rfl D.wantedN (by kernel_rfl) rfl ?_ | refine D.pl 6 127 rfl D.wantedN (by kernel_rfl) (R.eqa rfl rfl rfl rfl) ?_
    refine Sh.dp 7 255 ?_
    refine D.done (by kernel_rfl) ?_
    repeat' (first|refine Kd ?_|(refine Sh.sa hS ?_;clear hS;intro w hS)|(refine K3 ?_;clear hS;intro g w hS hge)|((first|refine GS ?_ ?_|refine VB ?_ ?_)<;>intro hb<;>(try simp only [J1,J2,J3,J4,J5,J6] at hb)<;>(try (exfalso;first|omega|exact hb trivial))))
    refine Dnt Tryz.results9 ?_
    exact ⟨by simp [Z.packR], hS.chg⟩
set_option maxRecDepth 100000 in
theorem cellLeases_lifted (os : Os) (started : os.Started) (H : Type) (enc : TypeId × Value → H) :
    ReturnsInHanded {} Tryz.checked os 9 .any (Rows.cellLeasesSpec.pre6 enc Tryz.prog Tryz.f9 Rows.cellLeasesRow.domain false) (Rows.cellLeasesSpec.post enc Tryz.prog Tryz.f9 false Rows.cellLeasesRow.fresh Rows.cellLeasesRow.handsOn Rows.cellLeasesRow.again) := by
  refine returnsInHanded_of_change (C := Tryz.checked) Tryz.own started (by kernel_rfl) Tryz.func9
    (ChangeSpec.witness6 (enc := enc) (C := Tryz.checked) false ⟨#[], #[.slice none 0 0, .int .i64 0, .int .i64 0, .int .i64 0, .int .i64 0], []⟩ 8 (by kernel_rfl) (by kernel_rfl) (by kernel_rfl) (by kernel_rfl)) ?_
  intro W base args ds gs before hval0 hW _ _
  have hval : ∀ (j : Nat) t v, Tryz.f9.params[j]? = some t → args[j]? = some v → Value.okWide Tryz.prog W .any base t v := hval0
  have hW0 := hW
  obtain ⟨p, q, hA0, hV, hpq, _, _⟩ := hW
  obtain ⟨la⟩ := args
  have hA : DataW.TrodAll enc Tryz.prog W 0 (fun _ => true) true [24, 3, 3, 3, 3] la ds p := by have := hA0; rw [Tryz.params9] at this; exact this
  rw [Tryz.params9] at hval
  obtain ⟨v0, la0, d0, ds0, p0, q0, rfl, rfl, rfl, h0, hA⟩ := trodAll_cons hA
  obtain ⟨v1, la1, d1, ds1, p1, q1, rfl, rfl, rfl, h1, hA⟩ := trodAll_cons hA
  obtain ⟨v2, la2, d2, ds2, p2, q2, rfl, rfl, rfl, h2, hA⟩ := trodAll_cons hA
  obtain ⟨v3, la3, d3, ds3, p3, q3, rfl, rfl, rfl, h3, hA⟩ := trodAll_cons hA
  obtain ⟨v4, la4, d4, ds4, p4, q4, rfl, rfl, rfl, h4, hA⟩ := trodAll_cons hA
  obtain ⟨rfl, rfl, rfl⟩ := trodAll_nil hA
  obtain ⟨l0, A0, cap0, rfl, hr0⟩ := arg_ints (hval 0 _ _ rfl rfl) h0
  obtain ⟨z1, rfl, hr1⟩ := arg_int (hval 1 _ _ rfl rfl) h1
  obtain ⟨z2, rfl, hr2⟩ := arg_int (hval 2 _ _ rfl rfl) h2
  obtain ⟨z3, rfl, hr3⟩ := arg_int (hval 3 _ _ rfl rfl) h3
  obtain ⟨z4, rfl, hr4⟩ := arg_int (hval 4 _ _ rfl rfl) h4
  have fin : Calls Tryz.prog 9 _ W fun e W' => e = .returned (.bool true) ∧ Chg [] W W' := leases_z l0 A0 cap0 z1 z2 z3 z4 W hr0 hr1 hr2 hr3 hr4
  refine fin.mono fun e W' ⟨he, hc⟩ => ⟨_, he, ?_⟩
  exact law_post Tryz.laidOut (by rw [Tryz.params9]; intro t ht; simp only [List.mem_cons, List.not_mem_nil, or_false] at ht; rcases ht with rfl | rfl | rfl | rfl | rfl <;> exact ⟨by kernel_rfl, of_decide_eq_true (by kernel_rfl)⟩) rfl rfl Tryz.underlying4 rfl hW0 hc.below
theorem cellLeases_holds : Rows.CellLeasesSaid :=
  OpenClaim.holds_of_wide 9 Tryz.f9 rfl rfl rfl rfl rfl rfl rfl ⟨rfl, rfl, rfl, rfl, rfl⟩ rfl rfl rfl rfl rfl (by kernel_rfl) Tryz.func9 (by kernel_rfl)
    (of_decide_eq_true (by kernel_rfl)) (by unfold Func.isWrapper; rw [if_neg (of_decide_eq_false (by kernel_rfl))]; exact ⟨rfl, rfl⟩)
    (fun os started H enc _ => cellLeases_lifted os started H enc)
end Go.Proofs.YtahackdfjcgkhaaGreat
