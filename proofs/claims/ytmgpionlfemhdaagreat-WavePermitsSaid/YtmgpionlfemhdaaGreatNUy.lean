/-
  Packed worlds: an entry that is tried.
-/
import Derived.Test.YtmgpionlfemhdaaGreatNUx
namespace Go.Proofs.YtmgpionlfemhdaaGreat
open Go.RowKit
set_option linter.unusedSimpArgs false
set_option linter.unusedVariables false
attribute [local irreducible] Res.blk Res.sl Res.all Res.ex Res.pure Res.star

/-- The state and the entries of a packed world under way. -/
def PSt (g7 g8 : Nat) (c : Cfg) (n : Nat) : Res := .ex fun p : Sta × SAd × List En × Option Addr × Nat => .all [.pure (p.1.ok c ∧ p.2.2.1.length ≤ n), .blk g7 34 (p.1.cc c p.2.1), .blk g8 65 [.slice p.2.2.2.1 p.2.2.1.length p.2.2.2.2], SO c p.1 p.2.1, .sl 100 9 (.slice p.2.2.2.1 p.2.2.1.length p.2.2.2.2) (p.2.2.1.map En.cells)]
section
variable {r w : World} {M : List Nat} {F : List Res} {g7 g8 n : Nat} {c : Cfg}
theorem PSt.of (s : Sta) (b : SAd) (out : List En) (oA : Option Addr) (oc : Nat) (hs : s.ok c) (ho : out.length ≤ n) (h : Sep r M (.blk g7 34 (s.cc c b) :: .blk g8 65 [.slice oA out.length oc] :: SO c s b :: .sl 100 9 (.slice oA out.length oc) (out.map En.cells) :: F) w) : Sep r M (PSt g7 g8 c n :: F) w := by
  simp only [PSt, Sep.ex_open, Sep.all_open, Sep.pure_open, List.cons_append, List.nil_append]
  exact ⟨(s, b, out, oA, oc), ⟨hs, ho⟩, h⟩
theorem PSt.op (h : Sep r M (PSt g7 g8 c n :: F) w) : ∃ (s : Sta) (b : SAd) (out : List En) (oA : Option Addr) (oc : Nat), (s.ok c ∧ out.length ≤ n) ∧ Sep r M (.blk g7 34 (s.cc c b) :: .blk g8 65 [.slice oA out.length oc] :: SO c s b :: .sl 100 9 (.slice oA out.length oc) (out.map En.cells) :: F) w := by
  simp only [PSt, Sep.ex_open, Sep.all_open, Sep.pure_open, List.cons_append, List.nil_append] at h
  obtain ⟨⟨s, b, out, oA, oc⟩, h1, h2⟩ := h
  exact ⟨s, b, out, oA, oc, h1, h2⟩
theorem PSt.le {m : Nat} (h : Sep r M (PSt g7 g8 c n :: F) w) (hm : n ≤ m) : Sep r M (PSt g7 g8 c m :: F) w := by
  obtain ⟨s, b, out, oA, oc, ⟨h1, h2⟩, h3⟩ := PSt.op h
  exact PSt.of s b out oA oc h1 (by omega) h3
end
theorem entry5_z (k tk t ce o : Int) (r : World) (F : List Res) (w : World) (hS : Sep r [] F w) :
    Calls Tryz.prog 61 #[.int .i64 k, .int .i64 tk, .int .i64 t, .int .i64 ce, .int .i64 o] w fun e w' => e = .returned (⟨k, tk, t, ce, o, 0, 0, 0, 0⟩ : En).val ∧ Sep r [] F w' := by
  refine Z.enter Tryz.func61 Tryz.ntmps61 rfl rfl ?_
  repeat' (first|refine K ?_|(refine Sh.sa hS ?_;clear hS;intro w hS)|(refine K3 ?_;clear hS;intro g w hS hge)|((first|refine GS ?_ ?_|refine VB ?_ ?_)<;>intro hb<;>(try simp only [J1,J2,J3,J4,J5,J6] at hb)<;>(try (exfalso;first|omega|exact hb trivial))))
  refine Dnc Tryz.results61 ?_
  exact ⟨rfl, hS.sb⟩
set_option maxHeartbeats 4000000 in
theorem try_z (g6 g7 g8 n : Nat) (c : Cfg) (a : CAd) (en : En) (r : World) (F : List Res) (w : World) (hS : Sep r [] (PSt g7 g8 c n :: .blk g6 30 (c.cl a) :: F) w) (hr : CfR r F c a) (ho : c.ok) (hn : n ≤ 1000) :
    Calls Tryz.prog 58 #[en.val, .pointer (some ⟨g6, 0, .none⟩), .pointer (some ⟨g7, 0, .none⟩), .pointer (some ⟨g8, 0, .none⟩)] w fun e w' => e = .returned (.tuple #[]) ∧ Sep r [] (PSt g7 g8 c (n + 1) :: .blk g6 30 (c.cl a) :: F) w' := by
  obtain ⟨s, b, out, oA, oc, ⟨hs, hol⟩, hS⟩ := PSt.op hS
  refine Z.enter Tryz.func58 Tryz.ntmps58 rfl rfl ?_
  repeat' (first|refine K ?_|(refine Sh.sa hS ?_;clear hS;intro w hS)|(refine K3 ?_;clear hS;intro g w hS hge)|((first|refine GS ?_ ?_|refine VB ?_ ?_)<;>intro hb<;>(try simp only [J1,J2,J3,J4,J5,J6] at hb)<;>(try (exfalso;first|omega|exact hb trivial))))
  rename Nat => ge
  refine Z.eff (Z.cl (apply_u c a s b en _ _ _ hS (by first | exact hr.app [_, _, _, _, _, _]) hs (StC.of_so (by repeat (first | exact At.here | apply At.next))) ho) rfl ?_) rfl
  clear hS
  rintro e w ⟨cz, s2, b2, er, X, rfl, hX, hS⟩
  refine ⟨_, rfl, ?_⟩
  repeat' (first|refine K ?_|(refine Sh.sa hS ?_;clear hS;intro w hS)|(refine K3 ?_;clear hS;intro g w hS hge)|((first|refine GS ?_ ?_|refine VB ?_ ?_)<;>intro hb<;>(try simp only [J1,J2,J3,J4,J5,J6] at hb)<;>(try (exfalso;first|omega|exact hb trivial))))
  · obtain ⟨rfl, hs2, rfl⟩ := hX hb
    refine Z.eff (Z.apm (l' := [en]) hS rfl rfl rfl (by repeat (first | exact At.here | apply At.next)) (hS.lit1 (by repeat (first | exact At.here | apply At.next)) rfl rfl) (by (try simp only [maxLen, List.length_take, List.length_drop, List.length_append, List.length_cons, List.length_nil, List.length_map]); omega) (by (try simp only [maxLen, List.length_take, List.length_drop, List.length_append, List.length_cons, List.length_nil, List.length_map]); omega) ?_) rfl
    clear hS; intro A' ca' w hS
    rw [← List.length_append] at hS ⊢
    repeat' (first|refine K ?_|(refine Sh.sa hS ?_;clear hS;intro w hS)|(refine K3 ?_;clear hS;intro g w hS hge)|((first|refine GS ?_ ?_|refine VB ?_ ?_)<;>intro hb<;>(try simp only [J1,J2,J3,J4,J5,J6] at hb)<;>(try (exfalso;first|omega|exact hb trivial))))
    refine Dn Tryz.results58 ?_
    exact ⟨rfl, PSt.of s2 b2 (out ++ [en]) A' ca' hs2 (by simp; omega) (hS.sb)⟩
  · refine Dn Tryz.results58 ?_
    exact ⟨rfl, PSt.of s b out oA oc hs (by omega) (hS.sb)⟩
end Go.Proofs.YtmgpionlfemhdaaGreat
