import Derived.Test.YtfmnjbhncnldmaaGreatP04
set_option linter.unusedSimpArgs false
set_option linter.unusedVariables false
namespace Go.Proofs.YtfmnjbhncnldmaaGreat
open Go.RowKit
attribute [local irreducible] Res.blk Res.sl Res.all Res.ex Res.pure Res.star
theorem reads_ts {r w : World} {F : List Res} {s : Sta} {b : SAd} (hr : StR r F s b) (L : List Res) (hS : Sep r [] (L ++ F) w) {k : Nat} (h : k < s.tenants.length) : ∃ gb o, b.tA = some ⟨gb, o, none⟩ ∧ w.rangeAt gb (o + k * 12) (s.tenants[k]).cells := by
  obtain ⟨gb, o, hA, _, hra⟩ := (hr.t L w hS).mat (by omega) (q := k) (by simpa using h)
  exact ⟨gb, o, hA, by simpa using hra⟩
theorem reads_tn {r w : World} {F : List Res} {c : Cfg} {a : CAd} (hr : CfR r F c a) (L : List Res) (hS : Sep r [] (L ++ F) w) {k : Nat} (h : k < c.tenants.length) : ∃ gb o, a.tA = some ⟨gb, o, none⟩ ∧ w.rangeAt gb (o + k * 7) (c.tenants[k]).cells := by
  obtain ⟨gb, o, hA, _, hra⟩ := (hr.t L w hS).mat (by omega) (q := k) (by simpa using h)
  exact ⟨gb, o, hA, by simpa using hra⟩
theorem reads_kn {r w : World} {F : List Res} {c : Cfg} {a : CAd} (hr : CfR r F c a) (L : List Res) (hS : Sep r [] (L ++ F) w) {k : Nat} (h : k < c.cells.length) : ∃ gb o, a.kA = some ⟨gb, o, none⟩ ∧ w.rangeAt gb (o + k * 2) (c.cells[k]).cells := by
  obtain ⟨gb, o, hA, _, hra⟩ := (hr.k L w hS).mat (by omega) (q := k) (by simpa using h)
  exact ⟨gb, o, hA, by simpa using hra⟩
theorem at_ts {r w : World} {F : List Res} {s : Sta} {b : SAd} (hr : StR r F s b) (L : List Res) (hS : Sep r [] (L ++ F) w) {k gb o : Nat} (hA : b.tA = some ⟨gb, o, none⟩) (h : k < s.tenants.length) : w.rangeAt gb (o + k * 12) (s.tenants[k]).cells := by
  obtain ⟨gb', o', hA', hra⟩ := reads_ts hr L hS h
  rw [hA] at hA'
  simp only [Option.some.injEq, Addr.mk.injEq] at hA'
  obtain ⟨rfl, rfl, _⟩ := hA'
  exact hra
theorem at_tn {r w : World} {F : List Res} {c : Cfg} {a : CAd} (hr : CfR r F c a) (L : List Res) (hS : Sep r [] (L ++ F) w) {k gb o : Nat} (hA : a.tA = some ⟨gb, o, none⟩) (h : k < c.tenants.length) : w.rangeAt gb (o + k * 7) (c.tenants[k]).cells := by
  obtain ⟨gb', o', hA', hra⟩ := reads_tn hr L hS h
  rw [hA] at hA'
  simp only [Option.some.injEq, Addr.mk.injEq] at hA'
  obtain ⟨rfl, rfl, _⟩ := hA'
  exact hra
theorem at_kn {r w : World} {F : List Res} {c : Cfg} {a : CAd} (hr : CfR r F c a) (L : List Res) (hS : Sep r [] (L ++ F) w) {k gb o : Nat} (hA : a.kA = some ⟨gb, o, none⟩) (h : k < c.cells.length) : w.rangeAt gb (o + k * 2) (c.cells[k]).cells := by
  obtain ⟨gb', o', hA', hra⟩ := reads_kn hr L hS h
  rw [hA] at hA'
  simp only [Option.some.injEq, Addr.mk.injEq] at hA'
  obtain ⟨rfl, rfl, _⟩ := hA'
  exact hra
theorem zerosL_int (n : Nat) : Z.zerosL [Value.int .i64 0] n = ((List.replicate n (0 : Int)).map ztC).flatten := by
  induction n with
  | zero => rfl
  | succ k ih =>
    rw [List.replicate_succ]
    show [Value.int .i64 0] ++ _ = _
    rw [ih]
    rfl
theorem zt_ok (l : List Int) : ∀ row, row ∈ l.map ztC → row.length = 1 ∧ ∀ u, u ∈ row → u.oneCell' = true := by
  intro row hr
  obtain ⟨x, _, rfl⟩ := List.mem_map.1 hr
  exact ⟨rfl, by simp [ztC, Value.oneCell']⟩
def Sta.zero : Sta := ⟨0, 0, [], [], 0, 0, 0, 0⟩
def SAd.zero : SAd := ⟨none, 0, none, 0⟩
end Go.Proofs.YtfmnjbhncnldmaaGreat
