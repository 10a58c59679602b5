/-
  No cell of these rows narrows 'for every input' (looked for: loops, veiled, ifaces, maps, wideKeys, modest, calm, conditions, laid).
  DERIVED. THE GIVEN ROWS OF THIS SEAT. 4 by the template 'for every input the law returns true; each argument reads behind the call as it read before'; 0 by the template 'total and deterministic' (their statements: YtiabhlogadboeaaGreatTotals.lean).
  GIVEN WITH THE SEED: the statements are not yours to turn. If you find one false, say at which input.
  Laid BY PROGRAM, IN A SANDBOX (cutbox-rows.mjs): the forced cells as the released guide's own fill.sh prints them over the translation 3f969669a7467759… (all of the seat's roots in one cut). By AI agents, Wed Nov 11 2026. No macro, syntax, notation, axiom, sorry.
-/
import Derived.Test.YtiabhlogadboeaaGreatChecked
import GoSem.Claim
import GoSem.ClaimJoined
import GoSem.ClaimMapViews
import Derived.JoinedTies
import Derived.KernelRfl
namespace Go.Proofs.YtiabhlogadboeaaGreat
/- THE CELL 'sum', in the pinned program and in every row, IS THE sha256 OF THE DUMP (.gsa) THAT YtiabhlogadboeaaGreatProg.lean LOADS. Nothing in Lean hashes anything: it is a label: what it is worth is what the hold of that sum in a sandbox is worth. -/
noncomputable def Tryz.pinned : Pinned := { name := "ytiabhlogadboeaagreat", sum := "3f969669a74677598ca2e870e7d8d149aa0485780f0a9ba14592650334b8044a", checked := Tryz.checked }
namespace Rows
def none {H : Type} : Left H := { results := [], args := [] }

/-- 'cellplanelaw32.HandoverTransfers': WHATEVER THE INPUT: true; the input reads as it did. -/
def handoverTransfersSpec : ChangeSpec := { name := "handoverTransfers", fn := fun _ => fun
  | [d1, d2, d3, d4, d5, d6, d7, d8] => { results := [.lit (.bool true)], args := [d1, d2, d3, d4, d5, d6, d7, d8] }
  | _ => none }
def handoverTransfersRow : OpenClaim := { program := "ytiabhlogadboeaagreat", sum := "3f969669a74677598ca2e870e7d8d149aa0485780f0a9ba14592650334b8044a", func := "cellplane/cellplanelaw32.HandoverTransfers", spec := "handoverTransfers", inPlace := ["maps.clone"], unfollowed := true, recurses := true, apart := false }
def HandoverTransfersSaid : Prop := handoverTransfersRow.holds Tryz.pinned (OpenSpec.ofChange handoverTransfersSpec)

/-- ITS FALSE NEIGHBOUR: 'it returns false'. Refute it at one input. -/
def handoverTransfersWrong : ChangeSpec := { name := "handoverTransfers", fn := fun _ => fun
  | [d1, d2, d3, d4, d5, d6, d7, d8] => { results := [.lit (.bool false)], args := [d1, d2, d3, d4, d5, d6, d7, d8] }
  | _ => none }
def HandoverTransfersWrongFalsely : Prop := handoverTransfersRow.holds Tryz.pinned (OpenSpec.ofChange handoverTransfersWrong)

/-- 'cellplanelaw32.HandoverChecks': WHATEVER THE INPUT: true; the input reads as it did. -/
def handoverChecksSpec : ChangeSpec := { name := "handoverChecks", fn := fun _ => fun
  | [d1, d2, d3, d4, d5, d6, d7] => { results := [.lit (.bool true)], args := [d1, d2, d3, d4, d5, d6, d7] }
  | _ => none }
def handoverChecksRow : OpenClaim := { program := "ytiabhlogadboeaagreat", sum := "3f969669a74677598ca2e870e7d8d149aa0485780f0a9ba14592650334b8044a", func := "cellplane/cellplanelaw32.HandoverChecks", spec := "handoverChecks", inPlace := ["maps.clone"], unfollowed := true, recurses := true, apart := false }
def HandoverChecksSaid : Prop := handoverChecksRow.holds Tryz.pinned (OpenSpec.ofChange handoverChecksSpec)

/-- ITS FALSE NEIGHBOUR: 'it returns false'. Refute it at one input. -/
def handoverChecksWrong : ChangeSpec := { name := "handoverChecks", fn := fun _ => fun
  | [d1, d2, d3, d4, d5, d6, d7] => { results := [.lit (.bool false)], args := [d1, d2, d3, d4, d5, d6, d7] }
  | _ => none }
def HandoverChecksWrongFalsely : Prop := handoverChecksRow.holds Tryz.pinned (OpenSpec.ofChange handoverChecksWrong)

/-- 'cellplanelaw32.HandoverSessions': WHATEVER THE INPUT: true; the input reads as it did. -/
def handoverSessionsSpec : ChangeSpec := { name := "handoverSessions", fn := fun _ => fun
  | [d1, d2, d3, d4] => { results := [.lit (.bool true)], args := [d1, d2, d3, d4] }
  | _ => none }
def handoverSessionsRow : OpenClaim := { program := "ytiabhlogadboeaagreat", sum := "3f969669a74677598ca2e870e7d8d149aa0485780f0a9ba14592650334b8044a", func := "cellplane/cellplanelaw32.HandoverSessions", spec := "handoverSessions", inPlace := ["maps.clone", "slices.overlaps[cellplane/api.Window]", "slices.overlaps[cellplane/api.Lease]"], unfollowed := true, recurses := true, apart := false }
def HandoverSessionsSaid : Prop := handoverSessionsRow.holds Tryz.pinned (OpenSpec.ofChange handoverSessionsSpec)

/-- ITS FALSE NEIGHBOUR: 'it returns false'. Refute it at one input. -/
def handoverSessionsWrong : ChangeSpec := { name := "handoverSessions", fn := fun _ => fun
  | [d1, d2, d3, d4] => { results := [.lit (.bool false)], args := [d1, d2, d3, d4] }
  | _ => none }
def HandoverSessionsWrongFalsely : Prop := handoverSessionsRow.holds Tryz.pinned (OpenSpec.ofChange handoverSessionsWrong)

/-- 'cellplanelaw32.HandoverOnce': WHATEVER THE INPUT: true; the input reads as it did. -/
def handoverOnceSpec : ChangeSpec := { name := "handoverOnce", fn := fun _ => fun
  | [d1, d2, d3, d4, d5] => { results := [.lit (.bool true)], args := [d1, d2, d3, d4, d5] }
  | _ => none }
def handoverOnceRow : OpenClaim := { program := "ytiabhlogadboeaagreat", sum := "3f969669a74677598ca2e870e7d8d149aa0485780f0a9ba14592650334b8044a", func := "cellplane/cellplanelaw32.HandoverOnce", spec := "handoverOnce", inPlace := ["maps.clone", "slices.overlaps[cellplane/api.Window]", "slices.overlaps[cellplane/api.Lease]"], unfollowed := true, recurses := true, apart := false }
def HandoverOnceSaid : Prop := handoverOnceRow.holds Tryz.pinned (OpenSpec.ofChange handoverOnceSpec)

/-- ITS FALSE NEIGHBOUR: 'it returns false'. Refute it at one input. -/
def handoverOnceWrong : ChangeSpec := { name := "handoverOnce", fn := fun _ => fun
  | [d1, d2, d3, d4, d5] => { results := [.lit (.bool false)], args := [d1, d2, d3, d4, d5] }
  | _ => none }
def HandoverOnceWrongFalsely : Prop := handoverOnceRow.holds Tryz.pinned (OpenSpec.ofChange handoverOnceWrong)

/- THE SECOND FORM. 'bulk': how many values and letters a reading holds, each counted each time it is reached (what is shared counts as often as it is met; a slice's spare places count too). A statement '..UptoSaid' is the law's where the arguments, and the package variables that the reading takes, are together of bulk at most 1048576: NARROWER than '..Said'. Prove '..Said' where nothing that the law and all that it calls make is longer than what came in: it says more and counts as full. Else prove '..UptoSaid'. A law counts once. -/
mutual
def uptoBulk {H : Type} : DataW H → Nat
  | .lit (.string bytes) => bytes.length + 1
  | .lit _ => 1
  | .nil => 1
  | .ptr d => uptoBulk d + 1
  | .slice elems spare => uptoBulkAll elems + uptoBulkAll spare + 1
  | .agg parts => uptoBulkAll parts + 1
  | .iface _ d => uptoBulk d + 1
  | .map entries => uptoBulkEntries entries + 1
  | .held _ => 1
def uptoBulkAll {H : Type} : List (DataW H) → Nat
  | [] => 0
  | d :: r => uptoBulk d + uptoBulkAll r
def uptoBulkEntries {H : Type} : List (Lit × DataW H) → Nat
  | [] => 0
  | x :: r => uptoBulkEntry x + uptoBulkEntries r
def uptoBulkEntry {H : Type} : Lit × DataW H → Nat
  | (.string bytes, d) => bytes.length + uptoBulk d + 1
  | (_, d) => uptoBulk d + 1
 end
def uptoSmall : (H : Type) → List (DataW H) → Bool := fun _ ds => decide (uptoBulkAll ds ≤ 1048576)
def OpenSpec.upto (s : _root_.Go.ChangeSpec) : _root_.Go.OpenSpec := { _root_.Go.OpenSpec.ofChange s with cond := some uptoSmall }

/-- 'cellplanelaw32.HandoverTransfers', WHERE WHAT IT READS IS OF BULK AT MOST 1048576: true; the input reads as it did. -/
def handoverTransfersUptoRow : OpenClaim := { program := "ytiabhlogadboeaagreat", sum := "3f969669a74677598ca2e870e7d8d149aa0485780f0a9ba14592650334b8044a", func := "cellplane/cellplanelaw32.HandoverTransfers", spec := "handoverTransfers", inPlace := ["maps.clone"], unfollowed := true, recurses := true, apart := false, narrowed := true }
def HandoverTransfersUptoSaid : Prop := handoverTransfersUptoRow.holds Tryz.pinned (OpenSpec.upto handoverTransfersSpec)

/-- 'cellplanelaw32.HandoverChecks', WHERE WHAT IT READS IS OF BULK AT MOST 1048576: true; the input reads as it did. -/
def handoverChecksUptoRow : OpenClaim := { program := "ytiabhlogadboeaagreat", sum := "3f969669a74677598ca2e870e7d8d149aa0485780f0a9ba14592650334b8044a", func := "cellplane/cellplanelaw32.HandoverChecks", spec := "handoverChecks", inPlace := ["maps.clone"], unfollowed := true, recurses := true, apart := false, narrowed := true }
def HandoverChecksUptoSaid : Prop := handoverChecksUptoRow.holds Tryz.pinned (OpenSpec.upto handoverChecksSpec)

/-- 'cellplanelaw32.HandoverSessions', WHERE WHAT IT READS IS OF BULK AT MOST 1048576: true; the input reads as it did. -/
def handoverSessionsUptoRow : OpenClaim := { program := "ytiabhlogadboeaagreat", sum := "3f969669a74677598ca2e870e7d8d149aa0485780f0a9ba14592650334b8044a", func := "cellplane/cellplanelaw32.HandoverSessions", spec := "handoverSessions", inPlace := ["maps.clone", "slices.overlaps[cellplane/api.Window]", "slices.overlaps[cellplane/api.Lease]"], unfollowed := true, recurses := true, apart := false, narrowed := true }
def HandoverSessionsUptoSaid : Prop := handoverSessionsUptoRow.holds Tryz.pinned (OpenSpec.upto handoverSessionsSpec)

/-- 'cellplanelaw32.HandoverOnce', WHERE WHAT IT READS IS OF BULK AT MOST 1048576: true; the input reads as it did. -/
def handoverOnceUptoRow : OpenClaim := { program := "ytiabhlogadboeaagreat", sum := "3f969669a74677598ca2e870e7d8d149aa0485780f0a9ba14592650334b8044a", func := "cellplane/cellplanelaw32.HandoverOnce", spec := "handoverOnce", inPlace := ["maps.clone", "slices.overlaps[cellplane/api.Window]", "slices.overlaps[cellplane/api.Lease]"], unfollowed := true, recurses := true, apart := false, narrowed := true }
def HandoverOnceUptoSaid : Prop := handoverOnceUptoRow.holds Tryz.pinned (OpenSpec.upto handoverOnceSpec)

end Rows
end Go.Proofs.YtiabhlogadboeaaGreat
