/-
  No cell of these rows narrows 'for every input' (looked for: loops, veiled, ifaces, maps, wideKeys, modest, calm, conditions, laid).
  DERIVED. THE GIVEN ROWS OF THIS SEAT. 7 by the template 'for every input the law returns true; each argument reads behind the call as it read before'; 0 by the template 'total and deterministic' (their statements: YtmjdkgpckcdndaaTotals.lean).
  GIVEN WITH THE SEED: the statements are not yours to turn. If you find one false, say at which input.
  Laid BY PROGRAM, IN A SANDBOX (cutbox-rows.mjs): the forced cells as the released guide's own fill.sh prints them over the translation 24505945a5469d1c… (all of the seat's roots in one cut). By AI agents, Wed Nov 11 2026. No macro, syntax, notation, axiom, sorry.
-/
import Derived.Test.YtmjdkgpckcdndaaChecked
import GoSem.Claim
import GoSem.ClaimJoined
import GoSem.ClaimMapViews
import Derived.JoinedTies
import Derived.KernelRfl
namespace Go.Proofs.Ytmjdkgpckcdndaa
/- THE CELL 'sum', in the pinned program and in every row, IS THE sha256 OF THE DUMP (.gsa) THAT YtmjdkgpckcdndaaProg.lean LOADS. Nothing in Lean hashes anything: it is a label: what it is worth is what the hold of that sum in a sandbox is worth. -/
noncomputable def Try.pinned : Pinned := { name := "ytmjdkgpckcdndaa", sum := "24505945a5469d1ce9ef4e2c2931bd37c4919e002ace5e280435f5c15bfbe264", checked := Try.checked }
namespace Rows
def none {H : Type} : Left H := { results := [], args := [] }

/-- 'cellplanelaw29.FollowTakes': WHATEVER THE INPUT: true; the input reads as it did. -/
def followTakesSpec : ChangeSpec := { name := "followTakes", fn := fun _ => fun
  | [d1, d2, d3, d4] => { results := [.lit (.bool true)], args := [d1, d2, d3, d4] }
  | _ => none }
def followTakesRow : OpenClaim := { program := "ytmjdkgpckcdndaa", sum := "24505945a5469d1ce9ef4e2c2931bd37c4919e002ace5e280435f5c15bfbe264", func := "cellplane/cellplanelaw29.FollowTakes", spec := "followTakes", inPlace := ["maps.clone"], unfollowed := true, recurses := true, apart := false }
def FollowTakesSaid : Prop := followTakesRow.holds Try.pinned (OpenSpec.ofChange followTakesSpec)

/-- ITS FALSE NEIGHBOUR: 'it returns false'. Refute it at one input. -/
def followTakesWrong : ChangeSpec := { name := "followTakes", fn := fun _ => fun
  | [d1, d2, d3, d4] => { results := [.lit (.bool false)], args := [d1, d2, d3, d4] }
  | _ => none }
def FollowTakesWrongFalsely : Prop := followTakesRow.holds Try.pinned (OpenSpec.ofChange followTakesWrong)

/-- 'cellplanelaw29.FollowOlder': WHATEVER THE INPUT: true; the input reads as it did. -/
def followOlderSpec : ChangeSpec := { name := "followOlder", fn := fun _ => fun
  | [d1, d2, d3, d4] => { results := [.lit (.bool true)], args := [d1, d2, d3, d4] }
  | _ => none }
def followOlderRow : OpenClaim := { program := "ytmjdkgpckcdndaa", sum := "24505945a5469d1ce9ef4e2c2931bd37c4919e002ace5e280435f5c15bfbe264", func := "cellplane/cellplanelaw29.FollowOlder", spec := "followOlder", inPlace := ["maps.clone"], unfollowed := true, recurses := true, apart := false }
def FollowOlderSaid : Prop := followOlderRow.holds Try.pinned (OpenSpec.ofChange followOlderSpec)

/-- ITS FALSE NEIGHBOUR: 'it returns false'. Refute it at one input. -/
def followOlderWrong : ChangeSpec := { name := "followOlder", fn := fun _ => fun
  | [d1, d2, d3, d4] => { results := [.lit (.bool false)], args := [d1, d2, d3, d4] }
  | _ => none }
def FollowOlderWrongFalsely : Prop := followOlderRow.holds Try.pinned (OpenSpec.ofChange followOlderWrong)

/-- 'cellplanelaw29.FollowAcks': WHATEVER THE INPUT: true; the input reads as it did. -/
def followAcksSpec : ChangeSpec := { name := "followAcks", fn := fun _ => fun
  | [d1, d2, d3, d4] => { results := [.lit (.bool true)], args := [d1, d2, d3, d4] }
  | _ => none }
def followAcksRow : OpenClaim := { program := "ytmjdkgpckcdndaa", sum := "24505945a5469d1ce9ef4e2c2931bd37c4919e002ace5e280435f5c15bfbe264", func := "cellplane/cellplanelaw29.FollowAcks", spec := "followAcks", inPlace := ["maps.clone"], unfollowed := true, recurses := true, apart := false }
def FollowAcksSaid : Prop := followAcksRow.holds Try.pinned (OpenSpec.ofChange followAcksSpec)

/-- ITS FALSE NEIGHBOUR: 'it returns false'. Refute it at one input. -/
def followAcksWrong : ChangeSpec := { name := "followAcks", fn := fun _ => fun
  | [d1, d2, d3, d4] => { results := [.lit (.bool false)], args := [d1, d2, d3, d4] }
  | _ => none }
def FollowAcksWrongFalsely : Prop := followAcksRow.holds Try.pinned (OpenSpec.ofChange followAcksWrong)

/-- 'cellplanelaw29.FollowPrefix': WHATEVER THE INPUT: true; the input reads as it did. -/
def followPrefixSpec : ChangeSpec := { name := "followPrefix", fn := fun _ => fun
  | [d1, d2, d3, d4] => { results := [.lit (.bool true)], args := [d1, d2, d3, d4] }
  | _ => none }
def followPrefixRow : OpenClaim := { program := "ytmjdkgpckcdndaa", sum := "24505945a5469d1ce9ef4e2c2931bd37c4919e002ace5e280435f5c15bfbe264", func := "cellplane/cellplanelaw29.FollowPrefix", spec := "followPrefix", inPlace := ["maps.clone"], unfollowed := true, recurses := true, apart := false }
def FollowPrefixSaid : Prop := followPrefixRow.holds Try.pinned (OpenSpec.ofChange followPrefixSpec)

/-- ITS FALSE NEIGHBOUR: 'it returns false'. Refute it at one input. -/
def followPrefixWrong : ChangeSpec := { name := "followPrefix", fn := fun _ => fun
  | [d1, d2, d3, d4] => { results := [.lit (.bool false)], args := [d1, d2, d3, d4] }
  | _ => none }
def FollowPrefixWrongFalsely : Prop := followPrefixRow.holds Try.pinned (OpenSpec.ofChange followPrefixWrong)

/-- 'cellplanelaw29.FollowKeeps': WHATEVER THE INPUT: true; the input reads as it did. -/
def followKeepsSpec : ChangeSpec := { name := "followKeeps", fn := fun _ => fun
  | [d1, d2, d3, d4, d5] => { results := [.lit (.bool true)], args := [d1, d2, d3, d4, d5] }
  | _ => none }
def followKeepsRow : OpenClaim := { program := "ytmjdkgpckcdndaa", sum := "24505945a5469d1ce9ef4e2c2931bd37c4919e002ace5e280435f5c15bfbe264", func := "cellplane/cellplanelaw29.FollowKeeps", spec := "followKeeps", inPlace := ["maps.clone"], unfollowed := true, recurses := true, apart := false }
def FollowKeepsSaid : Prop := followKeepsRow.holds Try.pinned (OpenSpec.ofChange followKeepsSpec)

/-- ITS FALSE NEIGHBOUR: 'it returns false'. Refute it at one input. -/
def followKeepsWrong : ChangeSpec := { name := "followKeeps", fn := fun _ => fun
  | [d1, d2, d3, d4, d5] => { results := [.lit (.bool false)], args := [d1, d2, d3, d4, d5] }
  | _ => none }
def FollowKeepsWrongFalsely : Prop := followKeepsRow.holds Try.pinned (OpenSpec.ofChange followKeepsWrong)

/-- 'cellplanelaw29.FollowForks': WHATEVER THE INPUT: true; the input reads as it did. -/
def followForksSpec : ChangeSpec := { name := "followForks", fn := fun _ => fun
  | [d1, d2, d3, d4] => { results := [.lit (.bool true)], args := [d1, d2, d3, d4] }
  | _ => none }
def followForksRow : OpenClaim := { program := "ytmjdkgpckcdndaa", sum := "24505945a5469d1ce9ef4e2c2931bd37c4919e002ace5e280435f5c15bfbe264", func := "cellplane/cellplanelaw29.FollowForks", spec := "followForks", inPlace := ["maps.clone"], unfollowed := true, recurses := true, apart := false }
def FollowForksSaid : Prop := followForksRow.holds Try.pinned (OpenSpec.ofChange followForksSpec)

/-- ITS FALSE NEIGHBOUR: 'it returns false'. Refute it at one input. -/
def followForksWrong : ChangeSpec := { name := "followForks", fn := fun _ => fun
  | [d1, d2, d3, d4] => { results := [.lit (.bool false)], args := [d1, d2, d3, d4] }
  | _ => none }
def FollowForksWrongFalsely : Prop := followForksRow.holds Try.pinned (OpenSpec.ofChange followForksWrong)

/-- 'cellplanelaw29.FollowEnds': WHATEVER THE INPUT: true; the input reads as it did. -/
def followEndsSpec : ChangeSpec := { name := "followEnds", fn := fun _ => fun
  | [d1, d2, d3, d4] => { results := [.lit (.bool true)], args := [d1, d2, d3, d4] }
  | _ => none }
def followEndsRow : OpenClaim := { program := "ytmjdkgpckcdndaa", sum := "24505945a5469d1ce9ef4e2c2931bd37c4919e002ace5e280435f5c15bfbe264", func := "cellplane/cellplanelaw29.FollowEnds", spec := "followEnds", inPlace := ["maps.clone"], unfollowed := true, recurses := true, apart := false }
def FollowEndsSaid : Prop := followEndsRow.holds Try.pinned (OpenSpec.ofChange followEndsSpec)

/-- ITS FALSE NEIGHBOUR: 'it returns false'. Refute it at one input. -/
def followEndsWrong : ChangeSpec := { name := "followEnds", fn := fun _ => fun
  | [d1, d2, d3, d4] => { results := [.lit (.bool false)], args := [d1, d2, d3, d4] }
  | _ => none }
def FollowEndsWrongFalsely : Prop := followEndsRow.holds Try.pinned (OpenSpec.ofChange followEndsWrong)

/- THE SECOND FORM. 'bulk': how many values and letters a reading holds, each counted each time it is reached (what is shared counts as often as it is met; a slice's spare places count too). A statement '..UptoSaid' is the law's where the arguments, and the package variables that the reading takes, are together of bulk at most 1048576: NARROWER than '..Said'. Prove '..Said' where nothing that the law and all that it calls make is longer than what came in: it says more and counts as full. Else prove '..UptoSaid'. A law counts once. -/
mutual
def uptoBulk {H : Type} : DataW H → Nat
  | .lit (.string bytes) => bytes.length + 1
  | .lit _ => 1
  | .nil => 1
  | .ptr d => uptoBulk d + 1
  | .slice elems spare => uptoBulkAll elems + uptoBulkAll spare + 1
  | .agg parts => uptoBulkAll parts + 1
  | .iface _ d => uptoBulk d + 1
  | .map entries => uptoBulkEntries entries + 1
  | .held _ => 1
def uptoBulkAll {H : Type} : List (DataW H) → Nat
  | [] => 0
  | d :: r => uptoBulk d + uptoBulkAll r
def uptoBulkEntries {H : Type} : List (Lit × DataW H) → Nat
  | [] => 0
  | x :: r => uptoBulkEntry x + uptoBulkEntries r
def uptoBulkEntry {H : Type} : Lit × DataW H → Nat
  | (.string bytes, d) => bytes.length + uptoBulk d + 1
  | (_, d) => uptoBulk d + 1
 end
def uptoSmall : (H : Type) → List (DataW H) → Bool := fun _ ds => decide (uptoBulkAll ds ≤ 1048576)
def OpenSpec.upto (s : _root_.Go.ChangeSpec) : _root_.Go.OpenSpec := { _root_.Go.OpenSpec.ofChange s with cond := some uptoSmall }

/-- 'cellplanelaw29.FollowTakes', WHERE WHAT IT READS IS OF BULK AT MOST 1048576: true; the input reads as it did. -/
def followTakesUptoRow : OpenClaim := { program := "ytmjdkgpckcdndaa", sum := "24505945a5469d1ce9ef4e2c2931bd37c4919e002ace5e280435f5c15bfbe264", func := "cellplane/cellplanelaw29.FollowTakes", spec := "followTakes", inPlace := ["maps.clone"], unfollowed := true, recurses := true, apart := false, narrowed := true }
def FollowTakesUptoSaid : Prop := followTakesUptoRow.holds Try.pinned (OpenSpec.upto followTakesSpec)

/-- 'cellplanelaw29.FollowOlder', WHERE WHAT IT READS IS OF BULK AT MOST 1048576: true; the input reads as it did. -/
def followOlderUptoRow : OpenClaim := { program := "ytmjdkgpckcdndaa", sum := "24505945a5469d1ce9ef4e2c2931bd37c4919e002ace5e280435f5c15bfbe264", func := "cellplane/cellplanelaw29.FollowOlder", spec := "followOlder", inPlace := ["maps.clone"], unfollowed := true, recurses := true, apart := false, narrowed := true }
def FollowOlderUptoSaid : Prop := followOlderUptoRow.holds Try.pinned (OpenSpec.upto followOlderSpec)

/-- 'cellplanelaw29.FollowAcks', WHERE WHAT IT READS IS OF BULK AT MOST 1048576: true; the input reads as it did. -/
def followAcksUptoRow : OpenClaim := { program := "ytmjdkgpckcdndaa", sum := "24505945a5469d1ce9ef4e2c2931bd37c4919e002ace5e280435f5c15bfbe264", func := "cellplane/cellplanelaw29.FollowAcks", spec := "followAcks", inPlace := ["maps.clone"], unfollowed := true, recurses := true, apart := false, narrowed := true }
def FollowAcksUptoSaid : Prop := followAcksUptoRow.holds Try.pinned (OpenSpec.upto followAcksSpec)

/-- 'cellplanelaw29.FollowPrefix', WHERE WHAT IT READS IS OF BULK AT MOST 1048576: true; the input reads as it did. -/
def followPrefixUptoRow : OpenClaim := { program := "ytmjdkgpckcdndaa", sum := "24505945a5469d1ce9ef4e2c2931bd37c4919e002ace5e280435f5c15bfbe264", func := "cellplane/cellplanelaw29.FollowPrefix", spec := "followPrefix", inPlace := ["maps.clone"], unfollowed := true, recurses := true, apart := false, narrowed := true }
def FollowPrefixUptoSaid : Prop := followPrefixUptoRow.holds Try.pinned (OpenSpec.upto followPrefixSpec)

/-- 'cellplanelaw29.FollowKeeps', WHERE WHAT IT READS IS OF BULK AT MOST 1048576: true; the input reads as it did. -/
def followKeepsUptoRow : OpenClaim := { program := "ytmjdkgpckcdndaa", sum := "24505945a5469d1ce9ef4e2c2931bd37c4919e002ace5e280435f5c15bfbe264", func := "cellplane/cellplanelaw29.FollowKeeps", spec := "followKeeps", inPlace := ["maps.clone"], unfollowed := true, recurses := true, apart := false, narrowed := true }
def FollowKeepsUptoSaid : Prop := followKeepsUptoRow.holds Try.pinned (OpenSpec.upto followKeepsSpec)

/-- 'cellplanelaw29.FollowForks', WHERE WHAT IT READS IS OF BULK AT MOST 1048576: true; the input reads as it did. -/
def followForksUptoRow : OpenClaim := { program := "ytmjdkgpckcdndaa", sum := "24505945a5469d1ce9ef4e2c2931bd37c4919e002ace5e280435f5c15bfbe264", func := "cellplane/cellplanelaw29.FollowForks", spec := "followForks", inPlace := ["maps.clone"], unfollowed := true, recurses := true, apart := false, narrowed := true }
def FollowForksUptoSaid : Prop := followForksUptoRow.holds Try.pinned (OpenSpec.upto followForksSpec)

/-- 'cellplanelaw29.FollowEnds', WHERE WHAT IT READS IS OF BULK AT MOST 1048576: true; the input reads as it did. -/
def followEndsUptoRow : OpenClaim := { program := "ytmjdkgpckcdndaa", sum := "24505945a5469d1ce9ef4e2c2931bd37c4919e002ace5e280435f5c15bfbe264", func := "cellplane/cellplanelaw29.FollowEnds", spec := "followEnds", inPlace := ["maps.clone"], unfollowed := true, recurses := true, apart := false, narrowed := true }
def FollowEndsUptoSaid : Prop := followEndsUptoRow.holds Try.pinned (OpenSpec.upto followEndsSpec)

end Rows
end Go.Proofs.Ytmjdkgpckcdndaa
