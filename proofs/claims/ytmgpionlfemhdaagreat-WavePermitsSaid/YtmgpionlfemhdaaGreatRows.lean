/-
  No cell of these rows narrows 'for every input' (looked for: loops, veiled, ifaces, maps, wideKeys, modest, calm, conditions, laid).
  DERIVED. THE GIVEN ROWS OF THIS SEAT. 5 by the template 'for every input the law returns true; each argument reads behind the call as it read before'; 0 by the template 'total and deterministic' (their statements: YtmgpionlfemhdaaGreatTotals.lean).
  GIVEN WITH THE SEED: the statements are not yours to turn. If you find one false, say at which input.
  Laid BY PROGRAM, IN A SANDBOX (cutbox-rows.mjs): the forced cells as the released guide's own fill.sh prints them over the translation 6e95a976a966157a… (all of the seat's roots in one cut). By AI agents, Wed Nov 11 2026. No macro, syntax, notation, axiom, sorry.
-/
import Derived.Test.YtmgpionlfemhdaaGreatChecked
import GoSem.Claim
import GoSem.ClaimJoined
import GoSem.ClaimMapViews
import Derived.JoinedTies
import Derived.KernelRfl
namespace Go.Proofs.YtmgpionlfemhdaaGreat
/- THE CELL 'sum', in the pinned program and in every row, IS THE sha256 OF THE DUMP (.gsa) THAT YtmgpionlfemhdaaGreatProg.lean LOADS. Nothing in Lean hashes anything: it is a label: what it is worth is what the hold of that sum in a sandbox is worth. -/
noncomputable def Tryz.pinned : Pinned := { name := "ytmgpionlfemhdaagreat", sum := "6e95a976a966157a8337201e6c366ad56c06993d3641ced320d127872dfa9d0c", checked := Tryz.checked }
namespace Rows
def none {H : Type} : Left H := { results := [], args := [] }

/-- 'cellplanelaw37.WaveConflicts': WHATEVER THE INPUT: true; the input reads as it did. -/
def waveConflictsSpec : ChangeSpec := { name := "waveConflicts", fn := fun _ => fun
  | [d1, d2, d3, d4, d5] => { results := [.lit (.bool true)], args := [d1, d2, d3, d4, d5] }
  | _ => none }
def waveConflictsRow : OpenClaim := { program := "ytmgpionlfemhdaagreat", sum := "6e95a976a966157a8337201e6c366ad56c06993d3641ced320d127872dfa9d0c", func := "cellplane/cellplanelaw37.WaveConflicts", spec := "waveConflicts", unfollowed := true, recurses := true, apart := false }
def WaveConflictsSaid : Prop := waveConflictsRow.holds Tryz.pinned (OpenSpec.ofChange waveConflictsSpec)

/-- ITS FALSE NEIGHBOUR: 'it returns false'. Refute it at one input. -/
def waveConflictsWrong : ChangeSpec := { name := "waveConflicts", fn := fun _ => fun
  | [d1, d2, d3, d4, d5] => { results := [.lit (.bool false)], args := [d1, d2, d3, d4, d5] }
  | _ => none }
def WaveConflictsWrongFalsely : Prop := waveConflictsRow.holds Tryz.pinned (OpenSpec.ofChange waveConflictsWrong)

/-- 'cellplanelaw37.WaveMakes': WHATEVER THE INPUT: true; the input reads as it did. -/
def waveMakesSpec : ChangeSpec := { name := "waveMakes", fn := fun _ => fun
  | [d1, d2, d3, d4] => { results := [.lit (.bool true)], args := [d1, d2, d3, d4] }
  | _ => none }
def waveMakesRow : OpenClaim := { program := "ytmgpionlfemhdaagreat", sum := "6e95a976a966157a8337201e6c366ad56c06993d3641ced320d127872dfa9d0c", func := "cellplane/cellplanelaw37.WaveMakes", spec := "waveMakes", unfollowed := true, recurses := true, apart := false }
def WaveMakesSaid : Prop := waveMakesRow.holds Tryz.pinned (OpenSpec.ofChange waveMakesSpec)

/-- ITS FALSE NEIGHBOUR: 'it returns false'. Refute it at one input. -/
def waveMakesWrong : ChangeSpec := { name := "waveMakes", fn := fun _ => fun
  | [d1, d2, d3, d4] => { results := [.lit (.bool false)], args := [d1, d2, d3, d4] }
  | _ => none }
def WaveMakesWrongFalsely : Prop := waveMakesRow.holds Tryz.pinned (OpenSpec.ofChange waveMakesWrong)

/-- 'cellplanelaw37.WaveChecks': WHATEVER THE INPUT: true; the input reads as it did. -/
def waveChecksSpec : ChangeSpec := { name := "waveChecks", fn := fun _ => fun
  | [d1, d2, d3, d4, d5, d6] => { results := [.lit (.bool true)], args := [d1, d2, d3, d4, d5, d6] }
  | _ => none }
def waveChecksRow : OpenClaim := { program := "ytmgpionlfemhdaagreat", sum := "6e95a976a966157a8337201e6c366ad56c06993d3641ced320d127872dfa9d0c", func := "cellplane/cellplanelaw37.WaveChecks", spec := "waveChecks", unfollowed := true, recurses := true, apart := false }
def WaveChecksSaid : Prop := waveChecksRow.holds Tryz.pinned (OpenSpec.ofChange waveChecksSpec)

/-- ITS FALSE NEIGHBOUR: 'it returns false'. Refute it at one input. -/
def waveChecksWrong : ChangeSpec := { name := "waveChecks", fn := fun _ => fun
  | [d1, d2, d3, d4, d5, d6] => { results := [.lit (.bool false)], args := [d1, d2, d3, d4, d5, d6] }
  | _ => none }
def WaveChecksWrongFalsely : Prop := waveChecksRow.holds Tryz.pinned (OpenSpec.ofChange waveChecksWrong)

/-- 'cellplanelaw37.WaveSafe': WHATEVER THE INPUT: true; the input reads as it did. -/
def waveSafeSpec : ChangeSpec := { name := "waveSafe", fn := fun _ => fun
  | [d1, d2, d3, d4] => { results := [.lit (.bool true)], args := [d1, d2, d3, d4] }
  | _ => none }
def waveSafeRow : OpenClaim := { program := "ytmgpionlfemhdaagreat", sum := "6e95a976a966157a8337201e6c366ad56c06993d3641ced320d127872dfa9d0c", func := "cellplane/cellplanelaw37.WaveSafe", spec := "waveSafe", unfollowed := true, recurses := true, apart := false }
def WaveSafeSaid : Prop := waveSafeRow.holds Tryz.pinned (OpenSpec.ofChange waveSafeSpec)

/-- ITS FALSE NEIGHBOUR: 'it returns false'. Refute it at one input. -/
def waveSafeWrong : ChangeSpec := { name := "waveSafe", fn := fun _ => fun
  | [d1, d2, d3, d4] => { results := [.lit (.bool false)], args := [d1, d2, d3, d4] }
  | _ => none }
def WaveSafeWrongFalsely : Prop := waveSafeRow.holds Tryz.pinned (OpenSpec.ofChange waveSafeWrong)

/-- 'cellplanelaw37.WavePermits': WHATEVER THE INPUT: true; the input reads as it did. -/
def wavePermitsSpec : ChangeSpec := { name := "wavePermits", fn := fun _ => fun
  | [d1, d2, d3, d4, d5] => { results := [.lit (.bool true)], args := [d1, d2, d3, d4, d5] }
  | _ => none }
def wavePermitsRow : OpenClaim := { program := "ytmgpionlfemhdaagreat", sum := "6e95a976a966157a8337201e6c366ad56c06993d3641ced320d127872dfa9d0c", func := "cellplane/cellplanelaw37.WavePermits", spec := "wavePermits", unfollowed := true, recurses := true, apart := false }
def WavePermitsSaid : Prop := wavePermitsRow.holds Tryz.pinned (OpenSpec.ofChange wavePermitsSpec)

/-- ITS FALSE NEIGHBOUR: 'it returns false'. Refute it at one input. -/
def wavePermitsWrong : ChangeSpec := { name := "wavePermits", fn := fun _ => fun
  | [d1, d2, d3, d4, d5] => { results := [.lit (.bool false)], args := [d1, d2, d3, d4, d5] }
  | _ => none }
def WavePermitsWrongFalsely : Prop := wavePermitsRow.holds Tryz.pinned (OpenSpec.ofChange wavePermitsWrong)

/- THE SECOND FORM. 'bulk': how many values and letters a reading holds, each counted each time it is reached (what is shared counts as often as it is met; a slice's spare places count too). A statement '..UptoSaid' is the law's where the arguments, and the package variables that the reading takes, are together of bulk at most 1048576: NARROWER than '..Said'. Prove '..Said' where nothing that the law and all that it calls make is longer than what came in: it says more and counts as full. Else prove '..UptoSaid'. A law counts once. -/
mutual
def uptoBulk {H : Type} : DataW H → Nat
  | .lit (.string bytes) => bytes.length + 1
  | .lit _ => 1
  | .nil => 1
  | .ptr d => uptoBulk d + 1
  | .slice elems spare => uptoBulkAll elems + uptoBulkAll spare + 1
  | .agg parts => uptoBulkAll parts + 1
  | .iface _ d => uptoBulk d + 1
  | .map entries => uptoBulkEntries entries + 1
  | .held _ => 1
def uptoBulkAll {H : Type} : List (DataW H) → Nat
  | [] => 0
  | d :: r => uptoBulk d + uptoBulkAll r
def uptoBulkEntries {H : Type} : List (Lit × DataW H) → Nat
  | [] => 0
  | x :: r => uptoBulkEntry x + uptoBulkEntries r
def uptoBulkEntry {H : Type} : Lit × DataW H → Nat
  | (.string bytes, d) => bytes.length + uptoBulk d + 1
  | (_, d) => uptoBulk d + 1
 end
def uptoSmall : (H : Type) → List (DataW H) → Bool := fun _ ds => decide (uptoBulkAll ds ≤ 1048576)
def OpenSpec.upto (s : _root_.Go.ChangeSpec) : _root_.Go.OpenSpec := { _root_.Go.OpenSpec.ofChange s with cond := some uptoSmall }

/-- 'cellplanelaw37.WaveConflicts', WHERE WHAT IT READS IS OF BULK AT MOST 1048576: true; the input reads as it did. -/
def waveConflictsUptoRow : OpenClaim := { program := "ytmgpionlfemhdaagreat", sum := "6e95a976a966157a8337201e6c366ad56c06993d3641ced320d127872dfa9d0c", func := "cellplane/cellplanelaw37.WaveConflicts", spec := "waveConflicts", unfollowed := true, recurses := true, apart := false, narrowed := true }
def WaveConflictsUptoSaid : Prop := waveConflictsUptoRow.holds Tryz.pinned (OpenSpec.upto waveConflictsSpec)

/-- 'cellplanelaw37.WaveMakes', WHERE WHAT IT READS IS OF BULK AT MOST 1048576: true; the input reads as it did. -/
def waveMakesUptoRow : OpenClaim := { program := "ytmgpionlfemhdaagreat", sum := "6e95a976a966157a8337201e6c366ad56c06993d3641ced320d127872dfa9d0c", func := "cellplane/cellplanelaw37.WaveMakes", spec := "waveMakes", unfollowed := true, recurses := true, apart := false, narrowed := true }
def WaveMakesUptoSaid : Prop := waveMakesUptoRow.holds Tryz.pinned (OpenSpec.upto waveMakesSpec)

/-- 'cellplanelaw37.WaveChecks', WHERE WHAT IT READS IS OF BULK AT MOST 1048576: true; the input reads as it did. -/
def waveChecksUptoRow : OpenClaim := { program := "ytmgpionlfemhdaagreat", sum := "6e95a976a966157a8337201e6c366ad56c06993d3641ced320d127872dfa9d0c", func := "cellplane/cellplanelaw37.WaveChecks", spec := "waveChecks", unfollowed := true, recurses := true, apart := false, narrowed := true }
def WaveChecksUptoSaid : Prop := waveChecksUptoRow.holds Tryz.pinned (OpenSpec.upto waveChecksSpec)

/-- 'cellplanelaw37.WaveSafe', WHERE WHAT IT READS IS OF BULK AT MOST 1048576: true; the input reads as it did. -/
def waveSafeUptoRow : OpenClaim := { program := "ytmgpionlfemhdaagreat", sum := "6e95a976a966157a8337201e6c366ad56c06993d3641ced320d127872dfa9d0c", func := "cellplane/cellplanelaw37.WaveSafe", spec := "waveSafe", unfollowed := true, recurses := true, apart := false, narrowed := true }
def WaveSafeUptoSaid : Prop := waveSafeUptoRow.holds Tryz.pinned (OpenSpec.upto waveSafeSpec)

/-- 'cellplanelaw37.WavePermits', WHERE WHAT IT READS IS OF BULK AT MOST 1048576: true; the input reads as it did. -/
def wavePermitsUptoRow : OpenClaim := { program := "ytmgpionlfemhdaagreat", sum := "6e95a976a966157a8337201e6c366ad56c06993d3641ced320d127872dfa9d0c", func := "cellplane/cellplanelaw37.WavePermits", spec := "wavePermits", unfollowed := true, recurses := true, apart := false, narrowed := true }
def WavePermitsUptoSaid : Prop := wavePermitsUptoRow.holds Tryz.pinned (OpenSpec.upto wavePermitsSpec)

end Rows
end Go.Proofs.YtmgpionlfemhdaaGreat
