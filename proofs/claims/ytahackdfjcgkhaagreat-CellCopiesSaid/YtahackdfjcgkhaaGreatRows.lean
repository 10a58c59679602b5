/-
  No cell of these rows narrows 'for every input' (looked for: loops, veiled, ifaces, maps, wideKeys, modest, calm, conditions, laid).
  DERIVED. THE GIVEN ROWS OF THIS SEAT. 10 by the template 'for every input the law returns true; each argument reads behind the call as it read before'; 0 by the template 'total and deterministic' (their statements: YtahackdfjcgkhaaGreatTotals.lean).
  GIVEN WITH THE SEED: the statements are not yours to turn. If you find one false, say at which input.
  Laid BY PROGRAM, IN A SANDBOX (cutbox-rows.mjs): the forced cells as the released guide's own fill.sh prints them over the translation 7e4f545bec3eb76b… (all of the seat's roots in one cut). By AI agents, Wed Nov 11 2026. No macro, syntax, notation, axiom, sorry.
-/
import Derived.Test.YtahackdfjcgkhaaGreatChecked
import GoSem.Claim
import GoSem.ClaimJoined
import GoSem.ClaimMapViews
import Derived.JoinedTies
import Derived.KernelRfl
namespace Go.Proofs.YtahackdfjcgkhaaGreat
/- THE CELL 'sum', in the pinned program and in every row, IS THE sha256 OF THE DUMP (.gsa) THAT YtahackdfjcgkhaaGreatProg.lean LOADS. Nothing in Lean hashes anything: it is a label: what it is worth is what the hold of that sum in a sandbox is worth. -/
noncomputable def Tryz.pinned : Pinned := { name := "ytahackdfjcgkhaagreat", sum := "7e4f545bec3eb76ba08a47f24e66c799082e1f5f45af53095139662f5f179a01", checked := Tryz.checked }
namespace Rows
def none {H : Type} : Left H := { results := [], args := [] }

/-- 'cellplanelaw28.CellValid': WHATEVER THE INPUT: true; the input reads as it did. -/
def cellValidSpec : ChangeSpec := { name := "cellValid", fn := fun _ => fun
  | [d1, d2, d3, d4] => { results := [.lit (.bool true)], args := [d1, d2, d3, d4] }
  | _ => none }
def cellValidRow : OpenClaim := { program := "ytahackdfjcgkhaagreat", sum := "7e4f545bec3eb76ba08a47f24e66c799082e1f5f45af53095139662f5f179a01", func := "cellplane/cellplanelaw28.CellValid", spec := "cellValid", inPlace := ["slices.overlaps[cellplane/api.Window]", "slices.overlaps[cellplane/api.Lease]", "maps.clone"], unfollowed := true, recurses := true, apart := false }
def CellValidSaid : Prop := cellValidRow.holds Tryz.pinned (OpenSpec.ofChange cellValidSpec)

/-- ITS FALSE NEIGHBOUR: 'it returns false'. Refute it at one input. -/
def cellValidWrong : ChangeSpec := { name := "cellValid", fn := fun _ => fun
  | [d1, d2, d3, d4] => { results := [.lit (.bool false)], args := [d1, d2, d3, d4] }
  | _ => none }
def CellValidWrongFalsely : Prop := cellValidRow.holds Tryz.pinned (OpenSpec.ofChange cellValidWrong)

/-- 'cellplanelaw28.CellReads': WHATEVER THE INPUT: true; the input reads as it did. -/
def cellReadsSpec : ChangeSpec := { name := "cellReads", fn := fun _ => fun
  | [d1, d2] => { results := [.lit (.bool true)], args := [d1, d2] }
  | _ => none }
def cellReadsRow : OpenClaim := { program := "ytahackdfjcgkhaagreat", sum := "7e4f545bec3eb76ba08a47f24e66c799082e1f5f45af53095139662f5f179a01", func := "cellplane/cellplanelaw28.CellReads", spec := "cellReads", inPlace := ["slices.overlaps[cellplane/api.Window]", "slices.overlaps[cellplane/api.Lease]", "maps.clone"], unfollowed := true, recurses := true, apart := false }
def CellReadsSaid : Prop := cellReadsRow.holds Tryz.pinned (OpenSpec.ofChange cellReadsSpec)

/-- ITS FALSE NEIGHBOUR: 'it returns false'. Refute it at one input. -/
def cellReadsWrong : ChangeSpec := { name := "cellReads", fn := fun _ => fun
  | [d1, d2] => { results := [.lit (.bool false)], args := [d1, d2] }
  | _ => none }
def CellReadsWrongFalsely : Prop := cellReadsRow.holds Tryz.pinned (OpenSpec.ofChange cellReadsWrong)

/-- 'cellplanelaw28.CellFolds': WHATEVER THE INPUT: true; the input reads as it did. -/
def cellFoldsSpec : ChangeSpec := { name := "cellFolds", fn := fun _ => fun
  | [d1, d2, d3, d4, d5, d6] => { results := [.lit (.bool true)], args := [d1, d2, d3, d4, d5, d6] }
  | _ => none }
def cellFoldsRow : OpenClaim := { program := "ytahackdfjcgkhaagreat", sum := "7e4f545bec3eb76ba08a47f24e66c799082e1f5f45af53095139662f5f179a01", func := "cellplane/cellplanelaw28.CellFolds", spec := "cellFolds", inPlace := ["slices.overlaps[cellplane/api.Window]", "slices.overlaps[cellplane/api.Lease]", "maps.clone"], unfollowed := true, recurses := true, apart := false }
def CellFoldsSaid : Prop := cellFoldsRow.holds Tryz.pinned (OpenSpec.ofChange cellFoldsSpec)

/-- ITS FALSE NEIGHBOUR: 'it returns false'. Refute it at one input. -/
def cellFoldsWrong : ChangeSpec := { name := "cellFolds", fn := fun _ => fun
  | [d1, d2, d3, d4, d5, d6] => { results := [.lit (.bool false)], args := [d1, d2, d3, d4, d5, d6] }
  | _ => none }
def CellFoldsWrongFalsely : Prop := cellFoldsRow.holds Tryz.pinned (OpenSpec.ofChange cellFoldsWrong)

/-- 'cellplanelaw28.CellOnce': WHATEVER THE INPUT: true; the input reads as it did. -/
def cellOnceSpec : ChangeSpec := { name := "cellOnce", fn := fun _ => fun
  | [d1, d2, d3] => { results := [.lit (.bool true)], args := [d1, d2, d3] }
  | _ => none }
def cellOnceRow : OpenClaim := { program := "ytahackdfjcgkhaagreat", sum := "7e4f545bec3eb76ba08a47f24e66c799082e1f5f45af53095139662f5f179a01", func := "cellplane/cellplanelaw28.CellOnce", spec := "cellOnce", inPlace := ["slices.overlaps[cellplane/api.Window]", "slices.overlaps[cellplane/api.Lease]", "maps.clone"], unfollowed := true, recurses := true, apart := false }
def CellOnceSaid : Prop := cellOnceRow.holds Tryz.pinned (OpenSpec.ofChange cellOnceSpec)

/-- ITS FALSE NEIGHBOUR: 'it returns false'. Refute it at one input. -/
def cellOnceWrong : ChangeSpec := { name := "cellOnce", fn := fun _ => fun
  | [d1, d2, d3] => { results := [.lit (.bool false)], args := [d1, d2, d3] }
  | _ => none }
def CellOnceWrongFalsely : Prop := cellOnceRow.holds Tryz.pinned (OpenSpec.ofChange cellOnceWrong)

/-- 'cellplanelaw28.CellAgrees': WHATEVER THE INPUT: true; the input reads as it did. -/
def cellAgreesSpec : ChangeSpec := { name := "cellAgrees", fn := fun _ => fun
  | [d1, d2, d3] => { results := [.lit (.bool true)], args := [d1, d2, d3] }
  | _ => none }
def cellAgreesRow : OpenClaim := { program := "ytahackdfjcgkhaagreat", sum := "7e4f545bec3eb76ba08a47f24e66c799082e1f5f45af53095139662f5f179a01", func := "cellplane/cellplanelaw28.CellAgrees", spec := "cellAgrees", inPlace := ["slices.overlaps[cellplane/api.Window]", "slices.overlaps[cellplane/api.Lease]", "maps.clone"], unfollowed := true, recurses := true, apart := false }
def CellAgreesSaid : Prop := cellAgreesRow.holds Tryz.pinned (OpenSpec.ofChange cellAgreesSpec)

/-- ITS FALSE NEIGHBOUR: 'it returns false'. Refute it at one input. -/
def cellAgreesWrong : ChangeSpec := { name := "cellAgrees", fn := fun _ => fun
  | [d1, d2, d3] => { results := [.lit (.bool false)], args := [d1, d2, d3] }
  | _ => none }
def CellAgreesWrongFalsely : Prop := cellAgreesRow.holds Tryz.pinned (OpenSpec.ofChange cellAgreesWrong)

/-- 'cellplanelaw28.CellRefuses': WHATEVER THE INPUT: true; the input reads as it did. -/
def cellRefusesSpec : ChangeSpec := { name := "cellRefuses", fn := fun _ => fun
  | [d1, d2, d3, d4] => { results := [.lit (.bool true)], args := [d1, d2, d3, d4] }
  | _ => none }
def cellRefusesRow : OpenClaim := { program := "ytahackdfjcgkhaagreat", sum := "7e4f545bec3eb76ba08a47f24e66c799082e1f5f45af53095139662f5f179a01", func := "cellplane/cellplanelaw28.CellRefuses", spec := "cellRefuses", inPlace := ["slices.overlaps[cellplane/api.Window]", "slices.overlaps[cellplane/api.Lease]", "maps.clone"], unfollowed := true, recurses := true, apart := false }
def CellRefusesSaid : Prop := cellRefusesRow.holds Tryz.pinned (OpenSpec.ofChange cellRefusesSpec)

/-- ITS FALSE NEIGHBOUR: 'it returns false'. Refute it at one input. -/
def cellRefusesWrong : ChangeSpec := { name := "cellRefuses", fn := fun _ => fun
  | [d1, d2, d3, d4] => { results := [.lit (.bool false)], args := [d1, d2, d3, d4] }
  | _ => none }
def CellRefusesWrongFalsely : Prop := cellRefusesRow.holds Tryz.pinned (OpenSpec.ofChange cellRefusesWrong)

/-- 'cellplanelaw28.CellLeases': WHATEVER THE INPUT: true; the input reads as it did. -/
def cellLeasesSpec : ChangeSpec := { name := "cellLeases", fn := fun _ => fun
  | [d1, d2, d3, d4, d5] => { results := [.lit (.bool true)], args := [d1, d2, d3, d4, d5] }
  | _ => none }
def cellLeasesRow : OpenClaim := { program := "ytahackdfjcgkhaagreat", sum := "7e4f545bec3eb76ba08a47f24e66c799082e1f5f45af53095139662f5f179a01", func := "cellplane/cellplanelaw28.CellLeases", spec := "cellLeases", inPlace := ["slices.overlaps[cellplane/api.Window]", "slices.overlaps[cellplane/api.Lease]", "maps.clone"], unfollowed := true, recurses := true, apart := false }
def CellLeasesSaid : Prop := cellLeasesRow.holds Tryz.pinned (OpenSpec.ofChange cellLeasesSpec)

/-- ITS FALSE NEIGHBOUR: 'it returns false'. Refute it at one input. -/
def cellLeasesWrong : ChangeSpec := { name := "cellLeases", fn := fun _ => fun
  | [d1, d2, d3, d4, d5] => { results := [.lit (.bool false)], args := [d1, d2, d3, d4, d5] }
  | _ => none }
def CellLeasesWrongFalsely : Prop := cellLeasesRow.holds Tryz.pinned (OpenSpec.ofChange cellLeasesWrong)

/-- 'cellplanelaw28.CellTruncates': WHATEVER THE INPUT: true; the input reads as it did. -/
def cellTruncatesSpec : ChangeSpec := { name := "cellTruncates", fn := fun _ => fun
  | [d1, d2] => { results := [.lit (.bool true)], args := [d1, d2] }
  | _ => none }
def cellTruncatesRow : OpenClaim := { program := "ytahackdfjcgkhaagreat", sum := "7e4f545bec3eb76ba08a47f24e66c799082e1f5f45af53095139662f5f179a01", func := "cellplane/cellplanelaw28.CellTruncates", spec := "cellTruncates", inPlace := ["slices.overlaps[cellplane/api.Window]", "slices.overlaps[cellplane/api.Lease]", "maps.clone"], unfollowed := true, recurses := true, apart := false }
def CellTruncatesSaid : Prop := cellTruncatesRow.holds Tryz.pinned (OpenSpec.ofChange cellTruncatesSpec)

/-- ITS FALSE NEIGHBOUR: 'it returns false'. Refute it at one input. -/
def cellTruncatesWrong : ChangeSpec := { name := "cellTruncates", fn := fun _ => fun
  | [d1, d2] => { results := [.lit (.bool false)], args := [d1, d2] }
  | _ => none }
def CellTruncatesWrongFalsely : Prop := cellTruncatesRow.holds Tryz.pinned (OpenSpec.ofChange cellTruncatesWrong)

/-- 'cellplanelaw28.CellPlays': WHATEVER THE INPUT: true; the input reads as it did. -/
def cellPlaysSpec : ChangeSpec := { name := "cellPlays", fn := fun _ => fun
  | [d1, d2, d3, d4] => { results := [.lit (.bool true)], args := [d1, d2, d3, d4] }
  | _ => none }
def cellPlaysRow : OpenClaim := { program := "ytahackdfjcgkhaagreat", sum := "7e4f545bec3eb76ba08a47f24e66c799082e1f5f45af53095139662f5f179a01", func := "cellplane/cellplanelaw28.CellPlays", spec := "cellPlays", inPlace := ["slices.overlaps[cellplane/api.Window]", "slices.overlaps[cellplane/api.Lease]", "maps.clone"], unfollowed := true, recurses := true, apart := false }
def CellPlaysSaid : Prop := cellPlaysRow.holds Tryz.pinned (OpenSpec.ofChange cellPlaysSpec)

/-- ITS FALSE NEIGHBOUR: 'it returns false'. Refute it at one input. -/
def cellPlaysWrong : ChangeSpec := { name := "cellPlays", fn := fun _ => fun
  | [d1, d2, d3, d4] => { results := [.lit (.bool false)], args := [d1, d2, d3, d4] }
  | _ => none }
def CellPlaysWrongFalsely : Prop := cellPlaysRow.holds Tryz.pinned (OpenSpec.ofChange cellPlaysWrong)

/-- 'cellplanelaw28.CellCopies': WHATEVER THE INPUT: true; the input reads as it did. -/
def cellCopiesSpec : ChangeSpec := { name := "cellCopies", fn := fun _ => fun
  | [d1, d2, d3] => { results := [.lit (.bool true)], args := [d1, d2, d3] }
  | _ => none }
def cellCopiesRow : OpenClaim := { program := "ytahackdfjcgkhaagreat", sum := "7e4f545bec3eb76ba08a47f24e66c799082e1f5f45af53095139662f5f179a01", func := "cellplane/cellplanelaw28.CellCopies", spec := "cellCopies", inPlace := ["slices.overlaps[cellplane/api.Window]", "slices.overlaps[cellplane/api.Lease]", "maps.clone"], unfollowed := true, recurses := true, apart := false }
def CellCopiesSaid : Prop := cellCopiesRow.holds Tryz.pinned (OpenSpec.ofChange cellCopiesSpec)

/-- ITS FALSE NEIGHBOUR: 'it returns false'. Refute it at one input. -/
def cellCopiesWrong : ChangeSpec := { name := "cellCopies", fn := fun _ => fun
  | [d1, d2, d3] => { results := [.lit (.bool false)], args := [d1, d2, d3] }
  | _ => none }
def CellCopiesWrongFalsely : Prop := cellCopiesRow.holds Tryz.pinned (OpenSpec.ofChange cellCopiesWrong)

/- THE SECOND FORM. 'bulk': how many values and letters a reading holds, each counted each time it is reached (what is shared counts as often as it is met; a slice's spare places count too). A statement '..UptoSaid' is the law's where the arguments, and the package variables that the reading takes, are together of bulk at most 1048576: NARROWER than '..Said'. Prove '..Said' where nothing that the law and all that it calls make is longer than what came in: it says more and counts as full. Else prove '..UptoSaid'. A law counts once. -/
mutual
def uptoBulk {H : Type} : DataW H → Nat
  | .lit (.string bytes) => bytes.length + 1
  | .lit _ => 1
  | .nil => 1
  | .ptr d => uptoBulk d + 1
  | .slice elems spare => uptoBulkAll elems + uptoBulkAll spare + 1
  | .agg parts => uptoBulkAll parts + 1
  | .iface _ d => uptoBulk d + 1
  | .map entries => uptoBulkEntries entries + 1
  | .held _ => 1
def uptoBulkAll {H : Type} : List (DataW H) → Nat
  | [] => 0
  | d :: r => uptoBulk d + uptoBulkAll r
def uptoBulkEntries {H : Type} : List (Lit × DataW H) → Nat
  | [] => 0
  | x :: r => uptoBulkEntry x + uptoBulkEntries r
def uptoBulkEntry {H : Type} : Lit × DataW H → Nat
  | (.string bytes, d) => bytes.length + uptoBulk d + 1
  | (_, d) => uptoBulk d + 1
 end
def uptoSmall : (H : Type) → List (DataW H) → Bool := fun _ ds => decide (uptoBulkAll ds ≤ 1048576)
def OpenSpec.upto (s : _root_.Go.ChangeSpec) : _root_.Go.OpenSpec := { _root_.Go.OpenSpec.ofChange s with cond := some uptoSmall }

/-- 'cellplanelaw28.CellValid', WHERE WHAT IT READS IS OF BULK AT MOST 1048576: true; the input reads as it did. -/
def cellValidUptoRow : OpenClaim := { program := "ytahackdfjcgkhaagreat", sum := "7e4f545bec3eb76ba08a47f24e66c799082e1f5f45af53095139662f5f179a01", func := "cellplane/cellplanelaw28.CellValid", spec := "cellValid", inPlace := ["slices.overlaps[cellplane/api.Window]", "slices.overlaps[cellplane/api.Lease]", "maps.clone"], unfollowed := true, recurses := true, apart := false, narrowed := true }
def CellValidUptoSaid : Prop := cellValidUptoRow.holds Tryz.pinned (OpenSpec.upto cellValidSpec)

/-- 'cellplanelaw28.CellReads', WHERE WHAT IT READS IS OF BULK AT MOST 1048576: true; the input reads as it did. -/
def cellReadsUptoRow : OpenClaim := { program := "ytahackdfjcgkhaagreat", sum := "7e4f545bec3eb76ba08a47f24e66c799082e1f5f45af53095139662f5f179a01", func := "cellplane/cellplanelaw28.CellReads", spec := "cellReads", inPlace := ["slices.overlaps[cellplane/api.Window]", "slices.overlaps[cellplane/api.Lease]", "maps.clone"], unfollowed := true, recurses := true, apart := false, narrowed := true }
def CellReadsUptoSaid : Prop := cellReadsUptoRow.holds Tryz.pinned (OpenSpec.upto cellReadsSpec)

/-- 'cellplanelaw28.CellFolds', WHERE WHAT IT READS IS OF BULK AT MOST 1048576: true; the input reads as it did. -/
def cellFoldsUptoRow : OpenClaim := { program := "ytahackdfjcgkhaagreat", sum := "7e4f545bec3eb76ba08a47f24e66c799082e1f5f45af53095139662f5f179a01", func := "cellplane/cellplanelaw28.CellFolds", spec := "cellFolds", inPlace := ["slices.overlaps[cellplane/api.Window]", "slices.overlaps[cellplane/api.Lease]", "maps.clone"], unfollowed := true, recurses := true, apart := false, narrowed := true }
def CellFoldsUptoSaid : Prop := cellFoldsUptoRow.holds Tryz.pinned (OpenSpec.upto cellFoldsSpec)

/-- 'cellplanelaw28.CellOnce', WHERE WHAT IT READS IS OF BULK AT MOST 1048576: true; the input reads as it did. -/
def cellOnceUptoRow : OpenClaim := { program := "ytahackdfjcgkhaagreat", sum := "7e4f545bec3eb76ba08a47f24e66c799082e1f5f45af53095139662f5f179a01", func := "cellplane/cellplanelaw28.CellOnce", spec := "cellOnce", inPlace := ["slices.overlaps[cellplane/api.Window]", "slices.overlaps[cellplane/api.Lease]", "maps.clone"], unfollowed := true, recurses := true, apart := false, narrowed := true }
def CellOnceUptoSaid : Prop := cellOnceUptoRow.holds Tryz.pinned (OpenSpec.upto cellOnceSpec)

/-- 'cellplanelaw28.CellAgrees', WHERE WHAT IT READS IS OF BULK AT MOST 1048576: true; the input reads as it did. -/
def cellAgreesUptoRow : OpenClaim := { program := "ytahackdfjcgkhaagreat", sum := "7e4f545bec3eb76ba08a47f24e66c799082e1f5f45af53095139662f5f179a01", func := "cellplane/cellplanelaw28.CellAgrees", spec := "cellAgrees", inPlace := ["slices.overlaps[cellplane/api.Window]", "slices.overlaps[cellplane/api.Lease]", "maps.clone"], unfollowed := true, recurses := true, apart := false, narrowed := true }
def CellAgreesUptoSaid : Prop := cellAgreesUptoRow.holds Tryz.pinned (OpenSpec.upto cellAgreesSpec)

/-- 'cellplanelaw28.CellRefuses', WHERE WHAT IT READS IS OF BULK AT MOST 1048576: true; the input reads as it did. -/
def cellRefusesUptoRow : OpenClaim := { program := "ytahackdfjcgkhaagreat", sum := "7e4f545bec3eb76ba08a47f24e66c799082e1f5f45af53095139662f5f179a01", func := "cellplane/cellplanelaw28.CellRefuses", spec := "cellRefuses", inPlace := ["slices.overlaps[cellplane/api.Window]", "slices.overlaps[cellplane/api.Lease]", "maps.clone"], unfollowed := true, recurses := true, apart := false, narrowed := true }
def CellRefusesUptoSaid : Prop := cellRefusesUptoRow.holds Tryz.pinned (OpenSpec.upto cellRefusesSpec)

/-- 'cellplanelaw28.CellLeases', WHERE WHAT IT READS IS OF BULK AT MOST 1048576: true; the input reads as it did. -/
def cellLeasesUptoRow : OpenClaim := { program := "ytahackdfjcgkhaagreat", sum := "7e4f545bec3eb76ba08a47f24e66c799082e1f5f45af53095139662f5f179a01", func := "cellplane/cellplanelaw28.CellLeases", spec := "cellLeases", inPlace := ["slices.overlaps[cellplane/api.Window]", "slices.overlaps[cellplane/api.Lease]", "maps.clone"], unfollowed := true, recurses := true, apart := false, narrowed := true }
def CellLeasesUptoSaid : Prop := cellLeasesUptoRow.holds Tryz.pinned (OpenSpec.upto cellLeasesSpec)

/-- 'cellplanelaw28.CellTruncates', WHERE WHAT IT READS IS OF BULK AT MOST 1048576: true; the input reads as it did. -/
def cellTruncatesUptoRow : OpenClaim := { program := "ytahackdfjcgkhaagreat", sum := "7e4f545bec3eb76ba08a47f24e66c799082e1f5f45af53095139662f5f179a01", func := "cellplane/cellplanelaw28.CellTruncates", spec := "cellTruncates", inPlace := ["slices.overlaps[cellplane/api.Window]", "slices.overlaps[cellplane/api.Lease]", "maps.clone"], unfollowed := true, recurses := true, apart := false, narrowed := true }
def CellTruncatesUptoSaid : Prop := cellTruncatesUptoRow.holds Tryz.pinned (OpenSpec.upto cellTruncatesSpec)

/-- 'cellplanelaw28.CellPlays', WHERE WHAT IT READS IS OF BULK AT MOST 1048576: true; the input reads as it did. -/
def cellPlaysUptoRow : OpenClaim := { program := "ytahackdfjcgkhaagreat", sum := "7e4f545bec3eb76ba08a47f24e66c799082e1f5f45af53095139662f5f179a01", func := "cellplane/cellplanelaw28.CellPlays", spec := "cellPlays", inPlace := ["slices.overlaps[cellplane/api.Window]", "slices.overlaps[cellplane/api.Lease]", "maps.clone"], unfollowed := true, recurses := true, apart := false, narrowed := true }
def CellPlaysUptoSaid : Prop := cellPlaysUptoRow.holds Tryz.pinned (OpenSpec.upto cellPlaysSpec)

/-- 'cellplanelaw28.CellCopies', WHERE WHAT IT READS IS OF BULK AT MOST 1048576: true; the input reads as it did. -/
def cellCopiesUptoRow : OpenClaim := { program := "ytahackdfjcgkhaagreat", sum := "7e4f545bec3eb76ba08a47f24e66c799082e1f5f45af53095139662f5f179a01", func := "cellplane/cellplanelaw28.CellCopies", spec := "cellCopies", inPlace := ["slices.overlaps[cellplane/api.Window]", "slices.overlaps[cellplane/api.Lease]", "maps.clone"], unfollowed := true, recurses := true, apart := false, narrowed := true }
def CellCopiesUptoSaid : Prop := cellCopiesUptoRow.holds Tryz.pinned (OpenSpec.upto cellCopiesSpec)

end Rows
end Go.Proofs.YtahackdfjcgkhaaGreat
