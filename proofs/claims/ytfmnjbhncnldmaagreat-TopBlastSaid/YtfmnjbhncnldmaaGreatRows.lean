/-
  No cell of these rows narrows 'for every input' (looked for: loops, veiled, ifaces, maps, wideKeys, modest, calm, conditions, laid).
  DERIVED. THE GIVEN ROWS OF THIS SEAT. 4 by the template 'for every input the law returns true; each argument reads behind the call as it read before'; 0 by the template 'total and deterministic' (their statements: YtfmnjbhncnldmaaGreatTotals.lean).
  GIVEN WITH THE SEED: the statements are not yours to turn. If you find one false, say at which input.
  Laid BY PROGRAM, IN A SANDBOX (cutbox-rows.mjs): the forced cells as the released guide's own fill.sh prints them over the translation 8a7e8cce877c84ef… (all of the seat's roots in one cut). By AI agents, Wed Nov 11 2026. No macro, syntax, notation, axiom, sorry.
-/
import Derived.Test.YtfmnjbhncnldmaaGreatChecked
import GoSem.Claim
import GoSem.ClaimJoined
import GoSem.ClaimMapViews
import Derived.JoinedTies
import Derived.KernelRfl
namespace Go.Proofs.YtfmnjbhncnldmaaGreat
/- THE CELL 'sum', in the pinned program and in every row, IS THE sha256 OF THE DUMP (.gsa) THAT YtfmnjbhncnldmaaGreatProg.lean LOADS. Nothing in Lean hashes anything: it is a label: what it is worth is what the hold of that sum in a sandbox is worth. -/
noncomputable def Tryz.pinned : Pinned := { name := "ytfmnjbhncnldmaagreat", sum := "8a7e8cce877c84ef7115a85aa406e922951b50141a3aab8a89cca33018a7007e", checked := Tryz.checked }
namespace Rows
def none {H : Type} : Left H := { results := [], args := [] }

/-- 'cellplanetop.TopKept': WHATEVER THE INPUT: true; the input reads as it did. -/
def topKeptSpec : ChangeSpec := { name := "topKept", fn := fun _ => fun
  | [d1, d2] => { results := [.lit (.bool true)], args := [d1, d2] }
  | _ => none }
def topKeptRow : OpenClaim := { program := "ytfmnjbhncnldmaagreat", sum := "8a7e8cce877c84ef7115a85aa406e922951b50141a3aab8a89cca33018a7007e", func := "cellplane/cellplanetop.TopKept", spec := "topKept", inPlace := ["slices.overlaps[cellplane/api.Window]", "slices.overlaps[cellplane/api.Lease]", "maps.clone"], unfollowed := true, recurses := true, apart := false }
def TopKeptSaid : Prop := topKeptRow.holds Tryz.pinned (OpenSpec.ofChange topKeptSpec)

/-- ITS FALSE NEIGHBOUR: 'it returns false'. Refute it at one input. -/
def topKeptWrong : ChangeSpec := { name := "topKept", fn := fun _ => fun
  | [d1, d2] => { results := [.lit (.bool false)], args := [d1, d2] }
  | _ => none }
def TopKeptWrongFalsely : Prop := topKeptRow.holds Tryz.pinned (OpenSpec.ofChange topKeptWrong)

/-- 'cellplanetop.TopReplaced': WHATEVER THE INPUT: true; the input reads as it did. -/
def topReplacedSpec : ChangeSpec := { name := "topReplaced", fn := fun _ => fun
  | [d1, d2, d3, d4] => { results := [.lit (.bool true)], args := [d1, d2, d3, d4] }
  | _ => none }
def topReplacedRow : OpenClaim := { program := "ytfmnjbhncnldmaagreat", sum := "8a7e8cce877c84ef7115a85aa406e922951b50141a3aab8a89cca33018a7007e", func := "cellplane/cellplanetop.TopReplaced", spec := "topReplaced", inPlace := ["slices.overlaps[cellplane/api.Window]", "slices.overlaps[cellplane/api.Lease]", "maps.clone"], unfollowed := true, recurses := true, apart := false }
def TopReplacedSaid : Prop := topReplacedRow.holds Tryz.pinned (OpenSpec.ofChange topReplacedSpec)

/-- ITS FALSE NEIGHBOUR: 'it returns false'. Refute it at one input. -/
def topReplacedWrong : ChangeSpec := { name := "topReplaced", fn := fun _ => fun
  | [d1, d2, d3, d4] => { results := [.lit (.bool false)], args := [d1, d2, d3, d4] }
  | _ => none }
def TopReplacedWrongFalsely : Prop := topReplacedRow.holds Tryz.pinned (OpenSpec.ofChange topReplacedWrong)

/-- 'cellplanetop.TopBlast': WHATEVER THE INPUT: true; the input reads as it did. -/
def topBlastSpec : ChangeSpec := { name := "topBlast", fn := fun _ => fun
  | [d1, d2, d3, d4, d5] => { results := [.lit (.bool true)], args := [d1, d2, d3, d4, d5] }
  | _ => none }
def topBlastRow : OpenClaim := { program := "ytfmnjbhncnldmaagreat", sum := "8a7e8cce877c84ef7115a85aa406e922951b50141a3aab8a89cca33018a7007e", func := "cellplane/cellplanetop.TopBlast", spec := "topBlast", inPlace := ["slices.overlaps[cellplane/api.Window]", "slices.overlaps[cellplane/api.Lease]", "maps.clone"], unfollowed := true, recurses := true, apart := false }
def TopBlastSaid : Prop := topBlastRow.holds Tryz.pinned (OpenSpec.ofChange topBlastSpec)

/-- ITS FALSE NEIGHBOUR: 'it returns false'. Refute it at one input. -/
def topBlastWrong : ChangeSpec := { name := "topBlast", fn := fun _ => fun
  | [d1, d2, d3, d4, d5] => { results := [.lit (.bool false)], args := [d1, d2, d3, d4, d5] }
  | _ => none }
def TopBlastWrongFalsely : Prop := topBlastRow.holds Tryz.pinned (OpenSpec.ofChange topBlastWrong)

/-- 'cellplanetop.TopPlaced': WHATEVER THE INPUT: true; the input reads as it did. -/
def topPlacedSpec : ChangeSpec := { name := "topPlaced", fn := fun _ => fun
  | [d1, d2] => { results := [.lit (.bool true)], args := [d1, d2] }
  | _ => none }
def topPlacedRow : OpenClaim := { program := "ytfmnjbhncnldmaagreat", sum := "8a7e8cce877c84ef7115a85aa406e922951b50141a3aab8a89cca33018a7007e", func := "cellplane/cellplanetop.TopPlaced", spec := "topPlaced", inPlace := ["slices.overlaps[cellplane/api.Window]", "slices.overlaps[cellplane/api.Lease]", "maps.clone"], unfollowed := true, recurses := true, apart := false }
def TopPlacedSaid : Prop := topPlacedRow.holds Tryz.pinned (OpenSpec.ofChange topPlacedSpec)

/-- ITS FALSE NEIGHBOUR: 'it returns false'. Refute it at one input. -/
def topPlacedWrong : ChangeSpec := { name := "topPlaced", fn := fun _ => fun
  | [d1, d2] => { results := [.lit (.bool false)], args := [d1, d2] }
  | _ => none }
def TopPlacedWrongFalsely : Prop := topPlacedRow.holds Tryz.pinned (OpenSpec.ofChange topPlacedWrong)

/- THE SECOND FORM. 'bulk': how many values and letters a reading holds, each counted each time it is reached (what is shared counts as often as it is met; a slice's spare places count too). A statement '..UptoSaid' is the law's where the arguments, and the package variables that the reading takes, are together of bulk at most 1048576: NARROWER than '..Said'. Prove '..Said' where nothing that the law and all that it calls make is longer than what came in: it says more and counts as full. Else prove '..UptoSaid'. A law counts once. -/
mutual
def uptoBulk {H : Type} : DataW H → Nat
  | .lit (.string bytes) => bytes.length + 1
  | .lit _ => 1
  | .nil => 1
  | .ptr d => uptoBulk d + 1
  | .slice elems spare => uptoBulkAll elems + uptoBulkAll spare + 1
  | .agg parts => uptoBulkAll parts + 1
  | .iface _ d => uptoBulk d + 1
  | .map entries => uptoBulkEntries entries + 1
  | .held _ => 1
def uptoBulkAll {H : Type} : List (DataW H) → Nat
  | [] => 0
  | d :: r => uptoBulk d + uptoBulkAll r
def uptoBulkEntries {H : Type} : List (Lit × DataW H) → Nat
  | [] => 0
  | x :: r => uptoBulkEntry x + uptoBulkEntries r
def uptoBulkEntry {H : Type} : Lit × DataW H → Nat
  | (.string bytes, d) => bytes.length + uptoBulk d + 1
  | (_, d) => uptoBulk d + 1
 end
def uptoSmall : (H : Type) → List (DataW H) → Bool := fun _ ds => decide (uptoBulkAll ds ≤ 1048576)
def OpenSpec.upto (s : _root_.Go.ChangeSpec) : _root_.Go.OpenSpec := { _root_.Go.OpenSpec.ofChange s with cond := some uptoSmall }

/-- 'cellplanetop.TopKept', WHERE WHAT IT READS IS OF BULK AT MOST 1048576: true; the input reads as it did. -/
def topKeptUptoRow : OpenClaim := { program := "ytfmnjbhncnldmaagreat", sum := "8a7e8cce877c84ef7115a85aa406e922951b50141a3aab8a89cca33018a7007e", func := "cellplane/cellplanetop.TopKept", spec := "topKept", inPlace := ["slices.overlaps[cellplane/api.Window]", "slices.overlaps[cellplane/api.Lease]", "maps.clone"], unfollowed := true, recurses := true, apart := false, narrowed := true }
def TopKeptUptoSaid : Prop := topKeptUptoRow.holds Tryz.pinned (OpenSpec.upto topKeptSpec)

/-- 'cellplanetop.TopReplaced', WHERE WHAT IT READS IS OF BULK AT MOST 1048576: true; the input reads as it did. -/
def topReplacedUptoRow : OpenClaim := { program := "ytfmnjbhncnldmaagreat", sum := "8a7e8cce877c84ef7115a85aa406e922951b50141a3aab8a89cca33018a7007e", func := "cellplane/cellplanetop.TopReplaced", spec := "topReplaced", inPlace := ["slices.overlaps[cellplane/api.Window]", "slices.overlaps[cellplane/api.Lease]", "maps.clone"], unfollowed := true, recurses := true, apart := false, narrowed := true }
def TopReplacedUptoSaid : Prop := topReplacedUptoRow.holds Tryz.pinned (OpenSpec.upto topReplacedSpec)

/-- 'cellplanetop.TopBlast', WHERE WHAT IT READS IS OF BULK AT MOST 1048576: true; the input reads as it did. -/
def topBlastUptoRow : OpenClaim := { program := "ytfmnjbhncnldmaagreat", sum := "8a7e8cce877c84ef7115a85aa406e922951b50141a3aab8a89cca33018a7007e", func := "cellplane/cellplanetop.TopBlast", spec := "topBlast", inPlace := ["slices.overlaps[cellplane/api.Window]", "slices.overlaps[cellplane/api.Lease]", "maps.clone"], unfollowed := true, recurses := true, apart := false, narrowed := true }
def TopBlastUptoSaid : Prop := topBlastUptoRow.holds Tryz.pinned (OpenSpec.upto topBlastSpec)

/-- 'cellplanetop.TopPlaced', WHERE WHAT IT READS IS OF BULK AT MOST 1048576: true; the input reads as it did. -/
def topPlacedUptoRow : OpenClaim := { program := "ytfmnjbhncnldmaagreat", sum := "8a7e8cce877c84ef7115a85aa406e922951b50141a3aab8a89cca33018a7007e", func := "cellplane/cellplanetop.TopPlaced", spec := "topPlaced", inPlace := ["slices.overlaps[cellplane/api.Window]", "slices.overlaps[cellplane/api.Lease]", "maps.clone"], unfollowed := true, recurses := true, apart := false, narrowed := true }
def TopPlacedUptoSaid : Prop := topPlacedUptoRow.holds Tryz.pinned (OpenSpec.upto topPlacedSpec)

end Rows
end Go.Proofs.YtfmnjbhncnldmaaGreat
