/-
  No cell of these rows narrows 'for every input' (looked for: loops, veiled, ifaces, maps, wideKeys, modest, calm, conditions, laid).
  DERIVED. THE GIVEN ROWS OF THIS SEAT. 9 by the template 'for every input the law returns true; each argument reads behind the call as it read before'; 0 by the template 'total and deterministic' (their statements: YtabpapdickolgaaTotals.lean).
  GIVEN WITH THE SEED: the statements are not yours to turn. If you find one false, say at which input.
  Laid BY PROGRAM, IN A SANDBOX (cutbox-rows.mjs): the forced cells as the released guide's own fill.sh prints them over the translation 52ff25445a2d4853… (all of the seat's roots in one cut). By AI agents, Wed Nov 11 2026. No macro, syntax, notation, axiom, sorry.
-/
import Derived.Test.YtabpapdickolgaaChecked
import GoSem.Claim
import GoSem.ClaimJoined
import GoSem.ClaimMapViews
import Derived.JoinedTies
import Derived.KernelRfl
namespace Go.Proofs.Ytabpapdickolgaa
/- THE CELL 'sum', in the pinned program and in every row, IS THE sha256 OF THE DUMP (.gsa) THAT YtabpapdickolgaaProg.lean LOADS. Nothing in Lean hashes anything: it is a label: what it is worth is what the hold of that sum in a sandbox is worth. -/
noncomputable def Try.pinned : Pinned := { name := "ytabpapdickolgaa", sum := "52ff25445a2d485359c0600cd07855beb283a29856d1b097ecb8df47796cd4e9", checked := Try.checked }
namespace Rows
def none {H : Type} : Left H := { results := [], args := [] }

/-- 'cellplanelaw24.StoreValid': WHATEVER THE INPUT: true; the input reads as it did. -/
def storeValidSpec : ChangeSpec := { name := "storeValid", fn := fun _ => fun
  | [d1, d2, d3, d4] => { results := [.lit (.bool true)], args := [d1, d2, d3, d4] }
  | _ => none }
def storeValidRow : OpenClaim := { program := "ytabpapdickolgaa", sum := "52ff25445a2d485359c0600cd07855beb283a29856d1b097ecb8df47796cd4e9", func := "cellplane/cellplanelaw24.StoreValid", spec := "storeValid", unfollowed := true, recurses := true, apart := false }
def StoreValidSaid : Prop := storeValidRow.holds Try.pinned (OpenSpec.ofChange storeValidSpec)

/-- ITS FALSE NEIGHBOUR: 'it returns false'. Refute it at one input. -/
def storeValidWrong : ChangeSpec := { name := "storeValid", fn := fun _ => fun
  | [d1, d2, d3, d4] => { results := [.lit (.bool false)], args := [d1, d2, d3, d4] }
  | _ => none }
def StoreValidWrongFalsely : Prop := storeValidRow.holds Try.pinned (OpenSpec.ofChange storeValidWrong)

/-- 'cellplanelaw24.StoreHistories': WHATEVER THE INPUT: true; the input reads as it did. -/
def storeHistoriesSpec : ChangeSpec := { name := "storeHistories", fn := fun _ => fun
  | [d1, d2, d3, d4, d5] => { results := [.lit (.bool true)], args := [d1, d2, d3, d4, d5] }
  | _ => none }
def storeHistoriesRow : OpenClaim := { program := "ytabpapdickolgaa", sum := "52ff25445a2d485359c0600cd07855beb283a29856d1b097ecb8df47796cd4e9", func := "cellplane/cellplanelaw24.StoreHistories", spec := "storeHistories", unfollowed := true, recurses := true, apart := false }
def StoreHistoriesSaid : Prop := storeHistoriesRow.holds Try.pinned (OpenSpec.ofChange storeHistoriesSpec)

/-- ITS FALSE NEIGHBOUR: 'it returns false'. Refute it at one input. -/
def storeHistoriesWrong : ChangeSpec := { name := "storeHistories", fn := fun _ => fun
  | [d1, d2, d3, d4, d5] => { results := [.lit (.bool false)], args := [d1, d2, d3, d4, d5] }
  | _ => none }
def StoreHistoriesWrongFalsely : Prop := storeHistoriesRow.holds Try.pinned (OpenSpec.ofChange storeHistoriesWrong)

/-- 'cellplanelaw24.StoreRoom': WHATEVER THE INPUT: true; the input reads as it did. -/
def storeRoomSpec : ChangeSpec := { name := "storeRoom", fn := fun _ => fun
  | [d1, d2] => { results := [.lit (.bool true)], args := [d1, d2] }
  | _ => none }
def storeRoomRow : OpenClaim := { program := "ytabpapdickolgaa", sum := "52ff25445a2d485359c0600cd07855beb283a29856d1b097ecb8df47796cd4e9", func := "cellplane/cellplanelaw24.StoreRoom", spec := "storeRoom", unfollowed := true, recurses := true, apart := false }
def StoreRoomSaid : Prop := storeRoomRow.holds Try.pinned (OpenSpec.ofChange storeRoomSpec)

/-- ITS FALSE NEIGHBOUR: 'it returns false'. Refute it at one input. -/
def storeRoomWrong : ChangeSpec := { name := "storeRoom", fn := fun _ => fun
  | [d1, d2] => { results := [.lit (.bool false)], args := [d1, d2] }
  | _ => none }
def StoreRoomWrongFalsely : Prop := storeRoomRow.holds Try.pinned (OpenSpec.ofChange storeRoomWrong)

/-- 'cellplanelaw24.StoreApplies': WHATEVER THE INPUT: true; the input reads as it did. -/
def storeAppliesSpec : ChangeSpec := { name := "storeApplies", fn := fun _ => fun
  | [d1, d2] => { results := [.lit (.bool true)], args := [d1, d2] }
  | _ => none }
def storeAppliesRow : OpenClaim := { program := "ytabpapdickolgaa", sum := "52ff25445a2d485359c0600cd07855beb283a29856d1b097ecb8df47796cd4e9", func := "cellplane/cellplanelaw24.StoreApplies", spec := "storeApplies", unfollowed := true, recurses := true, apart := false }
def StoreAppliesSaid : Prop := storeAppliesRow.holds Try.pinned (OpenSpec.ofChange storeAppliesSpec)

/-- ITS FALSE NEIGHBOUR: 'it returns false'. Refute it at one input. -/
def storeAppliesWrong : ChangeSpec := { name := "storeApplies", fn := fun _ => fun
  | [d1, d2] => { results := [.lit (.bool false)], args := [d1, d2] }
  | _ => none }
def StoreAppliesWrongFalsely : Prop := storeAppliesRow.holds Try.pinned (OpenSpec.ofChange storeAppliesWrong)

/-- 'cellplanelaw24.StoreMatches': WHATEVER THE INPUT: true; the input reads as it did. -/
def storeMatchesSpec : ChangeSpec := { name := "storeMatches", fn := fun _ => fun
  | [d1, d2, d3, d4, d5, d6, d7] => { results := [.lit (.bool true)], args := [d1, d2, d3, d4, d5, d6, d7] }
  | _ => none }
def storeMatchesRow : OpenClaim := { program := "ytabpapdickolgaa", sum := "52ff25445a2d485359c0600cd07855beb283a29856d1b097ecb8df47796cd4e9", func := "cellplane/cellplanelaw24.StoreMatches", spec := "storeMatches", unfollowed := true, recurses := true, apart := false }
def StoreMatchesSaid : Prop := storeMatchesRow.holds Try.pinned (OpenSpec.ofChange storeMatchesSpec)

/-- ITS FALSE NEIGHBOUR: 'it returns false'. Refute it at one input. -/
def storeMatchesWrong : ChangeSpec := { name := "storeMatches", fn := fun _ => fun
  | [d1, d2, d3, d4, d5, d6, d7] => { results := [.lit (.bool false)], args := [d1, d2, d3, d4, d5, d6, d7] }
  | _ => none }
def StoreMatchesWrongFalsely : Prop := storeMatchesRow.holds Try.pinned (OpenSpec.ofChange storeMatchesWrong)

/-- 'cellplanelaw24.StoreForks': WHATEVER THE INPUT: true; the input reads as it did. -/
def storeForksSpec : ChangeSpec := { name := "storeForks", fn := fun _ => fun
  | [d1, d2, d3] => { results := [.lit (.bool true)], args := [d1, d2, d3] }
  | _ => none }
def storeForksRow : OpenClaim := { program := "ytabpapdickolgaa", sum := "52ff25445a2d485359c0600cd07855beb283a29856d1b097ecb8df47796cd4e9", func := "cellplane/cellplanelaw24.StoreForks", spec := "storeForks", unfollowed := true, recurses := true, apart := false }
def StoreForksSaid : Prop := storeForksRow.holds Try.pinned (OpenSpec.ofChange storeForksSpec)

/-- ITS FALSE NEIGHBOUR: 'it returns false'. Refute it at one input. -/
def storeForksWrong : ChangeSpec := { name := "storeForks", fn := fun _ => fun
  | [d1, d2, d3] => { results := [.lit (.bool false)], args := [d1, d2, d3] }
  | _ => none }
def StoreForksWrongFalsely : Prop := storeForksRow.holds Try.pinned (OpenSpec.ofChange storeForksWrong)

/-- 'cellplanelaw24.StoreLast': WHATEVER THE INPUT: true; the input reads as it did. -/
def storeLastSpec : ChangeSpec := { name := "storeLast", fn := fun _ => fun
  | [d1, d2] => { results := [.lit (.bool true)], args := [d1, d2] }
  | _ => none }
def storeLastRow : OpenClaim := { program := "ytabpapdickolgaa", sum := "52ff25445a2d485359c0600cd07855beb283a29856d1b097ecb8df47796cd4e9", func := "cellplane/cellplanelaw24.StoreLast", spec := "storeLast", unfollowed := true, recurses := true, apart := false }
def StoreLastSaid : Prop := storeLastRow.holds Try.pinned (OpenSpec.ofChange storeLastSpec)

/-- ITS FALSE NEIGHBOUR: 'it returns false'. Refute it at one input. -/
def storeLastWrong : ChangeSpec := { name := "storeLast", fn := fun _ => fun
  | [d1, d2] => { results := [.lit (.bool false)], args := [d1, d2] }
  | _ => none }
def StoreLastWrongFalsely : Prop := storeLastRow.holds Try.pinned (OpenSpec.ofChange storeLastWrong)

/-- 'cellplanelaw24.StoreFolds': WHATEVER THE INPUT: true; the input reads as it did. -/
def storeFoldsSpec : ChangeSpec := { name := "storeFolds", fn := fun _ => fun
  | [d1, d2, d3] => { results := [.lit (.bool true)], args := [d1, d2, d3] }
  | _ => none }
def storeFoldsRow : OpenClaim := { program := "ytabpapdickolgaa", sum := "52ff25445a2d485359c0600cd07855beb283a29856d1b097ecb8df47796cd4e9", func := "cellplane/cellplanelaw24.StoreFolds", spec := "storeFolds", unfollowed := true, recurses := true, apart := false }
def StoreFoldsSaid : Prop := storeFoldsRow.holds Try.pinned (OpenSpec.ofChange storeFoldsSpec)

/-- ITS FALSE NEIGHBOUR: 'it returns false'. Refute it at one input. -/
def storeFoldsWrong : ChangeSpec := { name := "storeFolds", fn := fun _ => fun
  | [d1, d2, d3] => { results := [.lit (.bool false)], args := [d1, d2, d3] }
  | _ => none }
def StoreFoldsWrongFalsely : Prop := storeFoldsRow.holds Try.pinned (OpenSpec.ofChange storeFoldsWrong)

/-- 'cellplanelaw24.StoreCopies': WHATEVER THE INPUT: true; the input reads as it did. -/
def storeCopiesSpec : ChangeSpec := { name := "storeCopies", fn := fun _ => fun
  | [d1, d2] => { results := [.lit (.bool true)], args := [d1, d2] }
  | _ => none }
def storeCopiesRow : OpenClaim := { program := "ytabpapdickolgaa", sum := "52ff25445a2d485359c0600cd07855beb283a29856d1b097ecb8df47796cd4e9", func := "cellplane/cellplanelaw24.StoreCopies", spec := "storeCopies", inPlace := ["maps.clone"], unfollowed := true, recurses := true, apart := false }
def StoreCopiesSaid : Prop := storeCopiesRow.holds Try.pinned (OpenSpec.ofChange storeCopiesSpec)

/-- ITS FALSE NEIGHBOUR: 'it returns false'. Refute it at one input. -/
def storeCopiesWrong : ChangeSpec := { name := "storeCopies", fn := fun _ => fun
  | [d1, d2] => { results := [.lit (.bool false)], args := [d1, d2] }
  | _ => none }
def StoreCopiesWrongFalsely : Prop := storeCopiesRow.holds Try.pinned (OpenSpec.ofChange storeCopiesWrong)

/- THE SECOND FORM. 'bulk': how many values and letters a reading holds, each counted each time it is reached (what is shared counts as often as it is met; a slice's spare places count too). A statement '..UptoSaid' is the law's where the arguments, and the package variables that the reading takes, are together of bulk at most 1048576: NARROWER than '..Said'. Prove '..Said' where nothing that the law and all that it calls make is longer than what came in: it says more and counts as full. Else prove '..UptoSaid'. A law counts once. -/
mutual
def uptoBulk {H : Type} : DataW H → Nat
  | .lit (.string bytes) => bytes.length + 1
  | .lit _ => 1
  | .nil => 1
  | .ptr d => uptoBulk d + 1
  | .slice elems spare => uptoBulkAll elems + uptoBulkAll spare + 1
  | .agg parts => uptoBulkAll parts + 1
  | .iface _ d => uptoBulk d + 1
  | .map entries => uptoBulkEntries entries + 1
  | .held _ => 1
def uptoBulkAll {H : Type} : List (DataW H) → Nat
  | [] => 0
  | d :: r => uptoBulk d + uptoBulkAll r
def uptoBulkEntries {H : Type} : List (Lit × DataW H) → Nat
  | [] => 0
  | x :: r => uptoBulkEntry x + uptoBulkEntries r
def uptoBulkEntry {H : Type} : Lit × DataW H → Nat
  | (.string bytes, d) => bytes.length + uptoBulk d + 1
  | (_, d) => uptoBulk d + 1
 end
def uptoSmall : (H : Type) → List (DataW H) → Bool := fun _ ds => decide (uptoBulkAll ds ≤ 1048576)
def OpenSpec.upto (s : _root_.Go.ChangeSpec) : _root_.Go.OpenSpec := { _root_.Go.OpenSpec.ofChange s with cond := some uptoSmall }

/-- 'cellplanelaw24.StoreValid', WHERE WHAT IT READS IS OF BULK AT MOST 1048576: true; the input reads as it did. -/
def storeValidUptoRow : OpenClaim := { program := "ytabpapdickolgaa", sum := "52ff25445a2d485359c0600cd07855beb283a29856d1b097ecb8df47796cd4e9", func := "cellplane/cellplanelaw24.StoreValid", spec := "storeValid", unfollowed := true, recurses := true, apart := false, narrowed := true }
def StoreValidUptoSaid : Prop := storeValidUptoRow.holds Try.pinned (OpenSpec.upto storeValidSpec)

/-- 'cellplanelaw24.StoreHistories', WHERE WHAT IT READS IS OF BULK AT MOST 1048576: true; the input reads as it did. -/
def storeHistoriesUptoRow : OpenClaim := { program := "ytabpapdickolgaa", sum := "52ff25445a2d485359c0600cd07855beb283a29856d1b097ecb8df47796cd4e9", func := "cellplane/cellplanelaw24.StoreHistories", spec := "storeHistories", unfollowed := true, recurses := true, apart := false, narrowed := true }
def StoreHistoriesUptoSaid : Prop := storeHistoriesUptoRow.holds Try.pinned (OpenSpec.upto storeHistoriesSpec)

/-- 'cellplanelaw24.StoreRoom', WHERE WHAT IT READS IS OF BULK AT MOST 1048576: true; the input reads as it did. -/
def storeRoomUptoRow : OpenClaim := { program := "ytabpapdickolgaa", sum := "52ff25445a2d485359c0600cd07855beb283a29856d1b097ecb8df47796cd4e9", func := "cellplane/cellplanelaw24.StoreRoom", spec := "storeRoom", unfollowed := true, recurses := true, apart := false, narrowed := true }
def StoreRoomUptoSaid : Prop := storeRoomUptoRow.holds Try.pinned (OpenSpec.upto storeRoomSpec)

/-- 'cellplanelaw24.StoreApplies', WHERE WHAT IT READS IS OF BULK AT MOST 1048576: true; the input reads as it did. -/
def storeAppliesUptoRow : OpenClaim := { program := "ytabpapdickolgaa", sum := "52ff25445a2d485359c0600cd07855beb283a29856d1b097ecb8df47796cd4e9", func := "cellplane/cellplanelaw24.StoreApplies", spec := "storeApplies", unfollowed := true, recurses := true, apart := false, narrowed := true }
def StoreAppliesUptoSaid : Prop := storeAppliesUptoRow.holds Try.pinned (OpenSpec.upto storeAppliesSpec)

/-- 'cellplanelaw24.StoreMatches', WHERE WHAT IT READS IS OF BULK AT MOST 1048576: true; the input reads as it did. -/
def storeMatchesUptoRow : OpenClaim := { program := "ytabpapdickolgaa", sum := "52ff25445a2d485359c0600cd07855beb283a29856d1b097ecb8df47796cd4e9", func := "cellplane/cellplanelaw24.StoreMatches", spec := "storeMatches", unfollowed := true, recurses := true, apart := false, narrowed := true }
def StoreMatchesUptoSaid : Prop := storeMatchesUptoRow.holds Try.pinned (OpenSpec.upto storeMatchesSpec)

/-- 'cellplanelaw24.StoreForks', WHERE WHAT IT READS IS OF BULK AT MOST 1048576: true; the input reads as it did. -/
def storeForksUptoRow : OpenClaim := { program := "ytabpapdickolgaa", sum := "52ff25445a2d485359c0600cd07855beb283a29856d1b097ecb8df47796cd4e9", func := "cellplane/cellplanelaw24.StoreForks", spec := "storeForks", unfollowed := true, recurses := true, apart := false, narrowed := true }
def StoreForksUptoSaid : Prop := storeForksUptoRow.holds Try.pinned (OpenSpec.upto storeForksSpec)

/-- 'cellplanelaw24.StoreLast', WHERE WHAT IT READS IS OF BULK AT MOST 1048576: true; the input reads as it did. -/
def storeLastUptoRow : OpenClaim := { program := "ytabpapdickolgaa", sum := "52ff25445a2d485359c0600cd07855beb283a29856d1b097ecb8df47796cd4e9", func := "cellplane/cellplanelaw24.StoreLast", spec := "storeLast", unfollowed := true, recurses := true, apart := false, narrowed := true }
def StoreLastUptoSaid : Prop := storeLastUptoRow.holds Try.pinned (OpenSpec.upto storeLastSpec)

/-- 'cellplanelaw24.StoreFolds', WHERE WHAT IT READS IS OF BULK AT MOST 1048576: true; the input reads as it did. -/
def storeFoldsUptoRow : OpenClaim := { program := "ytabpapdickolgaa", sum := "52ff25445a2d485359c0600cd07855beb283a29856d1b097ecb8df47796cd4e9", func := "cellplane/cellplanelaw24.StoreFolds", spec := "storeFolds", unfollowed := true, recurses := true, apart := false, narrowed := true }
def StoreFoldsUptoSaid : Prop := storeFoldsUptoRow.holds Try.pinned (OpenSpec.upto storeFoldsSpec)

/-- 'cellplanelaw24.StoreCopies', WHERE WHAT IT READS IS OF BULK AT MOST 1048576: true; the input reads as it did. -/
def storeCopiesUptoRow : OpenClaim := { program := "ytabpapdickolgaa", sum := "52ff25445a2d485359c0600cd07855beb283a29856d1b097ecb8df47796cd4e9", func := "cellplane/cellplanelaw24.StoreCopies", spec := "storeCopies", inPlace := ["maps.clone"], unfollowed := true, recurses := true, apart := false, narrowed := true }
def StoreCopiesUptoSaid : Prop := storeCopiesUptoRow.holds Try.pinned (OpenSpec.upto storeCopiesSpec)

end Rows
end Go.Proofs.Ytabpapdickolgaa
