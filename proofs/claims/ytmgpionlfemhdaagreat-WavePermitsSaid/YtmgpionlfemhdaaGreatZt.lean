/-
  The table of the program's types, as the rules of Z ask for it; the kernel checks each row.
-/
import Derived.Test.YtmgpionlfemhdaaGreatRows
import Derived.Test.YtmgpionlfemhdaaGreatE1
namespace Go.Proofs.YtmgpionlfemhdaaGreat
open Go.RowKit
set_option linter.unusedSimpArgs false
set_option linter.unusedVariables false
def ttab : List Ty := [⟨.other, 0⟩,
  ⟨.fn, 1⟩,
  ⟨.int, 1⟩,
  ⟨.int, 1⟩,
  ⟨.bool, 1⟩,
  ⟨.int, 1⟩,
  ⟨.int, 1⟩,
  ⟨.st [(0, 1, false), (1, 1, false), (2, 1, false), (3, 1, false)], 4⟩,
  ⟨.st [(0, 1, false), (1, 1, false), (2, 1, false), (3, 1, false)], 4⟩,
  ⟨.str, 1⟩,
  ⟨.str, 1⟩,
  ⟨.str, 1⟩,
  ⟨.int, 1⟩,
  ⟨.st [(0, 1, false), (1, 1, false)], 2⟩,
  ⟨.st [(0, 1, false), (1, 1, false)], 2⟩,
  ⟨.ptr, 1⟩,
  ⟨.ptr, 1⟩,
  ⟨.ptr, 1⟩,
  ⟨.st [(0, 1, false)], 1⟩,
  ⟨.st [(0, 1, false)], 1⟩,
  ⟨.fn, 1⟩,
  ⟨.int, 1⟩,
  ⟨.sl 3 1, 1⟩,
  ⟨.fn, 1⟩,
  ⟨.fn, 1⟩,
  ⟨.sl 90 1, 1⟩,
  ⟨.sl 63 2, 1⟩,
  ⟨.sl 93 7, 1⟩,
  ⟨.sl 95 2, 1⟩,
  ⟨.st [(0, 1, false), (1, 1, false), (2, 1, false), (3, 1, false), (4, 1, false), (5, 1, false), (6, 1, false), (7, 1, false), (8, 1, false), (9, 1, false)], 10⟩,
  ⟨.st [(0, 1, false), (1, 1, false), (2, 1, false), (3, 1, false), (4, 1, false), (5, 1, false), (6, 1, false), (7, 1, false), (8, 1, false), (9, 1, false)], 10⟩,
  ⟨.sl 56 12, 1⟩,
  ⟨.sl 97 4, 1⟩,
  ⟨.st [(0, 1, false), (1, 1, false), (2, 1, false), (3, 1, false), (4, 1, false), (5, 1, false), (6, 1, false), (7, 1, false)], 8⟩,
  ⟨.st [(0, 1, false), (1, 1, false), (2, 1, false), (3, 1, false), (4, 1, false), (5, 1, false), (6, 1, false), (7, 1, false)], 8⟩,
  ⟨.other, 0⟩,
  ⟨.fn, 1⟩,
  ⟨.fn, 1⟩,
  ⟨.fn, 1⟩,
  ⟨.fn, 1⟩,
  ⟨.sl 22 1, 1⟩,
  ⟨.int, 1⟩,
  ⟨.other, 0⟩,
  ⟨.fn, 1⟩,
  ⟨.fn, 1⟩,
  ⟨.fn, 1⟩,
  ⟨.fn, 1⟩,
  ⟨.fn, 1⟩,
  ⟨.sl 40 1, 1⟩,
  ⟨.other, 0⟩,
  ⟨.fn, 1⟩,
  ⟨.fn, 1⟩,
  ⟨.fn, 1⟩,
  ⟨.st [(0, 1, false), (1, 1, false), (2, 1, false), (3, 1, false), (4, 1, false)], 5⟩,
  ⟨.st [(0, 1, false), (1, 1, false), (2, 1, false), (3, 1, false), (4, 1, false)], 5⟩,
  ⟨.st [(0, 1, false), (1, 1, false), (2, 1, false), (3, 1, false), (4, 1, false), (5, 1, false), (6, 1, false), (7, 5, true)], 12⟩,
  ⟨.st [(0, 1, false), (1, 1, false), (2, 1, false), (3, 1, false), (4, 1, false), (5, 1, false), (6, 1, false), (7, 5, true)], 12⟩,
  ⟨.fn, 1⟩,
  ⟨.fn, 1⟩,
  ⟨.fn, 1⟩,
  ⟨.fn, 1⟩,
  ⟨.fn, 1⟩,
  ⟨.st [(0, 1, false), (1, 1, false)], 2⟩,
  ⟨.st [(0, 1, false), (1, 1, false)], 2⟩,
  ⟨.fn, 1⟩,
  ⟨.sl 100 9, 1⟩,
  ⟨.other, 0⟩,
  ⟨.fn, 1⟩,
  ⟨.fn, 1⟩,
  ⟨.fn, 1⟩,
  ⟨.fn, 1⟩,
  ⟨.fn, 1⟩,
  ⟨.fn, 1⟩,
  ⟨.fn, 1⟩,
  ⟨.fn, 1⟩,
  ⟨.fn, 1⟩,
  ⟨.ptr, 1⟩,
  ⟨.fn, 1⟩,
  ⟨.fn, 1⟩,
  ⟨.fn, 1⟩,
  ⟨.fn, 1⟩,
  ⟨.fn, 1⟩,
  ⟨.fn, 1⟩,
  ⟨.fn, 1⟩,
  ⟨.fn, 1⟩,
  ⟨.ptr, 1⟩,
  ⟨.fn, 1⟩,
  ⟨.fn, 1⟩,
  ⟨.fn, 1⟩,
  ⟨.st [(0, 1, false)], 1⟩,
  ⟨.st [(0, 1, false)], 1⟩,
  ⟨.int, 1⟩,
  ⟨.st [(0, 1, false), (1, 1, false), (2, 1, false), (3, 1, false), (4, 1, false), (5, 1, false), (6, 1, false)], 7⟩,
  ⟨.st [(0, 1, false), (1, 1, false), (2, 1, false), (3, 1, false), (4, 1, false), (5, 1, false), (6, 1, false)], 7⟩,
  ⟨.st [(0, 1, false), (1, 1, false)], 2⟩,
  ⟨.st [(0, 1, false), (1, 1, false)], 2⟩,
  ⟨.st [(0, 1, false), (1, 1, false), (2, 1, false), (3, 1, false)], 4⟩,
  ⟨.st [(0, 1, false), (1, 1, false), (2, 1, false), (3, 1, false)], 4⟩,
  ⟨.fn, 1⟩,
  ⟨.st [(0, 1, false), (1, 1, false), (2, 1, false), (3, 1, false), (4, 1, false), (5, 1, false), (6, 1, false), (7, 1, false), (8, 1, false)], 9⟩,
  ⟨.st [(0, 1, false), (1, 1, false), (2, 1, false), (3, 1, false), (4, 1, false), (5, 1, false), (6, 1, false), (7, 1, false), (8, 1, false)], 9⟩,
  ⟨.other, 0⟩,
  ⟨.fn, 1⟩,
  ⟨.fn, 1⟩,
  ⟨.fn, 1⟩,
  ⟨.fn, 1⟩,
  ⟨.other, 0⟩,
  ⟨.fn, 1⟩,
  ⟨.fn, 1⟩,
  ⟨.fn, 1⟩,
  ⟨.fn, 1⟩,
  ⟨.fn, 1⟩,
  ⟨.st [(0, 1, false), (1, 1, false)], 2⟩,
  ⟨.st [(0, 1, false), (1, 1, false)], 2⟩,
  ⟨.fn, 1⟩,
  ⟨.st [(0, 1, false), (1, 1, false)], 2⟩,
  ⟨.fn, 1⟩,
  ⟨.fn, 1⟩,
  ⟨.fn, 1⟩,
  ⟨.fn, 1⟩,
  ⟨.fn, 1⟩,
  ⟨.fn, 1⟩,
  ⟨.fn, 1⟩,
  ⟨.fn, 1⟩,
  ⟨.int, 1⟩,
  ⟨.other, 0⟩,
  ⟨.fn, 1⟩,
  ⟨.fn, 1⟩,
  ⟨.fn, 1⟩,
  ⟨.other, 0⟩,
  ⟨.fn, 1⟩,
  ⟨.fn, 1⟩,
  ⟨.int, 1⟩,
  ⟨.fn, 1⟩,
  ⟨.int, 1⟩,
  ⟨.fn, 1⟩,
  ⟨.ptr, 1⟩,
  ⟨.fn, 1⟩,
  ⟨.fn, 1⟩,
  ⟨.fn, 1⟩,
  ⟨.fn, 1⟩,
  ⟨.ptr, 1⟩,
  ⟨.fn, 1⟩,
  ⟨.fn, 1⟩,
  ⟨.fn, 1⟩,
  ⟨.fn, 1⟩,
  ⟨.fn, 1⟩,
  ⟨.fn, 1⟩,
  ⟨.int, 1⟩,
  ⟨.fn, 1⟩,
  ⟨.fn, 1⟩,
  ⟨.fn, 1⟩,
  ⟨.ptr, 1⟩,
  ⟨.fn, 1⟩,
  ⟨.fn, 1⟩,
  ⟨.fn, 1⟩,
  ⟨.fn, 1⟩,
  ⟨.fn, 1⟩,
  ⟨.ptr, 1⟩,
  ⟨.other, 0⟩,
  ⟨.fn, 1⟩,
  ⟨.fn, 1⟩,
  ⟨.fn, 1⟩,
  ⟨.sl 9 1, 1⟩,
  ⟨.fn, 1⟩,
  ⟨.st [(0, 1, false), (1, 1, false), (2, 1, false), (3, 1, false)], 4⟩,
  ⟨.st [(0, 1, false), (1, 1, false), (2, 1, false), (3, 1, false)], 4⟩,
  ⟨.ar 0 16 1, 0⟩,
  ⟨.other, 0⟩,
  ⟨.other, 0⟩,
  ⟨.fn, 1⟩,
  ⟨.int, 1⟩,
  ⟨.int, 1⟩,
  ⟨.fn, 1⟩,
  ⟨.ptr, 1⟩,
  ⟨.int, 1⟩,
  ⟨.int, 1⟩,
  ⟨.st [(0, 1, false), (1, 1, false), (2, 1, false), (3, 1, false), (4, 1, false), (5, 1, false), (6, 1, false), (7, 1, false), (8, 1, false), (9, 1, false), (10, 1, false)], 11⟩,
  ⟨.st [(0, 1, false), (1, 1, false), (2, 1, false), (3, 1, false), (4, 1, false), (5, 1, false), (6, 1, false), (7, 1, false), (8, 1, false), (9, 1, false), (10, 1, false)], 11⟩,
  ⟨.other, 0⟩]
instance : HasTT Tryz.prog := ⟨ttab, tabOk_of (by kernel_rfl)⟩
def qtab : List QT := [.no, .no, .no, .no, .no, .no, .no, .no, .no, .no, .no, .no, .no, .no, .no, .no, .no, .no, .no, .no, .no, .no, .no, .no, .no, .no, .no, .no, .no, .no, .no, .no, .no, .no, .no, .no, .no, .no, .no, .no, .no, .no, .no, .no, .no, .no, .no, .no, .no, .no, .no, .no, .no, .no, .no, .no, .no, .no, .no, .no, .no, .no, .no, .no, .no, .no, .no, .no, .no, .no, .no, .no, .no, .no, .no, .no, .no, .no, .no, .no, .no, .no, .no, .no, .no, .no, .no, .no, .no, .no, .no, .no, .no, .no, .no, .no, .no, .no, .no, .no, .no, .no, .no, .no, .no, .no, .no, .no, .no, .no, .no, .no, .no, .no, .no, .no, .no, .no, .no, .no, .no, .no, .no, .no, .no, .no, .no, .no, .no, .no, .no, .no, .no, .no, .no, .no, .no, .no, .no, .no, .no, .no, .no, .no, .no, .no, .no, .no, .no, .no, .no, .no, .no, .no, .no, .no, .no, .no, .no, .no, .no, .no, .no, .no, .no, .no, .no, .no, .no, .no, .no, .no, .no, .no, .no, .no, .no, .no, .no, .no]
instance : HasQ Tryz.prog := ⟨qtab, by kernel_rfl⟩
instance : HasZ Tryz.prog 1 [.nilFunc] := ⟨by kernel_rfl⟩
instance : HasK Tryz.prog 2 .i64 := ⟨Tryz.underlying2⟩
instance : HasZ Tryz.prog 2 [.int .i64 0] := ⟨by kernel_rfl⟩
instance : HasK Tryz.prog 3 .i64 := ⟨Tryz.underlying3⟩
instance : HasZ Tryz.prog 3 [.int .i64 0] := ⟨by kernel_rfl⟩
instance : HasE Tryz.prog 3 1 8 := HasE.of (by kernel_rfl) (by decide)
instance : HasZ Tryz.prog 4 [.bool false] := ⟨by kernel_rfl⟩
instance : HasK Tryz.prog 5 .u8 := ⟨Tryz.underlying5⟩
instance : HasZ Tryz.prog 5 [.int .u8 0] := ⟨by kernel_rfl⟩
instance : HasK Tryz.prog 6 .u8 := ⟨Tryz.underlying6⟩
instance : HasZ Tryz.prog 6 [.int .u8 0] := ⟨by kernel_rfl⟩
instance : HasZ Tryz.prog 7 [.int .i64 0, .int .i64 0, .bool false, .int .u8 0] := ⟨by kernel_rfl⟩
instance : HasZ Tryz.prog 8 [.int .i64 0, .int .i64 0, .bool false, .int .u8 0] := ⟨by kernel_rfl⟩
instance : HasZ Tryz.prog 9 [.string ⟨#[]⟩] := ⟨by kernel_rfl⟩
instance : HasE Tryz.prog 9 1 16 := HasE.of (by kernel_rfl) (by decide)
instance : HasZ Tryz.prog 10 [.string ⟨#[]⟩] := ⟨by kernel_rfl⟩
instance : HasZ Tryz.prog 11 [.string ⟨#[]⟩] := ⟨by kernel_rfl⟩
instance : HasK Tryz.prog 12 .u64 := ⟨Tryz.underlying12⟩
instance : HasZ Tryz.prog 12 [.int .u64 0] := ⟨by kernel_rfl⟩
instance : HasZ Tryz.prog 13 [.string ⟨#[]⟩, .int .u64 0] := ⟨by kernel_rfl⟩
instance : HasZ Tryz.prog 14 [.string ⟨#[]⟩, .int .u64 0] := ⟨by kernel_rfl⟩
instance : HasZ Tryz.prog 15 [.pointer none] := ⟨by kernel_rfl⟩
instance : HasZ Tryz.prog 16 [.pointer none] := ⟨by kernel_rfl⟩
instance : HasZ Tryz.prog 17 [.pointer none] := ⟨by kernel_rfl⟩
instance : HasZ Tryz.prog 18 [.pointer none] := ⟨by kernel_rfl⟩
instance : HasZ Tryz.prog 19 [.pointer none] := ⟨by kernel_rfl⟩
instance : HasZ Tryz.prog 20 [.nilIface] := ⟨by kernel_rfl⟩
instance : HasK Tryz.prog 21 .i32 := ⟨Tryz.underlying21⟩
instance : HasZ Tryz.prog 21 [.int .i32 0] := ⟨by kernel_rfl⟩
instance : HasZ Tryz.prog 22 [.slice none 0 0] := ⟨by kernel_rfl⟩
instance : HasE Tryz.prog 22 1 24 := HasE.of (by kernel_rfl) (by decide)
instance : HasZ Tryz.prog 23 [.nilFunc] := ⟨by kernel_rfl⟩
instance : HasZ Tryz.prog 24 [.nilFunc] := ⟨by kernel_rfl⟩
instance : HasZ Tryz.prog 25 [.slice none 0 0] := ⟨by kernel_rfl⟩
instance : HasZ Tryz.prog 26 [.slice none 0 0] := ⟨by kernel_rfl⟩
instance : HasZ Tryz.prog 27 [.slice none 0 0] := ⟨by kernel_rfl⟩
instance : HasZ Tryz.prog 28 [.slice none 0 0] := ⟨by kernel_rfl⟩
instance : HasZ Tryz.prog 29 [.int .i64 0, .slice none 0 0, .slice none 0 0, .slice none 0 0, .slice none 0 0, .slice none 0 0, .slice none 0 0, .int .i64 0, .int .i64 0, .int .i64 0] := ⟨by kernel_rfl⟩
instance : HasZ Tryz.prog 30 [.int .i64 0, .slice none 0 0, .slice none 0 0, .slice none 0 0, .slice none 0 0, .slice none 0 0, .slice none 0 0, .int .i64 0, .int .i64 0, .int .i64 0] := ⟨by kernel_rfl⟩
instance : HasZ Tryz.prog 31 [.slice none 0 0] := ⟨by kernel_rfl⟩
instance : HasZ Tryz.prog 32 [.slice none 0 0] := ⟨by kernel_rfl⟩
instance : HasZ Tryz.prog 33 [.int .i64 0, .int .i64 0, .slice none 0 0, .slice none 0 0, .int .i64 0, .int .i64 0, .int .i64 0, .int .i64 0] := ⟨by kernel_rfl⟩
instance : HasZ Tryz.prog 34 [.int .i64 0, .int .i64 0, .slice none 0 0, .slice none 0 0, .int .i64 0, .int .i64 0, .int .i64 0, .int .i64 0] := ⟨by kernel_rfl⟩
instance : HasZ Tryz.prog 36 [.nilFunc] := ⟨by kernel_rfl⟩
instance : HasZ Tryz.prog 37 [.nilFunc] := ⟨by kernel_rfl⟩
instance : HasZ Tryz.prog 38 [.nilFunc] := ⟨by kernel_rfl⟩
instance : HasZ Tryz.prog 39 [.nilFunc] := ⟨by kernel_rfl⟩
instance : HasZ Tryz.prog 40 [.slice none 0 0] := ⟨by kernel_rfl⟩
instance : HasE Tryz.prog 40 1 24 := HasE.of (by kernel_rfl) (by decide)
instance : HasK Tryz.prog 41 .i64 := ⟨Tryz.underlying41⟩
instance : HasZ Tryz.prog 41 [.int .i64 0] := ⟨by kernel_rfl⟩
instance : HasZ Tryz.prog 43 [.nilFunc] := ⟨by kernel_rfl⟩
instance : HasZ Tryz.prog 44 [.nilFunc] := ⟨by kernel_rfl⟩
instance : HasZ Tryz.prog 45 [.nilFunc] := ⟨by kernel_rfl⟩
instance : HasZ Tryz.prog 46 [.nilFunc] := ⟨by kernel_rfl⟩
instance : HasZ Tryz.prog 47 [.nilFunc] := ⟨by kernel_rfl⟩
instance : HasZ Tryz.prog 48 [.slice none 0 0] := ⟨by kernel_rfl⟩
instance : HasZ Tryz.prog 50 [.nilFunc] := ⟨by kernel_rfl⟩
instance : HasZ Tryz.prog 51 [.nilFunc] := ⟨by kernel_rfl⟩
instance : HasZ Tryz.prog 52 [.nilFunc] := ⟨by kernel_rfl⟩
instance : HasZ Tryz.prog 53 [.int .i64 0, .int .i64 0, .int .i64 0, .int .i64 0, .int .i64 0] := ⟨by kernel_rfl⟩
instance : HasZ Tryz.prog 54 [.int .i64 0, .int .i64 0, .int .i64 0, .int .i64 0, .int .i64 0] := ⟨by kernel_rfl⟩
instance : HasZ Tryz.prog 55 [.bool false, .bool false, .int .i64 0, .int .i64 0, .int .i64 0, .int .i64 0, .int .i64 0, .int .i64 0, .int .i64 0, .int .i64 0, .int .i64 0, .int .i64 0] := ⟨by kernel_rfl⟩
instance : HasZ Tryz.prog 56 [.bool false, .bool false, .int .i64 0, .int .i64 0, .int .i64 0, .int .i64 0, .int .i64 0, .int .i64 0, .int .i64 0, .int .i64 0, .int .i64 0, .int .i64 0] := ⟨by kernel_rfl⟩
instance : HasE Tryz.prog 56 12 88 := HasE.of (by kernel_rfl) (by decide)
instance : HasZ Tryz.prog 57 [.nilFunc] := ⟨by kernel_rfl⟩
instance : HasZ Tryz.prog 58 [.nilFunc] := ⟨by kernel_rfl⟩
instance : HasZ Tryz.prog 59 [.nilFunc] := ⟨by kernel_rfl⟩
instance : HasZ Tryz.prog 60 [.nilFunc] := ⟨by kernel_rfl⟩
instance : HasZ Tryz.prog 61 [.nilFunc] := ⟨by kernel_rfl⟩
instance : HasZ Tryz.prog 62 [.int .i64 0, .int .i64 0] := ⟨by kernel_rfl⟩
instance : HasZ Tryz.prog 63 [.int .i64 0, .int .i64 0] := ⟨by kernel_rfl⟩
instance : HasE Tryz.prog 63 2 16 := HasE.of (by kernel_rfl) (by decide)
instance : HasZ Tryz.prog 64 [.nilFunc] := ⟨by kernel_rfl⟩
instance : HasZ Tryz.prog 65 [.slice none 0 0] := ⟨by kernel_rfl⟩
instance : HasZ Tryz.prog 67 [.nilFunc] := ⟨by kernel_rfl⟩
instance : HasZ Tryz.prog 68 [.nilFunc] := ⟨by kernel_rfl⟩
instance : HasZ Tryz.prog 69 [.nilFunc] := ⟨by kernel_rfl⟩
instance : HasZ Tryz.prog 70 [.nilFunc] := ⟨by kernel_rfl⟩
instance : HasZ Tryz.prog 71 [.nilFunc] := ⟨by kernel_rfl⟩
instance : HasZ Tryz.prog 72 [.nilFunc] := ⟨by kernel_rfl⟩
instance : HasZ Tryz.prog 73 [.nilFunc] := ⟨by kernel_rfl⟩
instance : HasZ Tryz.prog 74 [.nilFunc] := ⟨by kernel_rfl⟩
instance : HasZ Tryz.prog 75 [.nilFunc] := ⟨by kernel_rfl⟩
instance : HasZ Tryz.prog 76 [.pointer none] := ⟨by kernel_rfl⟩
instance : HasZ Tryz.prog 77 [.nilFunc] := ⟨by kernel_rfl⟩
instance : HasZ Tryz.prog 78 [.nilFunc] := ⟨by kernel_rfl⟩
instance : HasZ Tryz.prog 79 [.map none] := ⟨by kernel_rfl⟩
instance : HasZ Tryz.prog 80 [.nilFunc] := ⟨by kernel_rfl⟩
instance : HasZ Tryz.prog 81 [.nilFunc] := ⟨by kernel_rfl⟩
instance : HasZ Tryz.prog 82 [.nilFunc] := ⟨by kernel_rfl⟩
instance : HasZ Tryz.prog 83 [.nilFunc] := ⟨by kernel_rfl⟩
instance : HasZ Tryz.prog 84 [.nilFunc] := ⟨by kernel_rfl⟩
instance : HasZ Tryz.prog 85 [.pointer none] := ⟨by kernel_rfl⟩
instance : HasZ Tryz.prog 86 [.nilFunc] := ⟨by kernel_rfl⟩
instance : HasZ Tryz.prog 87 [.nilFunc] := ⟨by kernel_rfl⟩
instance : HasZ Tryz.prog 88 [.nilFunc] := ⟨by kernel_rfl⟩
instance : HasZ Tryz.prog 89 [.int .i64 0] := ⟨by kernel_rfl⟩
instance : HasZ Tryz.prog 90 [.int .i64 0] := ⟨by kernel_rfl⟩
instance : HasE Tryz.prog 90 1 8 := HasE.of (by kernel_rfl) (by decide)
instance : HasK Tryz.prog 91 .u64 := ⟨Tryz.underlying91⟩
instance : HasZ Tryz.prog 91 [.int .u64 0] := ⟨by kernel_rfl⟩
instance : HasZ Tryz.prog 92 [.int .i64 0, .int .i64 0, .int .i64 0, .int .i64 0, .int .i64 0, .int .i64 0, .bool false] := ⟨by kernel_rfl⟩
instance : HasZ Tryz.prog 93 [.int .i64 0, .int .i64 0, .int .i64 0, .int .i64 0, .int .i64 0, .int .i64 0, .bool false] := ⟨by kernel_rfl⟩
instance : HasE Tryz.prog 93 7 56 := HasE.of (by kernel_rfl) (by decide)
instance : HasZ Tryz.prog 94 [.int .i64 0, .int .i64 0] := ⟨by kernel_rfl⟩
instance : HasZ Tryz.prog 95 [.int .i64 0, .int .i64 0] := ⟨by kernel_rfl⟩
instance : HasE Tryz.prog 95 2 16 := HasE.of (by kernel_rfl) (by decide)
instance : HasZ Tryz.prog 96 [.int .i64 0, .int .i64 0, .int .i64 0, .int .i64 0] := ⟨by kernel_rfl⟩
instance : HasZ Tryz.prog 97 [.int .i64 0, .int .i64 0, .int .i64 0, .int .i64 0] := ⟨by kernel_rfl⟩
instance : HasE Tryz.prog 97 4 32 := HasE.of (by kernel_rfl) (by decide)
instance : HasZ Tryz.prog 98 [.nilFunc] := ⟨by kernel_rfl⟩
instance : HasZ Tryz.prog 99 [.int .i64 0, .int .i64 0, .int .i64 0, .int .i64 0, .int .i64 0, .int .i64 0, .int .i64 0, .int .i64 0, .int .i64 0] := ⟨by kernel_rfl⟩
instance : HasZ Tryz.prog 100 [.int .i64 0, .int .i64 0, .int .i64 0, .int .i64 0, .int .i64 0, .int .i64 0, .int .i64 0, .int .i64 0, .int .i64 0] := ⟨by kernel_rfl⟩
instance : HasE Tryz.prog 100 9 72 := HasE.of (by kernel_rfl) (by decide)
instance : HasZ Tryz.prog 102 [.nilFunc] := ⟨by kernel_rfl⟩
instance : HasZ Tryz.prog 103 [.nilFunc] := ⟨by kernel_rfl⟩
instance : HasZ Tryz.prog 104 [.nilFunc] := ⟨by kernel_rfl⟩
instance : HasZ Tryz.prog 105 [.nilFunc] := ⟨by kernel_rfl⟩
instance : HasZ Tryz.prog 107 [.nilFunc] := ⟨by kernel_rfl⟩
instance : HasZ Tryz.prog 108 [.nilFunc] := ⟨by kernel_rfl⟩
instance : HasZ Tryz.prog 109 [.nilFunc] := ⟨by kernel_rfl⟩
instance : HasZ Tryz.prog 110 [.nilFunc] := ⟨by kernel_rfl⟩
instance : HasZ Tryz.prog 111 [.nilFunc] := ⟨by kernel_rfl⟩
instance : HasZ Tryz.prog 112 [.slice none 0 0, .int .i64 0] := ⟨by kernel_rfl⟩
instance : HasZ Tryz.prog 113 [.slice none 0 0, .int .i64 0] := ⟨by kernel_rfl⟩
instance : HasZ Tryz.prog 114 [.nilFunc] := ⟨by kernel_rfl⟩
instance : HasZ Tryz.prog 115 [.slice none 0 0, .int .i64 0] := ⟨by kernel_rfl⟩
instance : HasZ Tryz.prog 116 [.nilFunc] := ⟨by kernel_rfl⟩
instance : HasZ Tryz.prog 117 [.nilFunc] := ⟨by kernel_rfl⟩
instance : HasZ Tryz.prog 118 [.nilFunc] := ⟨by kernel_rfl⟩
instance : HasZ Tryz.prog 119 [.nilFunc] := ⟨by kernel_rfl⟩
instance : HasZ Tryz.prog 120 [.nilFunc] := ⟨by kernel_rfl⟩
instance : HasZ Tryz.prog 121 [.nilFunc] := ⟨by kernel_rfl⟩
instance : HasZ Tryz.prog 122 [.nilFunc] := ⟨by kernel_rfl⟩
instance : HasZ Tryz.prog 123 [.nilFunc] := ⟨by kernel_rfl⟩
instance : HasK Tryz.prog 124 .i64 := ⟨Tryz.underlying124⟩
instance : HasZ Tryz.prog 124 [.int .i64 0] := ⟨by kernel_rfl⟩
instance : HasZ Tryz.prog 126 [.nilFunc] := ⟨by kernel_rfl⟩
instance : HasZ Tryz.prog 127 [.nilFunc] := ⟨by kernel_rfl⟩
instance : HasZ Tryz.prog 128 [.nilFunc] := ⟨by kernel_rfl⟩
instance : HasZ Tryz.prog 130 [.nilFunc] := ⟨by kernel_rfl⟩
instance : HasZ Tryz.prog 131 [.nilFunc] := ⟨by kernel_rfl⟩
instance : HasK Tryz.prog 132 .u32 := ⟨Tryz.underlying132⟩
instance : HasZ Tryz.prog 132 [.int .u32 0] := ⟨by kernel_rfl⟩
instance : HasZ Tryz.prog 133 [.nilFunc] := ⟨by kernel_rfl⟩
instance : HasK Tryz.prog 134 .u64 := ⟨Tryz.underlying134⟩
instance : HasZ Tryz.prog 134 [.int .u64 0] := ⟨by kernel_rfl⟩
instance : HasZ Tryz.prog 135 [.nilFunc] := ⟨by kernel_rfl⟩
instance : HasZ Tryz.prog 136 [.pointer none] := ⟨by kernel_rfl⟩
instance : HasZ Tryz.prog 137 [.nilFunc] := ⟨by kernel_rfl⟩
instance : HasZ Tryz.prog 138 [.nilFunc] := ⟨by kernel_rfl⟩
instance : HasZ Tryz.prog 139 [.nilFunc] := ⟨by kernel_rfl⟩
instance : HasZ Tryz.prog 140 [.nilFunc] := ⟨by kernel_rfl⟩
instance : HasZ Tryz.prog 141 [.pointer none] := ⟨by kernel_rfl⟩
instance : HasZ Tryz.prog 142 [.nilFunc] := ⟨by kernel_rfl⟩
instance : HasZ Tryz.prog 143 [.nilFunc] := ⟨by kernel_rfl⟩
instance : HasZ Tryz.prog 144 [.nilFunc] := ⟨by kernel_rfl⟩
instance : HasZ Tryz.prog 145 [.nilFunc] := ⟨by kernel_rfl⟩
instance : HasZ Tryz.prog 146 [.nilFunc] := ⟨by kernel_rfl⟩
instance : HasZ Tryz.prog 147 [.nilFunc] := ⟨by kernel_rfl⟩
instance : HasK Tryz.prog 148 .u64 := ⟨Tryz.underlying148⟩
instance : HasZ Tryz.prog 148 [.int .u64 0] := ⟨by kernel_rfl⟩
instance : HasZ Tryz.prog 149 [.nilFunc] := ⟨by kernel_rfl⟩
instance : HasZ Tryz.prog 150 [.nilFunc] := ⟨by kernel_rfl⟩
instance : HasZ Tryz.prog 151 [.nilFunc] := ⟨by kernel_rfl⟩
instance : HasZ Tryz.prog 152 [.pointer none] := ⟨by kernel_rfl⟩
instance : HasZ Tryz.prog 153 [.nilFunc] := ⟨by kernel_rfl⟩
instance : HasZ Tryz.prog 154 [.nilFunc] := ⟨by kernel_rfl⟩
instance : HasZ Tryz.prog 155 [.nilFunc] := ⟨by kernel_rfl⟩
instance : HasZ Tryz.prog 156 [.nilFunc] := ⟨by kernel_rfl⟩
instance : HasZ Tryz.prog 157 [.nilFunc] := ⟨by kernel_rfl⟩
instance : HasZ Tryz.prog 158 [.pointer none] := ⟨by kernel_rfl⟩
instance : HasZ Tryz.prog 160 [.nilFunc] := ⟨by kernel_rfl⟩
instance : HasZ Tryz.prog 161 [.nilFunc] := ⟨by kernel_rfl⟩
instance : HasZ Tryz.prog 162 [.nilFunc] := ⟨by kernel_rfl⟩
instance : HasZ Tryz.prog 163 [.slice none 0 0] := ⟨by kernel_rfl⟩
instance : HasZ Tryz.prog 164 [.nilFunc] := ⟨by kernel_rfl⟩
instance : HasZ Tryz.prog 165 [.pointer none, .pointer none, .pointer none, .string ⟨#[]⟩] := ⟨by kernel_rfl⟩
instance : HasZ Tryz.prog 166 [.pointer none, .pointer none, .pointer none, .string ⟨#[]⟩] := ⟨by kernel_rfl⟩
instance : HasZ Tryz.prog 170 [.nilFunc] := ⟨by kernel_rfl⟩
instance : HasK Tryz.prog 171 .u8 := ⟨Tryz.underlying171⟩
instance : HasZ Tryz.prog 171 [.int .u8 0] := ⟨by kernel_rfl⟩
instance : HasK Tryz.prog 172 .u8 := ⟨Tryz.underlying172⟩
instance : HasZ Tryz.prog 172 [.int .u8 0] := ⟨by kernel_rfl⟩
instance : HasZ Tryz.prog 173 [.nilFunc] := ⟨by kernel_rfl⟩
instance : HasZ Tryz.prog 174 [.pointer none] := ⟨by kernel_rfl⟩
instance : HasK Tryz.prog 175 .i32 := ⟨Tryz.underlying175⟩
instance : HasZ Tryz.prog 175 [.int .i32 0] := ⟨by kernel_rfl⟩
instance : HasK Tryz.prog 176 .i32 := ⟨Tryz.underlying176⟩
instance : HasZ Tryz.prog 176 [.int .i32 0] := ⟨by kernel_rfl⟩
instance : HasZ Tryz.prog 177 [.int .u64 0, .int .u64 0, .int .u32 0, .int .u8 0, .int .u8 0, .int .u8 0, .int .u8 0, .nilFunc, .pointer none, .int .i32 0, .int .i32 0] := ⟨by kernel_rfl⟩
instance : HasZ Tryz.prog 178 [.int .u64 0, .int .u64 0, .int .u32 0, .int .u8 0, .int .u8 0, .int .u8 0, .int .u8 0, .nilFunc, .pointer none, .int .i32 0, .int .i32 0] := ⟨by kernel_rfl⟩
instance : HasF Tryz.prog 3 := ⟨_, Tryz.func3, by kernel_rfl, by kernel_rfl⟩
instance : HasF Tryz.prog 4 := ⟨_, Tryz.func4, by kernel_rfl, by kernel_rfl⟩
instance : HasF Tryz.prog 5 := ⟨_, Tryz.func5, by kernel_rfl, by kernel_rfl⟩
instance : HasF Tryz.prog 6 := ⟨_, Tryz.func6, by kernel_rfl, by kernel_rfl⟩
instance : HasF Tryz.prog 7 := ⟨_, Tryz.func7, by kernel_rfl, by kernel_rfl⟩
instance : HasF Tryz.prog 8 := ⟨_, Tryz.func8, by kernel_rfl, by kernel_rfl⟩
instance : HasF Tryz.prog 9 := ⟨_, Tryz.func9, by kernel_rfl, by kernel_rfl⟩
instance : HasF Tryz.prog 10 := ⟨_, Tryz.func10, by kernel_rfl, by kernel_rfl⟩
instance : HasF Tryz.prog 11 := ⟨_, Tryz.func11, by kernel_rfl, by kernel_rfl⟩
instance : HasF Tryz.prog 12 := ⟨_, Tryz.func12, by kernel_rfl, by kernel_rfl⟩
instance : HasF Tryz.prog 13 := ⟨_, Tryz.func13, by kernel_rfl, by kernel_rfl⟩
instance : HasF Tryz.prog 14 := ⟨_, Tryz.func14, by kernel_rfl, by kernel_rfl⟩
instance : HasF Tryz.prog 15 := ⟨_, Tryz.func15, by kernel_rfl, by kernel_rfl⟩
instance : HasF Tryz.prog 16 := ⟨_, Tryz.func16, by kernel_rfl, by kernel_rfl⟩
instance : HasF Tryz.prog 17 := ⟨_, Tryz.func17, by kernel_rfl, by kernel_rfl⟩
instance : HasF Tryz.prog 18 := ⟨_, Tryz.func18, by kernel_rfl, by kernel_rfl⟩
instance : HasF Tryz.prog 19 := ⟨_, Tryz.func19, by kernel_rfl, by kernel_rfl⟩
instance : HasF Tryz.prog 20 := ⟨_, Tryz.func20, by kernel_rfl, by kernel_rfl⟩
instance : HasF Tryz.prog 21 := ⟨_, Tryz.func21, by kernel_rfl, by kernel_rfl⟩
instance : HasF Tryz.prog 22 := ⟨_, Tryz.func22, by kernel_rfl, by kernel_rfl⟩
instance : HasF Tryz.prog 23 := ⟨_, Tryz.func23, by kernel_rfl, by kernel_rfl⟩
instance : HasF Tryz.prog 24 := ⟨_, Tryz.func24, by kernel_rfl, by kernel_rfl⟩
instance : HasF Tryz.prog 25 := ⟨_, Tryz.func25, by kernel_rfl, by kernel_rfl⟩
instance : HasF Tryz.prog 26 := ⟨_, Tryz.func26, by kernel_rfl, by kernel_rfl⟩
instance : HasF Tryz.prog 27 := ⟨_, Tryz.func27, by kernel_rfl, by kernel_rfl⟩
instance : HasF Tryz.prog 28 := ⟨_, Tryz.func28, by kernel_rfl, by kernel_rfl⟩
instance : HasF Tryz.prog 29 := ⟨_, Tryz.func29, by kernel_rfl, by kernel_rfl⟩
instance : HasF Tryz.prog 30 := ⟨_, Tryz.func30, by kernel_rfl, by kernel_rfl⟩
instance : HasF Tryz.prog 31 := ⟨_, Tryz.func31, by kernel_rfl, by kernel_rfl⟩
instance : HasF Tryz.prog 32 := ⟨_, Tryz.func32, by kernel_rfl, by kernel_rfl⟩
instance : HasF Tryz.prog 33 := ⟨_, Tryz.func33, by kernel_rfl, by kernel_rfl⟩
instance : HasF Tryz.prog 34 := ⟨_, Tryz.func34, by kernel_rfl, by kernel_rfl⟩
instance : HasF Tryz.prog 35 := ⟨_, Tryz.func35, by kernel_rfl, by kernel_rfl⟩
instance : HasF Tryz.prog 36 := ⟨_, Tryz.func36, by kernel_rfl, by kernel_rfl⟩
instance : HasF Tryz.prog 37 := ⟨_, Tryz.func37, by kernel_rfl, by kernel_rfl⟩
instance : HasF Tryz.prog 38 := ⟨_, Tryz.func38, by kernel_rfl, by kernel_rfl⟩
instance : HasF Tryz.prog 39 := ⟨_, Tryz.func39, by kernel_rfl, by kernel_rfl⟩
instance : HasF Tryz.prog 40 := ⟨_, Tryz.func40, by kernel_rfl, by kernel_rfl⟩
instance : HasF Tryz.prog 41 := ⟨_, Tryz.func41, by kernel_rfl, by kernel_rfl⟩
instance : HasF Tryz.prog 42 := ⟨_, Tryz.func42, by kernel_rfl, by kernel_rfl⟩
instance : HasF Tryz.prog 43 := ⟨_, Tryz.func43, by kernel_rfl, by kernel_rfl⟩
instance : HasF Tryz.prog 44 := ⟨_, Tryz.func44, by kernel_rfl, by kernel_rfl⟩
instance : HasF Tryz.prog 45 := ⟨_, Tryz.func45, by kernel_rfl, by kernel_rfl⟩
instance : HasF Tryz.prog 46 := ⟨_, Tryz.func46, by kernel_rfl, by kernel_rfl⟩
instance : HasF Tryz.prog 47 := ⟨_, Tryz.func47, by kernel_rfl, by kernel_rfl⟩
instance : HasF Tryz.prog 48 := ⟨_, Tryz.func48, by kernel_rfl, by kernel_rfl⟩
instance : HasF Tryz.prog 49 := ⟨_, Tryz.func49, by kernel_rfl, by kernel_rfl⟩
instance : HasF Tryz.prog 50 := ⟨_, Tryz.func50, by kernel_rfl, by kernel_rfl⟩
instance : HasF Tryz.prog 51 := ⟨_, Tryz.func51, by kernel_rfl, by kernel_rfl⟩
instance : HasF Tryz.prog 52 := ⟨_, Tryz.func52, by kernel_rfl, by kernel_rfl⟩
instance : HasF Tryz.prog 53 := ⟨_, Tryz.func53, by kernel_rfl, by kernel_rfl⟩
instance : HasF Tryz.prog 54 := ⟨_, Tryz.func54, by kernel_rfl, by kernel_rfl⟩
instance : HasF Tryz.prog 55 := ⟨_, Tryz.func55, by kernel_rfl, by kernel_rfl⟩
instance : HasF Tryz.prog 56 := ⟨_, Tryz.func56, by kernel_rfl, by kernel_rfl⟩
instance : HasF Tryz.prog 57 := ⟨_, Tryz.func57, by kernel_rfl, by kernel_rfl⟩
instance : HasF Tryz.prog 58 := ⟨_, Tryz.func58, by kernel_rfl, by kernel_rfl⟩
instance : HasF Tryz.prog 59 := ⟨_, Tryz.func59, by kernel_rfl, by kernel_rfl⟩
instance : HasF Tryz.prog 60 := ⟨_, Tryz.func60, by kernel_rfl, by kernel_rfl⟩
instance : HasF Tryz.prog 61 := ⟨_, Tryz.func61, by kernel_rfl, by kernel_rfl⟩
instance : HasF Tryz.prog 62 := ⟨_, Tryz.func62, by kernel_rfl, by kernel_rfl⟩
instance : HasF Tryz.prog 63 := ⟨_, Tryz.func63, by kernel_rfl, by kernel_rfl⟩
instance : HasF Tryz.prog 64 := ⟨_, Tryz.func64, by kernel_rfl, by kernel_rfl⟩
instance : HasF Tryz.prog 65 := ⟨_, Tryz.func65, by kernel_rfl, by kernel_rfl⟩
instance : HasF Tryz.prog 66 := ⟨_, Tryz.func66, by kernel_rfl, by kernel_rfl⟩
instance : HasF Tryz.prog 67 := ⟨_, Tryz.func67, by kernel_rfl, by kernel_rfl⟩
instance : HasF Tryz.prog 68 := ⟨_, Tryz.func68, by kernel_rfl, by kernel_rfl⟩
instance : HasF Tryz.prog 69 := ⟨_, Tryz.func69, by kernel_rfl, by kernel_rfl⟩
instance : HasF Tryz.prog 70 := ⟨_, Tryz.func70, by kernel_rfl, by kernel_rfl⟩
instance : HasF Tryz.prog 71 := ⟨_, Tryz.func71, by kernel_rfl, by kernel_rfl⟩
instance : HasF Tryz.prog 72 := ⟨_, Tryz.func72, by kernel_rfl, by kernel_rfl⟩
instance : HasF Tryz.prog 73 := ⟨_, Tryz.func73, by kernel_rfl, by kernel_rfl⟩
instance : HasF Tryz.prog 74 := ⟨_, Tryz.func74, by kernel_rfl, by kernel_rfl⟩
instance : HasF Tryz.prog 75 := ⟨_, Tryz.func75, by kernel_rfl, by kernel_rfl⟩
instance : HasF Tryz.prog 76 := ⟨_, Tryz.func76, by kernel_rfl, by kernel_rfl⟩
instance : HasF Tryz.prog 77 := ⟨_, Tryz.func77, by kernel_rfl, by kernel_rfl⟩
instance : HasF Tryz.prog 78 := ⟨_, Tryz.func78, by kernel_rfl, by kernel_rfl⟩
instance : HasF Tryz.prog 79 := ⟨_, Tryz.func79, by kernel_rfl, by kernel_rfl⟩
instance : HasF Tryz.prog 80 := ⟨_, Tryz.func80, by kernel_rfl, by kernel_rfl⟩
instance : HasF Tryz.prog 81 := ⟨_, Tryz.func81, by kernel_rfl, by kernel_rfl⟩
instance : HasF Tryz.prog 82 := ⟨_, Tryz.func82, by kernel_rfl, by kernel_rfl⟩
instance : HasF Tryz.prog 83 := ⟨_, Tryz.func83, by kernel_rfl, by kernel_rfl⟩
instance : HasF Tryz.prog 84 := ⟨_, Tryz.func84, by kernel_rfl, by kernel_rfl⟩
instance : HasF Tryz.prog 85 := ⟨_, Tryz.func85, by kernel_rfl, by kernel_rfl⟩
instance : HasF Tryz.prog 86 := ⟨_, Tryz.func86, by kernel_rfl, by kernel_rfl⟩
instance : HasF Tryz.prog 87 := ⟨_, Tryz.func87, by kernel_rfl, by kernel_rfl⟩
instance : HasF Tryz.prog 88 := ⟨_, Tryz.func88, by kernel_rfl, by kernel_rfl⟩
instance : HasF Tryz.prog 89 := ⟨_, Tryz.func89, by kernel_rfl, by kernel_rfl⟩
instance : HasF Tryz.prog 90 := ⟨_, Tryz.func90, by kernel_rfl, by kernel_rfl⟩
instance : HasF Tryz.prog 91 := ⟨_, Tryz.func91, by kernel_rfl, by kernel_rfl⟩
instance : HasF Tryz.prog 92 := ⟨_, Tryz.func92, by kernel_rfl, by kernel_rfl⟩
instance : HasF Tryz.prog 93 := ⟨_, Tryz.func93, by kernel_rfl, by kernel_rfl⟩
instance : HasF Tryz.prog 94 := ⟨_, Tryz.func94, by kernel_rfl, by kernel_rfl⟩
instance : HasF Tryz.prog 95 := ⟨_, Tryz.func95, by kernel_rfl, by kernel_rfl⟩
instance : HasF Tryz.prog 96 := ⟨_, Tryz.func96, by kernel_rfl, by kernel_rfl⟩
instance : HasF Tryz.prog 97 := ⟨_, Tryz.func97, by kernel_rfl, by kernel_rfl⟩
instance : HasF Tryz.prog 98 := ⟨_, Tryz.func98, by kernel_rfl, by kernel_rfl⟩
instance : HasF Tryz.prog 99 := ⟨_, Tryz.func99, by kernel_rfl, by kernel_rfl⟩
instance : HasF Tryz.prog 100 := ⟨_, Tryz.func100, by kernel_rfl, by kernel_rfl⟩
instance : HasF Tryz.prog 101 := ⟨_, Tryz.func101, by kernel_rfl, by kernel_rfl⟩
instance : HasF Tryz.prog 102 := ⟨_, Tryz.func102, by kernel_rfl, by kernel_rfl⟩
instance : HasF Tryz.prog 103 := ⟨_, Tryz.func103, by kernel_rfl, by kernel_rfl⟩
instance : HasF Tryz.prog 104 := ⟨_, Tryz.func104, by kernel_rfl, by kernel_rfl⟩
instance : HasF Tryz.prog 105 := ⟨_, Tryz.func105, by kernel_rfl, by kernel_rfl⟩
instance : HasF Tryz.prog 106 := ⟨_, Tryz.func106, by kernel_rfl, by kernel_rfl⟩
instance : HasF Tryz.prog 107 := ⟨_, Tryz.func107, by kernel_rfl, by kernel_rfl⟩
instance : HasF Tryz.prog 108 := ⟨_, Tryz.func108, by kernel_rfl, by kernel_rfl⟩
instance : HasF Tryz.prog 109 := ⟨_, Tryz.func109, by kernel_rfl, by kernel_rfl⟩
instance : HasF Tryz.prog 110 := ⟨_, Tryz.func110, by kernel_rfl, by kernel_rfl⟩
instance : HasF Tryz.prog 111 := ⟨_, Tryz.func111, by kernel_rfl, by kernel_rfl⟩
instance : HasF Tryz.prog 112 := ⟨_, Tryz.func112, by kernel_rfl, by kernel_rfl⟩
instance : HasF Tryz.prog 113 := ⟨_, Tryz.func113, by kernel_rfl, by kernel_rfl⟩
instance : HasF Tryz.prog 114 := ⟨_, Tryz.func114, by kernel_rfl, by kernel_rfl⟩
instance : HasF Tryz.prog 115 := ⟨_, Tryz.func115, by kernel_rfl, by kernel_rfl⟩
instance : HasF Tryz.prog 116 := ⟨_, Tryz.func116, by kernel_rfl, by kernel_rfl⟩
instance : HasF Tryz.prog 117 := ⟨_, Tryz.func117, by kernel_rfl, by kernel_rfl⟩
instance : HasF Tryz.prog 118 := ⟨_, Tryz.func118, by kernel_rfl, by kernel_rfl⟩
instance : HasF Tryz.prog 119 := ⟨_, Tryz.func119, by kernel_rfl, by kernel_rfl⟩
instance : HasF Tryz.prog 120 := ⟨_, Tryz.func120, by kernel_rfl, by kernel_rfl⟩
instance : HasF Tryz.prog 121 := ⟨_, Tryz.func121, by kernel_rfl, by kernel_rfl⟩
instance : HasF Tryz.prog 122 := ⟨_, Tryz.func122, by kernel_rfl, by kernel_rfl⟩
instance : HasF Tryz.prog 123 := ⟨_, Tryz.func123, by kernel_rfl, by kernel_rfl⟩
instance : HasF Tryz.prog 124 := ⟨_, Tryz.func124, by kernel_rfl, by kernel_rfl⟩
instance : HasF Tryz.prog 125 := ⟨_, Tryz.func125, by kernel_rfl, by kernel_rfl⟩
instance : HasF Tryz.prog 126 := ⟨_, Tryz.func126, by kernel_rfl, by kernel_rfl⟩
instance : HasF Tryz.prog 127 := ⟨_, Tryz.func127, by kernel_rfl, by kernel_rfl⟩
instance : HasF Tryz.prog 128 := ⟨_, Tryz.func128, by kernel_rfl, by kernel_rfl⟩
instance : HasF Tryz.prog 129 := ⟨_, Tryz.func129, by kernel_rfl, by kernel_rfl⟩
instance : HasF Tryz.prog 130 := ⟨_, Tryz.func130, by kernel_rfl, by kernel_rfl⟩
instance : HasF Tryz.prog 131 := ⟨_, Tryz.func131, by kernel_rfl, by kernel_rfl⟩
instance : HasF Tryz.prog 132 := ⟨_, Tryz.func132, by kernel_rfl, by kernel_rfl⟩
instance : HasF Tryz.prog 133 := ⟨_, Tryz.func133, by kernel_rfl, by kernel_rfl⟩
instance : HasF Tryz.prog 134 := ⟨_, Tryz.func134, by kernel_rfl, by kernel_rfl⟩
end Go.Proofs.YtmgpionlfemhdaaGreat
