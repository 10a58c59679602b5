/-
  The table of the program's types, as the rules of Z ask for it; the kernel checks each row.
-/
import Derived.Test.YtmjdkgpckcdndaaGreatRows
import Derived.Test.YtmjdkgpckcdndaaGreatE1
namespace Go.Proofs.YtmjdkgpckcdndaaGreat
open Go.RowKit
set_option linter.unusedSimpArgs false
set_option linter.unusedVariables false
def ttab : List Ty := [⟨.other, 0⟩,
  ⟨.fn, 1⟩,
  ⟨.int, 1⟩,
  ⟨.int, 1⟩,
  ⟨.bool, 1⟩,
  ⟨.int, 1⟩,
  ⟨.int, 1⟩,
  ⟨.st [(0, 1, false), (1, 1, false), (2, 1, false), (3, 1, false)], 4⟩,
  ⟨.st [(0, 1, false), (1, 1, false), (2, 1, false), (3, 1, false)], 4⟩,
  ⟨.str, 1⟩,
  ⟨.str, 1⟩,
  ⟨.str, 1⟩,
  ⟨.int, 1⟩,
  ⟨.st [(0, 1, false), (1, 1, false)], 2⟩,
  ⟨.st [(0, 1, false), (1, 1, false)], 2⟩,
  ⟨.ptr, 1⟩,
  ⟨.ptr, 1⟩,
  ⟨.ptr, 1⟩,
  ⟨.st [(0, 1, false)], 1⟩,
  ⟨.st [(0, 1, false)], 1⟩,
  ⟨.other, 0⟩,
  ⟨.int, 1⟩,
  ⟨.fn, 1⟩,
  ⟨.ptr, 1⟩,
  ⟨.int, 1⟩,
  ⟨.other, 0⟩,
  ⟨.fn, 1⟩,
  ⟨.ptr, 1⟩,
  ⟨.other, 0⟩,
  ⟨.fn, 1⟩,
  ⟨.sl 3 1, 1⟩,
  ⟨.fn, 1⟩,
  ⟨.fn, 1⟩,
  ⟨.fn, 1⟩,
  ⟨.fn, 1⟩,
  ⟨.sl 45 7, 1⟩,
  ⟨.fn, 1⟩,
  ⟨.sl 93 8, 1⟩,
  ⟨.fn, 1⟩,
  ⟨.fn, 1⟩,
  ⟨.ptr, 1⟩,
  ⟨.fn, 1⟩,
  ⟨.st [(0, 1, false), (1, 1, false), (2, 1, false)], 3⟩,
  ⟨.st [(0, 1, false), (1, 1, false), (2, 1, false)], 3⟩,
  ⟨.st [(0, 1, false), (1, 1, false), (2, 1, false), (3, 1, false), (4, 3, true)], 7⟩,
  ⟨.st [(0, 1, false), (1, 1, false), (2, 1, false), (3, 1, false), (4, 3, true)], 7⟩,
  ⟨.fn, 1⟩,
  ⟨.fn, 1⟩,
  ⟨.sl 90 4, 1⟩,
  ⟨.st [(0, 1, false), (1, 1, false), (2, 1, false), (3, 1, false)], 4⟩,
  ⟨.st [(0, 1, false), (1, 1, false), (2, 1, false), (3, 1, false)], 4⟩,
  ⟨.fn, 1⟩,
  ⟨.fn, 1⟩,
  ⟨.fn, 1⟩,
  ⟨.ptr, 1⟩,
  ⟨.other, 0⟩,
  ⟨.fn, 1⟩,
  ⟨.fn, 1⟩,
  ⟨.ptr, 1⟩,
  ⟨.fn, 1⟩,
  ⟨.other, 0⟩,
  ⟨.fn, 1⟩,
  ⟨.st [(0, 1, false), (1, 1, false), (2, 1, false), (3, 1, false)], 4⟩,
  ⟨.st [(0, 1, false), (1, 1, false), (2, 1, false), (3, 1, false)], 4⟩,
  ⟨.fn, 1⟩,
  ⟨.st [(0, 1, false), (1, 1, false), (2, 1, false), (3, 1, false)], 4⟩,
  ⟨.st [(0, 1, false), (1, 1, false), (2, 1, false), (3, 1, false)], 4⟩,
  ⟨.fn, 1⟩,
  ⟨.fn, 1⟩,
  ⟨.fn, 1⟩,
  ⟨.fn, 1⟩,
  ⟨.st [(0, 1, false), (1, 1, false), (2, 1, false)], 3⟩,
  ⟨.st [(0, 1, false), (1, 1, false), (2, 1, false)], 3⟩,
  ⟨.other, 0⟩,
  ⟨.ptr, 1⟩,
  ⟨.fn, 1⟩,
  ⟨.fn, 1⟩,
  ⟨.ptr, 1⟩,
  ⟨.ptr, 1⟩,
  ⟨.ptr, 1⟩,
  ⟨.ptr, 1⟩,
  ⟨.st [(0, 1, false), (1, 1, false), (2, 1, false), (3, 1, false), (4, 1, false), (5, 1, false), (6, 1, false)], 7⟩,
  ⟨.st [(0, 1, false), (1, 1, false), (2, 1, false), (3, 1, false), (4, 1, false), (5, 1, false), (6, 1, false)], 7⟩,
  ⟨.st [(0, 1, false), (1, 1, false)], 2⟩,
  ⟨.st [(0, 1, false), (1, 1, false)], 2⟩,
  ⟨.fn, 1⟩,
  ⟨.other, 0⟩,
  ⟨.fn, 1⟩,
  ⟨.fn, 1⟩,
  ⟨.st [(0, 1, false), (1, 1, false), (2, 1, false), (3, 1, false)], 4⟩,
  ⟨.st [(0, 1, false), (1, 1, false), (2, 1, false), (3, 1, false)], 4⟩,
  ⟨.fn, 1⟩,
  ⟨.st [(0, 1, false), (1, 1, false), (2, 1, false), (3, 1, false), (4, 1, false), (5, 1, false), (6, 1, false), (7, 1, false)], 8⟩,
  ⟨.st [(0, 1, false), (1, 1, false), (2, 1, false), (3, 1, false), (4, 1, false), (5, 1, false), (6, 1, false), (7, 1, false)], 8⟩,
  ⟨.fn, 1⟩,
  ⟨.ptr, 1⟩,
  ⟨.ptr, 1⟩,
  ⟨.ptr, 1⟩,
  ⟨.st [(0, 1, false), (1, 1, false), (2, 1, false)], 3⟩,
  ⟨.st [(0, 1, false), (1, 1, false), (2, 1, false)], 3⟩,
  ⟨.ptr, 1⟩,
  ⟨.st [(0, 1, false), (1, 1, false), (2, 1, false), (3, 3, true), (6, 1, false)], 7⟩,
  ⟨.st [(0, 1, false), (1, 1, false), (2, 1, false), (3, 3, true), (6, 1, false)], 7⟩,
  ⟨.st [(0, 1, false), (1, 1, false), (2, 1, false)], 3⟩,
  ⟨.st [(0, 1, false), (1, 1, false), (2, 1, false)], 3⟩,
  ⟨.fn, 1⟩,
  ⟨.fn, 1⟩,
  ⟨.fn, 1⟩,
  ⟨.fn, 1⟩,
  ⟨.fn, 1⟩,
  ⟨.fn, 1⟩,
  ⟨.sl 142 3, 1⟩,
  ⟨.st [(0, 1, false)], 1⟩,
  ⟨.st [(0, 1, false)], 1⟩,
  ⟨.sl 144 2, 1⟩,
  ⟨.sl 184 4, 1⟩,
  ⟨.st [(0, 1, false), (1, 1, false), (2, 1, false)], 3⟩,
  ⟨.st [(0, 1, false), (1, 1, false), (2, 1, false)], 3⟩,
  ⟨.ar 8 3 1, 8⟩,
  ⟨.st [(0, 1, false), (1, 1, false), (2, 1, false), (3, 1, false)], 4⟩,
  ⟨.st [(0, 1, false), (1, 1, false), (2, 1, false), (3, 1, false)], 4⟩,
  ⟨.ar 8 120 4, 32⟩,
  ⟨.st [(0, 8, true), (8, 32, true)], 40⟩,
  ⟨.st [(0, 8, true), (8, 32, true)], 40⟩,
  ⟨.sl 219 5, 1⟩,
  ⟨.st [(0, 1, false), (1, 1, false), (2, 1, false)], 3⟩,
  ⟨.st [(0, 1, false), (1, 1, false), (2, 1, false)], 3⟩,
  ⟨.fn, 1⟩,
  ⟨.fn, 1⟩,
  ⟨.fn, 1⟩,
  ⟨.ptr, 1⟩,
  ⟨.fn, 1⟩,
  ⟨.fn, 1⟩,
  ⟨.fn, 1⟩,
  ⟨.fn, 1⟩,
  ⟨.fn, 1⟩,
  ⟨.fn, 1⟩,
  ⟨.int, 1⟩,
  ⟨.fn, 1⟩,
  ⟨.sl 24 1, 1⟩,
  ⟨.fn, 1⟩,
  ⟨.st [(0, 1, false), (1, 1, false), (2, 1, false)], 3⟩,
  ⟨.st [(0, 1, false), (1, 1, false), (2, 1, false)], 3⟩,
  ⟨.st [(0, 1, false), (1, 1, false)], 2⟩,
  ⟨.st [(0, 1, false), (1, 1, false)], 2⟩,
  ⟨.fn, 1⟩,
  ⟨.fn, 1⟩,
  ⟨.fn, 1⟩,
  ⟨.fn, 1⟩,
  ⟨.st [(0, 1, false), (1, 1, false), (2, 1, false)], 3⟩,
  ⟨.st [(0, 1, false), (1, 1, false), (2, 1, false)], 3⟩,
  ⟨.fn, 1⟩,
  ⟨.fn, 1⟩,
  ⟨.int, 1⟩,
  ⟨.other, 0⟩,
  ⟨.fn, 1⟩,
  ⟨.fn, 1⟩,
  ⟨.fn, 1⟩,
  ⟨.fn, 1⟩,
  ⟨.other, 0⟩,
  ⟨.fn, 1⟩,
  ⟨.fn, 1⟩,
  ⟨.int, 1⟩,
  ⟨.fn, 1⟩,
  ⟨.int, 1⟩,
  ⟨.fn, 1⟩,
  ⟨.fn, 1⟩,
  ⟨.sl 5 1, 1⟩,
  ⟨.fn, 1⟩,
  ⟨.st [(0, 1, false)], 1⟩,
  ⟨.st [(0, 1, false)], 1⟩,
  ⟨.st [(0, 1, false), (1, 1, false), (2, 1, false)], 3⟩,
  ⟨.st [(0, 1, false), (1, 1, false), (2, 1, false)], 3⟩,
  ⟨.st [(0, 1, false), (1, 4, true)], 5⟩,
  ⟨.st [(0, 1, false), (1, 4, true)], 5⟩,
  ⟨.ar 8 174 5, 40⟩,
  ⟨.st [(0, 40, true)], 40⟩,
  ⟨.st [(0, 40, true)], 40⟩,
  ⟨.fn, 1⟩,
  ⟨.st [(0, 1, false), (1, 1, false)], 2⟩,
  ⟨.st [(0, 1, false), (1, 1, false)], 2⟩,
  ⟨.fn, 1⟩,
  ⟨.fn, 1⟩,
  ⟨.st [(0, 1, false), (1, 1, false), (2, 1, false), (3, 1, false)], 4⟩,
  ⟨.st [(0, 1, false), (1, 1, false), (2, 1, false), (3, 1, false)], 4⟩,
  ⟨.ptr, 1⟩,
  ⟨.other, 0⟩,
  ⟨.fn, 1⟩,
  ⟨.fn, 1⟩,
  ⟨.fn, 1⟩,
  ⟨.fn, 1⟩,
  ⟨.fn, 1⟩,
  ⟨.int, 1⟩,
  ⟨.fn, 1⟩,
  ⟨.fn, 1⟩,
  ⟨.fn, 1⟩,
  ⟨.ptr, 1⟩,
  ⟨.fn, 1⟩,
  ⟨.fn, 1⟩,
  ⟨.fn, 1⟩,
  ⟨.ptr, 1⟩,
  ⟨.other, 0⟩,
  ⟨.fn, 1⟩,
  ⟨.fn, 1⟩,
  ⟨.st [(0, 1, false), (1, 1, false), (2, 1, false), (3, 1, false)], 4⟩,
  ⟨.st [(0, 1, false), (1, 1, false), (2, 1, false), (3, 1, false)], 4⟩,
  ⟨.ar 0 16 1, 0⟩,
  ⟨.other, 0⟩,
  ⟨.other, 0⟩,
  ⟨.int, 1⟩,
  ⟨.int, 1⟩,
  ⟨.fn, 1⟩,
  ⟨.ptr, 1⟩,
  ⟨.int, 1⟩,
  ⟨.int, 1⟩,
  ⟨.st [(0, 1, false), (1, 1, false), (2, 1, false), (3, 1, false), (4, 1, false), (5, 1, false), (6, 1, false), (7, 1, false), (8, 1, false), (9, 1, false), (10, 1, false)], 11⟩,
  ⟨.st [(0, 1, false), (1, 1, false), (2, 1, false), (3, 1, false), (4, 1, false), (5, 1, false), (6, 1, false), (7, 1, false), (8, 1, false), (9, 1, false), (10, 1, false)], 11⟩,
  ⟨.fn, 1⟩,
  ⟨.st [(0, 1, false), (1, 1, false), (2, 1, false), (3, 1, false), (4, 1, false)], 5⟩,
  ⟨.st [(0, 1, false), (1, 1, false), (2, 1, false), (3, 1, false), (4, 1, false)], 5⟩,
  ⟨.other, 0⟩]
instance : HasTT Tryz.prog := ⟨ttab, tabOk_of (by kernel_rfl)⟩
def qtab : List QT := [.no, .no, .no, .int, .bool, .no, .no, .no, .no, .str, .no, .no, .no, .no, .no, .no, .no, .no, .no, .no, .no, .no, .no, .no, .no, .no, .no, .no, .no, .no, .no, .no, .no, .no, .no, .no, .no, .no, .no, .no, .no, .no, .no, .st [(0, 1, 3, false), (1, 1, 3, false), (2, 1, 4, false)], .no, .no, .no, .no, .no, .no, .no, .no, .no, .no, .no, .no, .no, .no, .no, .no, .no, .no, .no, .no, .no, .no, .no, .no, .no, .no, .no, .no, .no, .no, .no, .no, .no, .no, .no, .no, .no, .no, .no, .no, .no, .no, .no, .no, .no, .no, .no, .no, .no, .st [(0, 1, 3, false), (1, 1, 3, false), (2, 1, 3, false), (3, 1, 3, false), (4, 1, 3, false), (5, 1, 3, false), (6, 1, 9, false), (7, 1, 9, false)], .no, .no, .no, .no, .no, .no, .no, .no, .no, .no, .no, .no, .no, .no, .no, .no, .no, .no, .no, .no, .no, .no, .no, .no, .no, .no, .no, .no, .no, .no, .no, .no, .no, .no, .no, .no, .no, .no, .no, .no, .no, .no, .no, .no, .no, .no, .no, .no, .no, .no, .no, .no, .no, .no, .no, .no, .no, .no, .no, .no, .no, .no, .no, .no, .no, .no, .no, .no, .no, .no, .no, .no, .no, .no, .no, .no, .no, .no, .no, .no, .no, .no, .no, .no, .no, .no, .no, .no, .no, .no, .no, .no, .no, .no, .no, .no, .no, .no, .no, .no, .no, .no, .no, .no, .no, .no, .no, .no, .no, .no, .no, .no, .no, .no, .no, .no, .no, .no, .no, .no, .no, .no, .no, .no, .no, .no, .no]
instance : HasQ Tryz.prog := ⟨qtab, by kernel_rfl⟩
instance : HasZ Tryz.prog 1 [.nilFunc] := ⟨by kernel_rfl⟩
instance : HasZ Tryz.prog 2 [.int .i64 0] := ⟨by kernel_rfl⟩
instance : HasZ Tryz.prog 3 [.int .i64 0] := ⟨by kernel_rfl⟩
instance : HasE Tryz.prog 3 1 8 := HasE.of (by kernel_rfl) (by decide)
instance : HasZ Tryz.prog 4 [.bool false] := ⟨by kernel_rfl⟩
instance : HasZ Tryz.prog 5 [.int .u8 0] := ⟨by kernel_rfl⟩
instance : HasE Tryz.prog 5 1 1 := HasE.of (by kernel_rfl) (by decide)
instance : HasZ Tryz.prog 6 [.int .u8 0] := ⟨by kernel_rfl⟩
instance : HasZ Tryz.prog 7 [.int .i64 0, .int .i64 0, .bool false, .int .u8 0] := ⟨by kernel_rfl⟩
instance : HasZ Tryz.prog 8 [.int .i64 0, .int .i64 0, .bool false, .int .u8 0] := ⟨by kernel_rfl⟩
instance : HasZ Tryz.prog 9 [.string ⟨#[]⟩] := ⟨by kernel_rfl⟩
instance : HasZ Tryz.prog 10 [.string ⟨#[]⟩] := ⟨by kernel_rfl⟩
instance : HasZ Tryz.prog 11 [.string ⟨#[]⟩] := ⟨by kernel_rfl⟩
instance : HasZ Tryz.prog 12 [.int .u64 0] := ⟨by kernel_rfl⟩
instance : HasZ Tryz.prog 13 [.string ⟨#[]⟩, .int .u64 0] := ⟨by kernel_rfl⟩
instance : HasZ Tryz.prog 14 [.string ⟨#[]⟩, .int .u64 0] := ⟨by kernel_rfl⟩
instance : HasZ Tryz.prog 15 [.pointer none] := ⟨by kernel_rfl⟩
instance : HasZ Tryz.prog 16 [.pointer none] := ⟨by kernel_rfl⟩
instance : HasZ Tryz.prog 17 [.pointer none] := ⟨by kernel_rfl⟩
instance : HasZ Tryz.prog 18 [.pointer none] := ⟨by kernel_rfl⟩
instance : HasZ Tryz.prog 19 [.pointer none] := ⟨by kernel_rfl⟩
instance : HasZ Tryz.prog 21 [.int .i32 0] := ⟨by kernel_rfl⟩
instance : HasZ Tryz.prog 22 [.nilFunc] := ⟨by kernel_rfl⟩
instance : HasZ Tryz.prog 23 [.pointer none] := ⟨by kernel_rfl⟩
instance : HasZ Tryz.prog 24 [.int .i64 0] := ⟨by kernel_rfl⟩
instance : HasE Tryz.prog 24 1 8 := HasE.of (by kernel_rfl) (by decide)
instance : HasZ Tryz.prog 26 [.nilFunc] := ⟨by kernel_rfl⟩
instance : HasZ Tryz.prog 27 [.pointer none] := ⟨by kernel_rfl⟩
instance : HasZ Tryz.prog 29 [.nilFunc] := ⟨by kernel_rfl⟩
instance : HasZ Tryz.prog 30 [.slice none 0 0] := ⟨by kernel_rfl⟩
instance : HasZ Tryz.prog 31 [.nilFunc] := ⟨by kernel_rfl⟩
instance : HasZ Tryz.prog 32 [.nilFunc] := ⟨by kernel_rfl⟩
instance : HasZ Tryz.prog 33 [.nilFunc] := ⟨by kernel_rfl⟩
instance : HasZ Tryz.prog 34 [.nilFunc] := ⟨by kernel_rfl⟩
instance : HasZ Tryz.prog 35 [.slice none 0 0] := ⟨by kernel_rfl⟩
instance : HasZ Tryz.prog 36 [.nilFunc] := ⟨by kernel_rfl⟩
instance : HasZ Tryz.prog 37 [.slice none 0 0] := ⟨by kernel_rfl⟩
instance : HasZ Tryz.prog 38 [.nilFunc] := ⟨by kernel_rfl⟩
instance : HasZ Tryz.prog 39 [.nilFunc] := ⟨by kernel_rfl⟩
instance : HasZ Tryz.prog 40 [.pointer none] := ⟨by kernel_rfl⟩
instance : HasZ Tryz.prog 41 [.nilFunc] := ⟨by kernel_rfl⟩
instance : HasZ Tryz.prog 42 [.int .i64 0, .int .i64 0, .bool false] := ⟨by kernel_rfl⟩
instance : HasZ Tryz.prog 43 [.int .i64 0, .int .i64 0, .bool false] := ⟨by kernel_rfl⟩
instance : HasZ Tryz.prog 44 [.int .i64 0, .int .i64 0, .int .i64 0, .bool false, .int .i64 0, .int .i64 0, .bool false] := ⟨by kernel_rfl⟩
instance : HasZ Tryz.prog 45 [.int .i64 0, .int .i64 0, .int .i64 0, .bool false, .int .i64 0, .int .i64 0, .bool false] := ⟨by kernel_rfl⟩
instance : HasE Tryz.prog 45 7 56 := HasE.of (by kernel_rfl) (by decide)
instance : HasZ Tryz.prog 46 [.nilFunc] := ⟨by kernel_rfl⟩
instance : HasZ Tryz.prog 47 [.nilFunc] := ⟨by kernel_rfl⟩
instance : HasZ Tryz.prog 48 [.slice none 0 0] := ⟨by kernel_rfl⟩
instance : HasZ Tryz.prog 49 [.int .i64 0, .int .i64 0, .int .i64 0, .slice none 0 0] := ⟨by kernel_rfl⟩
instance : HasZ Tryz.prog 50 [.int .i64 0, .int .i64 0, .int .i64 0, .slice none 0 0] := ⟨by kernel_rfl⟩
instance : HasZ Tryz.prog 51 [.nilFunc] := ⟨by kernel_rfl⟩
instance : HasZ Tryz.prog 52 [.nilFunc] := ⟨by kernel_rfl⟩
instance : HasZ Tryz.prog 53 [.nilFunc] := ⟨by kernel_rfl⟩
instance : HasZ Tryz.prog 54 [.pointer none] := ⟨by kernel_rfl⟩
instance : HasZ Tryz.prog 56 [.nilFunc] := ⟨by kernel_rfl⟩
instance : HasZ Tryz.prog 57 [.nilFunc] := ⟨by kernel_rfl⟩
instance : HasZ Tryz.prog 58 [.pointer none] := ⟨by kernel_rfl⟩
instance : HasZ Tryz.prog 59 [.nilFunc] := ⟨by kernel_rfl⟩
instance : HasZ Tryz.prog 61 [.nilFunc] := ⟨by kernel_rfl⟩
instance : HasZ Tryz.prog 62 [.int .i64 0, .int .i64 0, .int .i64 0, .slice none 0 0] := ⟨by kernel_rfl⟩
instance : HasZ Tryz.prog 63 [.int .i64 0, .int .i64 0, .int .i64 0, .slice none 0 0] := ⟨by kernel_rfl⟩
instance : HasZ Tryz.prog 64 [.map none] := ⟨by kernel_rfl⟩
instance : HasZ Tryz.prog 65 [.int .i64 0, .int .i64 0, .int .i64 0, .map none] := ⟨by kernel_rfl⟩
instance : HasZ Tryz.prog 66 [.int .i64 0, .int .i64 0, .int .i64 0, .map none] := ⟨by kernel_rfl⟩
instance : HasZ Tryz.prog 67 [.nilFunc] := ⟨by kernel_rfl⟩
instance : HasZ Tryz.prog 68 [.nilFunc] := ⟨by kernel_rfl⟩
instance : HasZ Tryz.prog 69 [.nilFunc] := ⟨by kernel_rfl⟩
instance : HasZ Tryz.prog 70 [.nilFunc] := ⟨by kernel_rfl⟩
instance : HasZ Tryz.prog 71 [.bool false, .int .i64 0, .int .i64 0] := ⟨by kernel_rfl⟩
instance : HasZ Tryz.prog 72 [.bool false, .int .i64 0, .int .i64 0] := ⟨by kernel_rfl⟩
instance : HasZ Tryz.prog 74 [.pointer none] := ⟨by kernel_rfl⟩
instance : HasZ Tryz.prog 75 [.nilFunc] := ⟨by kernel_rfl⟩
instance : HasZ Tryz.prog 76 [.nilFunc] := ⟨by kernel_rfl⟩
instance : HasZ Tryz.prog 77 [.pointer none] := ⟨by kernel_rfl⟩
instance : HasZ Tryz.prog 78 [.pointer none] := ⟨by kernel_rfl⟩
instance : HasZ Tryz.prog 79 [.pointer none] := ⟨by kernel_rfl⟩
instance : HasZ Tryz.prog 80 [.pointer none] := ⟨by kernel_rfl⟩
instance : HasZ Tryz.prog 81 [.int .i64 0, .int .i64 0, .slice none 0 0, .pointer none, .pointer none, .pointer none, .pointer none] := ⟨by kernel_rfl⟩
instance : HasZ Tryz.prog 82 [.int .i64 0, .int .i64 0, .slice none 0 0, .pointer none, .pointer none, .pointer none, .pointer none] := ⟨by kernel_rfl⟩
instance : HasZ Tryz.prog 83 [.slice none 0 0, .int .i64 0] := ⟨by kernel_rfl⟩
instance : HasZ Tryz.prog 84 [.slice none 0 0, .int .i64 0] := ⟨by kernel_rfl⟩
instance : HasZ Tryz.prog 85 [.nilFunc] := ⟨by kernel_rfl⟩
instance : HasZ Tryz.prog 87 [.nilFunc] := ⟨by kernel_rfl⟩
instance : HasZ Tryz.prog 88 [.nilFunc] := ⟨by kernel_rfl⟩
instance : HasZ Tryz.prog 89 [.int .i64 0, .int .i64 0, .int .i64 0, .bool false] := ⟨by kernel_rfl⟩
instance : HasZ Tryz.prog 90 [.int .i64 0, .int .i64 0, .int .i64 0, .bool false] := ⟨by kernel_rfl⟩
instance : HasE Tryz.prog 90 4 32 := HasE.of (by kernel_rfl) (by decide)
instance : HasZ Tryz.prog 91 [.nilFunc] := ⟨by kernel_rfl⟩
instance : HasZ Tryz.prog 92 [.int .i64 0, .int .i64 0, .int .i64 0, .int .i64 0, .int .i64 0, .int .i64 0, .string ⟨#[]⟩, .string ⟨#[]⟩] := ⟨by kernel_rfl⟩
instance : HasZ Tryz.prog 93 [.int .i64 0, .int .i64 0, .int .i64 0, .int .i64 0, .int .i64 0, .int .i64 0, .string ⟨#[]⟩, .string ⟨#[]⟩] := ⟨by kernel_rfl⟩
instance : HasE Tryz.prog 93 8 80 := HasE.of (by kernel_rfl) (by decide)
instance : HasZ Tryz.prog 94 [.nilFunc] := ⟨by kernel_rfl⟩
instance : HasZ Tryz.prog 95 [.pointer none] := ⟨by kernel_rfl⟩
instance : HasZ Tryz.prog 96 [.pointer none] := ⟨by kernel_rfl⟩
instance : HasZ Tryz.prog 97 [.pointer none] := ⟨by kernel_rfl⟩
instance : HasZ Tryz.prog 98 [.pointer none, .pointer none, .pointer none] := ⟨by kernel_rfl⟩
instance : HasZ Tryz.prog 99 [.pointer none, .pointer none, .pointer none] := ⟨by kernel_rfl⟩
instance : HasZ Tryz.prog 100 [.pointer none] := ⟨by kernel_rfl⟩
instance : HasZ Tryz.prog 101 [.int .i64 0, .int .i64 0, .slice none 0 0, .pointer none, .pointer none, .pointer none, .pointer none] := ⟨by kernel_rfl⟩
instance : HasZ Tryz.prog 102 [.int .i64 0, .int .i64 0, .slice none 0 0, .pointer none, .pointer none, .pointer none, .pointer none] := ⟨by kernel_rfl⟩
instance : HasZ Tryz.prog 103 [.pointer none, .int .i64 0, .int .i64 0] := ⟨by kernel_rfl⟩
instance : HasZ Tryz.prog 104 [.pointer none, .int .i64 0, .int .i64 0] := ⟨by kernel_rfl⟩
instance : HasZ Tryz.prog 105 [.nilFunc] := ⟨by kernel_rfl⟩
instance : HasZ Tryz.prog 106 [.nilFunc] := ⟨by kernel_rfl⟩
instance : HasZ Tryz.prog 107 [.nilFunc] := ⟨by kernel_rfl⟩
instance : HasZ Tryz.prog 108 [.nilFunc] := ⟨by kernel_rfl⟩
instance : HasZ Tryz.prog 109 [.nilFunc] := ⟨by kernel_rfl⟩
instance : HasZ Tryz.prog 110 [.nilFunc] := ⟨by kernel_rfl⟩
instance : HasZ Tryz.prog 111 [.slice none 0 0] := ⟨by kernel_rfl⟩
instance : HasZ Tryz.prog 112 [.slice none 0 0] := ⟨by kernel_rfl⟩
instance : HasZ Tryz.prog 113 [.slice none 0 0] := ⟨by kernel_rfl⟩
instance : HasZ Tryz.prog 114 [.slice none 0 0] := ⟨by kernel_rfl⟩
instance : HasZ Tryz.prog 115 [.slice none 0 0] := ⟨by kernel_rfl⟩
instance : HasZ Tryz.prog 116 [.slice none 0 0, .slice none 0 0, .int .i64 0] := ⟨by kernel_rfl⟩
instance : HasZ Tryz.prog 117 [.slice none 0 0, .slice none 0 0, .int .i64 0] := ⟨by kernel_rfl⟩
instance : HasZ Tryz.prog 118 [.int .i64 0, .int .i64 0, .int .i64 0, .int .i64 0, .int .i64 0, .int .i64 0, .int .i64 0, .int .i64 0] := ⟨by kernel_rfl⟩
instance : HasZ Tryz.prog 119 [.int .i64 0, .int .i64 0, .int .i64 0, .string ⟨#[]⟩] := ⟨by kernel_rfl⟩
instance : HasZ Tryz.prog 120 [.int .i64 0, .int .i64 0, .int .i64 0, .string ⟨#[]⟩] := ⟨by kernel_rfl⟩
instance : HasZ Tryz.prog 121 [.int .i64 0, .int .i64 0, .int .i64 0, .string ⟨#[]⟩, .int .i64 0, .int .i64 0, .int .i64 0, .string ⟨#[]⟩, .int .i64 0, .int .i64 0, .int .i64 0, .string ⟨#[]⟩, .int .i64 0, .int .i64 0, .int .i64 0, .string ⟨#[]⟩, .int .i64 0, .int .i64 0, .int .i64 0, .string ⟨#[]⟩, .int .i64 0, .int .i64 0, .int .i64 0, .string ⟨#[]⟩, .int .i64 0, .int .i64 0, .int .i64 0, .string ⟨#[]⟩, .int .i64 0, .int .i64 0, .int .i64 0, .string ⟨#[]⟩] := ⟨by kernel_rfl⟩
instance : HasZ Tryz.prog 122 [.int .i64 0, .int .i64 0, .int .i64 0, .int .i64 0, .int .i64 0, .int .i64 0, .int .i64 0, .int .i64 0, .int .i64 0, .int .i64 0, .int .i64 0, .string ⟨#[]⟩, .int .i64 0, .int .i64 0, .int .i64 0, .string ⟨#[]⟩, .int .i64 0, .int .i64 0, .int .i64 0, .string ⟨#[]⟩, .int .i64 0, .int .i64 0, .int .i64 0, .string ⟨#[]⟩, .int .i64 0, .int .i64 0, .int .i64 0, .string ⟨#[]⟩, .int .i64 0, .int .i64 0, .int .i64 0, .string ⟨#[]⟩, .int .i64 0, .int .i64 0, .int .i64 0, .string ⟨#[]⟩, .int .i64 0, .int .i64 0, .int .i64 0, .string ⟨#[]⟩] := ⟨by kernel_rfl⟩
instance : HasZ Tryz.prog 123 [.int .i64 0, .int .i64 0, .int .i64 0, .int .i64 0, .int .i64 0, .int .i64 0, .int .i64 0, .int .i64 0, .int .i64 0, .int .i64 0, .int .i64 0, .string ⟨#[]⟩, .int .i64 0, .int .i64 0, .int .i64 0, .string ⟨#[]⟩, .int .i64 0, .int .i64 0, .int .i64 0, .string ⟨#[]⟩, .int .i64 0, .int .i64 0, .int .i64 0, .string ⟨#[]⟩, .int .i64 0, .int .i64 0, .int .i64 0, .string ⟨#[]⟩, .int .i64 0, .int .i64 0, .int .i64 0, .string ⟨#[]⟩, .int .i64 0, .int .i64 0, .int .i64 0, .string ⟨#[]⟩, .int .i64 0, .int .i64 0, .int .i64 0, .string ⟨#[]⟩] := ⟨by kernel_rfl⟩
instance : HasZ Tryz.prog 124 [.slice none 0 0] := ⟨by kernel_rfl⟩
instance : HasZ Tryz.prog 125 [.int .i64 0, .int .i64 0, .slice none 0 0] := ⟨by kernel_rfl⟩
instance : HasZ Tryz.prog 126 [.int .i64 0, .int .i64 0, .slice none 0 0] := ⟨by kernel_rfl⟩
instance : HasZ Tryz.prog 127 [.nilFunc] := ⟨by kernel_rfl⟩
instance : HasZ Tryz.prog 128 [.nilFunc] := ⟨by kernel_rfl⟩
instance : HasZ Tryz.prog 129 [.nilFunc] := ⟨by kernel_rfl⟩
instance : HasZ Tryz.prog 130 [.pointer none] := ⟨by kernel_rfl⟩
instance : HasZ Tryz.prog 131 [.nilFunc] := ⟨by kernel_rfl⟩
instance : HasZ Tryz.prog 132 [.nilFunc] := ⟨by kernel_rfl⟩
instance : HasZ Tryz.prog 133 [.nilFunc] := ⟨by kernel_rfl⟩
instance : HasZ Tryz.prog 134 [.nilFunc] := ⟨by kernel_rfl⟩
instance : HasZ Tryz.prog 135 [.nilFunc] := ⟨by kernel_rfl⟩
instance : HasZ Tryz.prog 136 [.nilFunc] := ⟨by kernel_rfl⟩
instance : HasZ Tryz.prog 137 [.int .u64 0] := ⟨by kernel_rfl⟩
instance : HasZ Tryz.prog 138 [.nilFunc] := ⟨by kernel_rfl⟩
instance : HasZ Tryz.prog 139 [.slice none 0 0] := ⟨by kernel_rfl⟩
instance : HasZ Tryz.prog 140 [.nilFunc] := ⟨by kernel_rfl⟩
instance : HasZ Tryz.prog 141 [.string ⟨#[]⟩, .string ⟨#[]⟩, .int .i64 0] := ⟨by kernel_rfl⟩
instance : HasZ Tryz.prog 142 [.string ⟨#[]⟩, .string ⟨#[]⟩, .int .i64 0] := ⟨by kernel_rfl⟩
instance : HasE Tryz.prog 142 3 40 := HasE.of (by kernel_rfl) (by decide)
instance : HasZ Tryz.prog 143 [.int .i64 0, .string ⟨#[]⟩] := ⟨by kernel_rfl⟩
instance : HasZ Tryz.prog 144 [.int .i64 0, .string ⟨#[]⟩] := ⟨by kernel_rfl⟩
instance : HasE Tryz.prog 144 2 24 := HasE.of (by kernel_rfl) (by decide)
instance : HasZ Tryz.prog 145 [.nilFunc] := ⟨by kernel_rfl⟩
instance : HasZ Tryz.prog 146 [.nilFunc] := ⟨by kernel_rfl⟩
instance : HasZ Tryz.prog 147 [.nilFunc] := ⟨by kernel_rfl⟩
instance : HasZ Tryz.prog 148 [.nilFunc] := ⟨by kernel_rfl⟩
instance : HasZ Tryz.prog 149 [.int .i64 0, .int .i64 0, .slice none 0 0] := ⟨by kernel_rfl⟩
instance : HasZ Tryz.prog 150 [.int .i64 0, .int .i64 0, .slice none 0 0] := ⟨by kernel_rfl⟩
instance : HasZ Tryz.prog 151 [.nilFunc] := ⟨by kernel_rfl⟩
instance : HasZ Tryz.prog 152 [.nilFunc] := ⟨by kernel_rfl⟩
instance : HasZ Tryz.prog 153 [.int .i64 0] := ⟨by kernel_rfl⟩
instance : HasZ Tryz.prog 155 [.nilFunc] := ⟨by kernel_rfl⟩
instance : HasZ Tryz.prog 156 [.nilFunc] := ⟨by kernel_rfl⟩
instance : HasZ Tryz.prog 157 [.nilFunc] := ⟨by kernel_rfl⟩
instance : HasZ Tryz.prog 158 [.nilFunc] := ⟨by kernel_rfl⟩
instance : HasZ Tryz.prog 160 [.nilFunc] := ⟨by kernel_rfl⟩
instance : HasZ Tryz.prog 161 [.nilFunc] := ⟨by kernel_rfl⟩
instance : HasZ Tryz.prog 162 [.int .u32 0] := ⟨by kernel_rfl⟩
instance : HasZ Tryz.prog 163 [.nilFunc] := ⟨by kernel_rfl⟩
instance : HasZ Tryz.prog 164 [.int .u64 0] := ⟨by kernel_rfl⟩
instance : HasZ Tryz.prog 165 [.nilFunc] := ⟨by kernel_rfl⟩
instance : HasZ Tryz.prog 166 [.nilFunc] := ⟨by kernel_rfl⟩
instance : HasZ Tryz.prog 167 [.slice none 0 0] := ⟨by kernel_rfl⟩
instance : HasZ Tryz.prog 168 [.map none] := ⟨by kernel_rfl⟩
instance : HasZ Tryz.prog 169 [.map none] := ⟨by kernel_rfl⟩
instance : HasZ Tryz.prog 170 [.map none] := ⟨by kernel_rfl⟩
instance : HasZ Tryz.prog 171 [.slice none 0 0, .slice none 0 0, .int .i64 0] := ⟨by kernel_rfl⟩
instance : HasZ Tryz.prog 172 [.slice none 0 0, .slice none 0 0, .int .i64 0] := ⟨by kernel_rfl⟩
instance : HasZ Tryz.prog 173 [.int .i64 0, .int .i64 0, .int .i64 0, .int .i64 0, .string ⟨#[]⟩] := ⟨by kernel_rfl⟩
instance : HasZ Tryz.prog 174 [.int .i64 0, .int .i64 0, .int .i64 0, .int .i64 0, .string ⟨#[]⟩] := ⟨by kernel_rfl⟩
instance : HasZ Tryz.prog 175 [.int .i64 0, .int .i64 0, .int .i64 0, .int .i64 0, .string ⟨#[]⟩, .int .i64 0, .int .i64 0, .int .i64 0, .int .i64 0, .string ⟨#[]⟩, .int .i64 0, .int .i64 0, .int .i64 0, .int .i64 0, .string ⟨#[]⟩, .int .i64 0, .int .i64 0, .int .i64 0, .int .i64 0, .string ⟨#[]⟩, .int .i64 0, .int .i64 0, .int .i64 0, .int .i64 0, .string ⟨#[]⟩, .int .i64 0, .int .i64 0, .int .i64 0, .int .i64 0, .string ⟨#[]⟩, .int .i64 0, .int .i64 0, .int .i64 0, .int .i64 0, .string ⟨#[]⟩, .int .i64 0, .int .i64 0, .int .i64 0, .int .i64 0, .string ⟨#[]⟩] := ⟨by kernel_rfl⟩
instance : HasZ Tryz.prog 176 [.int .i64 0, .int .i64 0, .int .i64 0, .int .i64 0, .string ⟨#[]⟩, .int .i64 0, .int .i64 0, .int .i64 0, .int .i64 0, .string ⟨#[]⟩, .int .i64 0, .int .i64 0, .int .i64 0, .int .i64 0, .string ⟨#[]⟩, .int .i64 0, .int .i64 0, .int .i64 0, .int .i64 0, .string ⟨#[]⟩, .int .i64 0, .int .i64 0, .int .i64 0, .int .i64 0, .string ⟨#[]⟩, .int .i64 0, .int .i64 0, .int .i64 0, .int .i64 0, .string ⟨#[]⟩, .int .i64 0, .int .i64 0, .int .i64 0, .int .i64 0, .string ⟨#[]⟩, .int .i64 0, .int .i64 0, .int .i64 0, .int .i64 0, .string ⟨#[]⟩] := ⟨by kernel_rfl⟩
instance : HasZ Tryz.prog 177 [.int .i64 0, .int .i64 0, .int .i64 0, .int .i64 0, .string ⟨#[]⟩, .int .i64 0, .int .i64 0, .int .i64 0, .int .i64 0, .string ⟨#[]⟩, .int .i64 0, .int .i64 0, .int .i64 0, .int .i64 0, .string ⟨#[]⟩, .int .i64 0, .int .i64 0, .int .i64 0, .int .i64 0, .string ⟨#[]⟩, .int .i64 0, .int .i64 0, .int .i64 0, .int .i64 0, .string ⟨#[]⟩, .int .i64 0, .int .i64 0, .int .i64 0, .int .i64 0, .string ⟨#[]⟩, .int .i64 0, .int .i64 0, .int .i64 0, .int .i64 0, .string ⟨#[]⟩, .int .i64 0, .int .i64 0, .int .i64 0, .int .i64 0, .string ⟨#[]⟩] := ⟨by kernel_rfl⟩
instance : HasZ Tryz.prog 178 [.nilFunc] := ⟨by kernel_rfl⟩
instance : HasZ Tryz.prog 179 [.string ⟨#[]⟩, .int .i64 0] := ⟨by kernel_rfl⟩
instance : HasZ Tryz.prog 180 [.string ⟨#[]⟩, .int .i64 0] := ⟨by kernel_rfl⟩
instance : HasZ Tryz.prog 181 [.nilFunc] := ⟨by kernel_rfl⟩
instance : HasZ Tryz.prog 182 [.nilFunc] := ⟨by kernel_rfl⟩
instance : HasZ Tryz.prog 183 [.int .i64 0, .int .i64 0, .int .i64 0, .int .i64 0] := ⟨by kernel_rfl⟩
instance : HasZ Tryz.prog 184 [.int .i64 0, .int .i64 0, .int .i64 0, .int .i64 0] := ⟨by kernel_rfl⟩
instance : HasE Tryz.prog 184 4 32 := HasE.of (by kernel_rfl) (by decide)
instance : HasZ Tryz.prog 185 [.pointer none] := ⟨by kernel_rfl⟩
instance : HasZ Tryz.prog 187 [.nilFunc] := ⟨by kernel_rfl⟩
instance : HasZ Tryz.prog 188 [.nilFunc] := ⟨by kernel_rfl⟩
instance : HasZ Tryz.prog 189 [.nilFunc] := ⟨by kernel_rfl⟩
instance : HasZ Tryz.prog 190 [.nilFunc] := ⟨by kernel_rfl⟩
instance : HasZ Tryz.prog 191 [.nilFunc] := ⟨by kernel_rfl⟩
instance : HasZ Tryz.prog 192 [.int .u64 0] := ⟨by kernel_rfl⟩
instance : HasZ Tryz.prog 193 [.nilFunc] := ⟨by kernel_rfl⟩
instance : HasZ Tryz.prog 194 [.nilFunc] := ⟨by kernel_rfl⟩
instance : HasZ Tryz.prog 195 [.nilFunc] := ⟨by kernel_rfl⟩
instance : HasZ Tryz.prog 196 [.pointer none] := ⟨by kernel_rfl⟩
instance : HasZ Tryz.prog 197 [.nilFunc] := ⟨by kernel_rfl⟩
instance : HasZ Tryz.prog 198 [.nilFunc] := ⟨by kernel_rfl⟩
instance : HasZ Tryz.prog 199 [.nilFunc] := ⟨by kernel_rfl⟩
instance : HasZ Tryz.prog 200 [.pointer none] := ⟨by kernel_rfl⟩
instance : HasZ Tryz.prog 202 [.nilFunc] := ⟨by kernel_rfl⟩
instance : HasZ Tryz.prog 203 [.nilFunc] := ⟨by kernel_rfl⟩
instance : HasZ Tryz.prog 204 [.pointer none, .pointer none, .pointer none, .string ⟨#[]⟩] := ⟨by kernel_rfl⟩
instance : HasZ Tryz.prog 205 [.pointer none, .pointer none, .pointer none, .string ⟨#[]⟩] := ⟨by kernel_rfl⟩
instance : HasZ Tryz.prog 209 [.int .u8 0] := ⟨by kernel_rfl⟩
instance : HasZ Tryz.prog 210 [.int .u8 0] := ⟨by kernel_rfl⟩
instance : HasZ Tryz.prog 211 [.nilFunc] := ⟨by kernel_rfl⟩
instance : HasZ Tryz.prog 212 [.pointer none] := ⟨by kernel_rfl⟩
instance : HasZ Tryz.prog 213 [.int .i32 0] := ⟨by kernel_rfl⟩
instance : HasZ Tryz.prog 214 [.int .i32 0] := ⟨by kernel_rfl⟩
instance : HasZ Tryz.prog 215 [.int .u64 0, .int .u64 0, .int .u32 0, .int .u8 0, .int .u8 0, .int .u8 0, .int .u8 0, .nilFunc, .pointer none, .int .i32 0, .int .i32 0] := ⟨by kernel_rfl⟩
instance : HasZ Tryz.prog 216 [.int .u64 0, .int .u64 0, .int .u32 0, .int .u8 0, .int .u8 0, .int .u8 0, .int .u8 0, .nilFunc, .pointer none, .int .i32 0, .int .i32 0] := ⟨by kernel_rfl⟩
instance : HasZ Tryz.prog 217 [.nilFunc] := ⟨by kernel_rfl⟩
instance : HasZ Tryz.prog 218 [.int .i64 0, .int .i64 0, .int .i64 0, .int .i64 0, .int .i64 0] := ⟨by kernel_rfl⟩
instance : HasZ Tryz.prog 219 [.int .i64 0, .int .i64 0, .int .i64 0, .int .i64 0, .int .i64 0] := ⟨by kernel_rfl⟩
instance : HasE Tryz.prog 219 5 40 := HasE.of (by kernel_rfl) (by decide)
instance : HasF Tryz.prog 3 := ⟨_, Tryz.func3, by kernel_rfl, by kernel_rfl⟩
instance : HasF Tryz.prog 4 := ⟨_, Tryz.func4, by kernel_rfl, by kernel_rfl⟩
instance : HasF Tryz.prog 5 := ⟨_, Tryz.func5, by kernel_rfl, by kernel_rfl⟩
instance : HasF Tryz.prog 6 := ⟨_, Tryz.func6, by kernel_rfl, by kernel_rfl⟩
instance : HasF Tryz.prog 7 := ⟨_, Tryz.func7, by kernel_rfl, by kernel_rfl⟩
instance : HasF Tryz.prog 8 := ⟨_, Tryz.func8, by kernel_rfl, by kernel_rfl⟩
instance : HasF Tryz.prog 9 := ⟨_, Tryz.func9, by kernel_rfl, by kernel_rfl⟩
instance : HasF Tryz.prog 10 := ⟨_, Tryz.func10, by kernel_rfl, by kernel_rfl⟩
instance : HasF Tryz.prog 11 := ⟨_, Tryz.func11, by kernel_rfl, by kernel_rfl⟩
instance : HasF Tryz.prog 12 := ⟨_, Tryz.func12, by kernel_rfl, by kernel_rfl⟩
instance : HasF Tryz.prog 13 := ⟨_, Tryz.func13, by kernel_rfl, by kernel_rfl⟩
instance : HasF Tryz.prog 14 := ⟨_, Tryz.func14, by kernel_rfl, by kernel_rfl⟩
instance : HasF Tryz.prog 15 := ⟨_, Tryz.func15, by kernel_rfl, by kernel_rfl⟩
instance : HasF Tryz.prog 16 := ⟨_, Tryz.func16, by kernel_rfl, by kernel_rfl⟩
instance : HasF Tryz.prog 17 := ⟨_, Tryz.func17, by kernel_rfl, by kernel_rfl⟩
instance : HasF Tryz.prog 18 := ⟨_, Tryz.func18, by kernel_rfl, by kernel_rfl⟩
instance : HasF Tryz.prog 19 := ⟨_, Tryz.func19, by kernel_rfl, by kernel_rfl⟩
instance : HasF Tryz.prog 20 := ⟨_, Tryz.func20, by kernel_rfl, by kernel_rfl⟩
instance : HasF Tryz.prog 21 := ⟨_, Tryz.func21, by kernel_rfl, by kernel_rfl⟩
instance : HasF Tryz.prog 22 := ⟨_, Tryz.func22, by kernel_rfl, by kernel_rfl⟩
instance : HasF Tryz.prog 23 := ⟨_, Tryz.func23, by kernel_rfl, by kernel_rfl⟩
instance : HasF Tryz.prog 24 := ⟨_, Tryz.func24, by kernel_rfl, by kernel_rfl⟩
instance : HasF Tryz.prog 25 := ⟨_, Tryz.func25, by kernel_rfl, by kernel_rfl⟩
instance : HasF Tryz.prog 26 := ⟨_, Tryz.func26, by kernel_rfl, by kernel_rfl⟩
instance : HasF Tryz.prog 27 := ⟨_, Tryz.func27, by kernel_rfl, by kernel_rfl⟩
instance : HasF Tryz.prog 28 := ⟨_, Tryz.func28, by kernel_rfl, by kernel_rfl⟩
instance : HasF Tryz.prog 29 := ⟨_, Tryz.func29, by kernel_rfl, by kernel_rfl⟩
instance : HasF Tryz.prog 30 := ⟨_, Tryz.func30, by kernel_rfl, by kernel_rfl⟩
instance : HasF Tryz.prog 31 := ⟨_, Tryz.func31, by kernel_rfl, by kernel_rfl⟩
instance : HasF Tryz.prog 32 := ⟨_, Tryz.func32, by kernel_rfl, by kernel_rfl⟩
instance : HasF Tryz.prog 33 := ⟨_, Tryz.func33, by kernel_rfl, by kernel_rfl⟩
instance : HasF Tryz.prog 34 := ⟨_, Tryz.func34, by kernel_rfl, by kernel_rfl⟩
instance : HasF Tryz.prog 35 := ⟨_, Tryz.func35, by kernel_rfl, by kernel_rfl⟩
instance : HasF Tryz.prog 36 := ⟨_, Tryz.func36, by kernel_rfl, by kernel_rfl⟩
instance : HasF Tryz.prog 37 := ⟨_, Tryz.func37, by kernel_rfl, by kernel_rfl⟩
instance : HasF Tryz.prog 38 := ⟨_, Tryz.func38, by kernel_rfl, by kernel_rfl⟩
instance : HasF Tryz.prog 39 := ⟨_, Tryz.func39, by kernel_rfl, by kernel_rfl⟩
instance : HasF Tryz.prog 40 := ⟨_, Tryz.func40, by kernel_rfl, by kernel_rfl⟩
instance : HasF Tryz.prog 41 := ⟨_, Tryz.func41, by kernel_rfl, by kernel_rfl⟩
instance : HasF Tryz.prog 42 := ⟨_, Tryz.func42, by kernel_rfl, by kernel_rfl⟩
instance : HasF Tryz.prog 43 := ⟨_, Tryz.func43, by kernel_rfl, by kernel_rfl⟩
instance : HasF Tryz.prog 44 := ⟨_, Tryz.func44, by kernel_rfl, by kernel_rfl⟩
instance : HasF Tryz.prog 45 := ⟨_, Tryz.func45, by kernel_rfl, by kernel_rfl⟩
instance : HasF Tryz.prog 46 := ⟨_, Tryz.func46, by kernel_rfl, by kernel_rfl⟩
instance : HasF Tryz.prog 47 := ⟨_, Tryz.func47, by kernel_rfl, by kernel_rfl⟩
instance : HasF Tryz.prog 48 := ⟨_, Tryz.func48, by kernel_rfl, by kernel_rfl⟩
instance : HasF Tryz.prog 49 := ⟨_, Tryz.func49, by kernel_rfl, by kernel_rfl⟩
instance : HasF Tryz.prog 50 := ⟨_, Tryz.func50, by kernel_rfl, by kernel_rfl⟩
instance : HasF Tryz.prog 51 := ⟨_, Tryz.func51, by kernel_rfl, by kernel_rfl⟩
instance : HasF Tryz.prog 52 := ⟨_, Tryz.func52, by kernel_rfl, by kernel_rfl⟩
instance : HasF Tryz.prog 53 := ⟨_, Tryz.func53, by kernel_rfl, by kernel_rfl⟩
instance : HasF Tryz.prog 54 := ⟨_, Tryz.func54, by kernel_rfl, by kernel_rfl⟩
instance : HasF Tryz.prog 55 := ⟨_, Tryz.func55, by kernel_rfl, by kernel_rfl⟩
instance : HasF Tryz.prog 56 := ⟨_, Tryz.func56, by kernel_rfl, by kernel_rfl⟩
instance : HasF Tryz.prog 57 := ⟨_, Tryz.func57, by kernel_rfl, by kernel_rfl⟩
instance : HasF Tryz.prog 58 := ⟨_, Tryz.func58, by kernel_rfl, by kernel_rfl⟩
instance : HasF Tryz.prog 59 := ⟨_, Tryz.func59, by kernel_rfl, by kernel_rfl⟩
instance : HasF Tryz.prog 60 := ⟨_, Tryz.func60, by kernel_rfl, by kernel_rfl⟩
instance : HasF Tryz.prog 61 := ⟨_, Tryz.func61, by kernel_rfl, by kernel_rfl⟩
instance : HasF Tryz.prog 62 := ⟨_, Tryz.func62, by kernel_rfl, by kernel_rfl⟩
instance : HasF Tryz.prog 63 := ⟨_, Tryz.func63, by kernel_rfl, by kernel_rfl⟩
instance : HasF Tryz.prog 64 := ⟨_, Tryz.func64, by kernel_rfl, by kernel_rfl⟩
instance : HasF Tryz.prog 65 := ⟨_, Tryz.func65, by kernel_rfl, by kernel_rfl⟩
instance : HasF Tryz.prog 66 := ⟨_, Tryz.func66, by kernel_rfl, by kernel_rfl⟩
instance : HasF Tryz.prog 67 := ⟨_, Tryz.func67, by kernel_rfl, by kernel_rfl⟩
instance : HasF Tryz.prog 68 := ⟨_, Tryz.func68, by kernel_rfl, by kernel_rfl⟩
instance : HasF Tryz.prog 69 := ⟨_, Tryz.func69, by kernel_rfl, by kernel_rfl⟩
instance : HasF Tryz.prog 70 := ⟨_, Tryz.func70, by kernel_rfl, by kernel_rfl⟩
instance : HasF Tryz.prog 71 := ⟨_, Tryz.func71, by kernel_rfl, by kernel_rfl⟩
instance : HasF Tryz.prog 72 := ⟨_, Tryz.func72, by kernel_rfl, by kernel_rfl⟩
instance : HasF Tryz.prog 73 := ⟨_, Tryz.func73, by kernel_rfl, by kernel_rfl⟩
instance : HasF Tryz.prog 74 := ⟨_, Tryz.func74, by kernel_rfl, by kernel_rfl⟩
instance : HasF Tryz.prog 75 := ⟨_, Tryz.func75, by kernel_rfl, by kernel_rfl⟩
instance : HasF Tryz.prog 76 := ⟨_, Tryz.func76, by kernel_rfl, by kernel_rfl⟩
instance : HasF Tryz.prog 77 := ⟨_, Tryz.func77, by kernel_rfl, by kernel_rfl⟩
instance : HasF Tryz.prog 78 := ⟨_, Tryz.func78, by kernel_rfl, by kernel_rfl⟩
instance : HasF Tryz.prog 79 := ⟨_, Tryz.func79, by kernel_rfl, by kernel_rfl⟩
instance : HasF Tryz.prog 80 := ⟨_, Tryz.func80, by kernel_rfl, by kernel_rfl⟩
instance : HasF Tryz.prog 81 := ⟨_, Tryz.func81, by kernel_rfl, by kernel_rfl⟩
instance : HasF Tryz.prog 82 := ⟨_, Tryz.func82, by kernel_rfl, by kernel_rfl⟩
instance : HasF Tryz.prog 83 := ⟨_, Tryz.func83, by kernel_rfl, by kernel_rfl⟩
instance : HasF Tryz.prog 84 := ⟨_, Tryz.func84, by kernel_rfl, by kernel_rfl⟩
instance : HasF Tryz.prog 85 := ⟨_, Tryz.func85, by kernel_rfl, by kernel_rfl⟩
instance : HasF Tryz.prog 86 := ⟨_, Tryz.func86, by kernel_rfl, by kernel_rfl⟩
instance : HasF Tryz.prog 87 := ⟨_, Tryz.func87, by kernel_rfl, by kernel_rfl⟩
instance : HasF Tryz.prog 88 := ⟨_, Tryz.func88, by kernel_rfl, by kernel_rfl⟩
instance : HasF Tryz.prog 89 := ⟨_, Tryz.func89, by kernel_rfl, by kernel_rfl⟩
instance : HasF Tryz.prog 90 := ⟨_, Tryz.func90, by kernel_rfl, by kernel_rfl⟩
instance : HasF Tryz.prog 91 := ⟨_, Tryz.func91, by kernel_rfl, by kernel_rfl⟩
instance : HasF Tryz.prog 92 := ⟨_, Tryz.func92, by kernel_rfl, by kernel_rfl⟩
instance : HasF Tryz.prog 93 := ⟨_, Tryz.func93, by kernel_rfl, by kernel_rfl⟩
instance : HasF Tryz.prog 94 := ⟨_, Tryz.func94, by kernel_rfl, by kernel_rfl⟩
instance : HasF Tryz.prog 95 := ⟨_, Tryz.func95, by kernel_rfl, by kernel_rfl⟩
instance : HasF Tryz.prog 96 := ⟨_, Tryz.func96, by kernel_rfl, by kernel_rfl⟩
instance : HasF Tryz.prog 97 := ⟨_, Tryz.func97, by kernel_rfl, by kernel_rfl⟩
instance : HasF Tryz.prog 98 := ⟨_, Tryz.func98, by kernel_rfl, by kernel_rfl⟩
instance : HasF Tryz.prog 99 := ⟨_, Tryz.func99, by kernel_rfl, by kernel_rfl⟩
instance : HasF Tryz.prog 100 := ⟨_, Tryz.func100, by kernel_rfl, by kernel_rfl⟩
instance : HasF Tryz.prog 101 := ⟨_, Tryz.func101, by kernel_rfl, by kernel_rfl⟩
instance : HasF Tryz.prog 102 := ⟨_, Tryz.func102, by kernel_rfl, by kernel_rfl⟩
instance : HasF Tryz.prog 103 := ⟨_, Tryz.func103, by kernel_rfl, by kernel_rfl⟩
instance : HasF Tryz.prog 104 := ⟨_, Tryz.func104, by kernel_rfl, by kernel_rfl⟩
instance : HasF Tryz.prog 105 := ⟨_, Tryz.func105, by kernel_rfl, by kernel_rfl⟩
instance : HasF Tryz.prog 106 := ⟨_, Tryz.func106, by kernel_rfl, by kernel_rfl⟩
instance : HasF Tryz.prog 107 := ⟨_, Tryz.func107, by kernel_rfl, by kernel_rfl⟩
instance : HasF Tryz.prog 108 := ⟨_, Tryz.func108, by kernel_rfl, by kernel_rfl⟩
instance : HasF Tryz.prog 109 := ⟨_, Tryz.func109, by kernel_rfl, by kernel_rfl⟩
instance : HasF Tryz.prog 110 := ⟨_, Tryz.func110, by kernel_rfl, by kernel_rfl⟩
instance : HasF Tryz.prog 111 := ⟨_, Tryz.func111, by kernel_rfl, by kernel_rfl⟩
instance : HasF Tryz.prog 112 := ⟨_, Tryz.func112, by kernel_rfl, by kernel_rfl⟩
instance : HasF Tryz.prog 113 := ⟨_, Tryz.func113, by kernel_rfl, by kernel_rfl⟩
instance : HasF Tryz.prog 114 := ⟨_, Tryz.func114, by kernel_rfl, by kernel_rfl⟩
instance : HasF Tryz.prog 115 := ⟨_, Tryz.func115, by kernel_rfl, by kernel_rfl⟩
instance : HasF Tryz.prog 116 := ⟨_, Tryz.func116, by kernel_rfl, by kernel_rfl⟩
instance : HasF Tryz.prog 117 := ⟨_, Tryz.func117, by kernel_rfl, by kernel_rfl⟩
instance : HasF Tryz.prog 118 := ⟨_, Tryz.func118, by kernel_rfl, by kernel_rfl⟩
instance : HasF Tryz.prog 119 := ⟨_, Tryz.func119, by kernel_rfl, by kernel_rfl⟩
instance : HasF Tryz.prog 120 := ⟨_, Tryz.func120, by kernel_rfl, by kernel_rfl⟩
instance : HasF Tryz.prog 121 := ⟨_, Tryz.func121, by kernel_rfl, by kernel_rfl⟩
instance : HasF Tryz.prog 123 := ⟨_, Tryz.func123, by kernel_rfl, by kernel_rfl⟩
instance : HasF Tryz.prog 124 := ⟨_, Tryz.func124, by kernel_rfl, by kernel_rfl⟩
end Go.Proofs.YtmjdkgpckcdndaaGreat
