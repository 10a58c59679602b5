/-
  The table of the program's types, as the rules of Z ask for it; the kernel checks each row.
-/
import Derived.Test.YtmjdkgpckcdndaaRows
import Derived.Test.YtmjdkgpckcdndaaE1
namespace Go.Proofs.Ytmjdkgpckcdndaa
open Go.RowKit
set_option linter.unusedSimpArgs false
set_option linter.unusedVariables false
def ttab : List Ty := [⟨.other, 0⟩,
  ⟨.fn, 1⟩,
  ⟨.int, 1⟩,
  ⟨.int, 1⟩,
  ⟨.bool, 1⟩,
  ⟨.int, 1⟩,
  ⟨.int, 1⟩,
  ⟨.st [(0, 1, false), (1, 1, false), (2, 1, false), (3, 1, false)], 4⟩,
  ⟨.st [(0, 1, false), (1, 1, false), (2, 1, false), (3, 1, false)], 4⟩,
  ⟨.str, 1⟩,
  ⟨.str, 1⟩,
  ⟨.str, 1⟩,
  ⟨.int, 1⟩,
  ⟨.st [(0, 1, false), (1, 1, false)], 2⟩,
  ⟨.st [(0, 1, false), (1, 1, false)], 2⟩,
  ⟨.ptr, 1⟩,
  ⟨.ptr, 1⟩,
  ⟨.ptr, 1⟩,
  ⟨.st [(0, 1, false)], 1⟩,
  ⟨.st [(0, 1, false)], 1⟩,
  ⟨.other, 0⟩,
  ⟨.int, 1⟩,
  ⟨.sl 3 1, 1⟩,
  ⟨.sl 28 4, 1⟩,
  ⟨.fn, 1⟩,
  ⟨.fn, 1⟩,
  ⟨.sl 51 8, 1⟩,
  ⟨.st [(0, 1, false), (1, 1, false), (2, 1, false), (3, 1, false)], 4⟩,
  ⟨.st [(0, 1, false), (1, 1, false), (2, 1, false), (3, 1, false)], 4⟩,
  ⟨.fn, 1⟩,
  ⟨.fn, 1⟩,
  ⟨.ptr, 1⟩,
  ⟨.int, 1⟩,
  ⟨.other, 0⟩,
  ⟨.fn, 1⟩,
  ⟨.ptr, 1⟩,
  ⟨.other, 0⟩,
  ⟨.fn, 1⟩,
  ⟨.ptr, 1⟩,
  ⟨.fn, 1⟩,
  ⟨.ptr, 1⟩,
  ⟨.st [(0, 1, false), (1, 1, false), (2, 1, false)], 3⟩,
  ⟨.st [(0, 1, false), (1, 1, false), (2, 1, false)], 3⟩,
  ⟨.ptr, 1⟩,
  ⟨.fn, 1⟩,
  ⟨.fn, 1⟩,
  ⟨.fn, 1⟩,
  ⟨.st [(0, 1, false), (1, 1, false)], 2⟩,
  ⟨.st [(0, 1, false), (1, 1, false)], 2⟩,
  ⟨.fn, 1⟩,
  ⟨.st [(0, 1, false), (1, 1, false), (2, 1, false), (3, 1, false), (4, 1, false), (5, 1, false), (6, 1, false), (7, 1, false)], 8⟩,
  ⟨.st [(0, 1, false), (1, 1, false), (2, 1, false), (3, 1, false), (4, 1, false), (5, 1, false), (6, 1, false), (7, 1, false)], 8⟩,
  ⟨.st [(0, 1, false), (1, 1, false), (2, 1, false)], 3⟩,
  ⟨.st [(0, 1, false), (1, 1, false), (2, 1, false)], 3⟩,
  ⟨.other, 0⟩,
  ⟨.fn, 1⟩,
  ⟨.fn, 1⟩,
  ⟨.fn, 1⟩,
  ⟨.fn, 1⟩,
  ⟨.fn, 1⟩,
  ⟨.fn, 1⟩,
  ⟨.fn, 1⟩,
  ⟨.ptr, 1⟩,
  ⟨.other, 0⟩,
  ⟨.fn, 1⟩,
  ⟨.fn, 1⟩,
  ⟨.fn, 1⟩,
  ⟨.fn, 1⟩,
  ⟨.ptr, 1⟩,
  ⟨.other, 0⟩,
  ⟨.fn, 1⟩,
  ⟨.ar 2 3 1, 2⟩,
  ⟨.ar 2 4 1, 2⟩,
  ⟨.ar 2 31 1, 2⟩,
  ⟨.ar 2 38 1, 2⟩,
  ⟨.ar 2 23 1, 2⟩,
  ⟨.sl 53 3, 1⟩,
  ⟨.ar 2 76 1, 2⟩,
  ⟨.st [(0, 1, false), (1, 1, false), (2, 1, false), (3, 2, true), (5, 2, true), (7, 2, true), (9, 2, true), (11, 1, false)], 12⟩,
  ⟨.st [(0, 1, false), (1, 1, false), (2, 1, false), (3, 2, true), (5, 2, true), (7, 2, true), (9, 2, true), (11, 1, false)], 12⟩,
  ⟨.fn, 1⟩,
  ⟨.fn, 1⟩,
  ⟨.fn, 1⟩,
  ⟨.fn, 1⟩,
  ⟨.fn, 1⟩,
  ⟨.fn, 1⟩,
  ⟨.other, 0⟩,
  ⟨.fn, 1⟩,
  ⟨.fn, 1⟩,
  ⟨.fn, 1⟩,
  ⟨.fn, 1⟩,
  ⟨.fn, 1⟩,
  ⟨.fn, 1⟩,
  ⟨.ptr, 1⟩,
  ⟨.ptr, 1⟩,
  ⟨.ptr, 1⟩,
  ⟨.ptr, 1⟩,
  ⟨.st [(0, 1, false), (1, 1, false), (2, 1, false), (3, 1, false), (4, 1, false), (5, 1, false), (6, 1, false)], 7⟩,
  ⟨.st [(0, 1, false), (1, 1, false), (2, 1, false), (3, 1, false), (4, 1, false), (5, 1, false), (6, 1, false)], 7⟩,
  ⟨.fn, 1⟩,
  ⟨.fn, 1⟩,
  ⟨.st [(0, 1, false), (1, 1, false), (2, 1, false)], 3⟩,
  ⟨.st [(0, 1, false), (1, 1, false), (2, 1, false)], 3⟩,
  ⟨.fn, 1⟩,
  ⟨.fn, 1⟩,
  ⟨.fn, 1⟩,
  ⟨.ptr, 1⟩,
  ⟨.ptr, 1⟩,
  ⟨.ptr, 1⟩,
  ⟨.st [(0, 1, false), (1, 1, false), (2, 1, false)], 3⟩,
  ⟨.st [(0, 1, false), (1, 1, false), (2, 1, false)], 3⟩,
  ⟨.ptr, 1⟩,
  ⟨.st [(0, 1, false), (1, 1, false), (2, 1, false), (3, 3, true), (6, 1, false)], 7⟩,
  ⟨.st [(0, 1, false), (1, 1, false), (2, 1, false), (3, 3, true), (6, 1, false)], 7⟩,
  ⟨.fn, 1⟩,
  ⟨.fn, 1⟩,
  ⟨.st [(0, 1, false), (1, 1, false), (2, 1, false), (3, 1, false)], 4⟩,
  ⟨.st [(0, 1, false), (1, 1, false), (2, 1, false), (3, 1, false)], 4⟩,
  ⟨.st [(0, 1, false), (1, 1, false), (2, 1, false)], 3⟩,
  ⟨.st [(0, 1, false), (1, 1, false), (2, 1, false)], 3⟩,
  ⟨.other, 0⟩,
  ⟨.fn, 1⟩,
  ⟨.sl 146 3, 1⟩,
  ⟨.st [(0, 1, false)], 1⟩,
  ⟨.st [(0, 1, false)], 1⟩,
  ⟨.sl 148 2, 1⟩,
  ⟨.sl 175 4, 1⟩,
  ⟨.st [(0, 1, false), (1, 1, false), (2, 1, false)], 3⟩,
  ⟨.st [(0, 1, false), (1, 1, false), (2, 1, false)], 3⟩,
  ⟨.ar 8 3 1, 8⟩,
  ⟨.st [(0, 1, false), (1, 1, false), (2, 1, false), (3, 1, false)], 4⟩,
  ⟨.st [(0, 1, false), (1, 1, false), (2, 1, false), (3, 1, false)], 4⟩,
  ⟨.ar 8 131 4, 32⟩,
  ⟨.st [(0, 8, true), (8, 32, true)], 40⟩,
  ⟨.st [(0, 8, true), (8, 32, true)], 40⟩,
  ⟨.sl 202 5, 1⟩,
  ⟨.st [(0, 1, false), (1, 1, false), (2, 1, false)], 3⟩,
  ⟨.st [(0, 1, false), (1, 1, false), (2, 1, false)], 3⟩,
  ⟨.fn, 1⟩,
  ⟨.fn, 1⟩,
  ⟨.fn, 1⟩,
  ⟨.sl 32 1, 1⟩,
  ⟨.fn, 1⟩,
  ⟨.fn, 1⟩,
  ⟨.fn, 1⟩,
  ⟨.st [(0, 1, false), (1, 1, false), (2, 1, false)], 3⟩,
  ⟨.st [(0, 1, false), (1, 1, false), (2, 1, false)], 3⟩,
  ⟨.st [(0, 1, false), (1, 1, false)], 2⟩,
  ⟨.st [(0, 1, false), (1, 1, false)], 2⟩,
  ⟨.fn, 1⟩,
  ⟨.fn, 1⟩,
  ⟨.fn, 1⟩,
  ⟨.st [(0, 1, false), (1, 1, false), (2, 1, false)], 3⟩,
  ⟨.st [(0, 1, false), (1, 1, false), (2, 1, false)], 3⟩,
  ⟨.fn, 1⟩,
  ⟨.other, 0⟩,
  ⟨.fn, 1⟩,
  ⟨.fn, 1⟩,
  ⟨.sl 5 1, 1⟩,
  ⟨.fn, 1⟩,
  ⟨.st [(0, 1, false)], 1⟩,
  ⟨.st [(0, 1, false)], 1⟩,
  ⟨.st [(0, 1, false), (1, 1, false), (2, 1, false)], 3⟩,
  ⟨.st [(0, 1, false), (1, 1, false), (2, 1, false)], 3⟩,
  ⟨.st [(0, 1, false), (1, 4, true)], 5⟩,
  ⟨.st [(0, 1, false), (1, 4, true)], 5⟩,
  ⟨.ar 8 165 5, 40⟩,
  ⟨.st [(0, 40, true)], 40⟩,
  ⟨.st [(0, 40, true)], 40⟩,
  ⟨.fn, 1⟩,
  ⟨.st [(0, 1, false), (1, 1, false)], 2⟩,
  ⟨.st [(0, 1, false), (1, 1, false)], 2⟩,
  ⟨.fn, 1⟩,
  ⟨.fn, 1⟩,
  ⟨.st [(0, 1, false), (1, 1, false), (2, 1, false), (3, 1, false)], 4⟩,
  ⟨.st [(0, 1, false), (1, 1, false), (2, 1, false), (3, 1, false)], 4⟩,
  ⟨.ptr, 1⟩,
  ⟨.other, 0⟩,
  ⟨.fn, 1⟩,
  ⟨.fn, 1⟩,
  ⟨.fn, 1⟩,
  ⟨.fn, 1⟩,
  ⟨.fn, 1⟩,
  ⟨.fn, 1⟩,
  ⟨.fn, 1⟩,
  ⟨.fn, 1⟩,
  ⟨.st [(0, 1, false), (1, 1, false), (2, 1, false), (3, 1, false)], 4⟩,
  ⟨.st [(0, 1, false), (1, 1, false), (2, 1, false), (3, 1, false)], 4⟩,
  ⟨.ar 0 16 1, 0⟩,
  ⟨.other, 0⟩,
  ⟨.other, 0⟩,
  ⟨.int, 1⟩,
  ⟨.int, 1⟩,
  ⟨.int, 1⟩,
  ⟨.fn, 1⟩,
  ⟨.ptr, 1⟩,
  ⟨.int, 1⟩,
  ⟨.int, 1⟩,
  ⟨.st [(0, 1, false), (1, 1, false), (2, 1, false), (3, 1, false), (4, 1, false), (5, 1, false), (6, 1, false), (7, 1, false), (8, 1, false), (9, 1, false), (10, 1, false)], 11⟩,
  ⟨.st [(0, 1, false), (1, 1, false), (2, 1, false), (3, 1, false), (4, 1, false), (5, 1, false), (6, 1, false), (7, 1, false), (8, 1, false), (9, 1, false), (10, 1, false)], 11⟩,
  ⟨.fn, 1⟩,
  ⟨.st [(0, 1, false), (1, 1, false), (2, 1, false), (3, 1, false), (4, 1, false)], 5⟩,
  ⟨.st [(0, 1, false), (1, 1, false), (2, 1, false), (3, 1, false), (4, 1, false)], 5⟩,
  ⟨.other, 0⟩]
instance : HasTT Try.prog := ⟨ttab, tabOk_of (by kernel_rfl)⟩
def qtab : List QT := [.no, .no, .no, .int, .bool, .no, .no, .no, .no, .str, .no, .no, .no, .no, .no, .no, .no, .no, .no, .no, .no, .no, .no, .no, .no, .no, .no, .no, .no, .no, .no, .no, .no, .no, .no, .no, .no, .no, .no, .no, .no, .no, .no, .no, .no, .no, .no, .no, .no, .no, .no, .st [(0, 1, 3, false), (1, 1, 3, false), (2, 1, 3, false), (3, 1, 3, false), (4, 1, 3, false), (5, 1, 3, false), (6, 1, 9, false), (7, 1, 9, false)], .no, .st [(0, 1, 3, false), (1, 1, 3, false), (2, 1, 4, false)], .no, .no, .no, .no, .no, .no, .no, .no, .no, .no, .no, .no, .no, .no, .no, .no, .no, .no, .no, .no, .no, .no, .no, .no, .no, .no, .no, .no, .no, .no, .no, .no, .no, .no, .no, .no, .no, .no, .no, .no, .no, .no, .no, .no, .no, .no, .no, .no, .no, .no, .no, .no, .no, .no, .no, .no, .no, .no, .no, .no, .no, .no, .no, .no, .no, .no, .no, .no, .no, .no, .no, .no, .no, .no, .no, .no, .no, .no, .no, .no, .no, .no, .no, .no, .no, .no, .no, .no, .no, .no, .no, .no, .no, .no, .no, .no, .no, .no, .no, .no, .no, .no, .no, .no, .no, .no, .no, .no, .no, .no, .no, .no, .no, .no, .no, .no, .no, .no, .no, .no, .no, .no, .no, .no, .no, .no, .no, .no, .no, .no, .no, .no, .no, .no, .no, .no, .no, .no, .no, .no, .no, .no, .no, .no, .no, .no, .no, .no, .no, .no]
instance : HasQ Try.prog := ⟨qtab, by kernel_rfl⟩
instance : HasZ Try.prog 1 [.nilFunc] := ⟨by kernel_rfl⟩
instance : HasZ Try.prog 2 [.int .i64 0] := ⟨by kernel_rfl⟩
instance : HasZ Try.prog 3 [.int .i64 0] := ⟨by kernel_rfl⟩
instance : HasE Try.prog 3 1 8 := HasE.of (by kernel_rfl) (by decide)
instance : HasZ Try.prog 4 [.bool false] := ⟨by kernel_rfl⟩
instance : HasZ Try.prog 5 [.int .u8 0] := ⟨by kernel_rfl⟩
instance : HasE Try.prog 5 1 1 := HasE.of (by kernel_rfl) (by decide)
instance : HasZ Try.prog 6 [.int .u8 0] := ⟨by kernel_rfl⟩
instance : HasZ Try.prog 7 [.int .i64 0, .int .i64 0, .bool false, .int .u8 0] := ⟨by kernel_rfl⟩
instance : HasZ Try.prog 8 [.int .i64 0, .int .i64 0, .bool false, .int .u8 0] := ⟨by kernel_rfl⟩
instance : HasZ Try.prog 9 [.string ⟨#[]⟩] := ⟨by kernel_rfl⟩
instance : HasZ Try.prog 10 [.string ⟨#[]⟩] := ⟨by kernel_rfl⟩
instance : HasZ Try.prog 11 [.string ⟨#[]⟩] := ⟨by kernel_rfl⟩
instance : HasZ Try.prog 12 [.int .u64 0] := ⟨by kernel_rfl⟩
instance : HasZ Try.prog 13 [.string ⟨#[]⟩, .int .u64 0] := ⟨by kernel_rfl⟩
instance : HasZ Try.prog 14 [.string ⟨#[]⟩, .int .u64 0] := ⟨by kernel_rfl⟩
instance : HasZ Try.prog 15 [.pointer none] := ⟨by kernel_rfl⟩
instance : HasZ Try.prog 16 [.pointer none] := ⟨by kernel_rfl⟩
instance : HasZ Try.prog 17 [.pointer none] := ⟨by kernel_rfl⟩
instance : HasZ Try.prog 18 [.pointer none] := ⟨by kernel_rfl⟩
instance : HasZ Try.prog 19 [.pointer none] := ⟨by kernel_rfl⟩
instance : HasZ Try.prog 21 [.int .i32 0] := ⟨by kernel_rfl⟩
instance : HasZ Try.prog 22 [.slice none 0 0] := ⟨by kernel_rfl⟩
instance : HasZ Try.prog 23 [.slice none 0 0] := ⟨by kernel_rfl⟩
instance : HasZ Try.prog 24 [.nilFunc] := ⟨by kernel_rfl⟩
instance : HasZ Try.prog 25 [.nilFunc] := ⟨by kernel_rfl⟩
instance : HasZ Try.prog 26 [.slice none 0 0] := ⟨by kernel_rfl⟩
instance : HasZ Try.prog 27 [.int .i64 0, .int .i64 0, .int .i64 0, .slice none 0 0] := ⟨by kernel_rfl⟩
instance : HasZ Try.prog 28 [.int .i64 0, .int .i64 0, .int .i64 0, .slice none 0 0] := ⟨by kernel_rfl⟩
instance : HasE Try.prog 28 4 48 := HasE.of (by kernel_rfl) (by decide)
instance : HasZ Try.prog 29 [.nilFunc] := ⟨by kernel_rfl⟩
instance : HasZ Try.prog 30 [.nilFunc] := ⟨by kernel_rfl⟩
instance : HasZ Try.prog 31 [.pointer none] := ⟨by kernel_rfl⟩
instance : HasZ Try.prog 32 [.int .i64 0] := ⟨by kernel_rfl⟩
instance : HasE Try.prog 32 1 8 := HasE.of (by kernel_rfl) (by decide)
instance : HasZ Try.prog 34 [.nilFunc] := ⟨by kernel_rfl⟩
instance : HasZ Try.prog 35 [.pointer none] := ⟨by kernel_rfl⟩
instance : HasZ Try.prog 37 [.nilFunc] := ⟨by kernel_rfl⟩
instance : HasZ Try.prog 38 [.pointer none] := ⟨by kernel_rfl⟩
instance : HasZ Try.prog 39 [.nilFunc] := ⟨by kernel_rfl⟩
instance : HasZ Try.prog 40 [.pointer none] := ⟨by kernel_rfl⟩
instance : HasZ Try.prog 41 [.pointer none, .int .i64 0, .int .i64 0] := ⟨by kernel_rfl⟩
instance : HasZ Try.prog 42 [.pointer none, .int .i64 0, .int .i64 0] := ⟨by kernel_rfl⟩
instance : HasZ Try.prog 43 [.pointer none] := ⟨by kernel_rfl⟩
instance : HasZ Try.prog 44 [.nilFunc] := ⟨by kernel_rfl⟩
instance : HasZ Try.prog 45 [.nilFunc] := ⟨by kernel_rfl⟩
instance : HasZ Try.prog 46 [.nilFunc] := ⟨by kernel_rfl⟩
instance : HasZ Try.prog 47 [.slice none 0 0, .int .i64 0] := ⟨by kernel_rfl⟩
instance : HasZ Try.prog 48 [.slice none 0 0, .int .i64 0] := ⟨by kernel_rfl⟩
instance : HasZ Try.prog 49 [.nilFunc] := ⟨by kernel_rfl⟩
instance : HasZ Try.prog 50 [.int .i64 0, .int .i64 0, .int .i64 0, .int .i64 0, .int .i64 0, .int .i64 0, .string ⟨#[]⟩, .string ⟨#[]⟩] := ⟨by kernel_rfl⟩
instance : HasZ Try.prog 51 [.int .i64 0, .int .i64 0, .int .i64 0, .int .i64 0, .int .i64 0, .int .i64 0, .string ⟨#[]⟩, .string ⟨#[]⟩] := ⟨by kernel_rfl⟩
instance : HasE Try.prog 51 8 80 := HasE.of (by kernel_rfl) (by decide)
instance : HasZ Try.prog 52 [.int .i64 0, .int .i64 0, .bool false] := ⟨by kernel_rfl⟩
instance : HasZ Try.prog 53 [.int .i64 0, .int .i64 0, .bool false] := ⟨by kernel_rfl⟩
instance : HasE Try.prog 53 3 24 := HasE.of (by kernel_rfl) (by decide)
instance : HasZ Try.prog 55 [.nilFunc] := ⟨by kernel_rfl⟩
instance : HasZ Try.prog 56 [.nilFunc] := ⟨by kernel_rfl⟩
instance : HasZ Try.prog 57 [.nilFunc] := ⟨by kernel_rfl⟩
instance : HasZ Try.prog 58 [.nilFunc] := ⟨by kernel_rfl⟩
instance : HasZ Try.prog 59 [.nilFunc] := ⟨by kernel_rfl⟩
instance : HasZ Try.prog 60 [.nilFunc] := ⟨by kernel_rfl⟩
instance : HasZ Try.prog 61 [.nilFunc] := ⟨by kernel_rfl⟩
instance : HasZ Try.prog 62 [.pointer none] := ⟨by kernel_rfl⟩
instance : HasZ Try.prog 64 [.nilFunc] := ⟨by kernel_rfl⟩
instance : HasZ Try.prog 65 [.nilFunc] := ⟨by kernel_rfl⟩
instance : HasZ Try.prog 66 [.nilFunc] := ⟨by kernel_rfl⟩
instance : HasZ Try.prog 67 [.nilFunc] := ⟨by kernel_rfl⟩
instance : HasZ Try.prog 68 [.pointer none] := ⟨by kernel_rfl⟩
instance : HasZ Try.prog 70 [.nilFunc] := ⟨by kernel_rfl⟩
instance : HasZ Try.prog 71 [.int .i64 0, .int .i64 0] := ⟨by kernel_rfl⟩
instance : HasZ Try.prog 72 [.bool false, .bool false] := ⟨by kernel_rfl⟩
instance : HasZ Try.prog 73 [.pointer none, .pointer none] := ⟨by kernel_rfl⟩
instance : HasZ Try.prog 74 [.pointer none, .pointer none] := ⟨by kernel_rfl⟩
instance : HasZ Try.prog 75 [.slice none 0 0, .slice none 0 0] := ⟨by kernel_rfl⟩
instance : HasZ Try.prog 76 [.slice none 0 0] := ⟨by kernel_rfl⟩
instance : HasZ Try.prog 77 [.slice none 0 0, .slice none 0 0] := ⟨by kernel_rfl⟩
instance : HasZ Try.prog 78 [.pointer none, .pointer none, .pointer none, .pointer none, .pointer none, .pointer none, .pointer none, .slice none 0 0, .slice none 0 0, .slice none 0 0, .slice none 0 0, .int .i64 0] := ⟨by kernel_rfl⟩
instance : HasZ Try.prog 79 [.pointer none, .pointer none, .pointer none, .pointer none, .pointer none, .pointer none, .pointer none, .slice none 0 0, .slice none 0 0, .slice none 0 0, .slice none 0 0, .int .i64 0] := ⟨by kernel_rfl⟩
instance : HasZ Try.prog 80 [.nilFunc] := ⟨by kernel_rfl⟩
instance : HasZ Try.prog 81 [.nilFunc] := ⟨by kernel_rfl⟩
instance : HasZ Try.prog 82 [.nilFunc] := ⟨by kernel_rfl⟩
instance : HasZ Try.prog 83 [.nilFunc] := ⟨by kernel_rfl⟩
instance : HasZ Try.prog 84 [.nilFunc] := ⟨by kernel_rfl⟩
instance : HasZ Try.prog 85 [.nilFunc] := ⟨by kernel_rfl⟩
instance : HasZ Try.prog 87 [.nilFunc] := ⟨by kernel_rfl⟩
instance : HasZ Try.prog 88 [.nilFunc] := ⟨by kernel_rfl⟩
instance : HasZ Try.prog 89 [.nilFunc] := ⟨by kernel_rfl⟩
instance : HasZ Try.prog 90 [.nilFunc] := ⟨by kernel_rfl⟩
instance : HasZ Try.prog 91 [.nilFunc] := ⟨by kernel_rfl⟩
instance : HasZ Try.prog 92 [.nilFunc] := ⟨by kernel_rfl⟩
instance : HasZ Try.prog 93 [.pointer none] := ⟨by kernel_rfl⟩
instance : HasZ Try.prog 94 [.pointer none] := ⟨by kernel_rfl⟩
instance : HasZ Try.prog 95 [.pointer none] := ⟨by kernel_rfl⟩
instance : HasZ Try.prog 96 [.pointer none] := ⟨by kernel_rfl⟩
instance : HasZ Try.prog 97 [.int .i64 0, .int .i64 0, .slice none 0 0, .pointer none, .pointer none, .pointer none, .pointer none] := ⟨by kernel_rfl⟩
instance : HasZ Try.prog 98 [.int .i64 0, .int .i64 0, .slice none 0 0, .pointer none, .pointer none, .pointer none, .pointer none] := ⟨by kernel_rfl⟩
instance : HasZ Try.prog 99 [.nilFunc] := ⟨by kernel_rfl⟩
instance : HasZ Try.prog 100 [.nilFunc] := ⟨by kernel_rfl⟩
instance : HasZ Try.prog 101 [.pointer none, .int .i64 0, .int .i64 0] := ⟨by kernel_rfl⟩
instance : HasZ Try.prog 102 [.pointer none, .int .i64 0, .int .i64 0] := ⟨by kernel_rfl⟩
instance : HasZ Try.prog 103 [.nilFunc] := ⟨by kernel_rfl⟩
instance : HasZ Try.prog 104 [.nilFunc] := ⟨by kernel_rfl⟩
instance : HasZ Try.prog 105 [.nilFunc] := ⟨by kernel_rfl⟩
instance : HasZ Try.prog 106 [.pointer none] := ⟨by kernel_rfl⟩
instance : HasZ Try.prog 107 [.pointer none] := ⟨by kernel_rfl⟩
instance : HasZ Try.prog 108 [.pointer none] := ⟨by kernel_rfl⟩
instance : HasZ Try.prog 109 [.pointer none, .pointer none, .pointer none] := ⟨by kernel_rfl⟩
instance : HasZ Try.prog 110 [.pointer none, .pointer none, .pointer none] := ⟨by kernel_rfl⟩
instance : HasZ Try.prog 111 [.pointer none] := ⟨by kernel_rfl⟩
instance : HasZ Try.prog 112 [.int .i64 0, .int .i64 0, .slice none 0 0, .pointer none, .pointer none, .pointer none, .pointer none] := ⟨by kernel_rfl⟩
instance : HasZ Try.prog 113 [.int .i64 0, .int .i64 0, .slice none 0 0, .pointer none, .pointer none, .pointer none, .pointer none] := ⟨by kernel_rfl⟩
instance : HasZ Try.prog 114 [.nilFunc] := ⟨by kernel_rfl⟩
instance : HasZ Try.prog 115 [.map none] := ⟨by kernel_rfl⟩
instance : HasZ Try.prog 116 [.int .i64 0, .int .i64 0, .int .i64 0, .map none] := ⟨by kernel_rfl⟩
instance : HasZ Try.prog 117 [.int .i64 0, .int .i64 0, .int .i64 0, .map none] := ⟨by kernel_rfl⟩
instance : HasZ Try.prog 118 [.bool false, .int .i64 0, .int .i64 0] := ⟨by kernel_rfl⟩
instance : HasZ Try.prog 119 [.bool false, .int .i64 0, .int .i64 0] := ⟨by kernel_rfl⟩
instance : HasZ Try.prog 121 [.nilFunc] := ⟨by kernel_rfl⟩
instance : HasZ Try.prog 122 [.slice none 0 0] := ⟨by kernel_rfl⟩
instance : HasZ Try.prog 123 [.slice none 0 0] := ⟨by kernel_rfl⟩
instance : HasZ Try.prog 124 [.slice none 0 0] := ⟨by kernel_rfl⟩
instance : HasZ Try.prog 125 [.slice none 0 0] := ⟨by kernel_rfl⟩
instance : HasZ Try.prog 126 [.slice none 0 0] := ⟨by kernel_rfl⟩
instance : HasZ Try.prog 127 [.slice none 0 0, .slice none 0 0, .int .i64 0] := ⟨by kernel_rfl⟩
instance : HasZ Try.prog 128 [.slice none 0 0, .slice none 0 0, .int .i64 0] := ⟨by kernel_rfl⟩
instance : HasZ Try.prog 129 [.int .i64 0, .int .i64 0, .int .i64 0, .int .i64 0, .int .i64 0, .int .i64 0, .int .i64 0, .int .i64 0] := ⟨by kernel_rfl⟩
instance : HasZ Try.prog 130 [.int .i64 0, .int .i64 0, .int .i64 0, .string ⟨#[]⟩] := ⟨by kernel_rfl⟩
instance : HasZ Try.prog 131 [.int .i64 0, .int .i64 0, .int .i64 0, .string ⟨#[]⟩] := ⟨by kernel_rfl⟩
instance : HasZ Try.prog 132 [.int .i64 0, .int .i64 0, .int .i64 0, .string ⟨#[]⟩, .int .i64 0, .int .i64 0, .int .i64 0, .string ⟨#[]⟩, .int .i64 0, .int .i64 0, .int .i64 0, .string ⟨#[]⟩, .int .i64 0, .int .i64 0, .int .i64 0, .string ⟨#[]⟩, .int .i64 0, .int .i64 0, .int .i64 0, .string ⟨#[]⟩, .int .i64 0, .int .i64 0, .int .i64 0, .string ⟨#[]⟩, .int .i64 0, .int .i64 0, .int .i64 0, .string ⟨#[]⟩, .int .i64 0, .int .i64 0, .int .i64 0, .string ⟨#[]⟩] := ⟨by kernel_rfl⟩
instance : HasZ Try.prog 133 [.int .i64 0, .int .i64 0, .int .i64 0, .int .i64 0, .int .i64 0, .int .i64 0, .int .i64 0, .int .i64 0, .int .i64 0, .int .i64 0, .int .i64 0, .string ⟨#[]⟩, .int .i64 0, .int .i64 0, .int .i64 0, .string ⟨#[]⟩, .int .i64 0, .int .i64 0, .int .i64 0, .string ⟨#[]⟩, .int .i64 0, .int .i64 0, .int .i64 0, .string ⟨#[]⟩, .int .i64 0, .int .i64 0, .int .i64 0, .string ⟨#[]⟩, .int .i64 0, .int .i64 0, .int .i64 0, .string ⟨#[]⟩, .int .i64 0, .int .i64 0, .int .i64 0, .string ⟨#[]⟩, .int .i64 0, .int .i64 0, .int .i64 0, .string ⟨#[]⟩] := ⟨by kernel_rfl⟩
instance : HasZ Try.prog 134 [.int .i64 0, .int .i64 0, .int .i64 0, .int .i64 0, .int .i64 0, .int .i64 0, .int .i64 0, .int .i64 0, .int .i64 0, .int .i64 0, .int .i64 0, .string ⟨#[]⟩, .int .i64 0, .int .i64 0, .int .i64 0, .string ⟨#[]⟩, .int .i64 0, .int .i64 0, .int .i64 0, .string ⟨#[]⟩, .int .i64 0, .int .i64 0, .int .i64 0, .string ⟨#[]⟩, .int .i64 0, .int .i64 0, .int .i64 0, .string ⟨#[]⟩, .int .i64 0, .int .i64 0, .int .i64 0, .string ⟨#[]⟩, .int .i64 0, .int .i64 0, .int .i64 0, .string ⟨#[]⟩, .int .i64 0, .int .i64 0, .int .i64 0, .string ⟨#[]⟩] := ⟨by kernel_rfl⟩
instance : HasZ Try.prog 135 [.slice none 0 0] := ⟨by kernel_rfl⟩
instance : HasZ Try.prog 136 [.int .i64 0, .int .i64 0, .slice none 0 0] := ⟨by kernel_rfl⟩
instance : HasZ Try.prog 137 [.int .i64 0, .int .i64 0, .slice none 0 0] := ⟨by kernel_rfl⟩
instance : HasZ Try.prog 138 [.nilFunc] := ⟨by kernel_rfl⟩
instance : HasZ Try.prog 139 [.nilFunc] := ⟨by kernel_rfl⟩
instance : HasZ Try.prog 140 [.nilFunc] := ⟨by kernel_rfl⟩
instance : HasZ Try.prog 141 [.slice none 0 0] := ⟨by kernel_rfl⟩
instance : HasZ Try.prog 142 [.nilFunc] := ⟨by kernel_rfl⟩
instance : HasZ Try.prog 143 [.nilFunc] := ⟨by kernel_rfl⟩
instance : HasZ Try.prog 144 [.nilFunc] := ⟨by kernel_rfl⟩
instance : HasZ Try.prog 145 [.string ⟨#[]⟩, .string ⟨#[]⟩, .int .i64 0] := ⟨by kernel_rfl⟩
instance : HasZ Try.prog 146 [.string ⟨#[]⟩, .string ⟨#[]⟩, .int .i64 0] := ⟨by kernel_rfl⟩
instance : HasE Try.prog 146 3 40 := HasE.of (by kernel_rfl) (by decide)
instance : HasZ Try.prog 147 [.int .i64 0, .string ⟨#[]⟩] := ⟨by kernel_rfl⟩
instance : HasZ Try.prog 148 [.int .i64 0, .string ⟨#[]⟩] := ⟨by kernel_rfl⟩
instance : HasE Try.prog 148 2 24 := HasE.of (by kernel_rfl) (by decide)
instance : HasZ Try.prog 149 [.nilFunc] := ⟨by kernel_rfl⟩
instance : HasZ Try.prog 150 [.nilFunc] := ⟨by kernel_rfl⟩
instance : HasZ Try.prog 151 [.nilFunc] := ⟨by kernel_rfl⟩
instance : HasZ Try.prog 152 [.int .i64 0, .int .i64 0, .slice none 0 0] := ⟨by kernel_rfl⟩
instance : HasZ Try.prog 153 [.int .i64 0, .int .i64 0, .slice none 0 0] := ⟨by kernel_rfl⟩
instance : HasZ Try.prog 154 [.nilFunc] := ⟨by kernel_rfl⟩
instance : HasZ Try.prog 156 [.nilFunc] := ⟨by kernel_rfl⟩
instance : HasZ Try.prog 157 [.nilFunc] := ⟨by kernel_rfl⟩
instance : HasZ Try.prog 158 [.slice none 0 0] := ⟨by kernel_rfl⟩
instance : HasZ Try.prog 159 [.map none] := ⟨by kernel_rfl⟩
instance : HasZ Try.prog 160 [.map none] := ⟨by kernel_rfl⟩
instance : HasZ Try.prog 161 [.map none] := ⟨by kernel_rfl⟩
instance : HasZ Try.prog 162 [.slice none 0 0, .slice none 0 0, .int .i64 0] := ⟨by kernel_rfl⟩
instance : HasZ Try.prog 163 [.slice none 0 0, .slice none 0 0, .int .i64 0] := ⟨by kernel_rfl⟩
instance : HasZ Try.prog 164 [.int .i64 0, .int .i64 0, .int .i64 0, .int .i64 0, .string ⟨#[]⟩] := ⟨by kernel_rfl⟩
instance : HasZ Try.prog 165 [.int .i64 0, .int .i64 0, .int .i64 0, .int .i64 0, .string ⟨#[]⟩] := ⟨by kernel_rfl⟩
instance : HasZ Try.prog 166 [.int .i64 0, .int .i64 0, .int .i64 0, .int .i64 0, .string ⟨#[]⟩, .int .i64 0, .int .i64 0, .int .i64 0, .int .i64 0, .string ⟨#[]⟩, .int .i64 0, .int .i64 0, .int .i64 0, .int .i64 0, .string ⟨#[]⟩, .int .i64 0, .int .i64 0, .int .i64 0, .int .i64 0, .string ⟨#[]⟩, .int .i64 0, .int .i64 0, .int .i64 0, .int .i64 0, .string ⟨#[]⟩, .int .i64 0, .int .i64 0, .int .i64 0, .int .i64 0, .string ⟨#[]⟩, .int .i64 0, .int .i64 0, .int .i64 0, .int .i64 0, .string ⟨#[]⟩, .int .i64 0, .int .i64 0, .int .i64 0, .int .i64 0, .string ⟨#[]⟩] := ⟨by kernel_rfl⟩
instance : HasZ Try.prog 167 [.int .i64 0, .int .i64 0, .int .i64 0, .int .i64 0, .string ⟨#[]⟩, .int .i64 0, .int .i64 0, .int .i64 0, .int .i64 0, .string ⟨#[]⟩, .int .i64 0, .int .i64 0, .int .i64 0, .int .i64 0, .string ⟨#[]⟩, .int .i64 0, .int .i64 0, .int .i64 0, .int .i64 0, .string ⟨#[]⟩, .int .i64 0, .int .i64 0, .int .i64 0, .int .i64 0, .string ⟨#[]⟩, .int .i64 0, .int .i64 0, .int .i64 0, .int .i64 0, .string ⟨#[]⟩, .int .i64 0, .int .i64 0, .int .i64 0, .int .i64 0, .string ⟨#[]⟩, .int .i64 0, .int .i64 0, .int .i64 0, .int .i64 0, .string ⟨#[]⟩] := ⟨by kernel_rfl⟩
instance : HasZ Try.prog 168 [.int .i64 0, .int .i64 0, .int .i64 0, .int .i64 0, .string ⟨#[]⟩, .int .i64 0, .int .i64 0, .int .i64 0, .int .i64 0, .string ⟨#[]⟩, .int .i64 0, .int .i64 0, .int .i64 0, .int .i64 0, .string ⟨#[]⟩, .int .i64 0, .int .i64 0, .int .i64 0, .int .i64 0, .string ⟨#[]⟩, .int .i64 0, .int .i64 0, .int .i64 0, .int .i64 0, .string ⟨#[]⟩, .int .i64 0, .int .i64 0, .int .i64 0, .int .i64 0, .string ⟨#[]⟩, .int .i64 0, .int .i64 0, .int .i64 0, .int .i64 0, .string ⟨#[]⟩, .int .i64 0, .int .i64 0, .int .i64 0, .int .i64 0, .string ⟨#[]⟩] := ⟨by kernel_rfl⟩
instance : HasZ Try.prog 169 [.nilFunc] := ⟨by kernel_rfl⟩
instance : HasZ Try.prog 170 [.string ⟨#[]⟩, .int .i64 0] := ⟨by kernel_rfl⟩
instance : HasZ Try.prog 171 [.string ⟨#[]⟩, .int .i64 0] := ⟨by kernel_rfl⟩
instance : HasZ Try.prog 172 [.nilFunc] := ⟨by kernel_rfl⟩
instance : HasZ Try.prog 173 [.nilFunc] := ⟨by kernel_rfl⟩
instance : HasZ Try.prog 174 [.int .i64 0, .int .i64 0, .int .i64 0, .int .i64 0] := ⟨by kernel_rfl⟩
instance : HasZ Try.prog 175 [.int .i64 0, .int .i64 0, .int .i64 0, .int .i64 0] := ⟨by kernel_rfl⟩
instance : HasE Try.prog 175 4 32 := HasE.of (by kernel_rfl) (by decide)
instance : HasZ Try.prog 176 [.pointer none] := ⟨by kernel_rfl⟩
instance : HasZ Try.prog 178 [.nilFunc] := ⟨by kernel_rfl⟩
instance : HasZ Try.prog 179 [.nilFunc] := ⟨by kernel_rfl⟩
instance : HasZ Try.prog 180 [.nilFunc] := ⟨by kernel_rfl⟩
instance : HasZ Try.prog 181 [.nilFunc] := ⟨by kernel_rfl⟩
instance : HasZ Try.prog 182 [.nilFunc] := ⟨by kernel_rfl⟩
instance : HasZ Try.prog 183 [.nilFunc] := ⟨by kernel_rfl⟩
instance : HasZ Try.prog 184 [.nilFunc] := ⟨by kernel_rfl⟩
instance : HasZ Try.prog 185 [.nilFunc] := ⟨by kernel_rfl⟩
instance : HasZ Try.prog 186 [.pointer none, .pointer none, .pointer none, .string ⟨#[]⟩] := ⟨by kernel_rfl⟩
instance : HasZ Try.prog 187 [.pointer none, .pointer none, .pointer none, .string ⟨#[]⟩] := ⟨by kernel_rfl⟩
instance : HasZ Try.prog 191 [.int .u32 0] := ⟨by kernel_rfl⟩
instance : HasZ Try.prog 192 [.int .u8 0] := ⟨by kernel_rfl⟩
instance : HasZ Try.prog 193 [.int .u8 0] := ⟨by kernel_rfl⟩
instance : HasZ Try.prog 194 [.nilFunc] := ⟨by kernel_rfl⟩
instance : HasZ Try.prog 195 [.pointer none] := ⟨by kernel_rfl⟩
instance : HasZ Try.prog 196 [.int .i32 0] := ⟨by kernel_rfl⟩
instance : HasZ Try.prog 197 [.int .i32 0] := ⟨by kernel_rfl⟩
instance : HasZ Try.prog 198 [.int .u64 0, .int .u64 0, .int .u32 0, .int .u8 0, .int .u8 0, .int .u8 0, .int .u8 0, .nilFunc, .pointer none, .int .i32 0, .int .i32 0] := ⟨by kernel_rfl⟩
instance : HasZ Try.prog 199 [.int .u64 0, .int .u64 0, .int .u32 0, .int .u8 0, .int .u8 0, .int .u8 0, .int .u8 0, .nilFunc, .pointer none, .int .i32 0, .int .i32 0] := ⟨by kernel_rfl⟩
instance : HasZ Try.prog 200 [.nilFunc] := ⟨by kernel_rfl⟩
instance : HasZ Try.prog 201 [.int .i64 0, .int .i64 0, .int .i64 0, .int .i64 0, .int .i64 0] := ⟨by kernel_rfl⟩
instance : HasZ Try.prog 202 [.int .i64 0, .int .i64 0, .int .i64 0, .int .i64 0, .int .i64 0] := ⟨by kernel_rfl⟩
instance : HasE Try.prog 202 5 40 := HasE.of (by kernel_rfl) (by decide)
instance : HasF Try.prog 3 := ⟨_, Try.func3, by kernel_rfl, by kernel_rfl⟩
instance : HasF Try.prog 4 := ⟨_, Try.func4, by kernel_rfl, by kernel_rfl⟩
instance : HasF Try.prog 5 := ⟨_, Try.func5, by kernel_rfl, by kernel_rfl⟩
instance : HasF Try.prog 6 := ⟨_, Try.func6, by kernel_rfl, by kernel_rfl⟩
instance : HasF Try.prog 7 := ⟨_, Try.func7, by kernel_rfl, by kernel_rfl⟩
instance : HasF Try.prog 8 := ⟨_, Try.func8, by kernel_rfl, by kernel_rfl⟩
instance : HasF Try.prog 9 := ⟨_, Try.func9, by kernel_rfl, by kernel_rfl⟩
instance : HasF Try.prog 10 := ⟨_, Try.func10, by kernel_rfl, by kernel_rfl⟩
instance : HasF Try.prog 11 := ⟨_, Try.func11, by kernel_rfl, by kernel_rfl⟩
instance : HasF Try.prog 12 := ⟨_, Try.func12, by kernel_rfl, by kernel_rfl⟩
instance : HasF Try.prog 13 := ⟨_, Try.func13, by kernel_rfl, by kernel_rfl⟩
instance : HasF Try.prog 14 := ⟨_, Try.func14, by kernel_rfl, by kernel_rfl⟩
instance : HasF Try.prog 15 := ⟨_, Try.func15, by kernel_rfl, by kernel_rfl⟩
instance : HasF Try.prog 16 := ⟨_, Try.func16, by kernel_rfl, by kernel_rfl⟩
instance : HasF Try.prog 17 := ⟨_, Try.func17, by kernel_rfl, by kernel_rfl⟩
instance : HasF Try.prog 18 := ⟨_, Try.func18, by kernel_rfl, by kernel_rfl⟩
instance : HasF Try.prog 19 := ⟨_, Try.func19, by kernel_rfl, by kernel_rfl⟩
instance : HasF Try.prog 20 := ⟨_, Try.func20, by kernel_rfl, by kernel_rfl⟩
instance : HasF Try.prog 21 := ⟨_, Try.func21, by kernel_rfl, by kernel_rfl⟩
instance : HasF Try.prog 22 := ⟨_, Try.func22, by kernel_rfl, by kernel_rfl⟩
instance : HasF Try.prog 23 := ⟨_, Try.func23, by kernel_rfl, by kernel_rfl⟩
instance : HasF Try.prog 24 := ⟨_, Try.func24, by kernel_rfl, by kernel_rfl⟩
instance : HasF Try.prog 25 := ⟨_, Try.func25, by kernel_rfl, by kernel_rfl⟩
instance : HasF Try.prog 26 := ⟨_, Try.func26, by kernel_rfl, by kernel_rfl⟩
instance : HasF Try.prog 27 := ⟨_, Try.func27, by kernel_rfl, by kernel_rfl⟩
instance : HasF Try.prog 28 := ⟨_, Try.func28, by kernel_rfl, by kernel_rfl⟩
instance : HasF Try.prog 29 := ⟨_, Try.func29, by kernel_rfl, by kernel_rfl⟩
instance : HasF Try.prog 30 := ⟨_, Try.func30, by kernel_rfl, by kernel_rfl⟩
instance : HasF Try.prog 31 := ⟨_, Try.func31, by kernel_rfl, by kernel_rfl⟩
instance : HasF Try.prog 32 := ⟨_, Try.func32, by kernel_rfl, by kernel_rfl⟩
instance : HasF Try.prog 33 := ⟨_, Try.func33, by kernel_rfl, by kernel_rfl⟩
instance : HasF Try.prog 34 := ⟨_, Try.func34, by kernel_rfl, by kernel_rfl⟩
instance : HasF Try.prog 35 := ⟨_, Try.func35, by kernel_rfl, by kernel_rfl⟩
instance : HasF Try.prog 36 := ⟨_, Try.func36, by kernel_rfl, by kernel_rfl⟩
instance : HasF Try.prog 37 := ⟨_, Try.func37, by kernel_rfl, by kernel_rfl⟩
instance : HasF Try.prog 38 := ⟨_, Try.func38, by kernel_rfl, by kernel_rfl⟩
instance : HasF Try.prog 39 := ⟨_, Try.func39, by kernel_rfl, by kernel_rfl⟩
instance : HasF Try.prog 40 := ⟨_, Try.func40, by kernel_rfl, by kernel_rfl⟩
instance : HasF Try.prog 41 := ⟨_, Try.func41, by kernel_rfl, by kernel_rfl⟩
instance : HasF Try.prog 42 := ⟨_, Try.func42, by kernel_rfl, by kernel_rfl⟩
instance : HasF Try.prog 43 := ⟨_, Try.func43, by kernel_rfl, by kernel_rfl⟩
instance : HasF Try.prog 44 := ⟨_, Try.func44, by kernel_rfl, by kernel_rfl⟩
instance : HasF Try.prog 45 := ⟨_, Try.func45, by kernel_rfl, by kernel_rfl⟩
instance : HasF Try.prog 46 := ⟨_, Try.func46, by kernel_rfl, by kernel_rfl⟩
instance : HasF Try.prog 47 := ⟨_, Try.func47, by kernel_rfl, by kernel_rfl⟩
instance : HasF Try.prog 48 := ⟨_, Try.func48, by kernel_rfl, by kernel_rfl⟩
instance : HasF Try.prog 49 := ⟨_, Try.func49, by kernel_rfl, by kernel_rfl⟩
instance : HasF Try.prog 50 := ⟨_, Try.func50, by kernel_rfl, by kernel_rfl⟩
instance : HasF Try.prog 51 := ⟨_, Try.func51, by kernel_rfl, by kernel_rfl⟩
instance : HasF Try.prog 52 := ⟨_, Try.func52, by kernel_rfl, by kernel_rfl⟩
instance : HasF Try.prog 53 := ⟨_, Try.func53, by kernel_rfl, by kernel_rfl⟩
instance : HasF Try.prog 54 := ⟨_, Try.func54, by kernel_rfl, by kernel_rfl⟩
instance : HasF Try.prog 55 := ⟨_, Try.func55, by kernel_rfl, by kernel_rfl⟩
instance : HasF Try.prog 56 := ⟨_, Try.func56, by kernel_rfl, by kernel_rfl⟩
instance : HasF Try.prog 57 := ⟨_, Try.func57, by kernel_rfl, by kernel_rfl⟩
instance : HasF Try.prog 58 := ⟨_, Try.func58, by kernel_rfl, by kernel_rfl⟩
instance : HasF Try.prog 59 := ⟨_, Try.func59, by kernel_rfl, by kernel_rfl⟩
instance : HasF Try.prog 60 := ⟨_, Try.func60, by kernel_rfl, by kernel_rfl⟩
instance : HasF Try.prog 61 := ⟨_, Try.func61, by kernel_rfl, by kernel_rfl⟩
instance : HasF Try.prog 62 := ⟨_, Try.func62, by kernel_rfl, by kernel_rfl⟩
instance : HasF Try.prog 63 := ⟨_, Try.func63, by kernel_rfl, by kernel_rfl⟩
instance : HasF Try.prog 64 := ⟨_, Try.func64, by kernel_rfl, by kernel_rfl⟩
instance : HasF Try.prog 65 := ⟨_, Try.func65, by kernel_rfl, by kernel_rfl⟩
instance : HasF Try.prog 66 := ⟨_, Try.func66, by kernel_rfl, by kernel_rfl⟩
instance : HasF Try.prog 67 := ⟨_, Try.func67, by kernel_rfl, by kernel_rfl⟩
instance : HasF Try.prog 68 := ⟨_, Try.func68, by kernel_rfl, by kernel_rfl⟩
instance : HasF Try.prog 69 := ⟨_, Try.func69, by kernel_rfl, by kernel_rfl⟩
instance : HasF Try.prog 70 := ⟨_, Try.func70, by kernel_rfl, by kernel_rfl⟩
instance : HasF Try.prog 71 := ⟨_, Try.func71, by kernel_rfl, by kernel_rfl⟩
instance : HasF Try.prog 72 := ⟨_, Try.func72, by kernel_rfl, by kernel_rfl⟩
instance : HasF Try.prog 73 := ⟨_, Try.func73, by kernel_rfl, by kernel_rfl⟩
instance : HasF Try.prog 74 := ⟨_, Try.func74, by kernel_rfl, by kernel_rfl⟩
instance : HasF Try.prog 75 := ⟨_, Try.func75, by kernel_rfl, by kernel_rfl⟩
instance : HasF Try.prog 76 := ⟨_, Try.func76, by kernel_rfl, by kernel_rfl⟩
instance : HasF Try.prog 77 := ⟨_, Try.func77, by kernel_rfl, by kernel_rfl⟩
instance : HasF Try.prog 78 := ⟨_, Try.func78, by kernel_rfl, by kernel_rfl⟩
instance : HasF Try.prog 79 := ⟨_, Try.func79, by kernel_rfl, by kernel_rfl⟩
instance : HasF Try.prog 80 := ⟨_, Try.func80, by kernel_rfl, by kernel_rfl⟩
instance : HasF Try.prog 81 := ⟨_, Try.func81, by kernel_rfl, by kernel_rfl⟩
instance : HasF Try.prog 82 := ⟨_, Try.func82, by kernel_rfl, by kernel_rfl⟩
instance : HasF Try.prog 83 := ⟨_, Try.func83, by kernel_rfl, by kernel_rfl⟩
instance : HasF Try.prog 84 := ⟨_, Try.func84, by kernel_rfl, by kernel_rfl⟩
instance : HasF Try.prog 85 := ⟨_, Try.func85, by kernel_rfl, by kernel_rfl⟩
instance : HasF Try.prog 86 := ⟨_, Try.func86, by kernel_rfl, by kernel_rfl⟩
instance : HasF Try.prog 87 := ⟨_, Try.func87, by kernel_rfl, by kernel_rfl⟩
instance : HasF Try.prog 88 := ⟨_, Try.func88, by kernel_rfl, by kernel_rfl⟩
instance : HasF Try.prog 89 := ⟨_, Try.func89, by kernel_rfl, by kernel_rfl⟩
instance : HasF Try.prog 90 := ⟨_, Try.func90, by kernel_rfl, by kernel_rfl⟩
instance : HasF Try.prog 91 := ⟨_, Try.func91, by kernel_rfl, by kernel_rfl⟩
instance : HasF Try.prog 92 := ⟨_, Try.func92, by kernel_rfl, by kernel_rfl⟩
instance : HasF Try.prog 93 := ⟨_, Try.func93, by kernel_rfl, by kernel_rfl⟩
instance : HasF Try.prog 94 := ⟨_, Try.func94, by kernel_rfl, by kernel_rfl⟩
instance : HasF Try.prog 95 := ⟨_, Try.func95, by kernel_rfl, by kernel_rfl⟩
instance : HasF Try.prog 96 := ⟨_, Try.func96, by kernel_rfl, by kernel_rfl⟩
instance : HasF Try.prog 97 := ⟨_, Try.func97, by kernel_rfl, by kernel_rfl⟩
instance : HasF Try.prog 98 := ⟨_, Try.func98, by kernel_rfl, by kernel_rfl⟩
instance : HasF Try.prog 99 := ⟨_, Try.func99, by kernel_rfl, by kernel_rfl⟩
instance : HasF Try.prog 100 := ⟨_, Try.func100, by kernel_rfl, by kernel_rfl⟩
instance : HasF Try.prog 101 := ⟨_, Try.func101, by kernel_rfl, by kernel_rfl⟩
instance : HasF Try.prog 103 := ⟨_, Try.func103, by kernel_rfl, by kernel_rfl⟩
end Go.Proofs.Ytmjdkgpckcdndaa
