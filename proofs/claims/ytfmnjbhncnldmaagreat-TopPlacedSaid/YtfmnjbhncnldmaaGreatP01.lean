import Derived.Test.YtfmnjbhncnldmaaGreatRows
import Derived.Test.YtfmnjbhncnldmaaGreatP00
set_option linter.unusedSimpArgs false
set_option linter.unusedVariables false
namespace Go.Proofs.YtfmnjbhncnldmaaGreat
open Go.RowKit
def ttab : List Ty := [⟨.other, 0⟩,
  ⟨.fn, 1⟩,
  ⟨.int, 1⟩,
  ⟨.int, 1⟩,
  ⟨.bool, 1⟩,
  ⟨.int, 1⟩,
  ⟨.int, 1⟩,
  ⟨.st [(0, 1, false), (1, 1, false), (2, 1, false), (3, 1, false)], 4⟩,
  ⟨.st [(0, 1, false), (1, 1, false), (2, 1, false), (3, 1, false)], 4⟩,
  ⟨.str, 1⟩,
  ⟨.str, 1⟩,
  ⟨.str, 1⟩,
  ⟨.int, 1⟩,
  ⟨.st [(0, 1, false), (1, 1, false)], 2⟩,
  ⟨.st [(0, 1, false), (1, 1, false)], 2⟩,
  ⟨.ptr, 1⟩,
  ⟨.ptr, 1⟩,
  ⟨.ptr, 1⟩,
  ⟨.st [(0, 1, false)], 1⟩,
  ⟨.st [(0, 1, false)], 1⟩,
  ⟨.fn, 1⟩,
  ⟨.int, 1⟩,
  ⟨.sl 29 3, 1⟩,
  ⟨.fn, 1⟩,
  ⟨.ptr, 1⟩,
  ⟨.fn, 1⟩,
  ⟨.fn, 1⟩,
  ⟨.fn, 1⟩,
  ⟨.st [(0, 1, false), (1, 1, false), (2, 1, false)], 3⟩,
  ⟨.st [(0, 1, false), (1, 1, false), (2, 1, false)], 3⟩,
  ⟨.fn, 1⟩,
  ⟨.fn, 1⟩,
  ⟨.fn, 1⟩,
  ⟨.int, 1⟩,
  ⟨.ptr, 1⟩,
  ⟨.ptr, 1⟩,
  ⟨.sl 34 1, 1⟩,
  ⟨.sl 106 1, 1⟩,
  ⟨.sl 135 1, 1⟩,
  ⟨.sl 140 1, 1⟩,
  ⟨.ar 4 3 1, 4⟩,
  ⟨.st [(0, 1, false), (1, 1, false), (2, 1, false), (3, 1, false), (4, 1, false), (5, 1, false), (6, 4, true), (10, 1, false)], 11⟩,
  ⟨.st [(0, 1, false), (1, 1, false), (2, 1, false), (3, 1, false), (4, 1, false), (5, 1, false), (6, 4, true), (10, 1, false)], 11⟩,
  ⟨.fn, 1⟩,
  ⟨.fn, 1⟩,
  ⟨.fn, 1⟩,
  ⟨.fn, 1⟩,
  ⟨.fn, 1⟩,
  ⟨.sl 3 1, 1⟩,
  ⟨.fn, 1⟩,
  ⟨.sl 166 1, 1⟩,
  ⟨.sl 168 2, 1⟩,
  ⟨.sl 170 7, 1⟩,
  ⟨.sl 172 2, 1⟩,
  ⟨.st [(0, 1, false), (1, 1, false), (2, 1, false), (3, 1, false), (4, 1, false), (5, 1, false), (6, 1, false), (7, 1, false), (8, 1, false), (9, 1, false)], 10⟩,
  ⟨.st [(0, 1, false), (1, 1, false), (2, 1, false), (3, 1, false), (4, 1, false), (5, 1, false), (6, 1, false), (7, 1, false), (8, 1, false), (9, 1, false)], 10⟩,
  ⟨.fn, 1⟩,
  ⟨.ptr, 1⟩,
  ⟨.other, 0⟩,
  ⟨.fn, 1⟩,
  ⟨.sl 63 9, 1⟩,
  ⟨.fn, 1⟩,
  ⟨.st [(0, 1, false), (1, 1, false), (2, 1, false), (3, 1, false), (4, 1, false), (5, 1, false), (6, 1, false), (7, 1, false), (8, 1, false)], 9⟩,
  ⟨.st [(0, 1, false), (1, 1, false), (2, 1, false), (3, 1, false), (4, 1, false), (5, 1, false), (6, 1, false), (7, 1, false), (8, 1, false)], 9⟩,
  ⟨.other, 0⟩,
  ⟨.fn, 1⟩,
  ⟨.sl 183 12, 1⟩,
  ⟨.sl 186 4, 1⟩,
  ⟨.st [(0, 1, false), (1, 1, false), (2, 1, false), (3, 1, false), (4, 1, false), (5, 1, false), (6, 1, false), (7, 1, false)], 8⟩,
  ⟨.st [(0, 1, false), (1, 1, false), (2, 1, false), (3, 1, false), (4, 1, false), (5, 1, false), (6, 1, false), (7, 1, false)], 8⟩,
  ⟨.fn, 1⟩,
  ⟨.sl 48 1, 1⟩,
  ⟨.other, 0⟩,
  ⟨.fn, 1⟩,
  ⟨.st [(0, 1, false), (1, 1, false), (2, 1, false)], 3⟩,
  ⟨.st [(0, 1, false), (1, 1, false), (2, 1, false)], 3⟩,
  ⟨.fn, 1⟩,
  ⟨.other, 0⟩,
  ⟨.fn, 1⟩,
  ⟨.fn, 1⟩,
  ⟨.fn, 1⟩,
  ⟨.fn, 1⟩,
  ⟨.int, 1⟩,
  ⟨.st [(0, 10, true), (10, 1, false), (11, 1, false)], 12⟩,
  ⟨.st [(0, 10, true), (10, 1, false), (11, 1, false)], 12⟩,
  ⟨.sl 92 2, 1⟩,
  ⟨.other, 0⟩,
  ⟨.fn, 1⟩,
  ⟨.fn, 1⟩,
  ⟨.other, 0⟩,
  ⟨.fn, 1⟩,
  ⟨.st [(0, 1, false), (1, 1, false)], 2⟩,
  ⟨.st [(0, 1, false), (1, 1, false)], 2⟩,
  ⟨.fn, 1⟩,
  ⟨.fn, 1⟩,
  ⟨.fn, 1⟩,
  ⟨.fn, 1⟩,
  ⟨.fn, 1⟩,
  ⟨.fn, 1⟩,
  ⟨.other, 0⟩,
  ⟨.fn, 1⟩,
  ⟨.ptr, 1⟩,
  ⟨.fn, 1⟩,
  ⟨.fn, 1⟩,
  ⟨.st [(0, 1, false), (1, 1, false), (2, 1, false), (3, 1, false), (4, 1, false)], 5⟩,
  ⟨.st [(0, 1, false), (1, 1, false), (2, 1, false), (3, 1, false), (4, 1, false)], 5⟩,
  ⟨.ptr, 1⟩,
  ⟨.fn, 1⟩,
  ⟨.ptr, 1⟩,
  ⟨.fn, 1⟩,
  ⟨.fn, 1⟩,
  ⟨.fn, 1⟩,
  ⟨.fn, 1⟩,
  ⟨.st [(0, 1, false), (1, 1, false), (2, 1, false), (3, 1, false)], 4⟩,
  ⟨.st [(0, 1, false), (1, 1, false), (2, 1, false), (3, 1, false)], 4⟩,
  ⟨.sl 36 1, 1⟩,
  ⟨.sl 124 7, 1⟩,
  ⟨.sl 524 5, 1⟩,
  ⟨.st [(0, 10, true), (10, 1, false), (11, 1, false), (12, 1, false), (13, 1, false), (14, 1, false)], 15⟩,
  ⟨.st [(0, 10, true), (10, 1, false), (11, 1, false), (12, 1, false), (13, 1, false), (14, 1, false)], 15⟩,
  ⟨.fn, 1⟩,
  ⟨.st [(0, 1, false), (1, 1, false), (2, 1, false), (3, 1, false), (4, 1, false), (5, 1, false), (6, 1, false)], 7⟩,
  ⟨.st [(0, 1, false), (1, 1, false), (2, 1, false), (3, 1, false), (4, 1, false), (5, 1, false), (6, 1, false)], 7⟩,
  ⟨.st [(0, 1, false), (1, 1, false), (2, 5, true)], 7⟩,
  ⟨.st [(0, 1, false), (1, 1, false), (2, 5, true)], 7⟩,
  ⟨.other, 0⟩,
  ⟨.fn, 1⟩,
  ⟨.fn, 1⟩,
  ⟨.fn, 1⟩,
  ⟨.sl 149 8, 1⟩,
  ⟨.st [(0, 1, false), (1, 1, false), (2, 1, false), (3, 1, false)], 4⟩,
  ⟨.st [(0, 1, false), (1, 1, false), (2, 1, false), (3, 1, false)], 4⟩,
  ⟨.other, 0⟩,
  ⟨.fn, 1⟩,
  ⟨.fn, 1⟩,
  ⟨.sl 131 4, 1⟩,
  ⟨.st [(0, 1, false), (1, 1, false), (2, 1, false)], 3⟩,
  ⟨.st [(0, 1, false), (1, 1, false), (2, 1, false)], 3⟩,
  ⟨.other, 0⟩,
  ⟨.fn, 1⟩,
  ⟨.sl 137 3, 1⟩,
  ⟨.fn, 1⟩,
  ⟨.fn, 1⟩,
  ⟨.st [(0, 1, false), (1, 1, false), (2, 1, false)], 3⟩,
  ⟨.st [(0, 1, false), (1, 1, false), (2, 1, false)], 3⟩,
  ⟨.fn, 1⟩,
  ⟨.fn, 1⟩,
  ⟨.fn, 1⟩,
  ⟨.st [(0, 1, false), (1, 1, false), (2, 1, false), (3, 1, false), (4, 1, false), (5, 1, false), (6, 1, false), (7, 1, false)], 8⟩,
  ⟨.st [(0, 1, false), (1, 1, false), (2, 1, false), (3, 1, false), (4, 1, false), (5, 1, false), (6, 1, false), (7, 1, false)], 8⟩,
  ⟨.st [(0, 1, false), (1, 1, false), (2, 1, false)], 3⟩,
  ⟨.st [(0, 1, false), (1, 1, false), (2, 1, false)], 3⟩,
  ⟨.other, 0⟩,
  ⟨.fn, 1⟩,
  ⟨.st [(0, 1, false), (1, 1, false), (2, 1, false), (3, 1, false)], 4⟩,
  ⟨.st [(0, 1, false), (1, 1, false), (2, 1, false), (3, 1, false)], 4⟩,
  ⟨.ptr, 1⟩,
  ⟨.ptr, 1⟩,
  ⟨.ptr, 1⟩,
  ⟨.st [(0, 1, false), (1, 1, false), (2, 1, false)], 3⟩,
  ⟨.st [(0, 1, false), (1, 1, false), (2, 1, false)], 3⟩,
  ⟨.st [(0, 1, false), (1, 1, false), (2, 1, false), (3, 3, true), (6, 1, false)], 7⟩,
  ⟨.st [(0, 1, false), (1, 1, false), (2, 1, false), (3, 3, true), (6, 1, false)], 7⟩,
  ⟨.ptr, 1⟩,
  ⟨.fn, 1⟩,
  ⟨.st [(0, 1, false)], 1⟩,
  ⟨.st [(0, 1, false)], 1⟩,
  ⟨.st [(0, 1, false), (1, 1, false)], 2⟩,
  ⟨.st [(0, 1, false), (1, 1, false)], 2⟩,
  ⟨.st [(0, 1, false), (1, 1, false), (2, 1, false), (3, 1, false), (4, 1, false), (5, 1, false), (6, 1, false)], 7⟩,
  ⟨.st [(0, 1, false), (1, 1, false), (2, 1, false), (3, 1, false), (4, 1, false), (5, 1, false), (6, 1, false)], 7⟩,
  ⟨.st [(0, 1, false), (1, 1, false)], 2⟩,
  ⟨.st [(0, 1, false), (1, 1, false)], 2⟩,
  ⟨.fn, 1⟩,
  ⟨.ptr, 1⟩,
  ⟨.other, 0⟩,
  ⟨.fn, 1⟩,
  ⟨.fn, 1⟩,
  ⟨.st [(0, 10, true), (10, 1, false), (11, 1, false), (12, 8, true)], 20⟩,
  ⟨.st [(0, 10, true), (10, 1, false), (11, 1, false), (12, 8, true)], 20⟩,
  ⟨.fn, 1⟩,
  ⟨.fn, 1⟩,
  ⟨.st [(0, 1, false), (1, 1, false), (2, 1, false), (3, 1, false), (4, 1, false), (5, 1, false), (6, 1, false), (7, 5, true)], 12⟩,
  ⟨.st [(0, 1, false), (1, 1, false), (2, 1, false), (3, 1, false), (4, 1, false), (5, 1, false), (6, 1, false), (7, 5, true)], 12⟩,
  ⟨.fn, 1⟩,
  ⟨.st [(0, 1, false), (1, 1, false), (2, 1, false), (3, 1, false)], 4⟩,
  ⟨.st [(0, 1, false), (1, 1, false), (2, 1, false), (3, 1, false)], 4⟩,
  ⟨.fn, 1⟩,
  ⟨.fn, 1⟩,
  ⟨.fn, 1⟩,
  ⟨.fn, 1⟩,
  ⟨.fn, 1⟩,
  ⟨.fn, 1⟩,
  ⟨.fn, 1⟩,
  ⟨.fn, 1⟩,
  ⟨.fn, 1⟩,
  ⟨.fn, 1⟩,
  ⟨.fn, 1⟩,
  ⟨.fn, 1⟩,
  ⟨.sl 362 8, 1⟩,
  ⟨.st [(0, 1, false), (1, 1, false)], 2⟩,
  ⟨.st [(0, 1, false), (1, 1, false)], 2⟩,
  ⟨.other, 0⟩,
  ⟨.fn, 1⟩,
  ⟨.fn, 1⟩,
  ⟨.fn, 1⟩,
  ⟨.fn, 1⟩,
  ⟨.fn, 1⟩,
  ⟨.fn, 1⟩,
  ⟨.fn, 1⟩,
  ⟨.fn, 1⟩,
  ⟨.fn, 1⟩,
  ⟨.fn, 1⟩,
  ⟨.fn, 1⟩,
  ⟨.sl 105 5, 1⟩,
  ⟨.st [(0, 1, false), (1, 1, false), (2, 1, false)], 3⟩,
  ⟨.st [(0, 1, false), (1, 1, false), (2, 1, false)], 3⟩,
  ⟨.other, 0⟩,
  ⟨.fn, 1⟩,
  ⟨.fn, 1⟩,
  ⟨.fn, 1⟩,
  ⟨.st [(0, 1, false), (1, 1, false), (2, 1, false)], 3⟩,
  ⟨.st [(0, 1, false), (1, 1, false), (2, 1, false)], 3⟩,
  ⟨.fn, 1⟩,
  ⟨.fn, 1⟩,
  ⟨.other, 0⟩,
  ⟨.fn, 1⟩,
  ⟨.st [(0, 1, false), (1, 1, false)], 2⟩,
  ⟨.st [(0, 1, false), (1, 1, false)], 2⟩,
  ⟨.st [(0, 1, false), (1, 1, false), (2, 1, false), (3, 1, false)], 4⟩,
  ⟨.st [(0, 1, false), (1, 1, false), (2, 1, false), (3, 1, false)], 4⟩,
  ⟨.other, 0⟩,
  ⟨.fn, 1⟩,
  ⟨.fn, 1⟩,
  ⟨.fn, 1⟩,
  ⟨.fn, 1⟩,
  ⟨.fn, 1⟩,
  ⟨.fn, 1⟩,
  ⟨.fn, 1⟩,
  ⟨.fn, 1⟩,
  ⟨.fn, 1⟩,
  ⟨.fn, 1⟩,
  ⟨.st [(0, 1, false), (1, 1, false)], 2⟩,
  ⟨.st [(0, 1, false), (1, 1, false)], 2⟩,
  ⟨.fn, 1⟩,
  ⟨.sl 249 1, 1⟩,
  ⟨.sl 341 9, 1⟩,
  ⟨.st [(0, 1, false), (1, 1, false), (2, 1, false)], 3⟩,
  ⟨.st [(0, 1, false), (1, 1, false), (2, 1, false)], 3⟩,
  ⟨.ptr, 1⟩,
  ⟨.other, 0⟩,
  ⟨.fn, 1⟩,
  ⟨.fn, 1⟩,
  ⟨.fn, 1⟩,
  ⟨.fn, 1⟩,
  ⟨.fn, 1⟩,
  ⟨.fn, 1⟩,
  ⟨.fn, 1⟩,
  ⟨.fn, 1⟩,
  ⟨.fn, 1⟩,
  ⟨.fn, 1⟩,
  ⟨.fn, 1⟩,
  ⟨.fn, 1⟩,
  ⟨.fn, 1⟩,
  ⟨.fn, 1⟩,
  ⟨.fn, 1⟩,
  ⟨.fn, 1⟩,
  ⟨.fn, 1⟩,
  ⟨.st [(0, 1, false), (1, 1, false), (2, 1, false), (3, 9, true)], 12⟩,
  ⟨.st [(0, 1, false), (1, 1, false), (2, 1, false), (3, 9, true)], 12⟩,
  ⟨.fn, 1⟩,
  ⟨.fn, 1⟩,
  ⟨.fn, 1⟩,
  ⟨.fn, 1⟩,
  ⟨.fn, 1⟩,
  ⟨.fn, 1⟩,
  ⟨.st [(0, 12, true), (12, 1, false), (13, 1, false), (14, 1, false), (15, 1, false)], 16⟩,
  ⟨.st [(0, 12, true), (12, 1, false), (13, 1, false), (14, 1, false), (15, 1, false)], 16⟩,
  ⟨.other, 0⟩,
  ⟨.fn, 1⟩,
  ⟨.fn, 1⟩,
  ⟨.fn, 1⟩,
  ⟨.fn, 1⟩,
  ⟨.fn, 1⟩,
  ⟨.ptr, 1⟩,
  ⟨.fn, 1⟩,
  ⟨.ptr, 1⟩,
  ⟨.fn, 1⟩,
  ⟨.fn, 1⟩,
  ⟨.fn, 1⟩,
  ⟨.fn, 1⟩,
  ⟨.int, 1⟩,
  ⟨.fn, 1⟩,
  ⟨.int, 1⟩,
  ⟨.fn, 1⟩,
  ⟨.fn, 1⟩,
  ⟨.fn, 1⟩,
  ⟨.fn, 1⟩,
  ⟨.fn, 1⟩,
  ⟨.fn, 1⟩,
  ⟨.fn, 1⟩,
  ⟨.fn, 1⟩,
  ⟨.st [(0, 1, false), (1, 1, false)], 2⟩,
  ⟨.st [(0, 1, false), (1, 1, false)], 2⟩,
  ⟨.other, 0⟩,
  ⟨.fn, 1⟩,
  ⟨.st [(0, 1, false)], 1⟩,
  ⟨.st [(0, 1, false)], 1⟩,
  ⟨.sl 228 2, 1⟩,
  ⟨.sl 230 4, 1⟩,
  ⟨.st [(0, 1, false), (1, 1, false), (2, 1, false)], 3⟩,
  ⟨.st [(0, 1, false), (1, 1, false), (2, 1, false)], 3⟩,
  ⟨.fn, 1⟩,
  ⟨.fn, 1⟩,
  ⟨.other, 0⟩,
  ⟨.fn, 1⟩,
  ⟨.fn, 1⟩,
  ⟨.other, 0⟩,
  ⟨.fn, 1⟩,
  ⟨.fn, 1⟩,
  ⟨.fn, 1⟩,
  ⟨.fn, 1⟩,
  ⟨.fn, 1⟩,
  ⟨.fn, 1⟩,
  ⟨.fn, 1⟩,
  ⟨.fn, 1⟩,
  ⟨.fn, 1⟩,
  ⟨.ptr, 1⟩,
  ⟨.fn, 1⟩,
  ⟨.ar 5 3 1, 5⟩,
  ⟨.st [(0, 1, false), (1, 1, false), (2, 1, false), (3, 1, false), (4, 1, false), (5, 1, false), (6, 5, true), (11, 5, true)], 16⟩,
  ⟨.st [(0, 1, false), (1, 1, false), (2, 1, false), (3, 1, false), (4, 1, false), (5, 1, false), (6, 5, true), (11, 5, true)], 16⟩,
  ⟨.fn, 1⟩,
  ⟨.fn, 1⟩,
  ⟨.fn, 1⟩,
  ⟨.fn, 1⟩,
  ⟨.fn, 1⟩,
  ⟨.other, 0⟩,
  ⟨.fn, 1⟩,
  ⟨.sl 345 10, 1⟩,
  ⟨.st [(0, 1, false), (1, 1, false), (2, 1, false), (3, 1, false), (4, 1, false), (5, 1, false), (6, 1, false), (7, 1, false), (8, 1, false)], 9⟩,
  ⟨.st [(0, 1, false), (1, 1, false), (2, 1, false), (3, 1, false), (4, 1, false), (5, 1, false), (6, 1, false), (7, 1, false), (8, 1, false)], 9⟩,
  ⟨.fn, 1⟩,
  ⟨.fn, 1⟩,
  ⟨.st [(0, 1, false), (1, 9, true)], 10⟩,
  ⟨.st [(0, 1, false), (1, 9, true)], 10⟩,
  ⟨.int, 1⟩,
  ⟨.other, 0⟩,
  ⟨.fn, 1⟩,
  ⟨.fn, 1⟩,
  ⟨.fn, 1⟩,
  ⟨.fn, 1⟩,
  ⟨.fn, 1⟩,
  ⟨.fn, 1⟩,
  ⟨.fn, 1⟩,
  ⟨.fn, 1⟩,
  ⟨.ptr, 1⟩,
  ⟨.sl 360 5, 1⟩,
  ⟨.fn, 1⟩,
  ⟨.st [(0, 1, false), (1, 1, false), (2, 1, false), (3, 1, false), (4, 1, false)], 5⟩,
  ⟨.st [(0, 1, false), (1, 1, false), (2, 1, false), (3, 1, false), (4, 1, false)], 5⟩,
  ⟨.st [(0, 1, false), (1, 1, false), (2, 1, false), (3, 5, true)], 8⟩,
  ⟨.st [(0, 1, false), (1, 1, false), (2, 1, false), (3, 5, true)], 8⟩,
  ⟨.fn, 1⟩,
  ⟨.ptr, 1⟩,
  ⟨.fn, 1⟩,
  ⟨.st [(0, 1, false), (1, 1, false), (2, 1, false), (3, 1, false)], 4⟩,
  ⟨.st [(0, 1, false), (1, 1, false), (2, 1, false), (3, 1, false)], 4⟩,
  ⟨.fn, 1⟩,
  ⟨.fn, 1⟩,
  ⟨.st [(0, 1, false), (1, 4, true)], 5⟩,
  ⟨.st [(0, 1, false), (1, 4, true)], 5⟩,
  ⟨.ar 8 371 5, 40⟩,
  ⟨.st [(0, 40, true)], 40⟩,
  ⟨.st [(0, 40, true)], 40⟩,
  ⟨.fn, 1⟩,
  ⟨.fn, 1⟩,
  ⟨.fn, 1⟩,
  ⟨.sl 9 1, 1⟩,
  ⟨.fn, 1⟩,
  ⟨.fn, 1⟩,
  ⟨.fn, 1⟩,
  ⟨.fn, 1⟩,
  ⟨.fn, 1⟩,
  ⟨.ptr, 1⟩,
  ⟨.fn, 1⟩,
  ⟨.fn, 1⟩,
  ⟨.ptr, 1⟩,
  ⟨.fn, 1⟩,
  ⟨.st [(0, 1, false), (1, 1, false), (2, 1, false), (3, 1, false)], 4⟩,
  ⟨.st [(0, 1, false), (1, 1, false), (2, 1, false), (3, 1, false)], 4⟩,
  ⟨.fn, 1⟩,
  ⟨.fn, 1⟩,
  ⟨.fn, 1⟩,
  ⟨.fn, 1⟩,
  ⟨.fn, 1⟩,
  ⟨.fn, 1⟩,
  ⟨.fn, 1⟩,
  ⟨.fn, 1⟩,
  ⟨.fn, 1⟩,
  ⟨.int, 1⟩,
  ⟨.fn, 1⟩,
  ⟨.fn, 1⟩,
  ⟨.fn, 1⟩,
  ⟨.fn, 1⟩,
  ⟨.fn, 1⟩,
  ⟨.fn, 1⟩,
  ⟨.fn, 1⟩,
  ⟨.fn, 1⟩,
  ⟨.fn, 1⟩,
  ⟨.fn, 1⟩,
  ⟨.sl 465 2, 1⟩,
  ⟨.fn, 1⟩,
  ⟨.fn, 1⟩,
  ⟨.fn, 1⟩,
  ⟨.st [(0, 1, false), (1, 1, false)], 2⟩,
  ⟨.st [(0, 1, false), (1, 1, false)], 2⟩,
  ⟨.st [(0, 2, true), (2, 2, true), (4, 2, true), (6, 2, true), (8, 2, true), (10, 2, true)], 12⟩,
  ⟨.st [(0, 2, true), (2, 2, true), (4, 2, true), (6, 2, true), (8, 2, true), (10, 2, true)], 12⟩,
  ⟨.other, 0⟩,
  ⟨.fn, 1⟩,
  ⟨.fn, 1⟩,
  ⟨.fn, 1⟩,
  ⟨.fn, 1⟩,
  ⟨.fn, 1⟩,
  ⟨.fn, 1⟩,
  ⟨.fn, 1⟩,
  ⟨.fn, 1⟩,
  ⟨.fn, 1⟩,
  ⟨.fn, 1⟩,
  ⟨.fn, 1⟩,
  ⟨.fn, 1⟩,
  ⟨.fn, 1⟩,
  ⟨.fn, 1⟩,
  ⟨.fn, 1⟩,
  ⟨.ptr, 1⟩,
  ⟨.fn, 1⟩,
  ⟨.fn, 1⟩,
  ⟨.fn, 1⟩,
  ⟨.fn, 1⟩,
  ⟨.fn, 1⟩,
  ⟨.sl 5 1, 1⟩,
  ⟨.st [(0, 1, false), (1, 1, false)], 2⟩,
  ⟨.st [(0, 1, false), (1, 1, false)], 2⟩,
  ⟨.fn, 1⟩,
  ⟨.fn, 1⟩,
  ⟨.fn, 1⟩,
  ⟨.fn, 1⟩,
  ⟨.fn, 1⟩,
  ⟨.fn, 1⟩,
  ⟨.fn, 1⟩,
  ⟨.fn, 1⟩,
  ⟨.other, 0⟩,
  ⟨.fn, 1⟩,
  ⟨.fn, 1⟩,
  ⟨.ptr, 1⟩,
  ⟨.other, 0⟩,
  ⟨.fn, 1⟩,
  ⟨.fn, 1⟩,
  ⟨.sl 357 1, 1⟩,
  ⟨.fn, 1⟩,
  ⟨.fn, 1⟩,
  ⟨.fn, 1⟩,
  ⟨.fn, 1⟩,
  ⟨.st [(0, 1, false), (1, 1, false)], 2⟩,
  ⟨.st [(0, 1, false), (1, 1, false)], 2⟩,
  ⟨.fn, 1⟩,
  ⟨.fn, 1⟩,
  ⟨.fn, 1⟩,
  ⟨.fn, 1⟩,
  ⟨.fn, 1⟩,
  ⟨.fn, 1⟩,
  ⟨.fn, 1⟩,
  ⟨.other, 0⟩,
  ⟨.fn, 1⟩,
  ⟨.fn, 1⟩,
  ⟨.fn, 1⟩,
  ⟨.ar 9 3 1, 9⟩,
  ⟨.other, 0⟩,
  ⟨.fn, 1⟩,
  ⟨.fn, 1⟩,
  ⟨.other, 0⟩,
  ⟨.fn, 1⟩,
  ⟨.other, 0⟩,
  ⟨.fn, 1⟩,
  ⟨.fn, 1⟩,
  ⟨.fn, 1⟩,
  ⟨.fn, 1⟩,
  ⟨.fn, 1⟩,
  ⟨.fn, 1⟩,
  ⟨.fn, 1⟩,
  ⟨.fn, 1⟩,
  ⟨.fn, 1⟩,
  ⟨.fn, 1⟩,
  ⟨.fn, 1⟩,
  ⟨.fn, 1⟩,
  ⟨.fn, 1⟩,
  ⟨.fn, 1⟩,
  ⟨.fn, 1⟩,
  ⟨.fn, 1⟩,
  ⟨.fn, 1⟩,
  ⟨.fn, 1⟩,
  ⟨.fn, 1⟩,
  ⟨.fn, 1⟩,
  ⟨.fn, 1⟩,
  ⟨.fn, 1⟩,
  ⟨.fn, 1⟩,
  ⟨.fn, 1⟩,
  ⟨.fn, 1⟩,
  ⟨.fn, 1⟩,
  ⟨.st [(0, 1, false), (1, 1, false), (2, 1, false), (3, 1, false)], 4⟩,
  ⟨.st [(0, 1, false), (1, 1, false), (2, 1, false), (3, 1, false)], 4⟩,
  ⟨.ar 0 16 1, 0⟩,
  ⟨.other, 0⟩,
  ⟨.other, 0⟩,
  ⟨.int, 1⟩,
  ⟨.int, 1⟩,
  ⟨.fn, 1⟩,
  ⟨.ptr, 1⟩,
  ⟨.int, 1⟩,
  ⟨.int, 1⟩,
  ⟨.st [(0, 1, false), (1, 1, false), (2, 1, false), (3, 1, false), (4, 1, false), (5, 1, false), (6, 1, false), (7, 1, false), (8, 1, false), (9, 1, false), (10, 1, false)], 11⟩,
  ⟨.st [(0, 1, false), (1, 1, false), (2, 1, false), (3, 1, false), (4, 1, false), (5, 1, false), (6, 1, false), (7, 1, false), (8, 1, false), (9, 1, false), (10, 1, false)], 11⟩,
  ⟨.st [(0, 1, false), (1, 1, false), (2, 1, false), (3, 1, false), (4, 1, false)], 5⟩,
  ⟨.st [(0, 1, false), (1, 1, false), (2, 1, false), (3, 1, false), (4, 1, false)], 5⟩,
  ⟨.other, 0⟩]
instance : HasTT Tryz.prog := ⟨ttab, tabOk_of (by kernel_rfl)⟩
def qtab : List QT := [.no, .no, .no, .int, .no, .no, .no, .no, .no, .str, .no, .no, .no, .no, .no, .no, .no, .no, .no, .no, .no, .no, .no, .no, .no, .no, .no, .no, .no, .no, .no, .no, .no, .no, .no, .no, .no, .no, .no, .no, .no, .no, .no, .no, .no, .no, .no, .no, .no, .no, .no, .no, .no, .no, .no, .no, .no, .no, .no, .no, .no, .no, .no, .no, .no, .no, .no, .no, .no, .no, .no, .no, .no, .no, .no, .no, .no, .no, .no, .no, .no, .no, .no, .no, .no, .no, .no, .no, .no, .no, .no, .no, .no, .no, .no, .no, .no, .no, .no, .no, .no, .no, .no, .no, .no, .no, .no, .no, .no, .no, .no, .no, .no, .no, .no, .no, .no, .no, .no, .no, .no, .no, .no, .no, .no, .no, .no, .no, .no, .no, .no, .no, .no, .no, .no, .no, .no, .no, .no, .no, .no, .no, .no, .no, .no, .no, .no, .no, .no, .st [(0, 1, 3, false), (1, 1, 3, false), (2, 1, 3, false), (3, 1, 3, false), (4, 1, 3, false), (5, 1, 3, false), (6, 1, 9, false), (7, 1, 9, false)], .no, .no, .no, .no, .no, .no, .no, .no, .no, .no, .no, .no, .no, .no, .no, .no, .no, .no, .no, .no, .no, .no, .no, .no, .no, .no, .no, .no, .no, .no, .no, .no, .no, .no, .no, .no, .no, .no, .no, .no, .no, .no, .no, .no, .no, .no, .no, .no, .no, .no, .no, .no, .no, .no, .no, .no, .no, .no, .no, .no, .no, .no, .no, .no, .no, .no, .no, .no, .no, .no, .no, .no, .no, .no, .no, .no, .no, .no, .no, .no, .no, .no, .no, .no, .no, .no, .no, .no, .no, .no, .no, .no, .no, .no, .no, .no, .no, .no, .no, .no, .no, .no, .no, .no, .no, .no, .no, .no, .no, .no, .no, .no, .no, .no, .no, .no, .no, .no, .no, .no, .no, .no, .no, .no, .no, .no, .no, .no, .no, .no, .no, .no, .no, .no, .no, .no, .no, .no, .no, .no, .no, .no, .no, .no, .no, .no, .no, .no, .no, .no, .no, .no, .no, .no, .no, .no, .no, .no, .no, .no, .no, .no, .no, .no, .no, .no, .no, .no, .no, .no, .no, .no, .no, .no, .no, .no, .no, .no, .no, .no, .no, .no, .no, .no, .no, .no, .no, .no, .no, .no, .no, .no, .no, .no, .no, .no, .no, .no, .no, .no, .no, .no, .no, .no, .no, .no, .no, .no, .no, .no, .no, .no, .no, .no, .no, .no, .no, .no, .no, .no, .no, .no, .no, .no, .no, .no, .no, .no, .no, .no, .no, .no, .no, .no, .no, .no, .no, .no, .no, .no, .no, .no, .no, .no, .no, .no, .no, .no, .no, .no, .no, .no, .no, .no, .no, .no, .no, .no, .no, .no, .no, .no, .no, .no, .no, .no, .no, .no, .no, .no, .no, .no, .no, .no, .no, .no, .no, .no, .no, .no, .no, .no, .no, .no, .no, .no, .no, .no, .no, .no, .no, .no, .no, .no, .no, .no, .no, .no, .no, .no, .no, .no, .no, .no, .no, .no, .no, .no, .no, .no, .no, .no, .no, .no, .no, .no, .no, .no, .no, .no, .no, .no, .no, .no, .no, .no, .no, .ar 9 3 1 false, .no, .no, .no, .no, .no, .no, .no, .no, .no, .no, .no, .no, .no, .no, .no, .no, .no, .no, .no, .no, .no, .no, .no, .no, .no, .no, .no, .no, .no, .no, .no, .no, .no, .no, .no, .no, .no, .no, .no, .no, .no, .no, .no, .no, .no, .no, .no, .no]
instance : HasQ Tryz.prog := ⟨qtab, by kernel_rfl⟩
instance : HasK Tryz.prog 3 .i64 := ⟨Tryz.underlying3⟩
instance : HasZ Tryz.prog 3 [.int .i64 0] := ⟨by kernel_rfl⟩
instance : HasE Tryz.prog 3 1 8 := HasE.of (by kernel_rfl) (by decide)
instance : HasK Tryz.prog 5 .u8 := ⟨Tryz.underlying5⟩
instance : HasZ Tryz.prog 5 [.int .u8 0] := ⟨by kernel_rfl⟩
instance : HasE Tryz.prog 5 1 1 := HasE.of (by kernel_rfl) (by decide)
instance : HasZ Tryz.prog 34 [.pointer none] := ⟨by kernel_rfl⟩
instance : HasE Tryz.prog 34 1 8 := HasE.of (by kernel_rfl) (by decide)
instance : HasZ Tryz.prog 36 [.slice none 0 0] := ⟨by kernel_rfl⟩
instance : HasE Tryz.prog 36 1 24 := HasE.of (by kernel_rfl) (by decide)
instance : HasZ Tryz.prog 55 [.int .i64 0, .slice none 0 0, .slice none 0 0, .slice none 0 0, .slice none 0 0, .slice none 0 0, .slice none 0 0, .int .i64 0, .int .i64 0, .int .i64 0] := ⟨by kernel_rfl⟩
instance : HasZ Tryz.prog 63 [.int .i64 0, .int .i64 0, .int .i64 0, .int .i64 0, .int .i64 0, .int .i64 0, .int .i64 0, .int .i64 0, .int .i64 0] := ⟨by kernel_rfl⟩
instance : HasE Tryz.prog 63 9 72 := HasE.of (by kernel_rfl) (by decide)
instance : HasZ Tryz.prog 69 [.int .i64 0, .int .i64 0, .slice none 0 0, .slice none 0 0, .int .i64 0, .int .i64 0, .int .i64 0, .int .i64 0] := ⟨by kernel_rfl⟩
instance : HasK Tryz.prog 82 .u64 := ⟨Tryz.underlying82⟩
instance : HasZ Tryz.prog 84 [.int .i64 0, .slice none 0 0, .slice none 0 0, .slice none 0 0, .slice none 0 0, .slice none 0 0, .slice none 0 0, .int .i64 0, .int .i64 0, .int .i64 0, .int .i64 0, .bool false] := ⟨by kernel_rfl⟩
instance : HasZ Tryz.prog 92 [.int .i64 0, .int .i64 0] := ⟨by kernel_rfl⟩
instance : HasE Tryz.prog 92 2 16 := HasE.of (by kernel_rfl) (by decide)
instance : HasZ Tryz.prog 105 [.int .i64 0, .int .i64 0, .int .i64 0, .int .i64 0, .int .i64 0] := ⟨by kernel_rfl⟩
instance : HasE Tryz.prog 105 5 40 := HasE.of (by kernel_rfl) (by decide)
instance : HasZ Tryz.prog 114 [.int .i64 0, .int .i64 0, .int .i64 0, .string ⟨#[]⟩] := ⟨by kernel_rfl⟩
instance : HasZ Tryz.prog 119 [.int .i64 0, .slice none 0 0, .slice none 0 0, .slice none 0 0, .slice none 0 0, .slice none 0 0, .slice none 0 0, .int .i64 0, .int .i64 0, .int .i64 0, .pointer none, .slice none 0 0, .slice none 0 0, .slice none 0 0, .int .i64 0] := ⟨by kernel_rfl⟩
instance : HasZ Tryz.prog 122 [.int .i64 0, .int .i64 0, .int .i64 0, .int .i64 0, .int .i64 0, .string ⟨#[]⟩, .string ⟨#[]⟩] := ⟨by kernel_rfl⟩
instance : HasZ Tryz.prog 124 [.int .i64 0, .int .i64 0, .int .i64 0, .int .i64 0, .int .i64 0, .int .i64 0, .int .i64 0] := ⟨by kernel_rfl⟩
instance : HasE Tryz.prog 124 7 56 := HasE.of (by kernel_rfl) (by decide)
instance : HasZ Tryz.prog 149 [.int .i64 0, .int .i64 0, .int .i64 0, .int .i64 0, .int .i64 0, .int .i64 0, .string ⟨#[]⟩, .string ⟨#[]⟩] := ⟨by kernel_rfl⟩
instance : HasE Tryz.prog 149 8 80 := HasE.of (by kernel_rfl) (by decide)
instance : HasZ Tryz.prog 160 [.pointer none, .pointer none, .pointer none] := ⟨by kernel_rfl⟩
instance : HasZ Tryz.prog 162 [.int .i64 0, .int .i64 0, .slice none 0 0, .pointer none, .pointer none, .pointer none, .pointer none] := ⟨by kernel_rfl⟩
instance : HasZ Tryz.prog 166 [.int .i64 0] := ⟨by kernel_rfl⟩
instance : HasE Tryz.prog 166 1 8 := HasE.of (by kernel_rfl) (by decide)
instance : HasZ Tryz.prog 168 [.int .i64 0, .int .i64 0] := ⟨by kernel_rfl⟩
instance : HasE Tryz.prog 168 2 16 := HasE.of (by kernel_rfl) (by decide)
instance : HasZ Tryz.prog 170 [.int .i64 0, .int .i64 0, .int .i64 0, .int .i64 0, .int .i64 0, .int .i64 0, .bool false] := ⟨by kernel_rfl⟩
instance : HasE Tryz.prog 170 7 56 := HasE.of (by kernel_rfl) (by decide)
instance : HasZ Tryz.prog 172 [.int .i64 0, .int .i64 0] := ⟨by kernel_rfl⟩
instance : HasE Tryz.prog 172 2 16 := HasE.of (by kernel_rfl) (by decide)
instance : HasZ Tryz.prog 179 [.int .i64 0, .slice none 0 0, .slice none 0 0, .slice none 0 0, .slice none 0 0, .slice none 0 0, .slice none 0 0, .int .i64 0, .int .i64 0, .int .i64 0, .pointer none, .int .i64 0, .int .i64 0, .int .i64 0, .slice none 0 0, .slice none 0 0, .int .i64 0, .int .i64 0, .int .i64 0, .int .i64 0] := ⟨by kernel_rfl⟩
instance : HasZ Tryz.prog 183 [.bool false, .bool false, .int .i64 0, .int .i64 0, .int .i64 0, .int .i64 0, .int .i64 0, .int .i64 0, .int .i64 0, .int .i64 0, .int .i64 0, .int .i64 0] := ⟨by kernel_rfl⟩
instance : HasE Tryz.prog 183 12 88 := HasE.of (by kernel_rfl) (by decide)
instance : HasZ Tryz.prog 186 [.int .i64 0, .int .i64 0, .int .i64 0, .int .i64 0] := ⟨by kernel_rfl⟩
instance : HasE Tryz.prog 186 4 32 := HasE.of (by kernel_rfl) (by decide)
instance : HasZ Tryz.prog 201 [.slice none 0 0, .slice none 0 0] := ⟨by kernel_rfl⟩
instance : HasZ Tryz.prog 216 [.int .i64 0, .int .i64 0, .slice none 0 0] := ⟨by kernel_rfl⟩
instance : HasZ Tryz.prog 228 [.int .i64 0, .string ⟨#[]⟩] := ⟨by kernel_rfl⟩
instance : HasE Tryz.prog 228 2 24 := HasE.of (by kernel_rfl) (by decide)
instance : HasZ Tryz.prog 230 [.int .i64 0, .int .i64 0, .int .i64 0, .int .i64 0] := ⟨by kernel_rfl⟩
instance : HasE Tryz.prog 230 4 32 := HasE.of (by kernel_rfl) (by decide)
instance : HasZ Tryz.prog 243 [.slice none 0 0, .int .i64 0] := ⟨by kernel_rfl⟩
instance : HasZ Tryz.prog 248 [.slice none 0 0, .slice none 0 0, .slice none 0 0] := ⟨by kernel_rfl⟩
instance : HasZ Tryz.prog 249 [.pointer none] := ⟨by kernel_rfl⟩
instance : HasE Tryz.prog 249 1 8 := HasE.of (by kernel_rfl) (by decide)
instance : HasZ Tryz.prog 269 [.int .i64 0, .int .i64 0, .int .i64 0, .int .i64 0, .int .i64 0, .int .i64 0, .int .i64 0, .int .i64 0, .int .i64 0, .int .i64 0, .int .i64 0, .int .i64 0] := ⟨by kernel_rfl⟩
instance : HasZ Tryz.prog 277 [.int .i64 0, .slice none 0 0, .slice none 0 0, .slice none 0 0, .slice none 0 0, .slice none 0 0, .slice none 0 0, .int .i64 0, .int .i64 0, .int .i64 0, .int .i64 0, .bool false, .slice none 0 0, .slice none 0 0, .slice none 0 0, .int .i64 0] := ⟨by kernel_rfl⟩
instance : HasK Tryz.prog 293 .u64 := ⟨Tryz.underlying293⟩
instance : HasZ Tryz.prog 303 [.string ⟨#[]⟩, .int .i64 0] := ⟨by kernel_rfl⟩
instance : HasZ Tryz.prog 307 [.map none] := ⟨by kernel_rfl⟩
instance : HasZ Tryz.prog 311 [.slice none 0 0, .slice none 0 0, .int .i64 0] := ⟨by kernel_rfl⟩
instance : HasZ Tryz.prog 331 [.pointer none, .int .i64 0, .int .i64 0, .int .i64 0, .int .i64 0, .int .i64 0, .int .i64 0, .int .i64 0, .int .i64 0, .int .i64 0, .int .i64 0, .int .i64 0, .int .i64 0, .int .i64 0, .int .i64 0, .int .i64 0] := ⟨by kernel_rfl⟩
instance : HasZ Tryz.prog 345 [.int .i64 0, .int .i64 0, .int .i64 0, .int .i64 0, .int .i64 0, .int .i64 0, .int .i64 0, .int .i64 0, .int .i64 0, .int .i64 0] := ⟨by kernel_rfl⟩
instance : HasE Tryz.prog 345 10 80 := HasE.of (by kernel_rfl) (by decide)
instance : HasZ Tryz.prog 357 [.slice none 0 0] := ⟨by kernel_rfl⟩
instance : HasZ Tryz.prog 360 [.int .i64 0, .int .i64 0, .int .i64 0, .int .i64 0, .int .i64 0] := ⟨by kernel_rfl⟩
instance : HasE Tryz.prog 360 5 40 := HasE.of (by kernel_rfl) (by decide)
instance : HasZ Tryz.prog 362 [.int .i64 0, .int .i64 0, .int .i64 0, .int .i64 0, .int .i64 0, .int .i64 0, .int .i64 0, .int .i64 0] := ⟨by kernel_rfl⟩
instance : HasE Tryz.prog 362 8 64 := HasE.of (by kernel_rfl) (by decide)
instance : HasZ Tryz.prog 367 [.int .i64 0, .int .i64 0, .int .i64 0, .int .i64 0] := ⟨by kernel_rfl⟩
instance : HasZ Tryz.prog 374 [.int .i64 0, .int .i64 0, .int .i64 0, .int .i64 0, .string ⟨#[]⟩, .int .i64 0, .int .i64 0, .int .i64 0, .int .i64 0, .string ⟨#[]⟩, .int .i64 0, .int .i64 0, .int .i64 0, .int .i64 0, .string ⟨#[]⟩, .int .i64 0, .int .i64 0, .int .i64 0, .int .i64 0, .string ⟨#[]⟩, .int .i64 0, .int .i64 0, .int .i64 0, .int .i64 0, .string ⟨#[]⟩, .int .i64 0, .int .i64 0, .int .i64 0, .int .i64 0, .string ⟨#[]⟩, .int .i64 0, .int .i64 0, .int .i64 0, .int .i64 0, .string ⟨#[]⟩, .int .i64 0, .int .i64 0, .int .i64 0, .int .i64 0, .string ⟨#[]⟩] := ⟨by kernel_rfl⟩
instance : HasZ Tryz.prog 390 [.pointer none, .int .i64 0, .int .i64 0, .slice none 0 0] := ⟨by kernel_rfl⟩
instance : HasZ Tryz.prog 416 [.int .i64 0, .int .i64 0] := ⟨by kernel_rfl⟩
instance : HasZ Tryz.prog 418 [.int .i64 0, .int .i64 0, .int .i64 0, .int .i64 0, .int .i64 0, .int .i64 0, .int .i64 0, .int .i64 0, .int .i64 0, .int .i64 0, .int .i64 0, .int .i64 0] := ⟨by kernel_rfl⟩
instance : HasZ Tryz.prog 443 [.slice none 0 0, .int .i64 0] := ⟨by kernel_rfl⟩
instance : HasZ Tryz.prog 465 [.int .i64 0, .int .i64 0] := ⟨by kernel_rfl⟩
instance : HasE Tryz.prog 465 2 16 := HasE.of (by kernel_rfl) (by decide)
instance : HasZ Tryz.prog 477 [.int .i64 0, .int .i64 0, .int .i64 0, .int .i64 0, .int .i64 0, .int .i64 0, .int .i64 0, .int .i64 0, .int .i64 0] := ⟨by kernel_rfl⟩
instance : HasF Tryz.prog 7 := ⟨_, Tryz.func7, by kernel_rfl, by kernel_rfl⟩
instance : HasF Tryz.prog 9 := ⟨_, Tryz.func9, by kernel_rfl, by kernel_rfl⟩
instance : HasF Tryz.prog 12 := ⟨_, Tryz.func12, by kernel_rfl, by kernel_rfl⟩
instance : HasF Tryz.prog 14 := ⟨_, Tryz.func14, by kernel_rfl, by kernel_rfl⟩
instance : HasF Tryz.prog 17 := ⟨_, Tryz.func17, by kernel_rfl, by kernel_rfl⟩
instance : HasF Tryz.prog 18 := ⟨_, Tryz.func18, by kernel_rfl, by kernel_rfl⟩
instance : HasF Tryz.prog 19 := ⟨_, Tryz.func19, by kernel_rfl, by kernel_rfl⟩
instance : HasF Tryz.prog 21 := ⟨_, Tryz.func21, by kernel_rfl, by kernel_rfl⟩
instance : HasF Tryz.prog 22 := ⟨_, Tryz.func22, by kernel_rfl, by kernel_rfl⟩
instance : HasF Tryz.prog 28 := ⟨_, Tryz.func28, by kernel_rfl, by kernel_rfl⟩
instance : HasF Tryz.prog 29 := ⟨_, Tryz.func29, by kernel_rfl, by kernel_rfl⟩
instance : HasF Tryz.prog 30 := ⟨_, Tryz.func30, by kernel_rfl, by kernel_rfl⟩
instance : HasF Tryz.prog 31 := ⟨_, Tryz.func31, by kernel_rfl, by kernel_rfl⟩
instance : HasF Tryz.prog 32 := ⟨_, Tryz.func32, by kernel_rfl, by kernel_rfl⟩
instance : HasF Tryz.prog 33 := ⟨_, Tryz.func33, by kernel_rfl, by kernel_rfl⟩
instance : HasF Tryz.prog 34 := ⟨_, Tryz.func34, by kernel_rfl, by kernel_rfl⟩
instance : HasF Tryz.prog 35 := ⟨_, Tryz.func35, by kernel_rfl, by kernel_rfl⟩
instance : HasF Tryz.prog 37 := ⟨_, Tryz.func37, by kernel_rfl, by kernel_rfl⟩
instance : HasF Tryz.prog 38 := ⟨_, Tryz.func38, by kernel_rfl, by kernel_rfl⟩
instance : HasF Tryz.prog 40 := ⟨_, Tryz.func40, by kernel_rfl, by kernel_rfl⟩
instance : HasF Tryz.prog 41 := ⟨_, Tryz.func41, by kernel_rfl, by kernel_rfl⟩
instance : HasF Tryz.prog 42 := ⟨_, Tryz.func42, by kernel_rfl, by kernel_rfl⟩
instance : HasF Tryz.prog 43 := ⟨_, Tryz.func43, by kernel_rfl, by kernel_rfl⟩
instance : HasF Tryz.prog 44 := ⟨_, Tryz.func44, by kernel_rfl, by kernel_rfl⟩
instance : HasF Tryz.prog 45 := ⟨_, Tryz.func45, by kernel_rfl, by kernel_rfl⟩
instance : HasF Tryz.prog 46 := ⟨_, Tryz.func46, by kernel_rfl, by kernel_rfl⟩
instance : HasF Tryz.prog 56 := ⟨_, Tryz.func56, by kernel_rfl, by kernel_rfl⟩
instance : HasF Tryz.prog 57 := ⟨_, Tryz.func57, by kernel_rfl, by kernel_rfl⟩
instance : HasF Tryz.prog 58 := ⟨_, Tryz.func58, by kernel_rfl, by kernel_rfl⟩
instance : HasF Tryz.prog 59 := ⟨_, Tryz.func59, by kernel_rfl, by kernel_rfl⟩
instance : HasF Tryz.prog 60 := ⟨_, Tryz.func60, by kernel_rfl, by kernel_rfl⟩
instance : HasF Tryz.prog 61 := ⟨_, Tryz.func61, by kernel_rfl, by kernel_rfl⟩
instance : HasF Tryz.prog 62 := ⟨_, Tryz.func62, by kernel_rfl, by kernel_rfl⟩
instance : HasF Tryz.prog 67 := ⟨_, Tryz.func67, by kernel_rfl, by kernel_rfl⟩
instance : HasF Tryz.prog 68 := ⟨_, Tryz.func68, by kernel_rfl, by kernel_rfl⟩
instance : HasF Tryz.prog 69 := ⟨_, Tryz.func69, by kernel_rfl, by kernel_rfl⟩
instance : HasF Tryz.prog 70 := ⟨_, Tryz.func70, by kernel_rfl, by kernel_rfl⟩
instance : HasF Tryz.prog 71 := ⟨_, Tryz.func71, by kernel_rfl, by kernel_rfl⟩
instance : HasF Tryz.prog 82 := ⟨_, Tryz.func82, by kernel_rfl, by kernel_rfl⟩
instance : HasF Tryz.prog 84 := ⟨_, Tryz.func84, by kernel_rfl, by kernel_rfl⟩
instance : HasF Tryz.prog 85 := ⟨_, Tryz.func85, by kernel_rfl, by kernel_rfl⟩
instance : HasF Tryz.prog 86 := ⟨_, Tryz.func86, by kernel_rfl, by kernel_rfl⟩
instance : HasF Tryz.prog 87 := ⟨_, Tryz.func87, by kernel_rfl, by kernel_rfl⟩
instance : HasF Tryz.prog 88 := ⟨_, Tryz.func88, by kernel_rfl, by kernel_rfl⟩
instance : HasF Tryz.prog 89 := ⟨_, Tryz.func89, by kernel_rfl, by kernel_rfl⟩
instance : HasF Tryz.prog 90 := ⟨_, Tryz.func90, by kernel_rfl, by kernel_rfl⟩
instance : HasF Tryz.prog 91 := ⟨_, Tryz.func91, by kernel_rfl, by kernel_rfl⟩
instance : HasF Tryz.prog 92 := ⟨_, Tryz.func92, by kernel_rfl, by kernel_rfl⟩
instance : HasF Tryz.prog 93 := ⟨_, Tryz.func93, by kernel_rfl, by kernel_rfl⟩
instance : HasF Tryz.prog 94 := ⟨_, Tryz.func94, by kernel_rfl, by kernel_rfl⟩
instance : HasF Tryz.prog 95 := ⟨_, Tryz.func95, by kernel_rfl, by kernel_rfl⟩
instance : HasF Tryz.prog 96 := ⟨_, Tryz.func96, by kernel_rfl, by kernel_rfl⟩
instance : HasF Tryz.prog 97 := ⟨_, Tryz.func97, by kernel_rfl, by kernel_rfl⟩
instance : HasF Tryz.prog 98 := ⟨_, Tryz.func98, by kernel_rfl, by kernel_rfl⟩
instance : HasF Tryz.prog 99 := ⟨_, Tryz.func99, by kernel_rfl, by kernel_rfl⟩
instance : HasF Tryz.prog 100 := ⟨_, Tryz.func100, by kernel_rfl, by kernel_rfl⟩
instance : HasF Tryz.prog 101 := ⟨_, Tryz.func101, by kernel_rfl, by kernel_rfl⟩
instance : HasF Tryz.prog 102 := ⟨_, Tryz.func102, by kernel_rfl, by kernel_rfl⟩
instance : HasF Tryz.prog 103 := ⟨_, Tryz.func103, by kernel_rfl, by kernel_rfl⟩
instance : HasF Tryz.prog 104 := ⟨_, Tryz.func104, by kernel_rfl, by kernel_rfl⟩
instance : HasF Tryz.prog 105 := ⟨_, Tryz.func105, by kernel_rfl, by kernel_rfl⟩
instance : HasF Tryz.prog 106 := ⟨_, Tryz.func106, by kernel_rfl, by kernel_rfl⟩
instance : HasF Tryz.prog 107 := ⟨_, Tryz.func107, by kernel_rfl, by kernel_rfl⟩
instance : HasF Tryz.prog 108 := ⟨_, Tryz.func108, by kernel_rfl, by kernel_rfl⟩
instance : HasF Tryz.prog 109 := ⟨_, Tryz.func109, by kernel_rfl, by kernel_rfl⟩
instance : HasF Tryz.prog 110 := ⟨_, Tryz.func110, by kernel_rfl, by kernel_rfl⟩
instance : HasF Tryz.prog 111 := ⟨_, Tryz.func111, by kernel_rfl, by kernel_rfl⟩
instance : HasF Tryz.prog 118 := ⟨_, Tryz.func118, by kernel_rfl, by kernel_rfl⟩
instance : HasF Tryz.prog 120 := ⟨_, Tryz.func120, by kernel_rfl, by kernel_rfl⟩
instance : HasF Tryz.prog 121 := ⟨_, Tryz.func121, by kernel_rfl, by kernel_rfl⟩
instance : HasF Tryz.prog 122 := ⟨_, Tryz.func122, by kernel_rfl, by kernel_rfl⟩
instance : HasF Tryz.prog 123 := ⟨_, Tryz.func123, by kernel_rfl, by kernel_rfl⟩
instance : HasF Tryz.prog 124 := ⟨_, Tryz.func124, by kernel_rfl, by kernel_rfl⟩
instance : HasF Tryz.prog 125 := ⟨_, Tryz.func125, by kernel_rfl, by kernel_rfl⟩
instance : HasF Tryz.prog 126 := ⟨_, Tryz.func126, by kernel_rfl, by kernel_rfl⟩
instance : HasF Tryz.prog 148 := ⟨_, Tryz.func148, by kernel_rfl, by kernel_rfl⟩
instance : HasF Tryz.prog 149 := ⟨_, Tryz.func149, by kernel_rfl, by kernel_rfl⟩
instance : HasF Tryz.prog 150 := ⟨_, Tryz.func150, by kernel_rfl, by kernel_rfl⟩
instance : HasF Tryz.prog 151 := ⟨_, Tryz.func151, by kernel_rfl, by kernel_rfl⟩
instance : HasF Tryz.prog 152 := ⟨_, Tryz.func152, by kernel_rfl, by kernel_rfl⟩
instance : HasF Tryz.prog 153 := ⟨_, Tryz.func153, by kernel_rfl, by kernel_rfl⟩
instance : HasF Tryz.prog 155 := ⟨_, Tryz.func155, by kernel_rfl, by kernel_rfl⟩
instance : HasF Tryz.prog 160 := ⟨_, Tryz.func160, by kernel_rfl, by kernel_rfl⟩
instance : HasF Tryz.prog 161 := ⟨_, Tryz.func161, by kernel_rfl, by kernel_rfl⟩
instance : HasF Tryz.prog 162 := ⟨_, Tryz.func162, by kernel_rfl, by kernel_rfl⟩
instance : HasF Tryz.prog 163 := ⟨_, Tryz.func163, by kernel_rfl, by kernel_rfl⟩
instance : HasF Tryz.prog 169 := ⟨_, Tryz.func169, by kernel_rfl, by kernel_rfl⟩
instance : HasF Tryz.prog 179 := ⟨_, Tryz.func179, by kernel_rfl, by kernel_rfl⟩
instance : HasF Tryz.prog 180 := ⟨_, Tryz.func180, by kernel_rfl, by kernel_rfl⟩
instance : HasF Tryz.prog 181 := ⟨_, Tryz.func181, by kernel_rfl, by kernel_rfl⟩
instance : HasF Tryz.prog 182 := ⟨_, Tryz.func182, by kernel_rfl, by kernel_rfl⟩
instance : HasF Tryz.prog 184 := ⟨_, Tryz.func184, by kernel_rfl, by kernel_rfl⟩
instance : HasF Tryz.prog 185 := ⟨_, Tryz.func185, by kernel_rfl, by kernel_rfl⟩
instance : HasF Tryz.prog 186 := ⟨_, Tryz.func186, by kernel_rfl, by kernel_rfl⟩
instance : HasF Tryz.prog 187 := ⟨_, Tryz.func187, by kernel_rfl, by kernel_rfl⟩
instance : HasF Tryz.prog 188 := ⟨_, Tryz.func188, by kernel_rfl, by kernel_rfl⟩
instance : HasF Tryz.prog 189 := ⟨_, Tryz.func189, by kernel_rfl, by kernel_rfl⟩
instance : HasF Tryz.prog 190 := ⟨_, Tryz.func190, by kernel_rfl, by kernel_rfl⟩
instance : HasF Tryz.prog 193 := ⟨_, Tryz.func193, by kernel_rfl, by kernel_rfl⟩
instance : HasF Tryz.prog 194 := ⟨_, Tryz.func194, by kernel_rfl, by kernel_rfl⟩
instance : HasF Tryz.prog 195 := ⟨_, Tryz.func195, by kernel_rfl, by kernel_rfl⟩
instance : HasF Tryz.prog 196 := ⟨_, Tryz.func196, by kernel_rfl, by kernel_rfl⟩
instance : HasF Tryz.prog 197 := ⟨_, Tryz.func197, by kernel_rfl, by kernel_rfl⟩
instance : HasF Tryz.prog 198 := ⟨_, Tryz.func198, by kernel_rfl, by kernel_rfl⟩
instance : HasF Tryz.prog 199 := ⟨_, Tryz.func199, by kernel_rfl, by kernel_rfl⟩
instance : HasF Tryz.prog 201 := ⟨_, Tryz.func201, by kernel_rfl, by kernel_rfl⟩
instance : HasF Tryz.prog 202 := ⟨_, Tryz.func202, by kernel_rfl, by kernel_rfl⟩
instance : HasF Tryz.prog 203 := ⟨_, Tryz.func203, by kernel_rfl, by kernel_rfl⟩
instance : HasF Tryz.prog 205 := ⟨_, Tryz.func205, by kernel_rfl, by kernel_rfl⟩
instance : HasF Tryz.prog 206 := ⟨_, Tryz.func206, by kernel_rfl, by kernel_rfl⟩
instance : HasF Tryz.prog 208 := ⟨_, Tryz.func208, by kernel_rfl, by kernel_rfl⟩
instance : HasF Tryz.prog 209 := ⟨_, Tryz.func209, by kernel_rfl, by kernel_rfl⟩
instance : HasF Tryz.prog 211 := ⟨_, Tryz.func211, by kernel_rfl, by kernel_rfl⟩
instance : HasF Tryz.prog 212 := ⟨_, Tryz.func212, by kernel_rfl, by kernel_rfl⟩
instance : HasF Tryz.prog 213 := ⟨_, Tryz.func213, by kernel_rfl, by kernel_rfl⟩
instance : HasF Tryz.prog 214 := ⟨_, Tryz.func214, by kernel_rfl, by kernel_rfl⟩
instance : HasF Tryz.prog 215 := ⟨_, Tryz.func215, by kernel_rfl, by kernel_rfl⟩
instance : HasF Tryz.prog 226 := ⟨_, Tryz.func226, by kernel_rfl, by kernel_rfl⟩
instance : HasF Tryz.prog 227 := ⟨_, Tryz.func227, by kernel_rfl, by kernel_rfl⟩
instance : HasF Tryz.prog 228 := ⟨_, Tryz.func228, by kernel_rfl, by kernel_rfl⟩
instance : HasF Tryz.prog 229 := ⟨_, Tryz.func229, by kernel_rfl, by kernel_rfl⟩
instance : HasF Tryz.prog 230 := ⟨_, Tryz.func230, by kernel_rfl, by kernel_rfl⟩
instance : HasF Tryz.prog 231 := ⟨_, Tryz.func231, by kernel_rfl, by kernel_rfl⟩
instance : HasF Tryz.prog 236 := ⟨_, Tryz.func236, by kernel_rfl, by kernel_rfl⟩
instance : HasF Tryz.prog 237 := ⟨_, Tryz.func237, by kernel_rfl, by kernel_rfl⟩
instance : HasF Tryz.prog 238 := ⟨_, Tryz.func238, by kernel_rfl, by kernel_rfl⟩
instance : HasF Tryz.prog 239 := ⟨_, Tryz.func239, by kernel_rfl, by kernel_rfl⟩
instance : HasF Tryz.prog 250 := ⟨_, Tryz.func250, by kernel_rfl, by kernel_rfl⟩
instance : HasF Tryz.prog 254 := ⟨_, Tryz.func254, by kernel_rfl, by kernel_rfl⟩
instance : HasF Tryz.prog 255 := ⟨_, Tryz.func255, by kernel_rfl, by kernel_rfl⟩
instance : HasF Tryz.prog 256 := ⟨_, Tryz.func256, by kernel_rfl, by kernel_rfl⟩
instance : HasF Tryz.prog 257 := ⟨_, Tryz.func257, by kernel_rfl, by kernel_rfl⟩
instance : HasF Tryz.prog 258 := ⟨_, Tryz.func258, by kernel_rfl, by kernel_rfl⟩
instance : HasF Tryz.prog 259 := ⟨_, Tryz.func259, by kernel_rfl, by kernel_rfl⟩
instance : HasF Tryz.prog 260 := ⟨_, Tryz.func260, by kernel_rfl, by kernel_rfl⟩
instance : HasF Tryz.prog 261 := ⟨_, Tryz.func261, by kernel_rfl, by kernel_rfl⟩
instance : HasF Tryz.prog 262 := ⟨_, Tryz.func262, by kernel_rfl, by kernel_rfl⟩
instance : HasF Tryz.prog 264 := ⟨_, Tryz.func264, by kernel_rfl, by kernel_rfl⟩
instance : HasF Tryz.prog 265 := ⟨_, Tryz.func265, by kernel_rfl, by kernel_rfl⟩
instance : HasF Tryz.prog 267 := ⟨_, Tryz.func267, by kernel_rfl, by kernel_rfl⟩
instance : HasF Tryz.prog 268 := ⟨_, Tryz.func268, by kernel_rfl, by kernel_rfl⟩
instance : HasF Tryz.prog 269 := ⟨_, Tryz.func269, by kernel_rfl, by kernel_rfl⟩
instance : HasF Tryz.prog 270 := ⟨_, Tryz.func270, by kernel_rfl, by kernel_rfl⟩
instance : HasF Tryz.prog 271 := ⟨_, Tryz.func271, by kernel_rfl, by kernel_rfl⟩
instance : HasF Tryz.prog 272 := ⟨_, Tryz.func272, by kernel_rfl, by kernel_rfl⟩
instance : HasF Tryz.prog 273 := ⟨_, Tryz.func273, by kernel_rfl, by kernel_rfl⟩
instance : HasF Tryz.prog 274 := ⟨_, Tryz.func274, by kernel_rfl, by kernel_rfl⟩
instance : HasF Tryz.prog 275 := ⟨_, Tryz.func275, by kernel_rfl, by kernel_rfl⟩
instance : HasF Tryz.prog 276 := ⟨_, Tryz.func276, by kernel_rfl, by kernel_rfl⟩
instance : HasF Tryz.prog 279 := ⟨_, Tryz.func279, by kernel_rfl, by kernel_rfl⟩
instance : HasF Tryz.prog 280 := ⟨_, Tryz.func280, by kernel_rfl, by kernel_rfl⟩
instance : HasF Tryz.prog 281 := ⟨_, Tryz.func281, by kernel_rfl, by kernel_rfl⟩
instance : HasF Tryz.prog 282 := ⟨_, Tryz.func282, by kernel_rfl, by kernel_rfl⟩
instance : HasF Tryz.prog 283 := ⟨_, Tryz.func283, by kernel_rfl, by kernel_rfl⟩
instance : HasF Tryz.prog 284 := ⟨_, Tryz.func284, by kernel_rfl, by kernel_rfl⟩
instance : HasF Tryz.prog 285 := ⟨_, Tryz.func285, by kernel_rfl, by kernel_rfl⟩
instance : HasF Tryz.prog 291 := ⟨_, Tryz.func291, by kernel_rfl, by kernel_rfl⟩
instance : HasF Tryz.prog 293 := ⟨_, Tryz.func293, by kernel_rfl, by kernel_rfl⟩
instance : HasF Tryz.prog 294 := ⟨_, Tryz.func294, by kernel_rfl, by kernel_rfl⟩
instance : HasF Tryz.prog 295 := ⟨_, Tryz.func295, by kernel_rfl, by kernel_rfl⟩
instance : HasF Tryz.prog 298 := ⟨_, Tryz.func298, by kernel_rfl, by kernel_rfl⟩
instance : HasF Tryz.prog 300 := ⟨_, Tryz.func300, by kernel_rfl, by kernel_rfl⟩
instance : HasF Tryz.prog 301 := ⟨_, Tryz.func301, by kernel_rfl, by kernel_rfl⟩
instance : HasF Tryz.prog 302 := ⟨_, Tryz.func302, by kernel_rfl, by kernel_rfl⟩
instance : HasF Tryz.prog 310 := ⟨_, Tryz.func310, by kernel_rfl, by kernel_rfl⟩
instance : HasF Tryz.prog 317 := ⟨_, Tryz.func317, by kernel_rfl, by kernel_rfl⟩
instance : HasF Tryz.prog 318 := ⟨_, Tryz.func318, by kernel_rfl, by kernel_rfl⟩
instance : HasF Tryz.prog 319 := ⟨_, Tryz.func319, by kernel_rfl, by kernel_rfl⟩
instance : HasF Tryz.prog 320 := ⟨_, Tryz.func320, by kernel_rfl, by kernel_rfl⟩
instance : HasF Tryz.prog 321 := ⟨_, Tryz.func321, by kernel_rfl, by kernel_rfl⟩
instance : HasF Tryz.prog 322 := ⟨_, Tryz.func322, by kernel_rfl, by kernel_rfl⟩
instance : HasF Tryz.prog 323 := ⟨_, Tryz.func323, by kernel_rfl, by kernel_rfl⟩
instance : HasF Tryz.prog 324 := ⟨_, Tryz.func324, by kernel_rfl, by kernel_rfl⟩
instance : HasF Tryz.prog 325 := ⟨_, Tryz.func325, by kernel_rfl, by kernel_rfl⟩
instance : HasF Tryz.prog 326 := ⟨_, Tryz.func326, by kernel_rfl, by kernel_rfl⟩
instance : HasF Tryz.prog 327 := ⟨_, Tryz.func327, by kernel_rfl, by kernel_rfl⟩
instance : HasF Tryz.prog 328 := ⟨_, Tryz.func328, by kernel_rfl, by kernel_rfl⟩
instance : HasF Tryz.prog 329 := ⟨_, Tryz.func329, by kernel_rfl, by kernel_rfl⟩
instance : HasF Tryz.prog 330 := ⟨_, Tryz.func330, by kernel_rfl, by kernel_rfl⟩
instance : HasF Tryz.prog 331 := ⟨_, Tryz.func331, by kernel_rfl, by kernel_rfl⟩
instance : HasF Tryz.prog 332 := ⟨_, Tryz.func332, by kernel_rfl, by kernel_rfl⟩
instance : HasF Tryz.prog 333 := ⟨_, Tryz.func333, by kernel_rfl, by kernel_rfl⟩
instance : HasF Tryz.prog 334 := ⟨_, Tryz.func334, by kernel_rfl, by kernel_rfl⟩
instance : HasF Tryz.prog 338 := ⟨_, Tryz.func338, by kernel_rfl, by kernel_rfl⟩
instance : HasF Tryz.prog 339 := ⟨_, Tryz.func339, by kernel_rfl, by kernel_rfl⟩
instance : HasF Tryz.prog 340 := ⟨_, Tryz.func340, by kernel_rfl, by kernel_rfl⟩
instance : HasF Tryz.prog 341 := ⟨_, Tryz.func341, by kernel_rfl, by kernel_rfl⟩
instance : HasF Tryz.prog 342 := ⟨_, Tryz.func342, by kernel_rfl, by kernel_rfl⟩
instance : HasF Tryz.prog 350 := ⟨_, Tryz.func350, by kernel_rfl, by kernel_rfl⟩
instance : HasF Tryz.prog 351 := ⟨_, Tryz.func351, by kernel_rfl, by kernel_rfl⟩
instance : HasF Tryz.prog 352 := ⟨_, Tryz.func352, by kernel_rfl, by kernel_rfl⟩
instance : HasF Tryz.prog 353 := ⟨_, Tryz.func353, by kernel_rfl, by kernel_rfl⟩
instance : HasF Tryz.prog 354 := ⟨_, Tryz.func354, by kernel_rfl, by kernel_rfl⟩
instance : HasF Tryz.prog 355 := ⟨_, Tryz.func355, by kernel_rfl, by kernel_rfl⟩
instance : HasF Tryz.prog 359 := ⟨_, Tryz.func359, by kernel_rfl, by kernel_rfl⟩
instance : HasF Tryz.prog 360 := ⟨_, Tryz.func360, by kernel_rfl, by kernel_rfl⟩
instance : HasF Tryz.prog 361 := ⟨_, Tryz.func361, by kernel_rfl, by kernel_rfl⟩
instance : HasF Tryz.prog 362 := ⟨_, Tryz.func362, by kernel_rfl, by kernel_rfl⟩
instance : HasF Tryz.prog 363 := ⟨_, Tryz.func363, by kernel_rfl, by kernel_rfl⟩
instance : HasF Tryz.prog 364 := ⟨_, Tryz.func364, by kernel_rfl, by kernel_rfl⟩
instance : HasF Tryz.prog 365 := ⟨_, Tryz.func365, by kernel_rfl, by kernel_rfl⟩
instance : HasF Tryz.prog 366 := ⟨_, Tryz.func366, by kernel_rfl, by kernel_rfl⟩
instance : HasF Tryz.prog 367 := ⟨_, Tryz.func367, by kernel_rfl, by kernel_rfl⟩
instance : HasF Tryz.prog 378 := ⟨_, Tryz.func378, by kernel_rfl, by kernel_rfl⟩
instance : HasF Tryz.prog 379 := ⟨_, Tryz.func379, by kernel_rfl, by kernel_rfl⟩
instance : HasF Tryz.prog 380 := ⟨_, Tryz.func380, by kernel_rfl, by kernel_rfl⟩
instance : HasF Tryz.prog 381 := ⟨_, Tryz.func381, by kernel_rfl, by kernel_rfl⟩
instance : HasF Tryz.prog 382 := ⟨_, Tryz.func382, by kernel_rfl, by kernel_rfl⟩
instance : HasF Tryz.prog 383 := ⟨_, Tryz.func383, by kernel_rfl, by kernel_rfl⟩
instance : HasF Tryz.prog 384 := ⟨_, Tryz.func384, by kernel_rfl, by kernel_rfl⟩
instance : HasF Tryz.prog 385 := ⟨_, Tryz.func385, by kernel_rfl, by kernel_rfl⟩
instance : HasF Tryz.prog 386 := ⟨_, Tryz.func386, by kernel_rfl, by kernel_rfl⟩
instance : HasF Tryz.prog 387 := ⟨_, Tryz.func387, by kernel_rfl, by kernel_rfl⟩
instance : HasF Tryz.prog 388 := ⟨_, Tryz.func388, by kernel_rfl, by kernel_rfl⟩
instance : HasF Tryz.prog 389 := ⟨_, Tryz.func389, by kernel_rfl, by kernel_rfl⟩
instance : HasF Tryz.prog 390 := ⟨_, Tryz.func390, by kernel_rfl, by kernel_rfl⟩
instance : HasF Tryz.prog 398 := ⟨_, Tryz.func398, by kernel_rfl, by kernel_rfl⟩
instance : HasF Tryz.prog 402 := ⟨_, Tryz.func402, by kernel_rfl, by kernel_rfl⟩
instance : HasF Tryz.prog 403 := ⟨_, Tryz.func403, by kernel_rfl, by kernel_rfl⟩
instance : HasF Tryz.prog 404 := ⟨_, Tryz.func404, by kernel_rfl, by kernel_rfl⟩
instance : HasF Tryz.prog 405 := ⟨_, Tryz.func405, by kernel_rfl, by kernel_rfl⟩
instance : HasF Tryz.prog 406 := ⟨_, Tryz.func406, by kernel_rfl, by kernel_rfl⟩
instance : HasF Tryz.prog 407 := ⟨_, Tryz.func407, by kernel_rfl, by kernel_rfl⟩
instance : HasF Tryz.prog 411 := ⟨_, Tryz.func411, by kernel_rfl, by kernel_rfl⟩
instance : HasF Tryz.prog 415 := ⟨_, Tryz.func415, by kernel_rfl, by kernel_rfl⟩
instance : HasF Tryz.prog 427 := ⟨_, Tryz.func427, by kernel_rfl, by kernel_rfl⟩
instance : HasF Tryz.prog 428 := ⟨_, Tryz.func428, by kernel_rfl, by kernel_rfl⟩
instance : HasF Tryz.prog 430 := ⟨_, Tryz.func430, by kernel_rfl, by kernel_rfl⟩
instance : HasF Tryz.prog 431 := ⟨_, Tryz.func431, by kernel_rfl, by kernel_rfl⟩
instance : HasF Tryz.prog 444 := ⟨_, Tryz.func444, by kernel_rfl, by kernel_rfl⟩
end Go.Proofs.YtfmnjbhncnldmaaGreat
