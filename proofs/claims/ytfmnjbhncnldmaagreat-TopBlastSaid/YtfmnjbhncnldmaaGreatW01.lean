import Derived.Test.YtfmnjbhncnldmaaGreatRows
import Derived.Test.YtfmnjbhncnldmaaGreatW00
set_option linter.unusedSimpArgs false
set_option linter.unusedVariables false
namespace Go.Proofs.YtfmnjbhncnldmaaGreat
open Go.RowKit
def ttab:List Ty:=[⟨.other,0⟩,
 ⟨.fn,1⟩,
 ⟨.int,1⟩,
 ⟨.int,1⟩,
 ⟨.bool,1⟩,
 ⟨.int,1⟩,
 ⟨.int,1⟩,
 ⟨.st [(0,1,false),(1,1,false),(2,1,false),(3,1,false)],4⟩,
 ⟨.st [(0,1,false),(1,1,false),(2,1,false),(3,1,false)],4⟩,
 ⟨.str,1⟩,
 ⟨.str,1⟩,
 ⟨.str,1⟩,
 ⟨.int,1⟩,
 ⟨.st [(0,1,false),(1,1,false)],2⟩,
 ⟨.st [(0,1,false),(1,1,false)],2⟩,
 ⟨.ptr,1⟩,
 ⟨.ptr,1⟩,
 ⟨.ptr,1⟩,
 ⟨.st [(0,1,false)],1⟩,
 ⟨.st [(0,1,false)],1⟩,
 ⟨.fn,1⟩,
 ⟨.int,1⟩,
 ⟨.sl 29 3,1⟩,
 ⟨.fn,1⟩,
 ⟨.ptr,1⟩,
 ⟨.fn,1⟩,
 ⟨.fn,1⟩,
 ⟨.fn,1⟩,
 ⟨.st [(0,1,false),(1,1,false),(2,1,false)],3⟩,
 ⟨.st [(0,1,false),(1,1,false),(2,1,false)],3⟩,
 ⟨.fn,1⟩,
 ⟨.fn,1⟩,
 ⟨.fn,1⟩,
 ⟨.int,1⟩,
 ⟨.ptr,1⟩,
 ⟨.ptr,1⟩,
 ⟨.sl 34 1,1⟩,
 ⟨.sl 106 1,1⟩,
 ⟨.sl 135 1,1⟩,
 ⟨.sl 140 1,1⟩,
 ⟨.ar 4 3 1,4⟩,
 ⟨.st [(0,1,false),(1,1,false),(2,1,false),(3,1,false),(4,1,false),(5,1,false),(6,4,true),(10,1,false)],11⟩,
 ⟨.st [(0,1,false),(1,1,false),(2,1,false),(3,1,false),(4,1,false),(5,1,false),(6,4,true),(10,1,false)],11⟩,
 ⟨.fn,1⟩,
 ⟨.fn,1⟩,
 ⟨.fn,1⟩,
 ⟨.fn,1⟩,
 ⟨.fn,1⟩,
 ⟨.sl 3 1,1⟩,
 ⟨.fn,1⟩,
 ⟨.sl 166 1,1⟩,
 ⟨.sl 168 2,1⟩,
 ⟨.sl 170 7,1⟩,
 ⟨.sl 172 2,1⟩,
 ⟨.st [(0,1,false),(1,1,false),(2,1,false),(3,1,false),(4,1,false),(5,1,false),(6,1,false),(7,1,false),(8,1,false),(9,1,false)],10⟩,
 ⟨.st [(0,1,false),(1,1,false),(2,1,false),(3,1,false),(4,1,false),(5,1,false),(6,1,false),(7,1,false),(8,1,false),(9,1,false)],10⟩,
 ⟨.fn,1⟩,
 ⟨.ptr,1⟩,
 ⟨.other,0⟩,
 ⟨.fn,1⟩,
 ⟨.sl 63 9,1⟩,
 ⟨.fn,1⟩,
 ⟨.st [(0,1,false),(1,1,false),(2,1,false),(3,1,false),(4,1,false),(5,1,false),(6,1,false),(7,1,false),(8,1,false)],9⟩,
 ⟨.st [(0,1,false),(1,1,false),(2,1,false),(3,1,false),(4,1,false),(5,1,false),(6,1,false),(7,1,false),(8,1,false)],9⟩,
 ⟨.other,0⟩,
 ⟨.fn,1⟩,
 ⟨.sl 183 12,1⟩,
 ⟨.sl 186 4,1⟩,
 ⟨.st [(0,1,false),(1,1,false),(2,1,false),(3,1,false),(4,1,false),(5,1,false),(6,1,false),(7,1,false)],8⟩,
 ⟨.st [(0,1,false),(1,1,false),(2,1,false),(3,1,false),(4,1,false),(5,1,false),(6,1,false),(7,1,false)],8⟩,
 ⟨.fn,1⟩,
 ⟨.sl 48 1,1⟩,
 ⟨.other,0⟩,
 ⟨.fn,1⟩,
 ⟨.st [(0,1,false),(1,1,false),(2,1,false)],3⟩,
 ⟨.st [(0,1,false),(1,1,false),(2,1,false)],3⟩,
 ⟨.fn,1⟩,
 ⟨.other,0⟩,
 ⟨.fn,1⟩,
 ⟨.fn,1⟩,
 ⟨.fn,1⟩,
 ⟨.fn,1⟩,
 ⟨.int,1⟩,
 ⟨.st [(0,10,true),(10,1,false),(11,1,false)],12⟩,
 ⟨.st [(0,10,true),(10,1,false),(11,1,false)],12⟩,
 ⟨.sl 92 2,1⟩,
 ⟨.other,0⟩,
 ⟨.fn,1⟩,
 ⟨.fn,1⟩,
 ⟨.other,0⟩,
 ⟨.fn,1⟩,
 ⟨.st [(0,1,false),(1,1,false)],2⟩,
 ⟨.st [(0,1,false),(1,1,false)],2⟩,
 ⟨.fn,1⟩,
 ⟨.fn,1⟩,
 ⟨.fn,1⟩,
 ⟨.fn,1⟩,
 ⟨.fn,1⟩,
 ⟨.fn,1⟩,
 ⟨.other,0⟩,
 ⟨.fn,1⟩,
 ⟨.ptr,1⟩,
 ⟨.fn,1⟩,
 ⟨.fn,1⟩,
 ⟨.st [(0,1,false),(1,1,false),(2,1,false),(3,1,false),(4,1,false)],5⟩,
 ⟨.st [(0,1,false),(1,1,false),(2,1,false),(3,1,false),(4,1,false)],5⟩,
 ⟨.ptr,1⟩,
 ⟨.fn,1⟩,
 ⟨.ptr,1⟩,
 ⟨.fn,1⟩,
 ⟨.fn,1⟩,
 ⟨.fn,1⟩,
 ⟨.fn,1⟩,
 ⟨.st [(0,1,false),(1,1,false),(2,1,false),(3,1,false)],4⟩,
 ⟨.st [(0,1,false),(1,1,false),(2,1,false),(3,1,false)],4⟩,
 ⟨.sl 36 1,1⟩,
 ⟨.sl 124 7,1⟩,
 ⟨.sl 524 5,1⟩,
 ⟨.st [(0,10,true),(10,1,false),(11,1,false),(12,1,false),(13,1,false),(14,1,false)],15⟩,
 ⟨.st [(0,10,true),(10,1,false),(11,1,false),(12,1,false),(13,1,false),(14,1,false)],15⟩,
 ⟨.fn,1⟩,
 ⟨.st [(0,1,false),(1,1,false),(2,1,false),(3,1,false),(4,1,false),(5,1,false),(6,1,false)],7⟩,
 ⟨.st [(0,1,false),(1,1,false),(2,1,false),(3,1,false),(4,1,false),(5,1,false),(6,1,false)],7⟩,
 ⟨.st [(0,1,false),(1,1,false),(2,5,true)],7⟩,
 ⟨.st [(0,1,false),(1,1,false),(2,5,true)],7⟩,
 ⟨.other,0⟩,
 ⟨.fn,1⟩,
 ⟨.fn,1⟩,
 ⟨.fn,1⟩,
 ⟨.sl 149 8,1⟩,
 ⟨.st [(0,1,false),(1,1,false),(2,1,false),(3,1,false)],4⟩,
 ⟨.st [(0,1,false),(1,1,false),(2,1,false),(3,1,false)],4⟩,
 ⟨.other,0⟩,
 ⟨.fn,1⟩,
 ⟨.fn,1⟩,
 ⟨.sl 131 4,1⟩,
 ⟨.st [(0,1,false),(1,1,false),(2,1,false)],3⟩,
 ⟨.st [(0,1,false),(1,1,false),(2,1,false)],3⟩,
 ⟨.other,0⟩,
 ⟨.fn,1⟩,
 ⟨.sl 137 3,1⟩,
 ⟨.fn,1⟩,
 ⟨.fn,1⟩,
 ⟨.st [(0,1,false),(1,1,false),(2,1,false)],3⟩,
 ⟨.st [(0,1,false),(1,1,false),(2,1,false)],3⟩,
 ⟨.fn,1⟩,
 ⟨.fn,1⟩,
 ⟨.fn,1⟩,
 ⟨.st [(0,1,false),(1,1,false),(2,1,false),(3,1,false),(4,1,false),(5,1,false),(6,1,false),(7,1,false)],8⟩,
 ⟨.st [(0,1,false),(1,1,false),(2,1,false),(3,1,false),(4,1,false),(5,1,false),(6,1,false),(7,1,false)],8⟩,
 ⟨.st [(0,1,false),(1,1,false),(2,1,false)],3⟩,
 ⟨.st [(0,1,false),(1,1,false),(2,1,false)],3⟩,
 ⟨.other,0⟩,
 ⟨.fn,1⟩,
 ⟨.st [(0,1,false),(1,1,false),(2,1,false),(3,1,false)],4⟩,
 ⟨.st [(0,1,false),(1,1,false),(2,1,false),(3,1,false)],4⟩,
 ⟨.ptr,1⟩,
 ⟨.ptr,1⟩,
 ⟨.ptr,1⟩,
 ⟨.st [(0,1,false),(1,1,false),(2,1,false)],3⟩,
 ⟨.st [(0,1,false),(1,1,false),(2,1,false)],3⟩,
 ⟨.st [(0,1,false),(1,1,false),(2,1,false),(3,3,true),(6,1,false)],7⟩,
 ⟨.st [(0,1,false),(1,1,false),(2,1,false),(3,3,true),(6,1,false)],7⟩,
 ⟨.ptr,1⟩,
 ⟨.fn,1⟩,
 ⟨.st [(0,1,false)],1⟩,
 ⟨.st [(0,1,false)],1⟩,
 ⟨.st [(0,1,false),(1,1,false)],2⟩,
 ⟨.st [(0,1,false),(1,1,false)],2⟩,
 ⟨.st [(0,1,false),(1,1,false),(2,1,false),(3,1,false),(4,1,false),(5,1,false),(6,1,false)],7⟩,
 ⟨.st [(0,1,false),(1,1,false),(2,1,false),(3,1,false),(4,1,false),(5,1,false),(6,1,false)],7⟩,
 ⟨.st [(0,1,false),(1,1,false)],2⟩,
 ⟨.st [(0,1,false),(1,1,false)],2⟩,
 ⟨.fn,1⟩,
 ⟨.ptr,1⟩,
 ⟨.other,0⟩,
 ⟨.fn,1⟩,
 ⟨.fn,1⟩,
 ⟨.st [(0,10,true),(10,1,false),(11,1,false),(12,8,true)],20⟩,
 ⟨.st [(0,10,true),(10,1,false),(11,1,false),(12,8,true)],20⟩,
 ⟨.fn,1⟩,
 ⟨.fn,1⟩,
 ⟨.st [(0,1,false),(1,1,false),(2,1,false),(3,1,false),(4,1,false),(5,1,false),(6,1,false),(7,5,true)],12⟩,
 ⟨.st [(0,1,false),(1,1,false),(2,1,false),(3,1,false),(4,1,false),(5,1,false),(6,1,false),(7,5,true)],12⟩,
 ⟨.fn,1⟩,
 ⟨.st [(0,1,false),(1,1,false),(2,1,false),(3,1,false)],4⟩,
 ⟨.st [(0,1,false),(1,1,false),(2,1,false),(3,1,false)],4⟩,
 ⟨.fn,1⟩,
 ⟨.fn,1⟩,
 ⟨.fn,1⟩,
 ⟨.fn,1⟩,
 ⟨.fn,1⟩,
 ⟨.fn,1⟩,
 ⟨.fn,1⟩,
 ⟨.fn,1⟩,
 ⟨.fn,1⟩,
 ⟨.fn,1⟩,
 ⟨.fn,1⟩,
 ⟨.fn,1⟩,
 ⟨.sl 362 8,1⟩,
 ⟨.st [(0,1,false),(1,1,false)],2⟩,
 ⟨.st [(0,1,false),(1,1,false)],2⟩,
 ⟨.other,0⟩,
 ⟨.fn,1⟩,
 ⟨.fn,1⟩,
 ⟨.fn,1⟩,
 ⟨.fn,1⟩,
 ⟨.fn,1⟩,
 ⟨.fn,1⟩,
 ⟨.fn,1⟩,
 ⟨.fn,1⟩,
 ⟨.fn,1⟩,
 ⟨.fn,1⟩,
 ⟨.fn,1⟩,
 ⟨.sl 105 5,1⟩,
 ⟨.st [(0,1,false),(1,1,false),(2,1,false)],3⟩,
 ⟨.st [(0,1,false),(1,1,false),(2,1,false)],3⟩,
 ⟨.other,0⟩,
 ⟨.fn,1⟩,
 ⟨.fn,1⟩,
 ⟨.fn,1⟩,
 ⟨.st [(0,1,false),(1,1,false),(2,1,false)],3⟩,
 ⟨.st [(0,1,false),(1,1,false),(2,1,false)],3⟩,
 ⟨.fn,1⟩,
 ⟨.fn,1⟩,
 ⟨.other,0⟩,
 ⟨.fn,1⟩,
 ⟨.st [(0,1,false),(1,1,false)],2⟩,
 ⟨.st [(0,1,false),(1,1,false)],2⟩,
 ⟨.st [(0,1,false),(1,1,false),(2,1,false),(3,1,false)],4⟩,
 ⟨.st [(0,1,false),(1,1,false),(2,1,false),(3,1,false)],4⟩,
 ⟨.other,0⟩,
 ⟨.fn,1⟩,
 ⟨.fn,1⟩,
 ⟨.fn,1⟩,
 ⟨.fn,1⟩,
 ⟨.fn,1⟩,
 ⟨.fn,1⟩,
 ⟨.fn,1⟩,
 ⟨.fn,1⟩,
 ⟨.fn,1⟩,
 ⟨.fn,1⟩,
 ⟨.st [(0,1,false),(1,1,false)],2⟩,
 ⟨.st [(0,1,false),(1,1,false)],2⟩,
 ⟨.fn,1⟩,
 ⟨.sl 249 1,1⟩,
 ⟨.sl 341 9,1⟩,
 ⟨.st [(0,1,false),(1,1,false),(2,1,false)],3⟩,
 ⟨.st [(0,1,false),(1,1,false),(2,1,false)],3⟩,
 ⟨.ptr,1⟩,
 ⟨.other,0⟩,
 ⟨.fn,1⟩,
 ⟨.fn,1⟩,
 ⟨.fn,1⟩,
 ⟨.fn,1⟩,
 ⟨.fn,1⟩,
 ⟨.fn,1⟩,
 ⟨.fn,1⟩,
 ⟨.fn,1⟩,
 ⟨.fn,1⟩,
 ⟨.fn,1⟩,
 ⟨.fn,1⟩,
 ⟨.fn,1⟩,
 ⟨.fn,1⟩,
 ⟨.fn,1⟩,
 ⟨.fn,1⟩,
 ⟨.fn,1⟩,
 ⟨.fn,1⟩,
 ⟨.st [(0,1,false),(1,1,false),(2,1,false),(3,9,true)],12⟩,
 ⟨.st [(0,1,false),(1,1,false),(2,1,false),(3,9,true)],12⟩,
 ⟨.fn,1⟩,
 ⟨.fn,1⟩,
 ⟨.fn,1⟩,
 ⟨.fn,1⟩,
 ⟨.fn,1⟩,
 ⟨.fn,1⟩,
 ⟨.st [(0,12,true),(12,1,false),(13,1,false),(14,1,false),(15,1,false)],16⟩,
 ⟨.st [(0,12,true),(12,1,false),(13,1,false),(14,1,false),(15,1,false)],16⟩,
 ⟨.other,0⟩,
 ⟨.fn,1⟩,
 ⟨.fn,1⟩,
 ⟨.fn,1⟩,
 ⟨.fn,1⟩,
 ⟨.fn,1⟩,
 ⟨.ptr,1⟩,
 ⟨.fn,1⟩,
 ⟨.ptr,1⟩,
 ⟨.fn,1⟩,
 ⟨.fn,1⟩,
 ⟨.fn,1⟩,
 ⟨.fn,1⟩,
 ⟨.int,1⟩,
 ⟨.fn,1⟩,
 ⟨.int,1⟩,
 ⟨.fn,1⟩,
 ⟨.fn,1⟩,
 ⟨.fn,1⟩,
 ⟨.fn,1⟩,
 ⟨.fn,1⟩,
 ⟨.fn,1⟩,
 ⟨.fn,1⟩,
 ⟨.fn,1⟩,
 ⟨.st [(0,1,false),(1,1,false)],2⟩,
 ⟨.st [(0,1,false),(1,1,false)],2⟩,
 ⟨.other,0⟩,
 ⟨.fn,1⟩,
 ⟨.st [(0,1,false)],1⟩,
 ⟨.st [(0,1,false)],1⟩,
 ⟨.sl 228 2,1⟩,
 ⟨.sl 230 4,1⟩,
 ⟨.st [(0,1,false),(1,1,false),(2,1,false)],3⟩,
 ⟨.st [(0,1,false),(1,1,false),(2,1,false)],3⟩,
 ⟨.fn,1⟩,
 ⟨.fn,1⟩,
 ⟨.other,0⟩,
 ⟨.fn,1⟩,
 ⟨.fn,1⟩,
 ⟨.other,0⟩,
 ⟨.fn,1⟩,
 ⟨.fn,1⟩,
 ⟨.fn,1⟩,
 ⟨.fn,1⟩,
 ⟨.fn,1⟩,
 ⟨.fn,1⟩,
 ⟨.fn,1⟩,
 ⟨.fn,1⟩,
 ⟨.fn,1⟩,
 ⟨.ptr,1⟩,
 ⟨.fn,1⟩,
 ⟨.ar 5 3 1,5⟩,
 ⟨.st [(0,1,false),(1,1,false),(2,1,false),(3,1,false),(4,1,false),(5,1,false),(6,5,true),(11,5,true)],16⟩,
 ⟨.st [(0,1,false),(1,1,false),(2,1,false),(3,1,false),(4,1,false),(5,1,false),(6,5,true),(11,5,true)],16⟩,
 ⟨.fn,1⟩,
 ⟨.fn,1⟩,
 ⟨.fn,1⟩,
 ⟨.fn,1⟩,
 ⟨.fn,1⟩,
 ⟨.other,0⟩,
 ⟨.fn,1⟩,
 ⟨.sl 345 10,1⟩,
 ⟨.st [(0,1,false),(1,1,false),(2,1,false),(3,1,false),(4,1,false),(5,1,false),(6,1,false),(7,1,false),(8,1,false)],9⟩,
 ⟨.st [(0,1,false),(1,1,false),(2,1,false),(3,1,false),(4,1,false),(5,1,false),(6,1,false),(7,1,false),(8,1,false)],9⟩,
 ⟨.fn,1⟩,
 ⟨.fn,1⟩,
 ⟨.st [(0,1,false),(1,9,true)],10⟩,
 ⟨.st [(0,1,false),(1,9,true)],10⟩,
 ⟨.int,1⟩,
 ⟨.other,0⟩,
 ⟨.fn,1⟩,
 ⟨.fn,1⟩,
 ⟨.fn,1⟩,
 ⟨.fn,1⟩,
 ⟨.fn,1⟩,
 ⟨.fn,1⟩,
 ⟨.fn,1⟩,
 ⟨.fn,1⟩,
 ⟨.ptr,1⟩,
 ⟨.sl 360 5,1⟩,
 ⟨.fn,1⟩,
 ⟨.st [(0,1,false),(1,1,false),(2,1,false),(3,1,false),(4,1,false)],5⟩,
 ⟨.st [(0,1,false),(1,1,false),(2,1,false),(3,1,false),(4,1,false)],5⟩,
 ⟨.st [(0,1,false),(1,1,false),(2,1,false),(3,5,true)],8⟩,
 ⟨.st [(0,1,false),(1,1,false),(2,1,false),(3,5,true)],8⟩,
 ⟨.fn,1⟩,
 ⟨.ptr,1⟩,
 ⟨.fn,1⟩,
 ⟨.st [(0,1,false),(1,1,false),(2,1,false),(3,1,false)],4⟩,
 ⟨.st [(0,1,false),(1,1,false),(2,1,false),(3,1,false)],4⟩,
 ⟨.fn,1⟩,
 ⟨.fn,1⟩,
 ⟨.st [(0,1,false),(1,4,true)],5⟩,
 ⟨.st [(0,1,false),(1,4,true)],5⟩,
 ⟨.ar 8 371 5,40⟩,
 ⟨.st [(0,40,true)],40⟩,
 ⟨.st [(0,40,true)],40⟩,
 ⟨.fn,1⟩,
 ⟨.fn,1⟩,
 ⟨.fn,1⟩,
 ⟨.sl 9 1,1⟩,
 ⟨.fn,1⟩,
 ⟨.fn,1⟩,
 ⟨.fn,1⟩,
 ⟨.fn,1⟩,
 ⟨.fn,1⟩,
 ⟨.ptr,1⟩,
 ⟨.fn,1⟩,
 ⟨.fn,1⟩,
 ⟨.ptr,1⟩,
 ⟨.fn,1⟩,
 ⟨.st [(0,1,false),(1,1,false),(2,1,false),(3,1,false)],4⟩,
 ⟨.st [(0,1,false),(1,1,false),(2,1,false),(3,1,false)],4⟩,
 ⟨.fn,1⟩,
 ⟨.fn,1⟩,
 ⟨.fn,1⟩,
 ⟨.fn,1⟩,
 ⟨.fn,1⟩,
 ⟨.fn,1⟩,
 ⟨.fn,1⟩,
 ⟨.fn,1⟩,
 ⟨.fn,1⟩,
 ⟨.int,1⟩,
 ⟨.fn,1⟩,
 ⟨.fn,1⟩,
 ⟨.fn,1⟩,
 ⟨.fn,1⟩,
 ⟨.fn,1⟩,
 ⟨.fn,1⟩,
 ⟨.fn,1⟩,
 ⟨.fn,1⟩,
 ⟨.fn,1⟩,
 ⟨.fn,1⟩,
 ⟨.sl 465 2,1⟩,
 ⟨.fn,1⟩,
 ⟨.fn,1⟩,
 ⟨.fn,1⟩,
 ⟨.st [(0,1,false),(1,1,false)],2⟩,
 ⟨.st [(0,1,false),(1,1,false)],2⟩,
 ⟨.st [(0,2,true),(2,2,true),(4,2,true),(6,2,true),(8,2,true),(10,2,true)],12⟩,
 ⟨.st [(0,2,true),(2,2,true),(4,2,true),(6,2,true),(8,2,true),(10,2,true)],12⟩,
 ⟨.other,0⟩,
 ⟨.fn,1⟩,
 ⟨.fn,1⟩,
 ⟨.fn,1⟩,
 ⟨.fn,1⟩,
 ⟨.fn,1⟩,
 ⟨.fn,1⟩,
 ⟨.fn,1⟩,
 ⟨.fn,1⟩,
 ⟨.fn,1⟩,
 ⟨.fn,1⟩,
 ⟨.fn,1⟩,
 ⟨.fn,1⟩,
 ⟨.fn,1⟩,
 ⟨.fn,1⟩,
 ⟨.fn,1⟩,
 ⟨.ptr,1⟩,
 ⟨.fn,1⟩,
 ⟨.fn,1⟩,
 ⟨.fn,1⟩,
 ⟨.fn,1⟩,
 ⟨.fn,1⟩,
 ⟨.sl 5 1,1⟩,
 ⟨.st [(0,1,false),(1,1,false)],2⟩,
 ⟨.st [(0,1,false),(1,1,false)],2⟩,
 ⟨.fn,1⟩,
 ⟨.fn,1⟩,
 ⟨.fn,1⟩,
 ⟨.fn,1⟩,
 ⟨.fn,1⟩,
 ⟨.fn,1⟩,
 ⟨.fn,1⟩,
 ⟨.fn,1⟩,
 ⟨.other,0⟩,
 ⟨.fn,1⟩,
 ⟨.fn,1⟩,
 ⟨.ptr,1⟩,
 ⟨.other,0⟩,
 ⟨.fn,1⟩,
 ⟨.fn,1⟩,
 ⟨.sl 357 1,1⟩,
 ⟨.fn,1⟩,
 ⟨.fn,1⟩,
 ⟨.fn,1⟩,
 ⟨.fn,1⟩,
 ⟨.st [(0,1,false),(1,1,false)],2⟩,
 ⟨.st [(0,1,false),(1,1,false)],2⟩,
 ⟨.fn,1⟩,
 ⟨.fn,1⟩,
 ⟨.fn,1⟩,
 ⟨.fn,1⟩,
 ⟨.fn,1⟩,
 ⟨.fn,1⟩,
 ⟨.fn,1⟩,
 ⟨.other,0⟩,
 ⟨.fn,1⟩,
 ⟨.fn,1⟩,
 ⟨.fn,1⟩,
 ⟨.ar 9 3 1,9⟩,
 ⟨.other,0⟩,
 ⟨.fn,1⟩,
 ⟨.fn,1⟩,
 ⟨.other,0⟩,
 ⟨.fn,1⟩,
 ⟨.other,0⟩,
 ⟨.fn,1⟩,
 ⟨.fn,1⟩,
 ⟨.fn,1⟩,
 ⟨.fn,1⟩,
 ⟨.fn,1⟩,
 ⟨.fn,1⟩,
 ⟨.fn,1⟩,
 ⟨.fn,1⟩,
 ⟨.fn,1⟩,
 ⟨.fn,1⟩,
 ⟨.fn,1⟩,
 ⟨.fn,1⟩,
 ⟨.fn,1⟩,
 ⟨.fn,1⟩,
 ⟨.fn,1⟩,
 ⟨.fn,1⟩,
 ⟨.fn,1⟩,
 ⟨.fn,1⟩,
 ⟨.fn,1⟩,
 ⟨.fn,1⟩,
 ⟨.fn,1⟩,
 ⟨.fn,1⟩,
 ⟨.fn,1⟩,
 ⟨.fn,1⟩,
 ⟨.fn,1⟩,
 ⟨.fn,1⟩,
 ⟨.st [(0,1,false),(1,1,false),(2,1,false),(3,1,false)],4⟩,
 ⟨.st [(0,1,false),(1,1,false),(2,1,false),(3,1,false)],4⟩,
 ⟨.ar 0 16 1,0⟩,
 ⟨.other,0⟩,
 ⟨.other,0⟩,
 ⟨.int,1⟩,
 ⟨.int,1⟩,
 ⟨.fn,1⟩,
 ⟨.ptr,1⟩,
 ⟨.int,1⟩,
 ⟨.int,1⟩,
 ⟨.st [(0,1,false),(1,1,false),(2,1,false),(3,1,false),(4,1,false),(5,1,false),(6,1,false),(7,1,false),(8,1,false),(9,1,false),(10,1,false)],11⟩,
 ⟨.st [(0,1,false),(1,1,false),(2,1,false),(3,1,false),(4,1,false),(5,1,false),(6,1,false),(7,1,false),(8,1,false),(9,1,false),(10,1,false)],11⟩,
 ⟨.st [(0,1,false),(1,1,false),(2,1,false),(3,1,false),(4,1,false)],5⟩,
 ⟨.st [(0,1,false),(1,1,false),(2,1,false),(3,1,false),(4,1,false)],5⟩,
 ⟨.other,0⟩]
instance : HasTT Tryz.prog:=⟨ttab,tabOk_of kR⟩
def qtab:List QT:=[.no,.no,.no,.int,.no,.no,.no,.no,.no,.str,.no,.no,.no,.no,.no,.no,.no,.no,.no,.no,.no,.no,.no,.no,.no,.no,.no,.no,.no,.no,.no,.no,.no,.no,.no,.no,.no,.no,.no,.no,.no,.no,.no,.no,.no,.no,.no,.no,.no,.no,.no,.no,.no,.no,.no,.no,.no,.no,.no,.no,.no,.no,.no,.no,.no,.no,.no,.no,.no,.no,.no,.no,.no,.no,.no,.no,.no,.no,.no,.no,.no,.no,.no,.no,.no,.no,.no,.no,.no,.no,.no,.no,.no,.no,.no,.no,.no,.no,.no,.no,.no,.no,.no,.no,.no,.no,.no,.no,.no,.no,.no,.no,.no,.no,.no,.no,.no,.no,.no,.no,.no,.no,.no,.no,.no,.no,.no,.no,.no,.no,.no,.no,.no,.no,.no,.no,.no,.no,.no,.no,.no,.no,.no,.no,.no,.no,.no,.no,.no,.st [(0,1,3,false),(1,1,3,false),(2,1,3,false),(3,1,3,false),(4,1,3,false),(5,1,3,false),(6,1,9,false),(7,1,9,false)],.no,.no,.no,.no,.no,.no,.no,.no,.no,.no,.no,.no,.no,.no,.no,.no,.no,.no,.no,.no,.no,.no,.no,.no,.no,.no,.no,.no,.no,.no,.no,.no,.no,.no,.no,.no,.no,.no,.no,.no,.no,.no,.no,.no,.no,.no,.no,.no,.no,.no,.no,.no,.no,.no,.no,.no,.no,.no,.no,.no,.no,.no,.no,.no,.no,.no,.no,.no,.no,.no,.no,.no,.no,.no,.no,.no,.no,.no,.no,.no,.no,.no,.no,.no,.no,.no,.no,.no,.no,.no,.no,.no,.no,.no,.no,.no,.no,.no,.no,.no,.no,.no,.no,.no,.no,.no,.no,.no,.no,.no,.no,.no,.no,.no,.no,.no,.no,.no,.no,.no,.no,.no,.no,.no,.no,.no,.no,.no,.no,.no,.no,.no,.no,.no,.no,.no,.no,.no,.no,.no,.no,.no,.no,.no,.no,.no,.no,.no,.no,.no,.no,.no,.no,.no,.no,.no,.no,.no,.no,.no,.no,.no,.no,.no,.no,.no,.no,.no,.no,.no,.no,.no,.no,.no,.no,.no,.no,.no,.no,.no,.no,.no,.no,.no,.no,.no,.no,.no,.no,.no,.no,.no,.no,.no,.no,.no,.no,.no,.no,.no,.no,.no,.no,.no,.no,.no,.no,.no,.no,.no,.no,.no,.no,.no,.no,.no,.no,.no,.no,.no,.no,.no,.no,.no,.no,.no,.no,.no,.no,.no,.no,.no,.no,.no,.no,.no,.no,.no,.no,.no,.no,.no,.no,.no,.no,.no,.no,.no,.no,.no,.no,.no,.no,.no,.no,.no,.no,.no,.no,.no,.no,.no,.no,.no,.no,.no,.no,.no,.no,.no,.no,.no,.no,.no,.no,.no,.no,.no,.no,.no,.no,.no,.no,.no,.no,.no,.no,.no,.no,.no,.no,.no,.no,.no,.no,.no,.no,.no,.no,.no,.no,.no,.no,.no,.no,.no,.no,.no,.no,.no,.no,.no,.no,.no,.no,.no,.no,.no,.no,.no,.no,.no,.no,.no,.no,.no,.no,.ar 9 3 1 false,.no,.no,.no,.no,.no,.no,.no,.no,.no,.no,.no,.no,.no,.no,.no,.no,.no,.no,.no,.no,.no,.no,.no,.no,.no,.no,.no,.no,.no,.no,.no,.no,.no,.no,.no,.no,.no,.no,.no,.no,.no,.no,.no,.no,.no,.no,.no,.no]
instance : HasQ Tryz.prog:=⟨qtab,kR⟩
instance : HasK Tryz.prog 3 .i64:=⟨Tryz.underlying3⟩
instance : HasZ Tryz.prog 3 [.int .i64 0]:=⟨kR⟩
instance : HasE Tryz.prog 3 1 8:=HasE.of kR (by decide)
instance : HasK Tryz.prog 5 .u8:=⟨Tryz.underlying5⟩
instance : HasZ Tryz.prog 5 [.int .u8 0]:=⟨kR⟩
instance : HasE Tryz.prog 5 1 1:=HasE.of kR (by decide)
instance : HasZ Tryz.prog 9 [.string ⟨#[]⟩]:=⟨kR⟩
instance : HasZ Tryz.prog 34 [.pointer none]:=⟨kR⟩
instance : HasE Tryz.prog 34 1 8:=HasE.of kR (by decide)
instance : HasZ Tryz.prog 36 [.slice none 0 0]:=⟨kR⟩
instance : HasE Tryz.prog 36 1 24:=HasE.of kR (by decide)
instance : HasZ Tryz.prog 48 [.slice none 0 0]:=⟨kR⟩
instance : HasE Tryz.prog 48 1 24:=HasE.of kR (by decide)
instance : HasZ Tryz.prog 55 [.int .i64 0,.slice none 0 0,.slice none 0 0,.slice none 0 0,.slice none 0 0,.slice none 0 0,.slice none 0 0,.int .i64 0,.int .i64 0,.int .i64 0]:=⟨kR⟩
instance : HasZ Tryz.prog 63 [.int .i64 0,.int .i64 0,.int .i64 0,.int .i64 0,.int .i64 0,.int .i64 0,.int .i64 0,.int .i64 0,.int .i64 0]:=⟨kR⟩
instance : HasE Tryz.prog 63 9 72:=HasE.of kR (by decide)
instance : HasZ Tryz.prog 69 [.int .i64 0,.int .i64 0,.slice none 0 0,.slice none 0 0,.int .i64 0,.int .i64 0,.int .i64 0,.int .i64 0]:=⟨kR⟩
instance : HasZ Tryz.prog 75 [.int .i64 0,.int .i64 0,.slice none 0 0]:=⟨kR⟩
instance : HasK Tryz.prog 82 .u64:=⟨Tryz.underlying82⟩
instance : HasZ Tryz.prog 105 [.int .i64 0,.int .i64 0,.int .i64 0,.int .i64 0,.int .i64 0]:=⟨kR⟩
instance : HasE Tryz.prog 105 5 40:=HasE.of kR (by decide)
instance : HasZ Tryz.prog 114 [.int .i64 0,.int .i64 0,.int .i64 0,.string ⟨#[]⟩]:=⟨kR⟩
instance : HasZ Tryz.prog 119 [.int .i64 0,.slice none 0 0,.slice none 0 0,.slice none 0 0,.slice none 0 0,.slice none 0 0,.slice none 0 0,.int .i64 0,.int .i64 0,.int .i64 0,.pointer none,.slice none 0 0,.slice none 0 0,.slice none 0 0,.int .i64 0]:=⟨kR⟩
instance : HasZ Tryz.prog 122 [.int .i64 0,.int .i64 0,.int .i64 0,.int .i64 0,.int .i64 0,.string ⟨#[]⟩,.string ⟨#[]⟩]:=⟨kR⟩
instance : HasZ Tryz.prog 124 [.int .i64 0,.int .i64 0,.int .i64 0,.int .i64 0,.int .i64 0,.int .i64 0,.int .i64 0]:=⟨kR⟩
instance : HasE Tryz.prog 124 7 56:=HasE.of kR (by decide)
instance : HasZ Tryz.prog 149 [.int .i64 0,.int .i64 0,.int .i64 0,.int .i64 0,.int .i64 0,.int .i64 0,.string ⟨#[]⟩,.string ⟨#[]⟩]:=⟨kR⟩
instance : HasE Tryz.prog 149 8 80:=HasE.of kR (by decide)
instance : HasZ Tryz.prog 160 [.pointer none,.pointer none,.pointer none]:=⟨kR⟩
instance : HasZ Tryz.prog 162 [.int .i64 0,.int .i64 0,.slice none 0 0,.pointer none,.pointer none,.pointer none,.pointer none]:=⟨kR⟩
instance : HasZ Tryz.prog 166 [.int .i64 0]:=⟨kR⟩
instance : HasE Tryz.prog 166 1 8:=HasE.of kR (by decide)
instance : HasZ Tryz.prog 168 [.int .i64 0,.int .i64 0]:=⟨kR⟩
instance : HasE Tryz.prog 168 2 16:=HasE.of kR (by decide)
instance : HasZ Tryz.prog 170 [.int .i64 0,.int .i64 0,.int .i64 0,.int .i64 0,.int .i64 0,.int .i64 0,.bool false]:=⟨kR⟩
instance : HasE Tryz.prog 170 7 56:=HasE.of kR (by decide)
instance : HasZ Tryz.prog 172 [.int .i64 0,.int .i64 0]:=⟨kR⟩
instance : HasE Tryz.prog 172 2 16:=HasE.of kR (by decide)
instance : HasZ Tryz.prog 179 [.int .i64 0,.slice none 0 0,.slice none 0 0,.slice none 0 0,.slice none 0 0,.slice none 0 0,.slice none 0 0,.int .i64 0,.int .i64 0,.int .i64 0,.pointer none,.int .i64 0,.int .i64 0,.int .i64 0,.slice none 0 0,.slice none 0 0,.int .i64 0,.int .i64 0,.int .i64 0,.int .i64 0]:=⟨kR⟩
instance : HasZ Tryz.prog 183 [.bool false,.bool false,.int .i64 0,.int .i64 0,.int .i64 0,.int .i64 0,.int .i64 0,.int .i64 0,.int .i64 0,.int .i64 0,.int .i64 0,.int .i64 0]:=⟨kR⟩
instance : HasE Tryz.prog 183 12 88:=HasE.of kR (by decide)
instance : HasZ Tryz.prog 186 [.int .i64 0,.int .i64 0,.int .i64 0,.int .i64 0]:=⟨kR⟩
instance : HasE Tryz.prog 186 4 32:=HasE.of kR (by decide)
instance : HasZ Tryz.prog 216 [.int .i64 0,.int .i64 0,.slice none 0 0]:=⟨kR⟩
instance : HasZ Tryz.prog 228 [.int .i64 0,.string ⟨#[]⟩]:=⟨kR⟩
instance : HasE Tryz.prog 228 2 24:=HasE.of kR (by decide)
instance : HasZ Tryz.prog 230 [.int .i64 0,.int .i64 0,.int .i64 0,.int .i64 0]:=⟨kR⟩
instance : HasE Tryz.prog 230 4 32:=HasE.of kR (by decide)
instance : HasZ Tryz.prog 243 [.slice none 0 0,.int .i64 0]:=⟨kR⟩
instance : HasZ Tryz.prog 248 [.slice none 0 0,.slice none 0 0,.slice none 0 0]:=⟨kR⟩
instance : HasZ Tryz.prog 249 [.pointer none]:=⟨kR⟩
instance : HasE Tryz.prog 249 1 8:=HasE.of kR (by decide)
instance : HasZ Tryz.prog 269 [.int .i64 0,.int .i64 0,.int .i64 0,.int .i64 0,.int .i64 0,.int .i64 0,.int .i64 0,.int .i64 0,.int .i64 0,.int .i64 0,.int .i64 0,.int .i64 0]:=⟨kR⟩
instance : HasK Tryz.prog 293 .u64:=⟨Tryz.underlying293⟩
instance : HasZ Tryz.prog 303 [.string ⟨#[]⟩,.int .i64 0]:=⟨kR⟩
instance : HasZ Tryz.prog 307 [.map none]:=⟨kR⟩
instance : HasZ Tryz.prog 311 [.slice none 0 0,.slice none 0 0,.int .i64 0]:=⟨kR⟩
instance : HasZ Tryz.prog 331 [.pointer none,.int .i64 0,.int .i64 0,.int .i64 0,.int .i64 0,.int .i64 0,.int .i64 0,.int .i64 0,.int .i64 0,.int .i64 0,.int .i64 0,.int .i64 0,.int .i64 0,.int .i64 0,.int .i64 0,.int .i64 0]:=⟨kR⟩
instance : HasZ Tryz.prog 341 [.int .i64 0,.int .i64 0,.int .i64 0,.int .i64 0,.int .i64 0,.int .i64 0,.int .i64 0,.bool false,.slice none 0 0]:=⟨kR⟩
instance : HasE Tryz.prog 341 9 88:=HasE.of kR (by decide)
instance : HasZ Tryz.prog 345 [.int .i64 0,.int .i64 0,.int .i64 0,.int .i64 0,.int .i64 0,.int .i64 0,.int .i64 0,.int .i64 0,.int .i64 0,.int .i64 0]:=⟨kR⟩
instance : HasE Tryz.prog 345 10 80:=HasE.of kR (by decide)
instance : HasZ Tryz.prog 367 [.int .i64 0,.int .i64 0,.int .i64 0,.int .i64 0]:=⟨kR⟩
instance : HasZ Tryz.prog 374 [.int .i64 0,.int .i64 0,.int .i64 0,.int .i64 0,.string ⟨#[]⟩,.int .i64 0,.int .i64 0,.int .i64 0,.int .i64 0,.string ⟨#[]⟩,.int .i64 0,.int .i64 0,.int .i64 0,.int .i64 0,.string ⟨#[]⟩,.int .i64 0,.int .i64 0,.int .i64 0,.int .i64 0,.string ⟨#[]⟩,.int .i64 0,.int .i64 0,.int .i64 0,.int .i64 0,.string ⟨#[]⟩,.int .i64 0,.int .i64 0,.int .i64 0,.int .i64 0,.string ⟨#[]⟩,.int .i64 0,.int .i64 0,.int .i64 0,.int .i64 0,.string ⟨#[]⟩,.int .i64 0,.int .i64 0,.int .i64 0,.int .i64 0,.string ⟨#[]⟩]:=⟨kR⟩
instance : HasZ Tryz.prog 390 [.pointer none,.int .i64 0,.int .i64 0,.slice none 0 0]:=⟨kR⟩
instance : HasZ Tryz.prog 416 [.int .i64 0,.int .i64 0]:=⟨kR⟩
instance : HasZ Tryz.prog 418 [.int .i64 0,.int .i64 0,.int .i64 0,.int .i64 0,.int .i64 0,.int .i64 0,.int .i64 0,.int .i64 0,.int .i64 0,.int .i64 0,.int .i64 0,.int .i64 0]:=⟨kR⟩
instance : HasZ Tryz.prog 443 [.slice none 0 0,.int .i64 0]:=⟨kR⟩
instance : HasZ Tryz.prog 477 [.int .i64 0,.int .i64 0,.int .i64 0,.int .i64 0,.int .i64 0,.int .i64 0,.int .i64 0,.int .i64 0,.int .i64 0]:=⟨kR⟩
instance : HasF Tryz.prog 7:=fQ Tryz.func7
instance : HasF Tryz.prog 9:=fQ Tryz.func9
instance : HasF Tryz.prog 12:=fQ Tryz.func12
instance : HasF Tryz.prog 14:=fQ Tryz.func14
instance : HasF Tryz.prog 17:=fQ Tryz.func17
instance : HasF Tryz.prog 18:=fQ Tryz.func18
instance : HasF Tryz.prog 19:=fQ Tryz.func19
instance : HasF Tryz.prog 20:=fQ Tryz.func20
instance : HasF Tryz.prog 21:=fQ Tryz.func21
instance : HasF Tryz.prog 22:=fQ Tryz.func22
instance : HasF Tryz.prog 23:=fQ Tryz.func23
instance : HasF Tryz.prog 24:=fQ Tryz.func24
instance : HasF Tryz.prog 25:=fQ Tryz.func25
instance : HasF Tryz.prog 26:=fQ Tryz.func26
instance : HasF Tryz.prog 27:=fQ Tryz.func27
instance : HasF Tryz.prog 29:=fQ Tryz.func29
instance : HasF Tryz.prog 30:=fQ Tryz.func30
instance : HasF Tryz.prog 32:=fQ Tryz.func32
instance : HasF Tryz.prog 35:=fQ Tryz.func35
instance : HasF Tryz.prog 37:=fQ Tryz.func37
instance : HasF Tryz.prog 38:=fQ Tryz.func38
instance : HasF Tryz.prog 40:=fQ Tryz.func40
instance : HasF Tryz.prog 41:=fQ Tryz.func41
instance : HasF Tryz.prog 42:=fQ Tryz.func42
instance : HasF Tryz.prog 43:=fQ Tryz.func43
instance : HasF Tryz.prog 44:=fQ Tryz.func44
instance : HasF Tryz.prog 45:=fQ Tryz.func45
instance : HasF Tryz.prog 46:=fQ Tryz.func46
instance : HasF Tryz.prog 56:=fQ Tryz.func56
instance : HasF Tryz.prog 57:=fQ Tryz.func57
instance : HasF Tryz.prog 58:=fQ Tryz.func58
instance : HasF Tryz.prog 59:=fQ Tryz.func59
instance : HasF Tryz.prog 60:=fQ Tryz.func60
instance : HasF Tryz.prog 61:=fQ Tryz.func61
instance : HasF Tryz.prog 62:=fQ Tryz.func62
instance : HasF Tryz.prog 63:=fQ Tryz.func63
instance : HasF Tryz.prog 64:=fQ Tryz.func64
instance : HasF Tryz.prog 65:=fQ Tryz.func65
instance : HasF Tryz.prog 66:=fQ Tryz.func66
instance : HasF Tryz.prog 67:=fQ Tryz.func67
instance : HasF Tryz.prog 68:=fQ Tryz.func68
instance : HasF Tryz.prog 69:=fQ Tryz.func69
instance : HasF Tryz.prog 70:=fQ Tryz.func70
instance : HasF Tryz.prog 71:=fQ Tryz.func71
instance : HasF Tryz.prog 72:=fQ Tryz.func72
instance : HasF Tryz.prog 73:=fQ Tryz.func73
instance : HasF Tryz.prog 74:=fQ Tryz.func74
instance : HasF Tryz.prog 75:=fQ Tryz.func75
instance : HasF Tryz.prog 76:=fQ Tryz.func76
instance : HasF Tryz.prog 77:=fQ Tryz.func77
instance : HasF Tryz.prog 78:=fQ Tryz.func78
instance : HasF Tryz.prog 79:=fQ Tryz.func79
instance : HasF Tryz.prog 80:=fQ Tryz.func80
instance : HasF Tryz.prog 81:=fQ Tryz.func81
instance : HasF Tryz.prog 82:=fQ Tryz.func82
instance : HasF Tryz.prog 83:=fQ Tryz.func83
instance : HasF Tryz.prog 85:=fQ Tryz.func85
instance : HasF Tryz.prog 86:=fQ Tryz.func86
instance : HasF Tryz.prog 87:=fQ Tryz.func87
instance : HasF Tryz.prog 88:=fQ Tryz.func88
instance : HasF Tryz.prog 89:=fQ Tryz.func89
instance : HasF Tryz.prog 90:=fQ Tryz.func90
instance : HasF Tryz.prog 91:=fQ Tryz.func91
instance : HasF Tryz.prog 92:=fQ Tryz.func92
instance : HasF Tryz.prog 94:=fQ Tryz.func94
instance : HasF Tryz.prog 97:=fQ Tryz.func97
instance : HasF Tryz.prog 98:=fQ Tryz.func98
instance : HasF Tryz.prog 99:=fQ Tryz.func99
instance : HasF Tryz.prog 100:=fQ Tryz.func100
instance : HasF Tryz.prog 101:=fQ Tryz.func101
instance : HasF Tryz.prog 102:=fQ Tryz.func102
instance : HasF Tryz.prog 103:=fQ Tryz.func103
instance : HasF Tryz.prog 104:=fQ Tryz.func104
instance : HasF Tryz.prog 105:=fQ Tryz.func105
instance : HasF Tryz.prog 106:=fQ Tryz.func106
instance : HasF Tryz.prog 107:=fQ Tryz.func107
instance : HasF Tryz.prog 108:=fQ Tryz.func108
instance : HasF Tryz.prog 109:=fQ Tryz.func109
instance : HasF Tryz.prog 110:=fQ Tryz.func110
instance : HasF Tryz.prog 111:=fQ Tryz.func111
instance : HasF Tryz.prog 118:=fQ Tryz.func118
instance : HasF Tryz.prog 120:=fQ Tryz.func120
instance : HasF Tryz.prog 121:=fQ Tryz.func121
instance : HasF Tryz.prog 122:=fQ Tryz.func122
instance : HasF Tryz.prog 123:=fQ Tryz.func123
instance : HasF Tryz.prog 124:=fQ Tryz.func124
instance : HasF Tryz.prog 125:=fQ Tryz.func125
instance : HasF Tryz.prog 126:=fQ Tryz.func126
instance : HasF Tryz.prog 127:=fQ Tryz.func127
instance : HasF Tryz.prog 128:=fQ Tryz.func128
instance : HasF Tryz.prog 129:=fQ Tryz.func129
instance : HasF Tryz.prog 130:=fQ Tryz.func130
instance : HasF Tryz.prog 131:=fQ Tryz.func131
instance : HasF Tryz.prog 132:=fQ Tryz.func132
instance : HasF Tryz.prog 133:=fQ Tryz.func133
instance : HasF Tryz.prog 134:=fQ Tryz.func134
instance : HasF Tryz.prog 135:=fQ Tryz.func135
instance : HasF Tryz.prog 136:=fQ Tryz.func136
instance : HasF Tryz.prog 137:=fQ Tryz.func137
instance : HasF Tryz.prog 138:=fQ Tryz.func138
instance : HasF Tryz.prog 139:=fQ Tryz.func139
instance : HasF Tryz.prog 140:=fQ Tryz.func140
instance : HasF Tryz.prog 141:=fQ Tryz.func141
instance : HasF Tryz.prog 142:=fQ Tryz.func142
instance : HasF Tryz.prog 143:=fQ Tryz.func143
instance : HasF Tryz.prog 144:=fQ Tryz.func144
instance : HasF Tryz.prog 145:=fQ Tryz.func145
instance : HasF Tryz.prog 146:=fQ Tryz.func146
instance : HasF Tryz.prog 147:=fQ Tryz.func147
instance : HasF Tryz.prog 148:=fQ Tryz.func148
instance : HasF Tryz.prog 149:=fQ Tryz.func149
instance : HasF Tryz.prog 150:=fQ Tryz.func150
instance : HasF Tryz.prog 151:=fQ Tryz.func151
instance : HasF Tryz.prog 152:=fQ Tryz.func152
instance : HasF Tryz.prog 153:=fQ Tryz.func153
instance : HasF Tryz.prog 155:=fQ Tryz.func155
instance : HasF Tryz.prog 156:=fQ Tryz.func156
instance : HasF Tryz.prog 157:=fQ Tryz.func157
instance : HasF Tryz.prog 158:=fQ Tryz.func158
instance : HasF Tryz.prog 159:=fQ Tryz.func159
instance : HasF Tryz.prog 162:=fQ Tryz.func162
instance : HasF Tryz.prog 163:=fQ Tryz.func163
instance : HasF Tryz.prog 169:=fQ Tryz.func169
instance : HasF Tryz.prog 172:=fQ Tryz.func172
instance : HasF Tryz.prog 173:=fQ Tryz.func173
instance : HasF Tryz.prog 174:=fQ Tryz.func174
instance : HasF Tryz.prog 178:=fQ Tryz.func178
instance : HasF Tryz.prog 179:=fQ Tryz.func179
instance : HasF Tryz.prog 180:=fQ Tryz.func180
instance : HasF Tryz.prog 181:=fQ Tryz.func181
instance : HasF Tryz.prog 182:=fQ Tryz.func182
instance : HasF Tryz.prog 184:=fQ Tryz.func184
instance : HasF Tryz.prog 185:=fQ Tryz.func185
instance : HasF Tryz.prog 186:=fQ Tryz.func186
instance : HasF Tryz.prog 187:=fQ Tryz.func187
instance : HasF Tryz.prog 188:=fQ Tryz.func188
instance : HasF Tryz.prog 189:=fQ Tryz.func189
instance : HasF Tryz.prog 190:=fQ Tryz.func190
instance : HasF Tryz.prog 193:=fQ Tryz.func193
instance : HasF Tryz.prog 194:=fQ Tryz.func194
instance : HasF Tryz.prog 195:=fQ Tryz.func195
instance : HasF Tryz.prog 196:=fQ Tryz.func196
instance : HasF Tryz.prog 197:=fQ Tryz.func197
instance : HasF Tryz.prog 198:=fQ Tryz.func198
instance : HasF Tryz.prog 199:=fQ Tryz.func199
instance : HasF Tryz.prog 201:=fQ Tryz.func201
instance : HasF Tryz.prog 202:=fQ Tryz.func202
instance : HasF Tryz.prog 203:=fQ Tryz.func203
instance : HasF Tryz.prog 205:=fQ Tryz.func205
instance : HasF Tryz.prog 206:=fQ Tryz.func206
instance : HasF Tryz.prog 208:=fQ Tryz.func208
instance : HasF Tryz.prog 209:=fQ Tryz.func209
instance : HasF Tryz.prog 211:=fQ Tryz.func211
instance : HasF Tryz.prog 212:=fQ Tryz.func212
instance : HasF Tryz.prog 213:=fQ Tryz.func213
instance : HasF Tryz.prog 214:=fQ Tryz.func214
instance : HasF Tryz.prog 215:=fQ Tryz.func215
instance : HasF Tryz.prog 216:=fQ Tryz.func216
instance : HasF Tryz.prog 217:=fQ Tryz.func217
instance : HasF Tryz.prog 218:=fQ Tryz.func218
instance : HasF Tryz.prog 219:=fQ Tryz.func219
instance : HasF Tryz.prog 220:=fQ Tryz.func220
instance : HasF Tryz.prog 221:=fQ Tryz.func221
instance : HasF Tryz.prog 222:=fQ Tryz.func222
instance : HasF Tryz.prog 223:=fQ Tryz.func223
instance : HasF Tryz.prog 224:=fQ Tryz.func224
instance : HasF Tryz.prog 225:=fQ Tryz.func225
instance : HasF Tryz.prog 226:=fQ Tryz.func226
instance : HasF Tryz.prog 227:=fQ Tryz.func227
instance : HasF Tryz.prog 228:=fQ Tryz.func228
instance : HasF Tryz.prog 229:=fQ Tryz.func229
instance : HasF Tryz.prog 230:=fQ Tryz.func230
instance : HasF Tryz.prog 231:=fQ Tryz.func231
instance : HasF Tryz.prog 233:=fQ Tryz.func233
instance : HasF Tryz.prog 234:=fQ Tryz.func234
instance : HasF Tryz.prog 236:=fQ Tryz.func236
instance : HasF Tryz.prog 237:=fQ Tryz.func237
instance : HasF Tryz.prog 238:=fQ Tryz.func238
instance : HasF Tryz.prog 239:=fQ Tryz.func239
instance : HasF Tryz.prog 250:=fQ Tryz.func250
instance : HasF Tryz.prog 251:=fQ Tryz.func251
instance : HasF Tryz.prog 252:=fQ Tryz.func252
instance : HasF Tryz.prog 253:=fQ Tryz.func253
instance : HasF Tryz.prog 257:=fQ Tryz.func257
instance : HasF Tryz.prog 258:=fQ Tryz.func258
instance : HasF Tryz.prog 259:=fQ Tryz.func259
instance : HasF Tryz.prog 260:=fQ Tryz.func260
instance : HasF Tryz.prog 261:=fQ Tryz.func261
instance : HasF Tryz.prog 262:=fQ Tryz.func262
instance : HasF Tryz.prog 263:=fQ Tryz.func263
instance : HasF Tryz.prog 264:=fQ Tryz.func264
instance : HasF Tryz.prog 265:=fQ Tryz.func265
instance : HasF Tryz.prog 267:=fQ Tryz.func267
instance : HasF Tryz.prog 268:=fQ Tryz.func268
instance : HasF Tryz.prog 269:=fQ Tryz.func269
instance : HasF Tryz.prog 270:=fQ Tryz.func270
instance : HasF Tryz.prog 271:=fQ Tryz.func271
instance : HasF Tryz.prog 272:=fQ Tryz.func272
instance : HasF Tryz.prog 273:=fQ Tryz.func273
instance : HasF Tryz.prog 274:=fQ Tryz.func274
instance : HasF Tryz.prog 275:=fQ Tryz.func275
instance : HasF Tryz.prog 276:=fQ Tryz.func276
instance : HasF Tryz.prog 279:=fQ Tryz.func279
instance : HasF Tryz.prog 280:=fQ Tryz.func280
instance : HasF Tryz.prog 281:=fQ Tryz.func281
instance : HasF Tryz.prog 282:=fQ Tryz.func282
instance : HasF Tryz.prog 283:=fQ Tryz.func283
instance : HasF Tryz.prog 284:=fQ Tryz.func284
instance : HasF Tryz.prog 285:=fQ Tryz.func285
instance : HasF Tryz.prog 286:=fQ Tryz.func286
instance : HasF Tryz.prog 287:=fQ Tryz.func287
instance : HasF Tryz.prog 288:=fQ Tryz.func288
instance : HasF Tryz.prog 289:=fQ Tryz.func289
instance : HasF Tryz.prog 290:=fQ Tryz.func290
instance : HasF Tryz.prog 291:=fQ Tryz.func291
instance : HasF Tryz.prog 292:=fQ Tryz.func292
instance : HasF Tryz.prog 293:=fQ Tryz.func293
instance : HasF Tryz.prog 294:=fQ Tryz.func294
instance : HasF Tryz.prog 295:=fQ Tryz.func295
instance : HasF Tryz.prog 296:=fQ Tryz.func296
instance : HasF Tryz.prog 297:=fQ Tryz.func297
instance : HasF Tryz.prog 298:=fQ Tryz.func298
instance : HasF Tryz.prog 299:=fQ Tryz.func299
instance : HasF Tryz.prog 300:=fQ Tryz.func300
instance : HasF Tryz.prog 301:=fQ Tryz.func301
instance : HasF Tryz.prog 302:=fQ Tryz.func302
instance : HasF Tryz.prog 303:=fQ Tryz.func303
instance : HasF Tryz.prog 304:=fQ Tryz.func304
instance : HasF Tryz.prog 305:=fQ Tryz.func305
instance : HasF Tryz.prog 306:=fQ Tryz.func306
instance : HasF Tryz.prog 307:=fQ Tryz.func307
instance : HasF Tryz.prog 308:=fQ Tryz.func308
instance : HasF Tryz.prog 310:=fQ Tryz.func310
instance : HasF Tryz.prog 316:=fQ Tryz.func316
instance : HasF Tryz.prog 333:=fQ Tryz.func333
instance : HasF Tryz.prog 334:=fQ Tryz.func334
instance : HasF Tryz.prog 338:=fQ Tryz.func338
instance : HasF Tryz.prog 339:=fQ Tryz.func339
instance : HasF Tryz.prog 340:=fQ Tryz.func340
instance : HasF Tryz.prog 341:=fQ Tryz.func341
instance : HasF Tryz.prog 342:=fQ Tryz.func342
instance : HasF Tryz.prog 350:=fQ Tryz.func350
instance : HasF Tryz.prog 351:=fQ Tryz.func351
instance : HasF Tryz.prog 352:=fQ Tryz.func352
instance : HasF Tryz.prog 353:=fQ Tryz.func353
instance : HasF Tryz.prog 354:=fQ Tryz.func354
instance : HasF Tryz.prog 355:=fQ Tryz.func355
instance : HasF Tryz.prog 356:=fQ Tryz.func356
instance : HasF Tryz.prog 357:=fQ Tryz.func357
instance : HasF Tryz.prog 358:=fQ Tryz.func358
instance : HasF Tryz.prog 359:=fQ Tryz.func359
instance : HasF Tryz.prog 360:=fQ Tryz.func360
instance : HasF Tryz.prog 361:=fQ Tryz.func361
instance : HasF Tryz.prog 362:=fQ Tryz.func362
instance : HasF Tryz.prog 363:=fQ Tryz.func363
instance : HasF Tryz.prog 364:=fQ Tryz.func364
instance : HasF Tryz.prog 365:=fQ Tryz.func365
instance : HasF Tryz.prog 366:=fQ Tryz.func366
instance : HasF Tryz.prog 367:=fQ Tryz.func367
instance : HasF Tryz.prog 368:=fQ Tryz.func368
instance : HasF Tryz.prog 369:=fQ Tryz.func369
instance : HasF Tryz.prog 370:=fQ Tryz.func370
instance : HasF Tryz.prog 371:=fQ Tryz.func371
instance : HasF Tryz.prog 390:=fQ Tryz.func390
instance : HasF Tryz.prog 398:=fQ Tryz.func398
instance : HasF Tryz.prog 400:=fQ Tryz.func400
instance : HasF Tryz.prog 401:=fQ Tryz.func401
instance : HasF Tryz.prog 402:=fQ Tryz.func402
instance : HasF Tryz.prog 403:=fQ Tryz.func403
instance : HasF Tryz.prog 404:=fQ Tryz.func404
instance : HasF Tryz.prog 405:=fQ Tryz.func405
instance : HasF Tryz.prog 406:=fQ Tryz.func406
instance : HasF Tryz.prog 407:=fQ Tryz.func407
instance : HasF Tryz.prog 408:=fQ Tryz.func408
instance : HasF Tryz.prog 411:=fQ Tryz.func411
instance : HasF Tryz.prog 427:=fQ Tryz.func427
instance : HasF Tryz.prog 428:=fQ Tryz.func428
instance : HasF Tryz.prog 430:=fQ Tryz.func430
instance : HasF Tryz.prog 431:=fQ Tryz.func431
instance : HasF Tryz.prog 444:=fQ Tryz.func444
end Go.Proofs.YtfmnjbhncnldmaaGreat
