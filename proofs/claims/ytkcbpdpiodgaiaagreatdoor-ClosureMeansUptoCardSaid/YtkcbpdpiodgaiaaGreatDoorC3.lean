/-
 The types of this seat: a table made by a program, checked by the kernel.
 More rules: integers of other kinds, stable operations, maps.
 Rules for the automatic walk: guarded operations, indices, loops over what they change.
 The data of the program as Lean types, and how they lie in values.
 Contracts: numbers.
 Contracts: numbers from texts.
 Contracts: a number by another one.
 Contracts: the document's reading of a number.
 Contracts: data, the document's.
 Plain law: the document's reading of texts, as a function.
 Plain law: the document's expander of forms, as a function.
 Contracts: Go's library, as far as the program calls it.
 Contracts: the program's reading of a number.
 Contracts: package slices at the program's types (written by tools/gen_slices.py).
 Contracts: the program's data.
 Contracts: how many.
 Contracts: the document's check of terms.
 Contracts: the program's check of terms, the small functions.
 Plain law: core data, and terms of them, as functions.
 Plain law: data, their parts and sizes.
 Contracts: the document's check of terms, the rest of it.
 Contracts: the document's check of terms, within a scope.
-/
import Derived.Lib.Bytealg
import Derived.Test.YtkcbpdpiodgaiaaGreatDoorProg
import Derived.Test.YtkcbpdpiodgaiaaGreatDoorC2
set_option linter.unusedSimpArgs false
set_option linter.unusedVariables false
namespace Go.Cb
open Go.Proofs
set_option maxRecDepth 100000
def tl:List TI:= [
 TI.none,
 ⟨.fn,1,8, [.fn]⟩,
 ⟨.int .i64,1,8, [.int .i64]⟩,
 ⟨.int .i64,1,8, [.int .i64]⟩,
 ⟨.bool,1,1, [.bool]⟩,
 ⟨.int .u8,1,1, [.int .u8]⟩,
 ⟨.int .u8,1,1, [.int .u8]⟩,
 ⟨.st [(0,1,false),(1,1,false),(2,1,false),(3,1,false)],4,24, [.int .i64,.int .i64,.bool,.int .u8]⟩,
 ⟨.st [(0,1,false),(1,1,false),(2,1,false),(3,1,false)],4,24, [.int .i64,.int .i64,.bool,.int .u8]⟩,
 ⟨.str,1,16, [.str]⟩,
 ⟨.str,1,16, [.str]⟩,
 ⟨.str,1,16, [.str]⟩,
 ⟨.int .u64,1,8, [.int .u64]⟩,
 ⟨.st [(0,1,false),(1,1,false)],2,24, [.str,.int .u64]⟩,
 ⟨.st [(0,1,false),(1,1,false)],2,24, [.str,.int .u64]⟩,
 ⟨.ptr 306,1,8, [.ptr]⟩,
 ⟨.ptr 309,1,8, [.ptr]⟩,
 ⟨.ptr 316,1,8, [.ptr]⟩,
 ⟨.st [(0,1,false)],1,8, [.ptr]⟩,
 ⟨.st [(0,1,false)],1,8, [.ptr]⟩,
 ⟨.rO,1,16, [.rO]⟩,
 ⟨.int .i32,1,4, [.int .i32]⟩,
 ⟨.sl 54,1,24, [.sl]⟩,
 ⟨.sl 3,1,24, [.sl]⟩,
 ⟨.sl 26,1,24, [.sl]⟩,
 ⟨.st [(0,1,false),(1,1,false),(2,1,false),(3,1,false)],4,64, [.int .i64,.int .i64,.sl,.sl]⟩,
 ⟨.st [(0,1,false),(1,1,false),(2,1,false),(3,1,false)],4,64, [.int .i64,.int .i64,.sl,.sl]⟩,
 ⟨.st [(0,1,false),(1,4,true)],5,88, [.sl,.int .i64,.int .i64,.sl,.sl]⟩,
 ⟨.st [(0,1,false),(1,4,true)],5,88, [.sl,.int .i64,.int .i64,.sl,.sl]⟩,
 ⟨.st [(0,1,false),(1,1,false),(2,1,false)],3,24, [.int .i64,.int .i64,.int .i64]⟩,
 ⟨.st [(0,1,false),(1,1,false),(2,1,false)],3,24, [.int .i64,.int .i64,.int .i64]⟩,
 ⟨.fn,1,8, [.fn]⟩,
 ⟨.fn,1,8, [.fn]⟩,
 ⟨.fn,1,8, [.fn]⟩,
 ⟨.st [(0,1,false),(1,1,false),(2,1,false)],3,24, [.int .i64,.int .i64,.int .i64]⟩,
 ⟨.int .i64,1,8, [.int .i64]⟩,
 TI.none,
 ⟨.fn,1,8, [.fn]⟩,
 ⟨.fn,1,8, [.fn]⟩,
 ⟨.fn,1,8, [.fn]⟩,
 ⟨.fn,1,8, [.fn]⟩,
 ⟨.fn,1,8, [.fn]⟩,
 ⟨.fn,1,8, [.fn]⟩,
 ⟨.fn,1,8, [.fn]⟩,
 TI.none,
 ⟨.fn,1,8, [.fn]⟩,
 ⟨.sl 83,1,24, [.sl]⟩,
 ⟨.st [(0,1,false),(1,1,false),(2,4,true)],6,112, [.sl,.sl,.int .i64,.int .i64,.sl,.sl]⟩,
 ⟨.st [(0,1,false),(1,1,false),(2,4,true)],6,112, [.sl,.sl,.int .i64,.int .i64,.sl,.sl]⟩,
 TI.none,
 ⟨.fn,1,8, [.fn]⟩,
 ⟨.fn,1,8, [.fn]⟩,
 ⟨.fn,1,8, [.fn]⟩,
 ⟨.st [(0,1,false),(1,1,false),(2,1,false),(3,1,false),(4,1,false)],5,64, [.int .i64,.int .i64,.int .i64,.str,.sl]⟩,
 ⟨.st [(0,1,false),(1,1,false),(2,1,false),(3,1,false),(4,1,false)],5,64, [.int .i64,.int .i64,.int .i64,.str,.sl]⟩,
 ⟨.ptr 58,1,8, [.ptr]⟩,
 ⟨.mp 3 26,1,8, [.mp]⟩,
 ⟨.st [(0,3,true),(3,1,false),(4,1,false)],5,40, [.int .i64,.int .i64,.int .i64,.int .i64,.mp]⟩,
 ⟨.st [(0,3,true),(3,1,false),(4,1,false)],5,40, [.int .i64,.int .i64,.int .i64,.int .i64,.mp]⟩,
 ⟨.fn,1,8, [.fn]⟩,
 ⟨.fn,1,8, [.fn]⟩,
 ⟨.fn,1,8, [.fn]⟩,
 ⟨.ptr 65,1,8, [.ptr]⟩,
 ⟨.fn,1,8, [.fn]⟩,
 ⟨.st [(0,1,false),(1,1,false),(2,1,false),(3,1,false),(4,1,false),(5,1,false),(6,1,false)],7,72, [.int .i64,.int .i64,.int .i64,.bool,.int .i64,.sl,.bool]⟩,
 ⟨.st [(0,1,false),(1,1,false),(2,1,false),(3,1,false),(4,1,false),(5,1,false),(6,1,false)],7,72, [.int .i64,.int .i64,.int .i64,.bool,.int .i64,.sl,.bool]⟩,
 ⟨.fn,1,8, [.fn]⟩,
 ⟨.st [(0,1,false),(1,1,false),(2,1,false)],3,40, [.str,.int .i64,.str]⟩,
 ⟨.st [(0,1,false),(1,1,false),(2,1,false)],3,40, [.str,.int .i64,.str]⟩,
 ⟨.fn,1,8, [.fn]⟩,
 ⟨.fn,1,8, [.fn]⟩,
 ⟨.ptr 74,1,8, [.ptr]⟩,
 ⟨.mp 3 4,1,8, [.mp]⟩,
 ⟨.st [(0,1,false),(1,1,false)],2,16, [.mp,.int .i64]⟩,
 ⟨.st [(0,1,false),(1,1,false)],2,16, [.mp,.int .i64]⟩,
 ⟨.fn,1,8, [.fn]⟩,
 ⟨.ptr 79,1,8, [.ptr]⟩,
 ⟨.mp 3 114,1,8, [.mp]⟩,
 ⟨.st [(0,1,false),(1,1,false)],2,32, [.sl,.mp]⟩,
 ⟨.st [(0,1,false),(1,1,false)],2,32, [.sl,.mp]⟩,
 ⟨.fn,1,8, [.fn]⟩,
 ⟨.fn,1,8, [.fn]⟩,
 ⟨.st [(0,1,false),(1,1,false),(2,4,true)],6,96, [.sl,.bool,.int .i64,.int .i64,.sl,.sl]⟩,
 ⟨.st [(0,1,false),(1,1,false),(2,4,true)],6,96, [.sl,.bool,.int .i64,.int .i64,.sl,.sl]⟩,
 ⟨.fn,1,8, [.fn]⟩,
 ⟨.fn,1,8, [.fn]⟩,
 ⟨.ptr 88,1,8, [.ptr]⟩,
 ⟨.st [(0,1,false),(1,1,false),(2,1,false),(3,1,false),(4,1,false),(5,1,false)],6,48, [.int .i64,.int .i64,.int .i64,.bool,.int .i64,.mp]⟩,
 ⟨.st [(0,1,false),(1,1,false),(2,1,false),(3,1,false),(4,1,false),(5,1,false)],6,48, [.int .i64,.int .i64,.int .i64,.bool,.int .i64,.mp]⟩,
 ⟨.fn,1,8, [.fn]⟩,
 ⟨.fn,1,8, [.fn]⟩,
 ⟨.fn,1,8, [.fn]⟩,
 ⟨.fn,1,8, [.fn]⟩,
 ⟨.st [(0,4,true),(4,1,false)],5,88, [.int .i64,.int .i64,.sl,.sl,.sl]⟩,
 ⟨.st [(0,4,true),(4,1,false)],5,88, [.int .i64,.int .i64,.sl,.sl,.sl]⟩,
 ⟨.fn,1,8, [.fn]⟩,
 TI.none,
 ⟨.fn,1,8, [.fn]⟩,
 ⟨.fn,1,8, [.fn]⟩,
 ⟨.fn,1,8, [.fn]⟩,
 ⟨.fn,1,8, [.fn]⟩,
 ⟨.fn,1,8, [.fn]⟩,
 ⟨.fn,1,8, [.fn]⟩,
 ⟨.fn,1,8, [.fn]⟩,
 ⟨.fn,1,8, [.fn]⟩,
 ⟨.fn,1,8, [.fn]⟩,
 ⟨.fn,1,8, [.fn]⟩,
 ⟨.fn,1,8, [.fn]⟩,
 ⟨.fn,1,8, [.fn]⟩,
 ⟨.fn,1,8, [.fn]⟩,
 ⟨.fn,1,8, [.fn]⟩,
 TI.none,
 ⟨.fn,1,8, [.fn]⟩,
 ⟨.st [(0,1,false),(1,1,false)],2,16, [.int .i64,.bool]⟩,
 ⟨.st [(0,1,false),(1,1,false)],2,16, [.int .i64,.bool]⟩,
 TI.none,
 ⟨.fn,1,8, [.fn]⟩,
 ⟨.fn,1,8, [.fn]⟩,
 ⟨.fn,1,8, [.fn]⟩,
 ⟨.st [(0,1,false),(1,1,false),(2,1,false),(3,1,false),(4,1,false)],5,32, [.int .i64,.int .i64,.int .i64,.bool,.bool]⟩,
 ⟨.st [(0,1,false),(1,1,false),(2,1,false),(3,1,false),(4,1,false)],5,32, [.int .i64,.int .i64,.int .i64,.bool,.bool]⟩,
 TI.none,
 ⟨.fn,1,8, [.fn]⟩,
 ⟨.fn,1,8, [.fn]⟩,
 ⟨.fn,1,8, [.fn]⟩,
 ⟨.fn,1,8, [.fn]⟩,
 ⟨.fn,1,8, [.fn]⟩,
 ⟨.fn,1,8, [.fn]⟩,
 ⟨.fn,1,8, [.fn]⟩,
 ⟨.fn,1,8, [.fn]⟩,
 ⟨.mp 3 3,1,8, [.mp]⟩,
 ⟨.fn,1,8, [.fn]⟩,
 TI.none,
 ⟨.fn,1,8, [.fn]⟩,
 ⟨.ptr 142,1,8, [.ptr]⟩,
 ⟨.sl 140,1,24, [.sl]⟩,
 ⟨.sl 4,1,24, [.sl]⟩,
 ⟨.ptr 172,1,8, [.ptr]⟩,
 ⟨.ptr 170,1,8, [.ptr]⟩,
 ⟨.st [(0,1,false),(1,1,false),(2,1,false),(3,1,false),(4,1,false),(5,1,false),(6,1,false)],7,80, [.int .i64,.int .i64,.int .i64,.str,.sl,.ptr,.ptr]⟩,
 ⟨.st [(0,1,false),(1,1,false),(2,1,false),(3,1,false),(4,1,false),(5,1,false),(6,1,false)],7,80, [.int .i64,.int .i64,.int .i64,.str,.sl,.ptr,.ptr]⟩,
 ⟨.st [(0,1,false),(1,1,false),(2,1,false),(3,1,false),(4,1,false),(5,1,false),(6,7,true)],13,184, [.sl,.sl,.int .i64,.str,.sl,.int .i64,.int .i64,.int .i64,.int .i64,.str,.sl,.ptr,.ptr]⟩,
 ⟨.st [(0,1,false),(1,1,false),(2,1,false),(3,1,false),(4,1,false),(5,1,false),(6,7,true)],13,184, [.sl,.sl,.int .i64,.str,.sl,.int .i64,.int .i64,.int .i64,.int .i64,.str,.sl,.ptr,.ptr]⟩,
 ⟨.fn,1,8, [.fn]⟩,
 TI.none,
 ⟨.fn,1,8, [.fn]⟩,
 ⟨.fn,1,8, [.fn]⟩,
 ⟨.fn,1,8, [.fn]⟩,
 ⟨.fn,1,8, [.fn]⟩,
 ⟨.fn,1,8, [.fn]⟩,
 ⟨.fn,1,8, [.fn]⟩,
 ⟨.fn,1,8, [.fn]⟩,
 ⟨.fn,1,8, [.fn]⟩,
 ⟨.fn,1,8, [.fn]⟩,
 TI.none,
 ⟨.fn,1,8, [.fn]⟩,
 ⟨.st [(0,1,false),(1,1,false),(2,1,false),(3,1,false),(4,1,false)],5,40, [.str,.int .i64,.int .i64,.bool,.bool]⟩,
 ⟨.st [(0,1,false),(1,1,false),(2,1,false),(3,1,false),(4,1,false)],5,40, [.str,.int .i64,.int .i64,.bool,.bool]⟩,
 TI.none,
 ⟨.fn,1,8, [.fn]⟩,
 ⟨.fn,1,8, [.fn]⟩,
 ⟨.sl 23,1,24, [.sl]⟩,
 ⟨.fn,1,8, [.fn]⟩,
 ⟨.fn,1,8, [.fn]⟩,
 ⟨.fn,1,8, [.fn]⟩,
 ⟨.int .u64,1,8, [.int .u64]⟩,
 ⟨.fn,1,8, [.fn]⟩,
 ⟨.ptr 198,1,8, [.ptr]⟩,
 ⟨.fn,1,8, [.fn]⟩,
 ⟨.st [(0,7,true),(7,1,false)],8,88, [.int .i64,.int .i64,.int .i64,.str,.sl,.ptr,.ptr,.bool]⟩,
 ⟨.st [(0,7,true),(7,1,false)],8,88, [.int .i64,.int .i64,.int .i64,.str,.sl,.ptr,.ptr,.bool]⟩,
 ⟨.st [(0,1,false),(1,1,false),(2,4,true),(6,1,false),(7,1,false),(8,1,false)],9,136, [.sl,.bool,.int .i64,.int .i64,.sl,.sl,.ptr,.int .i64,.sl]⟩,
 ⟨.st [(0,1,false),(1,1,false),(2,4,true),(6,1,false),(7,1,false),(8,1,false)],9,136, [.sl,.bool,.int .i64,.int .i64,.sl,.sl,.ptr,.int .i64,.sl]⟩,
 ⟨.fn,1,8, [.fn]⟩,
 TI.none,
 ⟨.fn,1,8, [.fn]⟩,
 ⟨.fn,1,8, [.fn]⟩,
 ⟨.fn,1,8, [.fn]⟩,
 ⟨.ptr 9,1,8, [.ptr]⟩,
 ⟨.fn,1,8, [.fn]⟩,
 ⟨.arr 31 157,155,1240,(List.replicate 31 [.str,.int .i64,.int .i64,.bool,.bool]).flatten⟩,
 ⟨.fn,1,8, [.fn]⟩,
 ⟨.fn,1,8, [.fn]⟩,
 ⟨.int .i64,1,8, [.int .i64]⟩,
 TI.none,
 ⟨.fn,1,8, [.fn]⟩,
 ⟨.fn,1,8, [.fn]⟩,
 ⟨.fn,1,8, [.fn]⟩,
 ⟨.fn,1,8, [.fn]⟩,
 ⟨.fn,1,8, [.fn]⟩,
 ⟨.int .u32,1,4, [.int .u32]⟩,
 ⟨.fn,1,8, [.fn]⟩,
 ⟨.int .u64,1,8, [.int .u64]⟩,
 ⟨.fn,1,8, [.fn]⟩,
 ⟨.fn,1,8, [.fn]⟩,
 TI.none,
 ⟨.fn,1,8, [.fn]⟩,
 ⟨.st [(0,1,false),(1,1,false),(2,1,false)],3,24, [.int .i64,.ptr,.ptr]⟩,
 ⟨.st [(0,1,false),(1,1,false),(2,1,false)],3,24, [.int .i64,.ptr,.ptr]⟩,
 ⟨.fn,1,8, [.fn]⟩,
 ⟨.fn,1,8, [.fn]⟩,
 ⟨.fn,1,8, [.fn]⟩,
 ⟨.fn,1,8, [.fn]⟩,
 ⟨.sl 9,1,24, [.sl]⟩,
 ⟨.fn,1,8, [.fn]⟩,
 ⟨.sl 5,1,24, [.sl]⟩,
 ⟨.int .u64,1,8, [.int .u64]⟩,
 ⟨.fn,1,8, [.fn]⟩,
 ⟨.fn,1,8, [.fn]⟩,
 ⟨.fn,1,8, [.fn]⟩,
 ⟨.ptr 3,1,8, [.ptr]⟩,
 ⟨.fn,1,8, [.fn]⟩,
 TI.none,
 ⟨.fn,1,8, [.fn]⟩,
 TI.none,
 ⟨.fn,1,8, [.fn]⟩,
 TI.none,
 ⟨.fn,1,8, [.fn]⟩,
 ⟨.fn,1,8, [.fn]⟩,
 ⟨.fn,1,8, [.fn]⟩,
 ⟨.fn,1,8, [.fn]⟩,
 ⟨.fn,1,8, [.fn]⟩,
 ⟨.fn,1,8, [.fn]⟩,
 ⟨.arr 256 4,256,256,(List.replicate 256 (.bool))⟩,
 ⟨.arr 256 4,256,256,(List.replicate 256 (.bool))⟩,
 TI.none,
 ⟨.fn,1,8, [.fn]⟩,
 ⟨.fn,1,8, [.fn]⟩,
 ⟨.ptr 224,1,8, [.ptr]⟩,
 ⟨.fn,1,8, [.fn]⟩,
 TI.none,
 ⟨.fn,1,8, [.fn]⟩,
 TI.none,
 ⟨.fn,1,8, [.fn]⟩,
 ⟨.fn,1,8, [.fn]⟩,
 ⟨.ptr 206,1,8, [.ptr]⟩,
 ⟨.fn,1,8, [.fn]⟩,
 ⟨.fn,1,8, [.fn]⟩,
 ⟨.fn,1,8, [.fn]⟩,
 ⟨.fn,1,8, [.fn]⟩,
 ⟨.fn,1,8, [.fn]⟩,
 ⟨.fn,1,8, [.fn]⟩,
 TI.none,
 ⟨.fn,1,8, [.fn]⟩,
 ⟨.fn,1,8, [.fn]⟩,
 TI.none,
 ⟨.fn,1,8, [.fn]⟩,
 ⟨.fn,1,8, [.fn]⟩,
 ⟨.rO,1,16, [.rO]⟩,
 ⟨.rO,1,16, [.rO]⟩,
 TI.none,
 ⟨.fn,1,8, [.fn]⟩,
 ⟨.st [(0,1,false),(1,1,false),(2,1,false),(3,1,false),(4,1,false)],5,40, [.str,.int .i64,.int .i64,.bool,.bool]⟩,
 TI.none,
 ⟨.fn,1,8, [.fn]⟩,
 TI.none,
 ⟨.fn,1,8, [.fn]⟩,
 ⟨.fn,1,8, [.fn]⟩,
 ⟨.fn,1,8, [.fn]⟩,
 ⟨.fn,1,8, [.fn]⟩,
 ⟨.fn,1,8, [.fn]⟩,
 ⟨.fn,1,8, [.fn]⟩,
 ⟨.fn,1,8, [.fn]⟩,
 ⟨.fn,1,8, [.fn]⟩,
 ⟨.fn,1,8, [.fn]⟩,
 ⟨.fn,1,8, [.fn]⟩,
 TI.none,
 ⟨.fn,1,8, [.fn]⟩,
 ⟨.arr 256 5,256,256,(List.replicate 256 (.int .u8))⟩,
 ⟨.st [(0,1,false),(1,1,false)],2,2, [.int .u8,.int .u8]⟩,
 ⟨.st [(0,1,false),(1,1,false)],2,2, [.int .u8,.int .u8]⟩,
 ⟨.arr 16 270,32,32,(List.replicate 32 (.int .u8))⟩,
 ⟨.fn,1,8, [.fn]⟩,
 ⟨.fn,1,8, [.fn]⟩,
 ⟨.int .i64,1,8, [.int .i64]⟩,
 TI.none,
 ⟨.fn,1,8, [.fn]⟩,
 ⟨.ptr 287,1,8, [.ptr]⟩,
 ⟨.fn,1,8, [.fn]⟩,
 ⟨.fn,1,8, [.fn]⟩,
 ⟨.fn,1,8, [.fn]⟩,
 TI.none,
 ⟨.fn,1,8, [.fn]⟩,
 TI.none,
 ⟨.fn,1,8, [.fn]⟩,
 ⟨.fn,1,8, [.fn]⟩,
 ⟨.st [(0,1,false),(1,1,false),(2,1,false)],3,48, [.str,.str,.rO]⟩,
 ⟨.st [(0,1,false),(1,1,false),(2,1,false)],3,48, [.str,.str,.rO]⟩,
 ⟨.fn,1,8, [.fn]⟩,
 ⟨.fn,1,8, [.fn]⟩,
 ⟨.ptr 5,1,8, [.ptr]⟩,
 ⟨.ptr 293,1,8, [.ptr]⟩,
 ⟨.st [(0,1,false)],1,16, [.str]⟩,
 ⟨.st [(0,1,false)],1,16, [.str]⟩,
 ⟨.fn,1,8, [.fn]⟩,
 ⟨.arr 24 5,24,24,(List.replicate 24 (.int .u8))⟩,
 ⟨.fn,1,8, [.fn]⟩,
 TI.none,
 ⟨.fn,1,8, [.fn]⟩,
 ⟨.fn,1,8, [.fn]⟩,
 ⟨.arr 20 192,20,160,(List.replicate 20 (.int .u64))⟩,
 ⟨.arr 65 5,65,65,(List.replicate 65 (.int .u8))⟩,
 ⟨.arr 32 5,32,32,(List.replicate 32 (.int .u8))⟩,
 ⟨.arr 64 5,64,64,(List.replicate 64 (.int .u8))⟩,
 ⟨.fn,1,8, [.fn]⟩,
 ⟨.st [(0,1,false),(1,1,false),(2,1,false),(3,1,false)],4,40, [.ptr,.ptr,.ptr,.str]⟩,
 ⟨.st [(0,1,false),(1,1,false),(2,1,false),(3,1,false)],4,40, [.ptr,.ptr,.ptr,.str]⟩,
 TI.none,
 TI.none,
 TI.none,
 ⟨.int .u8,1,1, [.int .u8]⟩,
 ⟨.int .u8,1,1, [.int .u8]⟩,
 ⟨.fn,1,8, [.fn]⟩,
 ⟨.int .i32,1,4, [.int .i32]⟩,
 ⟨.int .i32,1,4, [.int .i32]⟩,
 ⟨.st [(0,1,false),(1,1,false),(2,1,false),(3,1,false),(4,1,false),(5,1,false),(6,1,false),(7,1,false),(8,1,false),(9,1,false),(10,1,false)],11,48, [.int .u64,.int .u64,.int .u32,.int .u8,.int .u8,.int .u8,.int .u8,.fn,.ptr,.int .i32,.int .i32]⟩,
 ⟨.st [(0,1,false),(1,1,false),(2,1,false),(3,1,false),(4,1,false),(5,1,false),(6,1,false),(7,1,false),(8,1,false),(9,1,false),(10,1,false)],11,48, [.int .u64,.int .u64,.int .u32,.int .u8,.int .u8,.int .u8,.int .u8,.fn,.ptr,.int .i32,.int .i32]⟩,
 TI.none]
def tt:Nat→TI:=bK tl
theorem aj:TT.ok Tryz.prog tt:=No (l:=tl) (by kernel_rfl)
theorem mixed:Tryz.prog.follows .mixedOrders=true:=rfl
theorem qK.of {B:(PV→List ak→Prop)→Prop} {Γ:List ak} {k:PV→Prop} (v:PV) (h1:B (fun p Γ'=>bV p Γ' v Γ)) (h2:k v):qK B Γ k:=⟨v,h1,h2⟩
theorem Az {k:IntKind} {v u:Int} (h:k.wrap v=u) {K:Int→Prop} (hk:K u):kE k v K:=⟨h▸hk⟩
theorem wrap_u64 {v:Int} (h1:0≤v) (h2:v < 18446744073709551616):IntKind.u64.wrap v=v:=by
 simp only[IntKind.wrap,IntKind.bits,IntKind.signed];simp;omega
theorem kE.u64 {v:Int} {K:Int→Prop} (h1:0≤v) (h2:v < 18446744073709551616) (k:K v):kE .u64 v K:=Az (wrap_u64 h1 h2) k
theorem AA {v:Int} (h1: -18446744073709551616≤v) (h2:v < 0):IntKind.u64.wrap v=v + 18446744073709551616:=by
 simp only[IntKind.wrap,IntKind.bits,IntKind.signed];simp;omega
theorem kE.uh {v:Int} {K:Int→Prop} (h1: -18446744073709551616≤v) (h2:v < 0) (k:K (v + 18446744073709551616)):kE .u64 v K:=Az (AA h1 h2) k
theorem wrap_u8 {v:Int} (h1:0≤v) (h2:v < 256):IntKind.u8.wrap v=v:=by
 simp only[IntKind.wrap,IntKind.bits,IntKind.signed];simp;omega
class c5 (Γ:List ak) (r:Nat) (d:outParam TypeDesc) (m:outParam (Value→Option PV)) (aE:outParam (List (Int×Value))) (put:outParam ((Value→Option PV)→List (Int×Value)→List ak)):Prop where
 at_: ∃ Γ1 Γ2,Γ=Γ1++.mp r d m aE::Γ2∧ ∀ m' p',put m' p'=Γ1++.mp r d m' p'::Γ2
instance (priority:=high) c5.head (Γ:List ak) (r:Nat) (d:TypeDesc) (m:Value→Option PV) (aE:List (Int×Value)):c5 (.mp r d m aE::Γ) r d m aE (fun m' p'=>.mp r d m' p'::Γ):=⟨[],Γ,rfl,fun _ _=>rfl⟩
instance c5.tail (e:ak) (Γ:List ak) (r:Nat) (d:TypeDesc) (m:Value→Option PV) (aE:List (Int×Value)) (put:(Value→Option PV)→List (Int×Value)→List ak) [h:c5 Γ r d m aE put]:c5 (e::Γ) r d m aE (fun m' p'=>e::put m' p'):=by
 obtain ⟨Γ1,Γ2,h1,h2⟩:=h.at_;exact ⟨e::Γ1,Γ2,by rw[h1];rfl,fun m' p'=>by rw[h2];rfl⟩
theorem eN.at_ {r:Nat} {d:TypeDesc} {k:Value} {z:PV} {Γ:List ak} {m:Value→Option PV} {aE:List (Int×Value)} {put:(Value→Option PV)→List (Int×Value)→List ak} [hp:c5 Γ r d m aE put] {K:PV→Bool→Prop} (y:PV) (b:Bool)
  (hk:oh d k) (h1: ∀ p,m k=some p→Wk p y∧b=true) (h2:m k=none→Wk z y∧b=false) (h:K y b):eN r d (some k) z Γ K:=by
 obtain ⟨Γ1,Γ2,e1,_⟩:=hp.at_;exact ⟨k,m,aE,y,b,rfl,hk,by rw[e1];simp,h1,h2,h⟩
theorem dg.at_ {r:Nat} {d:TypeDesc} {k:Value} {p:PV} {Γ:List ak} {m:Value→Option PV} {aE:List (Int×Value)} {put:(Value→Option PV)→List (Int×Value)→List ak} [hp:c5 Γ r d m aE put] {K:List ak→Prop} (m':Value→Option PV)
  (hk:oh d k) (h1:m' k=some p) (h2: ∀ k',k'≠k→m' k'=m k') (h:K (put m' aE)) (hq:m k≠none∨ ∀ q∈aE,q.2≠.tuple #[]:=by right;simp):dg r d (some k) p Γ K:=by
 obtain ⟨Γ1,Γ2,e1,e2⟩:=hp.at_;exact ⟨k,m,m',aE,Γ1,Γ2,rfl,hk,e1,h1,h2,hq,by rw[←e2];exact h⟩
theorem ew.at_ {r:Nat} {d:TypeDesc} {k:Value} {z:PV} {Γ:List ak} {m:Value→Option PV} {aE:List (Int×Value)} {put:(Value→Option PV)→List (Int×Value)→List ak} [hp:c5 Γ r d m aE put] {K:PV→List ak→Prop} (m':Value→Option PV)
  (hk:oh d k) (h1:m' k=some ((m k).getD z)) (h2: ∀ k',k'≠k→m' k'=m k') (h: ∀ n,K (.aU [(m k).getD z,.int .i64 n]) (put m' ((n,k)::aE))) (hq:m k≠none∨ ∀ q∈aE,q.2≠.tuple #[]:=by right;simp):ew r d (some k) z Γ K:=by
 obtain ⟨Γ1,Γ2,e1,e2⟩:=hp.at_;exact ⟨k,m,m',aE,Γ1,Γ2,rfl,hk,e1,h1,h2,hq,fun n=>by rw[←e2];exact h n⟩
theorem cZ.at_ {r:Nat} {d:TypeDesc} {n:Int} {k:Value} {p:PV} {Γ:List ak} {m:Value→Option PV} {aE:List (Int×Value)} {put:(Value→Option PV)→List (Int×Value)→List ak} [hp:c5 Γ r d m ((n,k)::aE) put] {K:List ak→Prop} (m':Value→Option PV)
  (h1:m' k=some p) (h2: ∀ k',k'≠k→m' k'=m k') (h:K (put m' ((n,k)::aE))) (hq:k≠.tuple #[]:=by simp):cZ r n p Γ K:=by
 obtain ⟨Γ1,Γ2,e1,e2⟩:=hp.at_;exact ⟨d,k,m,m',(n,k)::aE,Γ1,Γ2,by simp,hq,e1,h1,h2,by rw[←e2];exact h⟩
theorem er.at_ {r:Nat} {d:TypeDesc} {k:Value} {Γ:List ak} {m:Value→Option PV} {aE:List (Int×Value)} {put:(Value→Option PV)→List (Int×Value)→List ak} [hp:c5 Γ r d m aE put] {K:List ak→Prop} (m':Value→Option PV)
  (hk:oh d k) (h1:m' k=none) (h2: ∀ k',k'≠k→m' k'=m k') (h:K (put m' [])):er r d (some k) Γ K:=by
 obtain ⟨Γ1,Γ2,e1,e2⟩:=hp.at_;exact ⟨k,m,m',aE,Γ1,Γ2,rfl,hk,e1,h1,h2,by rw[←e2];exact h⟩
section
variable {P:Program} {tt:Nat→TI}
theorem sL.go {ds:List Nat} {a b:Code} {T:List PV} {Γ:List ak} {D:Ds} {Q:QT} (h:W P tt a T Γ D (OH (W P tt b) Q)):sL ds (W P tt a) (W P tt b) T Γ D Q:=by
 refine ⟨fun _ _=>False,yP _ _ _ _ _ _ ?_ h,fun _ _ h=>h.elim⟩;intro e T' Γ' D' h;cases e<;>first | exact h | exact .inl h
def EK:Nat→List (Nat×PV)→Option PV
 | _, []=>none
 | i,(j,x)::r=>match Nat.beq i j with
  | true=>some x
  | false=>EK i r
def A6:Nat→List Nat→Bool
 | _, []=>false
 | i,j::r=>match Nat.beq i j with
  | true=>true
  | false=>A6 i r
def oA:Nat→List PV→List Nat→List (Nat×PV)→List PV
 | _, [],_,_=> []
 | i,x::T,ds,ps=>(match EK i ps with
  | some v=>v
  | none=>match A6 i ds with
   | true=>.any
   | false=>x)::oA (i + 1) T ds ps
def qk {q:Sort _}:Nat→List PV→List Nat→List (Nat×PV)→(List PV→q)→q
 | _, [],_,_,k=>k []
 | i,x::T,ds,ps,k=>match EK i ps with
  | some v=>qk (i + 1) T ds ps fun r=>k (v::r)
  | none=>match A6 i ds with
   | true=>qk (i + 1) T ds ps fun r=>k (.any::r)
   | false=>qk (i + 1) T ds ps fun r=>k (x::r)
theorem ql {q:Sort _}: ∀ (i:Nat) (T:List PV) (ds:List Nat) (ps:List (Nat×PV)) (k:List PV→q),qk i T ds ps k=k (oA i T ds ps)
 | _, [],_,_,_=>rfl
 | i,x::T,ds,ps,k=>by
  simp only[qk,oA]
  split
  ·exact ql (i + 1) T ds ps _
  ·split<;>exact ql (i + 1) T ds ps _
def vt {q:Sort _}:Nat→Nat→List (Nat×PV)→(List PV→q)→q
 | _,0,_,k=>k []
 | i,n + 1, [],k=>vt (i + 1) n [] fun r=>k (.any::r)
 | i,n + 1,(j,x)::ps,k=>match Nat.beq i j with
  | true=>vt (i + 1) n ps fun r=>k (x::r)
  | false=>vt (i + 1) n ((j,x)::ps) fun r=>k (.any::r)
theorem qi {q:Sort _}: ∀ (i n:Nat) (ps:List (Nat×PV)) (k:List PV→q),vt i n ps k=k (jM i n ps)
 | _,0,_,_=>rfl
 | i,n + 1, [],k=>by simp only[vt,jM];exact qi (i + 1) n [] _
 | i,n + 1,(j,x)::ps,k=>by
  simp only[vt,jM];cases Nat.beq i j
  ·exact qi (i + 1) n ((j,x)::ps) _
  ·exact qi (i + 1) n ps _
def eB:Nat→List PV→List PV→List Nat→List (Nat×PV)→Prop
 | _, [], [],_,_=>True
 | i,x'::T',x::T,ds,ps=>match EK i ps with
  | some v=>Wk x' v∧eB (i + 1) T' T ds ps
  | none=>match A6 i ds with
   | true=>eB (i + 1) T' T ds ps
   | false=>Wk x' x∧eB (i + 1) T' T ds ps
 | _,_,_,_,_=>False
theorem eB.wk: ∀ (i:Nat) (T' T:List PV) (ds:List Nat) (ps:List (Nat×PV)),eB i T' T ds ps→bU T' (oA i T ds ps)
 | _, [], [],_,_,_=>.nil
 | _, [],_::_,_,_,h=>by simp[eB] at h
 | _,_::_, [],_,_,h=>by simp[eB] at h
 | i,x'::T',x::T,ds,ps,h=>by
  simp only[eB] at h;simp only[oA]
  split at h
  ·rename_i hv
   exact .cons h.1 (eB.wk (i + 1) T' T ds ps h.2)
  ·split at h
   ·exact .cons (Wk.any _) (eB.wk (i + 1) T' T ds ps h)
   ·exact .cons h.1 (eB.wk (i + 1) T' T ds ps h.2)
structure yx {τ:Type} (ds:List Nat) (ps:τ→List (Nat×PV)) (G:τ→List ak) (J:τ→Prop) (T:List PV) (D0:Ds) (T':List PV) (Γ:List ak) (D:Ds):Prop where
 h:D=D0∧ ∃ t,J t∧fX T' Γ (oA 0 T ds (ps t)) (G t)
theorem EE {τ:Type} {ds:List Nat} {ps:τ→List (Nat×PV)} {G:τ→List ak} {J:τ→Prop} {T T':List PV} {Γ Γ1:List ak} {D:Ds} (t:τ) (hJ:J t) (hw:eB 0 T' T ds (ps t)) [hp:cr Γ (G t) Γ1]:yx ds ps G J T D T' Γ D:=
 ⟨rfl,t,hJ,fX.of (eB.wk 0 T' T ds (ps t) hw) (aA.drop hp.p)⟩
theorem sL.join {τ:Type} {ds:List Nat} {a b:Code} {T:List PV} {Γ:List ak} {D:Ds} {Q:QT} (ps:τ→List (Nat×PV)) (G:τ→List ak) (J:τ→Prop)
  (h:W P tt a T Γ D (Ce (yx ds ps G J T D) Q)) (h2: ∀ t,J t→qk 0 T ds (ps t) fun T0=>W P tt b T0 (G t) D Q):sL ds (W P tt a) (W P tt b) T Γ D Q:=by
 refine ⟨fun T0 Γ0=> ∃ t,J t∧T0=oA 0 T ds (ps t)∧Γ0=G t,yP _ _ _ _ _ _ ?_ h,?_⟩
 ·intro e T' Γ' D' h
  cases e<;>first | exact h | skip
  obtain ⟨h1,t,h3,h4⟩:=h.h;exact .inr ⟨h1,_,_,h4,t,h3,rfl,rfl⟩
 ·rintro _ _ ⟨t,h1,rfl,rfl⟩
  have:=h2 t h1;rwa [ql] at this
structure DN {σ:Type} (R:σ→List (Nat×PV)) (G:σ→List ak) (I:σ→Prop) (μ:σ→Nat) (len:Nat) (s:σ) (D0:Ds) (T:List PV) (Γ:List ak) (D:Ds):Prop where
 h:D=D0∧ ∃ s',I s'∧μ s' < μ s∧fX T Γ (jM 0 len (R s')) (G s')
theorem aI.jC {σ:Type} {c:Code} {T:List PV} {Γ Γ1:List ak} {D:Ds} {Q:QT} (R:σ→List (Nat×PV)) (G:σ→List ak) (I:σ→Prop) (μ:σ→Nat) (len:Nat) (s0:σ)
  (hI:I s0) (hl:jJ T len=true) (hw:fT T 0 (R s0)) [hp:cr Γ (G s0) Γ1]
  (round: ∀ s,I s→vt 0 len (R s) fun T0=>W P tt c T0 (G s) D (Ce (DN R G I μ len s D) Q)):aI (W P tt c) T Γ D Q:=by
 refine ⟨fun n T Γ=> ∃ s,I s∧n=μ s∧T=jM 0 len (R s)∧Γ=G s,fun _ _ _=>False,⟨μ s0,_,_,fX.mask (R s0) hl hw (hp:=hp),s0,hI,rfl,rfl,rfl⟩,?_,fun _ _ _ h=>h.elim⟩;rintro n _ _ ⟨s,hs,rfl,rfl,rfl⟩;have hr:=round s hs;rw[qi] at hr;refine yP _ _ _ _ _ _ ?_ hr;intro e T Γ D' h;cases e<;>first | exact h | exact .inl h | skip
 obtain ⟨h1,s',h2,h3,h4⟩:=h.h;exact ⟨h1,μ s',_,_,h3,h4,s',h2,rfl,rfl,rfl⟩
structure NF {τ:Type} (R2:τ→List (Nat×PV)) (G2:τ→List ak) (J:τ→Prop) (len:Nat) (D0:Ds) (T:List PV) (Γ:List ak) (D:Ds):Prop where
 h:D=D0∧ ∃ t,J t∧fX T Γ (jM 0 len (R2 t)) (G2 t)
theorem Bu {σ:Type} {R:σ→List (Nat×PV)} {G:σ→List ak} {I:σ→Prop} {μ:σ→Nat} {len:Nat} {s:σ} {T:List PV} {Γ Γ1:List ak} {D:Ds} (s':σ) (hI:I s') (hμ:μ s' < μ s) (hl:jJ T len=true) (hw:fT T 0 (R s')) [hp:cr Γ (G s') Γ1]:
  DN R G I μ len s D T Γ D:=⟨rfl,s',hI,hμ,fX.mask (R s') hl hw⟩
end
theorem eP.lazy {g:Bool} {E:PV→Prop} {A B:Prop} {L:PV→Prop} {x:PV} (h1:g=true→E x) (h2:L (.opt g x)):eP g E A B L:=⟨.inr ⟨x,h1,h2⟩⟩
theorem eP.ways {g:Bool} {E:PV→Prop} {A B:Prop} {L:PV→Prop} (h1:g=true→A) (h2:g=false→B):eP g E A B L:=⟨.inl ⟨h1,h2⟩⟩
theorem AH.of {q:Bool} {K:Prop} (h:q=true) (k:K):AH q K:=⟨h,k⟩
theorem om.ways {p:Bool} {A B:Prop} (h1:p=true→A) (h2:p=false→B):om p A B:=⟨h1,h2⟩
theorem gK.of {p K:Prop} (h:p) (k:K):gK p K:=⟨h,k⟩
theorem Fb.of {k:IntKind} {a b:Int} {K:Prop} (h:b≠0) (k':K):Fb k a b K:=⟨h,k'⟩
theorem SS:(∀ (p:Prop) [Decidable p],(decide p=true)=p)∧(∀ (p:Prop) [Decidable p],(decide p=false)= ¬ p)∧(∀ a b:Int,((a == b)=true)=(a=b))∧(∀ a b:Int,((a == b)=false)= ¬ (a=b))∧
  (∀ a b:List UInt8,((a == b)=true)=(a=b))∧(∀ a b:List UInt8,((a == b)=false)= ¬ (a=b))∧(∀ a b:Int,((a !=b)=true)= ¬ (a=b))∧(∀ a b:Int,((a !=b)=false)=(a=b))∧
  (∀ a b:Bool,((a && b)=true)=(a=true∧b=true))∧(∀ a b:Bool,((a && b)=false)=(a=false∨b=false))∧(∀ a b:Bool,((a || b)=true)=(a=true∨b=true))∧(∀ a b:Bool,((a || b)=false)=(a=false∧b=false))∧
  (∀ a:Bool,((!a)=true)=(a=false))∧(∀ a:Bool,((!a)=false)=(a=true))∧(∀ a b:Int,(¬ a < b)=(b≤a))∧(∀ a b:Int,(¬ a≤b)=(b < a))∧(∀ a b:Int,(a > b)=(b < a))∧(∀ a b:Int,(a≥b)=(b≤a))∧
  (∀ a:Prop,(¬ ¬ a)=a)∧(true=false)=False∧(false=true)=False:=by
 refine ⟨fun p _=>by simp,fun p _=>by simp,fun a b=>by simp,fun a b=>by simp,fun a b=>by simp,fun a b=>by simp,fun a b=>by simp,fun a b=>by simp,fun a b=>by simp,fun a b=>by cases a<;>cases b<;>simp,
  fun a b=>by simp,fun a b=>by simp,fun a=>by simp,fun a=>by simp,fun a b=>by simp,fun a b=>by simp,fun a b=>rfl,fun a b=>rfl,fun a=>by simp,by simp,by simp⟩
theorem Mb {a b:Bool} (h:(a && b)=true):a=true:=by simp at h;exact h.1
theorem Py {a b:Bool} (h:(a && b)=true):b=true:=by simp at h;exact h.2
class gu (n:Int) (i:outParam Nat):Prop where eq:n=(i:Int)
instance (i:Nat):gu (i:Int) i:=⟨rfl⟩
instance:gu 0 0:=⟨rfl⟩
instance:gu 1 1:=⟨rfl⟩
instance:gu 2 2:=⟨rfl⟩
instance:gu 3 3:=⟨rfl⟩
instance (a b:Int) (i j:Nat) [h:gu a i] [k:gu b j]:gu (a + b) (i + j):=⟨by rw[h.eq,k.eq];simp⟩
class fQ (n:Int) (i:outParam Nat):Prop where eq:0≤n→n=(i:Int)
instance (priority:=low) (n:Int):fQ n n.toNat:=⟨fun h=>by omega⟩
instance (n:Int) (i:Nat) [h:gu n i]:fQ n i:=⟨fun _=>h.eq⟩
instance (a b:Int) (i j:Nat) [h:gu a i] [k:gu b j]:fQ (a - b) (i - j):=⟨fun e=>by rw[h.eq,k.eq] at *; omega⟩
theorem fQ.lt {n:Int} {i:Nat} [x:fQ n i] {k:Nat} (h0:0≤n) (h1:n < (k:Int)):i < k:=by have:=x.eq h0;omega
theorem jZ.ix {s:List UInt8} {k:IntKind} {n:Int} {i:Nat} [x:fQ n i] {K:PV→Prop} (h0:0≤n) (h1:n < s.length) (hk:K (.int .u8 (s.getD i 0).toNat)):jZ s (.int k n) K:=by
 have hi:=fQ.lt h0 h1;have:=x.eq h0;refine ⟨k,n,s.getD i 0,rfl,h0,?_,hk⟩;rw[this];simp[List.getD,hi]
class ec {α:Type} (f:α→PV) (g:outParam (α→List PV)):Prop where
 eq: ∀ x,(f x).cellsOf=g x
instance (k:IntKind):ec (PV.int k) (fun n=> [.int k n]):=⟨fun _=>rfl⟩
instance:ec PV.str (fun s=> [.str s]):=⟨fun _=>rfl⟩
instance:ec PV.bool (fun s=> [.bool s]):=⟨fun _=>rfl⟩
theorem dQ.ix {α:Type} {f:α→PV} {g:α→List PV} [c:ec f g] {sz:Nat} {l:List α} {tk:Option Tok} {k:IntKind} {n:Int} {i:Nat} [x:fQ n i] {K:PV→Prop} (h0:0≤n) (h:n < l.length)
  (hk:K (.ep (g (l[i]'(fQ.lt h0 h))))):dQ sz (.sl sz (l.map f) tk) (.int k n) K:=by
 have hi:=fQ.lt h0 h;have e:=x.eq h0;refine ⟨sz,_,tk,k,_,f l[i],rfl,rfl,h0,?_,rfl,by rw[c.eq];exact hk⟩;rw[e];simp[hi]
theorem dQ.lit {sz:Nat} {es:List PV} {tk:Option Tok} {k:IntKind} {n:Int} {i:Nat} {e:PV} [x:gu n i] {K:PV→Prop} (h:Df es i=some e) (hk:K (.ep e.cellsOf)):dQ sz (.sl sz es tk) (.int k n) K:=by
 have e1:=x.eq;refine ⟨sz,_,tk,k,_,e,rfl,rfl,by omega,?_,rfl,hk⟩;rw[e1, ←h,zz];rfl
theorem GQ.map {α:Type} {f:α→PV} {l:List α} {K:Nat→Prop} (h:l.length≤9223372036854775807→K l.length):GQ (l.map f) K:=⟨by rw[List.length_map];exact h⟩
theorem gL.lo {s:List UInt8} {k:IntKind} {n:Int} {i:Nat} [x:fQ n i] {K:PV→Prop} (h0:0≤n) (h:n≤s.length) (hk:K (.str (s.drop i))):gL s (some (.int k n)) none K:=
 ⟨i,s.length,rfl,x.eq h0,by have:=x.eq h0;omega,Nat.le_refl _,by rw[List.take_length];exact hk⟩
theorem gL.hi {s:List UInt8} {k:IntKind} {n:Int} {i:Nat} [x:fQ n i] {K:PV→Prop} (h0:0≤n) (h:n≤s.length) (hk:K (.str (s.take i))):gL s none (some (.int k n)) K:=
 ⟨0,i,x.eq h0,rfl,by omega,by have:=x.eq h0;omega,hk⟩
theorem iJ.lo {s:Nat} {α:Type} {f:α→PV} {es:List α} {k:IntKind} {n:Int} {i:Nat} [x:fQ n i] {K:PV→Prop} (h0:0≤n) (h:n≤es.length) (hk:K (.sl s ((es.drop i).map f) none)):iJ s (es.map f) (some (.int k n)) none K:=
 ⟨i,_,rfl,x.eq h0,by have:=x.eq h0;simp;omega,Nat.le_refl _,by rw[List.take_length, ←List.map_drop];exact hk⟩
theorem iJ.hi {s:Nat} {α:Type} {f:α→PV} {es:List α} {k:IntKind} {n:Int} {i:Nat} [x:fQ n i] {K:PV→Prop} (h0:0≤n) (h:n≤es.length) (hk:K (.sl s ((es.take i).map f) none)):iJ s (es.map f) none (some (.int k n)) K:=
 ⟨0,i,x.eq h0,rfl,by omega,by have:=x.eq h0;simp;omega,by rw[List.drop_zero, ←List.map_take];exact hk⟩
class yy (k:IntKind) (lo hi:outParam Int):Prop where eq: ∀ v,lo≤v→v≤hi→k.wrap v=v
instance:yy .i64 (-9223372036854775808) 9223372036854775807:=⟨fun v h1 h2=>by rw[IntKind.wrap_i64];omega⟩
instance:yy .u64 0 18446744073709551615:=⟨fun v h1 h2=>wrap_u64 h1 (by omega)⟩
instance:yy .u8 0 255:=⟨fun v h1 h2=>wrap_u8 h1 (by omega)⟩
theorem kE.ok {k:IntKind} {lo hi v:Int} [x:yy k lo hi] {K:Int→Prop} (h1:lo≤v) (h2:v≤hi) (hk:K v):kE k v K:=Az (x.eq v h1 h2) hk
section
variable {P:Program} {tt:Nat→TI}
structure gJ {σ:Type} (ds:List Nat) (R:σ→List (Nat×PV)) (G:σ→List ak) (I:σ→Prop) (μ:σ→Nat) (T0:List PV) (s:σ) (D0:Ds) (T:List PV) (Γ:List ak) (D:Ds):Prop where
 h:D=D0∧ ∃ s',I s'∧μ s' < μ s∧fX T Γ (oA 0 T0 ds (R s')) (G s')
theorem aI.over {σ:Type} {c:Code} {T:List PV} {Γ Γ1:List ak} {D:Ds} {Q:QT} (ds:List Nat) (R:σ→List (Nat×PV)) (G:σ→List ak) (I:σ→Prop) (μ:σ→Nat) (s0:σ)
  (hI:I s0) (hw:eB 0 T T ds (R s0)) [hp:cr Γ (G s0) Γ1]
  (round: ∀ s,I s→qk 0 T ds (R s) fun T0=>W P tt c T0 (G s) D (Ce (gJ ds R G I μ T s D) Q)):aI (W P tt c) T Γ D Q:=by
 refine ⟨fun n T' Γ=> ∃ s,I s∧n=μ s∧T'=oA 0 T ds (R s)∧Γ=G s,fun _ _ _=>False,⟨μ s0,_,_,fX.of (eB.wk 0 T T ds (R s0) hw) (aA.drop hp.p),s0,hI,rfl,rfl,rfl⟩,?_,fun _ _ _ h=>h.elim⟩;rintro n _ _ ⟨s,hs,rfl,rfl,rfl⟩;have hr:=round s hs;rw[ql] at hr;refine yP _ _ _ _ _ _ ?_ hr;intro e T' Γ D' h;cases e<;>first | exact h | exact .inl h | skip
 obtain ⟨h1,s',h2,h3,h4⟩:=h.h;exact ⟨h1,μ s',_,_,h3,h4,s',h2,rfl,rfl,rfl⟩
theorem aJ {σ:Type} {ds:List Nat} {R:σ→List (Nat×PV)} {G:σ→List ak} {I:σ→Prop} {μ:σ→Nat} {T0:List PV} {s:σ} {T:List PV} {Γ Γ1:List ak} {D:Ds} (s':σ) (hI:I s') (hμ:μ s' < μ s)
  (hw:eB 0 T T0 ds (R s')) [hp:cr Γ (G s') Γ1]:gJ ds R G I μ T0 s D T Γ D:=⟨rfl,s',hI,hμ,fX.of (eB.wk 0 T T0 ds (R s') hw) (aA.drop hp.p)⟩
theorem aI.keep {σ:Type} {c:Code} {T:List PV} {Γ:List ak} {D:Ds} {Q:QT} (ds:List Nat) (R:σ→List (Nat×PV)) (I:σ→Prop) (μ:σ→Nat) (s0:σ)
  (hI:I s0) (hw:eB 0 T T ds (R s0))
  (round: ∀ s,I s→qk 0 T ds (R s) fun T0=>W P tt c T0 Γ D (Ce (gJ ds R (fun _=>Γ) I μ T s D) Q)):aI (W P tt c) T Γ D Q:=
 aI.over (hp:=⟨by rw[List.append_nil]⟩) (Γ1:= []) ds R (fun _=>Γ) I μ s0 hI hw round
structure OO {τ:Type} (ds:List Nat) (R2:τ→List (Nat×PV)) (G2:τ→List ak) (J:τ→Prop) (T0:List PV) (D0:Ds) (T:List PV) (Γ:List ak) (D:Ds):Prop where
 h:D=D0∧ ∃ t,J t∧fX T Γ (oA 0 T0 ds (R2 t)) (G2 t)
theorem sL.keep {τ:Type} {ds:List Nat} {a b:Code} {T:List PV} {Γ:List ak} {D:Ds} {Q:QT} (ps:τ→List (Nat×PV)) (J:τ→Prop)
  (h:W P tt a T Γ D (Ce (yx ds ps (fun _=>Γ) J T D) Q)) (h2: ∀ t,J t→qk 0 T ds (ps t) fun T0=>W P tt b T0 Γ D Q):sL ds (W P tt a) (W P tt b) T Γ D Q:=
 sL.join ps (fun _=>Γ) J h h2
theorem e8.all {Γ:List ak} {b:Nat} {all:List PV} {put:List PV→List ak} [hp:ee Γ b all put] {n:Nat} {K:PV→Prop} (hl:all.length=n) (k:K (.agg all)):e8 true n (.ptr b 0) Γ K:=by
 obtain ⟨Γ1,Γ2,h1,_⟩:=hp.at_;exact ⟨all,⟨all,by rw[h1];simp,by omega,by rw[List.drop_zero, ←hl,List.take_length]⟩,k⟩
theorem e8.cell {Γ:List ak} {b o:Nat} {all:List PV} {put:List PV→List ak} [hp:ee Γ b all put] {K:PV→Prop} (c:PV) (hl:all[o]?=some c) (k:K c):e8 false 1 (.ptr b o) Γ K:=by
 obtain ⟨Γ1,Γ2,h1,_⟩:=hp.at_;have ho:o < all.length:=(List.getElem?_eq_some_iff.1 hl).1;refine ⟨[c],⟨all,by rw[h1];simp,by omega,?_⟩,k⟩;rw[List.drop_eq_getElem_cons ho];have:=(List.getElem?_eq_some_iff.1 hl).2;simp[this]
theorem dz.cell {Γ:List ak} {b o:Nat} {all:List PV} {put:List PV→List ak} [hp:ee Γ b all put] {x:PV} {K:List ak→Prop} (ho:o < all.length) (hx:x.cellsOf= [x]) (hc:x.cR=true) (k:K (put (all.set o x))):dz 1 (.ptr b o) x Γ K:=by
 obtain ⟨Γ1,Γ2,h1,h2⟩:=hp.at_;refine ⟨by rw[hx];rfl,hc, [x],fun F vs h=>by rwa [hx] at h,rfl,.inl ⟨b,o,all,Γ1,Γ2,rfl,h1,by omega,?_⟩⟩;rw[h2] at k;rw[List.set_eq_take_append_cons_drop,if_pos ho] at k;simpa using k
theorem dz.all {Γ:List ak} {b n:Nat} {all:List PV} {put:List PV→List ak} [hp:ee Γ b all put] {xs:List PV} {K:List ak→Prop} (hl:all.length=n) (hx:xs.length=n) (k:K (put xs)):dz n (.ptr b 0) (.agg xs) Γ K:=by
 obtain ⟨Γ1,Γ2,h1,h2⟩:=hp.at_;refine ⟨hx,rfl,xs,fun F vs h=>h,hx,.inl ⟨b,0,all,Γ1,Γ2,rfl,h1,by omega,?_⟩⟩;rw[h2] at k;rw[List.drop_of_length_le (by omega)];simpa[PV.cellsOf] using k
def u6 (ops:Array Oper):Option Nat:=match ops.toList with
 | []=>none
 | o::_=>o.dst
theorem aC.at_ {ops:Array Oper} {T:List PV} {Γ Γ2:List ak} {K:List PV→List ak→Prop} (d:Option Nat) (hd:u6 ops=d) (hk:TT.ok P tt) (hm:P.follows .mixedOrders=true) (bK A R1 R2:List Nat) (Γ1:List ak)
  (hchk:ni ops bK A R1 R2=true) [hp:cr Γ Γ1 Γ2]
  (h:eA P tt ops.toList (aZ ops.toList A) T Γ2 fun T'=>bG P tt ops.toList (aZ ops.toList R1) T' Γ1 [] fun T2 Γ1' _=>ic Γ1' Γ2 fun Γ'=>bG P tt ops.toList (aZ ops.toList R2) T2 Γ' [] fun T' Γ' _=>K T' Γ'):aC P ops T Γ K:=
 aC.split hk hm bK A R1 R2 Γ1 hchk h
theorem au.same {f:FuncId} {args args':List PV} {Γ:List ak} {Q K:PV→List ak→Prop} (h:ah P f args' Γ Q) (hw:bU args args') (k: ∀ y Γ',Q y Γ'→K y Γ'):au P f args Γ K:=⟨.inl ((h.wk hw).mono k)⟩
theorem au.go {f:FuncId} {args args':List PV} {Γ Γ1 Γ2:List ak} {Q K:PV→List ak→Prop} (h:ah P f args' Γ1 Q) (hw:bU args args') [hp:cr Γ Γ1 Γ2]
  (k: ∀ y Γ1',Q y Γ1'→ic Γ1' Γ2 fun Γ'=>K y Γ'):au P f args Γ K:=au.gen h hw (hp:=hp) fun y Γ1' hq=>by have:=k y Γ1' hq;rwa [eS] at this
theorem au.read {f:FuncId} {args args':List PV} {v:PV} {Γ Γ1 Γ2:List ak} {K:PV→List ak→Prop} (h:ah P f args' Γ1 fun y Γ'=>y=v∧Γ'=Γ1) (hw:bU args args') [hp:cr Γ Γ1 Γ2] (k:K v Γ):au P f args Γ K:=by
 refine ⟨.inl ⟨h.1,fun w0 F M w vs hS hT=>?_⟩⟩
 have hS':aN w0 F (Γ1++(Γ2++M)) w:=by
  have:=hS.perm (hp.p.append_right M);simpa using this
 refine (h.2 w0 F (Γ2++M) w vs hS' (hw.rep hT)).mono ?_;rintro e w' ⟨v',F',y,Γ',e1,e2,e3,e4,hv,hg⟩;subst hv;rw[hg] at e3;refine ⟨v',F',_,Γ,e1,e2,?_,e4,k⟩;have h2:aN w0 F' ((Γ1++Γ2)++M) w':=by simpa using e3
 exact h2.perm (hp.p.symm.append_right M)
theorem jY.ix {n sz b o:Nat} {k:IntKind} {m:Int} {i:Nat} [x:fQ m i] {K:PV→Prop} (hs:sz=1) (h0:0≤m) (hm:m < n) (hk:K (.ptr b (o + i))):jY n sz (.ptr b o) (.int k m) K:=by
 have:=x.eq h0;refine ⟨b,o,k,m,rfl,rfl,h0,hm,?_⟩;subst hs this;simpa using hk
instance:ec (fun b:UInt8=>PV.int .u8 (b.toNat:Int)) (fun b=> [.int .u8 (b.toNat:Int)]):=⟨fun _=>rfl⟩
instance cr.self (Γ:List ak):cr Γ Γ []:=⟨by rw[List.append_nil]⟩
theorem aA.nil (s:Nat) (e:TypeId) (Γ:List ak):aA Γ (.tok (aT s e)::Γ):=fun w0 F M w hS=>⟨F,Fz.le_refl F,hS.aT s e⟩
theorem aA.fG (s:Nat) (e:TypeId) (Γ:List ak):aA Γ (.row (aT s e) []::Γ):=fun w0 F M w hS=>⟨F,Fz.le_refl F,hS.fG s e⟩
theorem Wk.fG (s:Nat) (e:TypeId):Wk .nil (.ms (aT s e)):=fun F v r=>by
 simp only[ax] at r ⊢;exact ⟨r,rfl⟩
theorem Wk.aT (s:Nat) (e:TypeId):Wk .nil (.sl s [] (some (aT s e))):=fun F v r=>by
 simp only[ax] at r ⊢;exact ⟨fun t ht=>by cases ht;exact ⟨r,rfl,rfl⟩,.inl ⟨r,trivial⟩⟩
theorem aA.refl (Γ:List ak):aA Γ Γ:=fun w0 F M w hS=>⟨F,Fz.le_refl F,hS⟩
theorem aA.trans {Γ Γ' Γ2:List ak} (h:aA Γ Γ') (k:aA Γ' Γ2):aA Γ Γ2:=fun w0 F M w hS=>by
 obtain ⟨F1,a1,a2⟩:=h w0 F M w hS;obtain ⟨F2,b1,b2⟩:=k w0 F1 M w a2;exact ⟨F2,Fz.le_trans a1 b1,b2⟩
theorem aA.pick {Γ Γ' Γ1:List ak} [hp:cr Γ Γ' Γ1]:aA Γ Γ':=aA.drop hp.p
theorem aA.box {Γ Γ1:List ak} {b:Nat} {cs cs':List PV} [hp:kP Γ (.box b cs) Γ1] (h:ia cs cs'):aA Γ (.box b cs'::Γ1):=fun w0 F M w hS=>by
 have hS':=hS.perm (hp.p.append_right M);have hS':aN w0 F (.box b cs::(Γ1++M)) w:=by simpa using hS'
 refine ⟨F,Fz.le_refl F,⟨hS'.below,hS'.fz,fun x hx=>?_,?_⟩⟩
 ·rcases List.mem_cons.1 hx with rfl | hx
  ·obtain ⟨h1,⟨vs,el,h2,h3⟩,h4⟩:=hS'.fU _ (List.mem_cons_self ..)
   exact ⟨h1,⟨vs,el,h2,h.rep h3⟩,h4⟩
  ·exact hS'.fU x (List.mem_cons_of_mem _ hx)
 ·have:=List.pairwise_cons.1 hS'.sep
  exact List.pairwise_cons.2 ⟨this.1,this.2⟩
theorem ah.ghost {f:FuncId} {args:List PV} {Γ Γ':List ak} {Q:PV→List ak→Prop} (hg:aA Γ Γ') (h:ah P f args Γ' Q):ah P f args Γ Q:=
 ⟨h.1,fun w0 F M w vs hS hT=>by
  obtain ⟨F1,a1,a2⟩:=hg w0 F M w hS;refine (h.2 w0 F1 M w vs a2 (av.mono a1 _ _ hT)).mono ?_;rintro e w' ⟨v,F',y,Γ2,e1,e2,e3⟩
  exact ⟨v,F',y,Γ2,e1,Fz.le_trans a1 e2,e3⟩⟩
theorem au.ghost {f:FuncId} {args:List PV} {Γ Γ':List ak} {K:PV→List ak→Prop} (hg:aA Γ Γ') (h:ah P f args Γ' K):au P f args Γ K:=⟨.inl (ah.ghost hg h)⟩
theorem bg.one {α:Type} {f:α→PV} {l:List α} {s jC:Nat} {e:TypeId} {y:PV} {t:Tok} {Γ:List ak} {put:Tok→List ak} [hp:iK Γ t put] {K:PV→List ak→Prop} (v:α) (he:t.e=e) (hy:Wk y (.sl s [f v] none))
  (h1:l.length + 1≤281474976710655) (h2:(l.length + 1) * jC≤140737488355328)
  (k: ∀ t':Tok,t'.e=e→K (.sl s ((l++ [v]).map f) (some t')) (put t')):bg s jC e (.sl s (l.map f) (some t)) y Γ K:=by
 obtain ⟨Γ1,Γ2,e1,e2⟩:=hp.at_;refine ⟨l.map f, [f v],.inl ⟨none,hy⟩,by simpa using h1,by simpa using h2,.inr (.inl ⟨t,Γ1,Γ2,rfl,e1,he,fun t' ht=>?_⟩)⟩;have:=k t' ht;rw[List.map_append,e2] at this;exact this
theorem bg.list {α:Type} {f:α→PV} {l m:List α} {s jC:Nat} {e:TypeId} {tk:Option Tok} {t:Tok} {Γ:List ak} {put:Tok→List ak} [hp:iK Γ t put] {K:PV→List ak→Prop} (he:t.e=e)
  (h1:l.length + m.length≤281474976710655) (h2:(l.length + m.length) * jC≤140737488355328)
  (k: ∀ t':Tok,t'.e=e→K (.sl s ((l++m).map f) (some t')) (put t')):bg s jC e (.sl s (l.map f) (some t)) (.sl s (m.map f) tk) Γ K:=by
 obtain ⟨Γ1,Γ2,e1,e2⟩:=hp.at_;refine ⟨l.map f,m.map f,.inl ⟨tk,Wk.refl _⟩,by simpa using h1,by simpa using h2,.inr (.inl ⟨t,Γ1,Γ2,rfl,e1,he,fun t' ht=>?_⟩)⟩;have:=k t' ht;rw[List.map_append,e2] at this;exact this
class dR (Γ:List ak) (t:Tok) (es:outParam (List PV)) (put:outParam (Tok→List PV→List ak)):Prop where
 at_: ∃ Γ1 Γ2,Γ=Γ1++.row t es::Γ2∧ ∀ t' es',put t' es'=Γ1++.row t' es'::Γ2
instance (priority:=high) dR.head (Γ:List ak) (t:Tok) (es:List PV):dR (.row t es::Γ) t es (fun t' es'=>.row t' es'::Γ):=⟨[],Γ,rfl,fun _ _=>rfl⟩
instance dR.tail (e:ak) (Γ:List ak) (t:Tok) (es:List PV) (put:Tok→List PV→List ak) [h:dR Γ t es put]:dR (e::Γ) t es (fun t' es'=>e::put t' es'):=by
 obtain ⟨Γ1,Γ2,h1,h2⟩:=h.at_;exact ⟨e::Γ1,Γ2,by rw[h1];rfl,fun t' es'=>by rw[h2];rfl⟩
theorem l6.at_ {Γ:List ak} {t:Tok} {es:List PV} {put:Tok→List PV→List ak} [hp:dR Γ t es put] {K:Nat→Prop} (k:es.length≤9223372036854775807→K es.length):l6 t Γ K:=by
 obtain ⟨Γ1,Γ2,h1,_⟩:=hp.at_;exact ⟨es,by rw[h1];simp,k⟩
theorem l6.map {α:Type} {f:α→PV} {l:List α} {Γ:List ak} {t:Tok} {put:Tok→List PV→List ak} [hp:dR Γ t (l.map f) put] {K:Nat→Prop} (k:l.length≤9223372036854775807→K l.length):l6 t Γ K:=
 l6.at_ (hp:=hp) (by simpa using k)
theorem ji.at_ {sz:Nat} {Γ:List ak} {t:Tok} {es:List PV} {put:Tok→List PV→List ak} [hp:dR Γ t es put] {k:IntKind} {n:Int} {i:Nat} [x:fQ n i] {K:PV→Prop} (hs:t.s=sz) (h0:0≤n) (hl:i < es.length) (hk:K (.rp t i 0)):ji sz t (.int k n) Γ K:=by
 obtain ⟨Γ1,Γ2,h1,_⟩:=hp.at_;have e:=x.eq h0;refine ⟨es,k,n,rfl,by rw[h1];simp,h0,by omega,hs,?_⟩;rw[e];exact hk
theorem e8.row {α:Type} {f:α→PV} {c:α→List PV} [hc:ec f c] {l:List α} {Γ:List ak} {t:Tok} {put:Tok→List PV→List ak} [hp:dR Γ t (l.map f) put] {agg:Bool} {i o n:Nat} {K:PV→Prop} (hi:i < l.length)
  (hl:Nat.ble (o + n) (c l[i]).length=true) (k:me (c l[i]) o fun r=>nt r n fun cs=>mw agg cs K):e8 agg n (.rp t i o) Γ K:=by
 obtain ⟨Γ1,Γ2,h1,_⟩:=hp.at_;simp only[eD,gj] at k;have hce:(f l[i]).cellsOf=c l[i]:=hc.eq _;exact ⟨_,⟨l.map f,f l[i],by rw[h1];simp,by simp[hi],by rw[hce];exact Nat.le_of_ble_eq_true hl,rfl⟩,by rw[hce];exact k⟩
theorem dz.row {α:Type} {f:α→PV} {c:α→List PV} [hc:ec f c] {l:List α} {Γ:List ak} {t:Tok} {put:Tok→List PV→List ak} [hp:dR Γ t (l.map f) put] {i o n:Nat} {x:PV} {K:List ak→Prop} (v:α) (hi:i < l.length)
  (hl:Nat.ble (o + n) (c l[i]).length=true) (hx:jJ x.cellsOf n=true) (hcl:x.cR=true) {xs:List PV} (hw:ia x.cellsOf xs) (hv:c v=(c l[i]).take o++xs++(c l[i]).drop (o + n))
  (k:K (put t ((l.set i v).map f))):dz n (.rp t i o) x Γ K:=by
 obtain ⟨Γ1,Γ2,h1,h2⟩:=hp.at_;have hce: ∀ y,(f y).cellsOf=c y:=hc.eq;rw[h2] at k;refine ⟨fk hx,hcl,xs,fun F vs h=>hw.rep h,by rw[←hw.length];exact fk hx,.inr ⟨t,i,o,l.map f,f l[i],f v,Γ1,Γ2,rfl,h1,by simp[hi],by rw[hce];exact Nat.le_of_ble_eq_true hl,by rw[hce,hce];exact hv,?_⟩⟩;rw[List.map_set] at k;exact k
theorem bg.MX {α:Type} {f:α→PV} {l:List α} {s jC:Nat} {e:TypeId} {y:PV} {t:Tok} {Γ:List ak} {put:Tok→List PV→List ak} [hp:dR Γ t (l.map f) put] {K:PV→List ak→Prop} (v:α) (he:t.e=e) (hs:t.s=s) (hy:Wk y (.sl s [f v] none))
  (h1:l.length + 1≤281474976710655) (h2:(l.length + 1) * jC≤140737488355328)
  (k: ∀ t':Tok,t'.e=e→t'.s=s→K (.ms t') (put t' ((l++ [v]).map f))):bg s jC e (.ms t) y Γ K:=by
 obtain ⟨Γ1,Γ2,e1,e2⟩:=hp.at_;refine ⟨l.map f, [f v],.inl ⟨none,hy⟩,by simpa using h1,by simpa using h2,.inr (.inr ⟨t,Γ1,Γ2,rfl,e1,he,hs,fun t' ht hs'=>?_⟩)⟩;have:=k t' ht hs';rw[List.map_append,e2] at this;exact this
theorem bg.KR {α:Type} {f:α→PV} {l m:List α} {s jC:Nat} {e:TypeId} {y:PV} {t:Tok} {Γ:List ak} {put:Tok→List PV→List ak} [hp:dR Γ t (l.map f) put] {K:PV→List ak→Prop} (he:t.e=e) (hs:t.s=s) (hy:Wk y (.sl s (m.map f) none))
  (h1:l.length + m.length≤281474976710655) (h2:(l.length + m.length) * jC≤140737488355328)
  (k: ∀ t':Tok,t'.e=e→t'.s=s→K (.ms t') (put t' ((l++m).map f))):bg s jC e (.ms t) y Γ K:=by
 obtain ⟨Γ1,Γ2,e1,e2⟩:=hp.at_;refine ⟨l.map f,m.map f,.inl ⟨none,hy⟩,by simpa using h1,by simpa using h2,.inr (.inr ⟨t,Γ1,Γ2,rfl,e1,he,hs,fun t' ht hs'=>?_⟩)⟩;have:=k t' ht hs';rw[List.map_append,e2] at this;exact this
theorem bg.fG {α:Type} {f:α→PV} {m:List α} {s jC:Nat} {e:TypeId} {y:PV} {Γ:List ak} {K:PV→List ak→Prop} (hy:Wk y (.sl s (m.map f) none))
  (h1:m.length≤281474976710655) (h2:m.length * jC≤140737488355328)
  (k: ∀ t:Tok,t.e=e→t.s=s→K (.ms t) (.row t (m.map f)::Γ)):bg s jC e .nil y Γ K:=
 ⟨[],m.map f,.inl ⟨none,hy⟩,by simpa using h1,by simpa using h2,.inl ⟨rfl,rfl,.inr k⟩⟩
theorem ur.row {s jC:Nat} {e:TypeId} {z:PV} {k k':IntKind} {m p:Int} {K:PV→ak→Prop} (h1:0≤m) (h2:m≤p) (h3:p≤140737488355328) (h4:p * jC≤140737488355328) (h5:jJ z.cellsOf s=true)
  (h: ∀ t:Tok,t.e=e→t.s=s→K (.ms t) (.row t (List.replicate m.toNat z))):ur s jC e z (.int k m) (.int k' p) K:=
 ⟨k,k',m,p,rfl,rfl,h1,h2,h3,h4,fk h5,.inr h⟩
def Cp (t:Tok) (es:List PV) (x y:PV):Prop:= ∀ F v,ax F (.sl t.s es (some t)) t.v→ax F x v→ax F y v
inductive uw (t:Tok) (es:List PV):List PV→List PV→Prop
 | nil:uw t es [] []
 | cons {x y:PV} {xs ys:List PV}:Cp t es x y→uw t es xs ys→uw t es (x::xs) (y::ys)
theorem Cp.of {t:Tok} {es:List PV} {x y:PV} (h:Wk x y):Cp t es x y:=fun F v _ r=>h F v r
theorem Cp.ms' {t:Tok} {es:List PV} {s:Nat} (hs:t.s=s):Cp t es (.ms t) (.sl s es none):=fun F v h r=>by
 simp only[ax] at r;rw[r.1, ←hs];exact (Wk.tok _ _ _) F _ h
theorem uw.rep {t:Tok} {es:List PV} {F:Fz} (hF:ax F (.sl t.s es (some t)) t.v): ∀ {xs ys:List PV} {vs:List Value},uw t es xs ys→av F xs vs→av F ys vs
 | _,_, [],.nil,h=>h
 | _,_,_::_,.nil,h=>h
 | _,_, [],.cons _ _,h=>by simp only[av] at h
 | _,_,v::vs,.cons h1 h2,h=>by
  simp only[av] at h ⊢;exact ⟨h1 _ _ hF h.1,uw.rep hF h2 h.2⟩
theorem uw.tu {t:Tok} {es:List PV} {F:Fz} (hF:ax F (.sl t.s es (some t)) t.v): ∀ {xs ys:List PV} {vs:List Value},uw t es xs ys→aQ F xs vs→aQ F ys vs
 | _,_, [],.nil,h=>h
 | _,_,_::_,.nil,h=>h
 | _,_, [],.cons _ _,h=>by simp only[aQ] at h
 | _,_,v::vs,.cons h1 h2,h=>by
  simp only[aQ] at h ⊢;exact ⟨⟨h.1.1,h1 _ _ hF h.1.2⟩,uw.tu hF h2 h.2⟩
theorem Cp.agg {t:Tok} {es xs ys:List PV} (h:uw t es xs ys):Cp t es (.agg xs) (.agg ys):=fun F v hF r=>by
 simp only[ax] at r ⊢;obtain ⟨vs,h1,h2⟩:=r;exact ⟨vs,h1,h.tu hF h2⟩
theorem Cp.trans {t:Tok} {es:List PV} {x y z:PV} (h:Cp t es x y) (k:Wk y z):Cp t es x z:=fun F v hF r=>k F v (h F v hF r)
theorem Shift.fM {t:Tok} {es:List PV} {x y:PV} {Γ Γ1:List ak} [hp:kP Γ (.row t es) Γ1] (h:Cp t es x y):Shift x Γ y (.tok t::Γ1):=fun w0 F M w v hS hx=>by
 have hS':aN w0 F (.row t es::(Γ1++M)) w:=by simpa using hS.perm (hp.p.append_right M)
 obtain ⟨F',h1,h2,h3⟩:=hS'.fM;exact ⟨F',h1,h2,h F' v h3 (ax.mono h1 _ _ hx)⟩
theorem fX.trans {T T' T2:List PV} {Γ Γ' Γ2:List ak} (h:fX T Γ T' Γ') (k:fX T' Γ' T2 Γ2):fX T Γ T2 Γ2:=fun w0 F M w vs hS hT=>by
 obtain ⟨F1,a1,a2,a3⟩:=h w0 F M w vs hS hT;obtain ⟨F2,b1,b2,b3⟩:=k w0 F1 M w vs a2 a3;exact ⟨F2,Fz.le_trans a1 b1,b2,b3⟩
theorem aA.fM {t:Tok} {es:List PV} {b:Nat} {cs cs':List PV} {Γ Γ1 Γ2:List ak} [hp:kP Γ (.row t es) Γ1] [hq:kP Γ1 (.box b cs) Γ2] (h:uw t es cs cs'):aA Γ (.box b cs'::.tok t::Γ2):=fun w0 F M w hS=>by
 have hS':aN w0 F (.row t es::(Γ1++M)) w:=by simpa using hS.perm (hp.p.append_right M)
 obtain ⟨F',h1,h2,h3⟩:=hS'.fM
 have h4:aN w0 F' (.box b cs::(.tok t::(Γ2++M))) w:=by
  have hpp:(.tok t::(Γ1++M)).Perm (.box b cs::(.tok t::(Γ2++M))):=by
   have:=(hq.p.append_right M).cons (.tok t);exact this.trans (List.Perm.swap _ _ _)
  exact h2.perm hpp
 refine ⟨F',h1,⟨h4.below,h4.fz,fun x hx=>?_,?_⟩⟩
 ·rcases List.mem_cons.1 (by simpa using hx:x∈.box b cs'::(.tok t::(Γ2++M))) with rfl | hx
  ·obtain ⟨k1,⟨vs,el,k2,k3⟩,k4⟩:=h4.fU _ (List.mem_cons_self ..)
   exact ⟨k1,⟨vs,el,k2,h.tu h3 k3⟩,k4⟩
  ·exact h4.fU x (List.mem_cons_of_mem _ hx)
 ·have:=List.pairwise_cons.1 h4.sep
  exact List.pairwise_cons.2 ⟨this.1,this.2⟩
theorem ah.shift {f:FuncId} {args:List PV} {Γ:List ak} {Q Q':PV→List ak→Prop} (h:ah P f args Γ Q) (hq: ∀ y Γ',Q y Γ'→ ∃ y2 Γ2,Shift y Γ' y2 Γ2∧Q' y2 Γ2):ah P f args Γ Q':=
 ⟨h.1,fun w0 F M w vs hS hT=>(h.2 w0 F M w vs hS hT).mono fun _ _ ⟨v,F',y,Γ',e1,e2,e3,e4,e5⟩=>by
  obtain ⟨y2,Γ2,k1,k2⟩:=hq y Γ' e5;obtain ⟨F2,m1,m2,m3⟩:=k1 w0 F' M _ v e3 e4
  exact ⟨v,F2,y2,Γ2,e1,Fz.le_trans e2 m1,m2,m3,k2⟩⟩
theorem DO.at_ {b:Nat} {Γ Γ':List ak} {T:List PV} {vs:List Value} {K:List ak→Prop} [hp:kP Γ (.ob b kU T vs) Γ'] (hq:Γ=.ob b kU T vs::Γ') (k:K Γ'):DO b Γ K:=
 ⟨T,vs, [],Γ',hq,k⟩
theorem fB.mono {l:Nat} {args:List PV} {Γ:List ak} {Q Q':PV→List ak→Prop} (h:fB P l args Γ Q) (hq: ∀ y Γ',Q y Γ'→Q' y Γ'):fB P l args Γ Q':=(lD.mono (K:=Q) (K':=Q') hq ⟨h⟩).h
theorem fB.frame {l:Nat} {args:List PV} {Γ Γ1 Γ2:List ak} {Q:PV→List ak→Prop} (h:fB P l args Γ1 Q) (hp:Γ.Perm (Γ1++Γ2)):fB P l args Γ fun y Γ'=> ∃ Γ1',Γ'=Γ1'++Γ2∧Q y Γ1':=fun w0 F M w vs hS hT=>by
 have hS':aN w0 F (Γ1++(Γ2++M)) w:=by
  have:=hS.perm (hp.append_right M);simpa using this
 obtain ⟨fn,tmps,assign,body,h1,h2⟩:=h w0 F (Γ2++M) w vs hS' hT;refine ⟨fn,tmps,assign,body,h1,h2.mono ?_⟩;rintro _ _ ⟨v,F',y,Γ',e1,e2,e3,e4,e5⟩;exact ⟨v,F',y,Γ'++Γ2,e1,e2,by simpa using e3,e4,Γ',rfl,e5⟩
theorem fB.wk {l:Nat} {args args':List PV} {Γ:List ak} {Q:PV→List ak→Prop} (h:fB P l args' Γ Q) (hw:bU args args'):fB P l args Γ Q:=fun w0 F M w vs hS hT=>h w0 F M w vs hS (hw.rep hT)
theorem PRange.go {f:FuncId} {cap:List PV} {ps:List Nat} {WA WB:List PV→List ak→Ds→QT→Prop} {T:List PV} {Γ Γi Γ1:List ak} {D:Ds} {Q:QT} {σ:Type} (xs:List (List PV)) (G:σ→List ak) (I:Nat→σ→Prop) (X:Exit→List ak→Prop) (s0:σ)
  (hit:GK P f cap Γi xs) (hI:I 0 s0) [hp:cr Γ (G s0++Γi) Γ1] (hl: ∀ ys∈xs,ys.length=ps.length)
  (round: ∀ k ys s,xs[k]?=some ys→I k s→qx T ps ys fun T0=>WA T0 (G s) [] (DW WB (Du k (fun k Γ=> ∃ s,I k s∧Γ=G s) X)))
  (done: ∀ b s,I xs.length s→Q .normal T (.ob b kU [] []::G s) (.mark b::D)) (stop: ∀ b e Γ',X e Γ'→Q e T (.ob b kU [] []::Γ') (.mark b::D)):PRange P f cap ps WA WB true T Γ D Q:=by
 refine ⟨rfl,G s0,Γi,xs,fun k Γ=> ∃ s,I k s∧Γ=G s,X,⟨T,fX.of (bU.refl T) (aA.drop hp.p)⟩,hit,⟨s0,hI,rfl⟩,hl,?_,?_,stop⟩
 ·rintro k ys _ h ⟨s,hs,rfl⟩
  exact round k ys s h hs
 ·rintro b _ ⟨s,hs,rfl⟩
  exact done b s hs
theorem BS {σ:Type} {k:Nat} {G:σ→List ak} {I:Nat→σ→Prop} {X:Exit→List ak→Prop} {T:List PV} {Γ Γ1:List ak} (s:σ) (hI:I (k + 1) s) [hp:cr Γ (G s) Γ1]:Du k (fun k Γ=> ∃ s,I k s∧Γ=G s) X .normal T Γ []:=
 ⟨rfl,T,G s,fX.of (bU.refl T) (aA.drop hp.p),s,hI,rfl⟩
theorem au.Oa {f:FuncId} {args args':List PV} {Γ Γ' Γ1 Γ2:List ak} {Q K:PV→List ak→Prop} (hg:aA Γ Γ') (h:ah P f args' Γ1 Q) (hw:bU args args') [hp:cr Γ' Γ1 Γ2]
  (k: ∀ y Γ1',Q y Γ1'→ic Γ1' Γ2 fun Γ'=>K y Γ'):au P f args Γ K:=
 au.ghost hg (((h.wk hw).frame hp.p).mono fun y Γ' ⟨Γ1',e,hq⟩=>by have:=k y Γ1' hq;rw[eS] at this;rw[e];exact this)
def uB (s:Nat):List PV→Bool
 | []=>true
 | y::ys=>match jJ y.cellsOf s with
  | true=>match y.cR with
   | true=>uB s ys
   | false=>false
  | false=>false
theorem jD {s:Nat}: ∀ {ys:List PV},uB s ys=true→(∀ y∈ys,y.cellsOf.length=s)∧ ∀ y∈ys,y.cR=true
 | [],_=>by simp
 | y::ys,h=>by
  unfold uB at h
  split at h
  ·rename_i h1
   split at h
   ·rename_i h2
    have:=jD h;exact ⟨List.forall_mem_cons.2 ⟨fk h1,this.1⟩,List.forall_mem_cons.2 ⟨h2,this.2⟩⟩
   ·cases h
  ·cases h
theorem mD.lit {s:Nat} {ys:List PV} {e:TypeId} {K:PV→ak→Prop} (h:uB s ys=true) (k: ∀ t:Tok,t.e=e→K (.sl s ys (some t)) (.tok t)):mD s ys e K:=
 ⟨(jD h).1,(jD h).2,.inl k⟩
def Et {q:Sort _}:List PV→(List PV→q)→q
 | [],k=>k []
 | y::ys,k=>Et ys fun r=>uy y.cellsOf r k
theorem Ba {q:Sort _}: ∀ (ys:List PV) (k:List PV→q),Et ys k=k (flat ys)
 | [],_=>rfl
 | y::ys,k=>by simp only[Et,Ba ys,gm];rfl
theorem AG.lit {s:Nat} {ys:List PV} {K:List PV→Prop} (h:uB s ys=true) (k:Et ys K):AG s ys K:=
 ⟨(jD h).1,(jD h).2,by rw[Ba] at k;exact k⟩
def bT (l:List Int) (v:Value):Option PV:=match v with
 | .int .i64 k=>if l.contains k then some .bB else none
 | _=>none
theorem eN.set {r:Nat} {l:List Int} {n:Int} {Γ:List ak} {aE:List (Int×Value)} {put:(Value→Option PV)→List (Int×Value)→List ak} [hp:c5 Γ r (.int .i64) (bT l) aE put] {K:PV→Bool→Prop} (h:K (.bool (l.contains n)) (l.contains n)):
  eN r (.int .i64) (some (.int .i64 n)) .bfalse Γ K:=
 eN.at_ (hp:=hp) (.bool (l.contains n)) (l.contains n) (by simp[oh,MapKept.IsKey]) (fun p hp=>by
  simp only[bT] at hp
  split at hp
  ·rename_i hc;cases hp;exact ⟨Wk.tt hc,hc⟩
  ·cases hp) (fun hn=>by
  simp only[bT] at hn
  split at hn
  ·cases hn
  ·rename_i hc;simp only[Bool.not_eq_true] at hc;exact ⟨Wk.ff hc,hc⟩) h
theorem nc (l:List Int) (n:Int):bT (n::l) (.int .i64 n)=some .bB:=by simp[bT]
theorem qw (l:List Int) (n:Int) (k:Value) (h:k≠.int .i64 n):bT (n::l) k=bT l k:=by
 unfold bT
 split
 ·rename_i m
  have:m≠n:=fun e=>h (by rw[e]);simp[List.contains_cons,this]
 ·rfl
theorem vV {l m:List Int} (h: ∀ x,x∈l↔x∈m):bT l=bT m:=by
 funext v;unfold bT
 split
 ·rename_i k
  have:l.contains k=m.contains k:=by rw[Bool.eq_iff_iff];simp[h]
  rw[this]
 ·rfl
theorem dg.set {r:Nat} {l:List Int} {n:Int} {Γ:List ak} {aE:List (Int×Value)} {put:(Value→Option PV)→List (Int×Value)→List ak} [hp:c5 Γ r (.int .i64) (bT l) aE put] {K:List ak→Prop} (h:K (put (bT (n::l)) aE)) (hq:bT l (.int .i64 n)≠none∨ ∀ q∈aE,q.2≠.tuple #[]:=by right;simp):
  dg r (.int .i64) (some (.int .i64 n)) .bB Γ K:=
 dg.at_ (hp:=hp) (bT (n::l)) (by simp[oh,MapKept.IsKey]) (nc l n) (qw l n) h hq
def yf (l:List Int) (n:Int) (z:PV) (v:Value):Option PV:=match v with
 | .int .i64 k=>if k=n then some z else bT l v
 | _=>none
theorem BZ (l:List Int) (n:Int) (z:PV) (k:Value) (h:k≠.int .i64 n):yf l n z k=bT l k:=by
 unfold yf
 split
 ·rename_i m
  have:m≠n:=fun e=>h (by rw[e]);simp[this]
 ·rename_i hne
  unfold bT
  split
  ·rename_i m;exact absurd rfl (hne m)
  ·rfl
theorem ew.set {r:Nat} {l:List Int} {n:Int} {z:PV} {Γ:List ak} {aE:List (Int×Value)} {put:(Value→Option PV)→List (Int×Value)→List ak} [hp:c5 Γ r (.int .i64) (bT l) aE put] {K:PV→List ak→Prop} (hn:l.contains n=false)
  (h: ∀ j,K (.aU [z,.int .i64 j]) (put (yf l n z) ((j,.int .i64 n)::aE))) (hq:bT l (.int .i64 n)≠none∨ ∀ q∈aE,q.2≠.tuple #[]:=by right;simp):ew r (.int .i64) (some (.int .i64 n)) z Γ K:=by
 have hz:bT l (.int .i64 n)=none:=by simp only[bT,hn];rfl
 refine ew.at_ (hp:=hp) (yf l n z) (by simp[oh,MapKept.IsKey]) (by rw[hz];simp[yf]) (fun k hk=>BZ l n z k hk) ?_ hq;intro j;rw[hz];exact h j
theorem cZ.set {r:Nat} {l:List Int} {n j:Int} {z:PV} {Γ:List ak} {aE:List (Int×Value)} {put:(Value→Option PV)→List (Int×Value)→List ak} [hp:c5 Γ r (.int .i64) (yf l n z) ((j,.int .i64 n)::aE) put] {K:List ak→Prop}
  (h:K (put (bT (n::l)) ((j,.int .i64 n)::aE))):cZ r j .bB Γ K:=
 cZ.at_ (hp:=hp) (bT (n::l)) (nc l n) (fun k hk=>by rw[qw l n k hk,BZ l n z k hk]) h
theorem er.set {r:Nat} {l:List Int} {n:Int} {Γ:List ak} {aE:List (Int×Value)} {put:(Value→Option PV)→List (Int×Value)→List ak} [hp:c5 Γ r (.int .i64) (bT l) aE put] {K:List ak→Prop} (h:K (put (bT (l.filter (· !=n))) [])):
  er r (.int .i64) (some (.int .i64 n)) Γ K:=
 er.at_ (hp:=hp) (bT (l.filter (· !=n))) (by simp[oh,MapKept.IsKey]) (by simp[bT]) (fun k hk=>by
  unfold bT
  split
  ·rename_i m
   have hm:m≠n:=fun e=>hk (by rw[e]);have:(l.filter (· !=n)).contains m=l.contains m:=by rw[Bool.eq_iff_iff];simp[hm]
   rw[this]
  ·rfl) h
end
theorem aA.aE {r:Nat} {d:TypeDesc} {m:Value→Option PV} {aE:List (Int×Value)} {Γ:List ak} {put:(Value→Option PV)→List (Int×Value)→List ak} [hp:c5 Γ r d m aE put]:aA Γ (put m []):=fun w0 F M w hS=>by
 obtain ⟨Γ1,Γ2,e1,e2⟩:=hp.at_;rw[e1] at hS;rw[e2];have hS':aN w0 F (Γ1++.mp r d m aE::(Γ2++M)) w:=by simpa using hS
 have:=hS'.IN (pend':= []) fun es clock _ hM=>⟨hM.st,hM.key,hM.get,hM.dom,by simp⟩
 exact ⟨F,Fz.le_refl F,by simpa using this⟩
theorem aA.dx {Γ Γ':List ak} (r:Nat) {d:TypeDesc} {m:Value→Option PV} {aE:List (Int×Value)} {put:(Value→Option PV)→List (Int×Value)→List ak} [hp:c5 Γ r d m aE put] (h:Γ'=put m []:=by rfl):aA Γ Γ':=h▸aA.aE (hp:=hp)
theorem OA {p:Prop} (h:p:=by first | omega | (simp only[SS] at hg;omega)):p:=h
theorem gA {p:Prop} (h:p:=by first | exact hg | exact Mb hg | exact Py hg | exact Mb (Mb hg) | exact Py (Mb hg) | exact Mb (Mb (Mb hg)) | (simp_all;done)):p:=h
theorem nA {p:Prop} (h:p:=by first | exact Bool.or_not_self _ | exact Bool.not_or_self _):p:=h
theorem NA {p:Prop} (h:p:=by first | exact Bool.or_not_self _ | exact Bool.not_or_self _ | (rw[hg,Bool.true_and];first | exact Bool.or_not_self _ | exact Bool.not_or_self _) | (simp_all;done)):p:=h
theorem wA {p:Prop} (h:p:=by (repeat' (first|exact trivial|exact Wk.refl _|(refine And.intro ?_ ?_)|exact Wk.any _|exact Wk.lp rfl|exact Wk.tok _ _ _|exact Wk.aT _ _|exact Wk.tt rfl|exact Wk.ff rfl|exact Wk.int (by omega)|exact bU.nil|apply bU.cons|exact ia.nil|apply ia.cons|apply Wk.agg|apply Wk.aU))):p:=h
theorem cA {p:Prop} (h:p:=by (repeat' (first|exact bU.nil|apply bU.cons|exact Wk.refl _|exact Wk.int (by first|omega|(simp only[SS] at hg;omega))|exact Wk.tt rfl|exact Wk.ff rfl|exact Wk.lp rfl|exact Wk.tok _ _ _))):p:=h
theorem bA {p:Prop} (h:p:=by exact And.intro (Nat.le_of_ble_eq_true rfl) (Nat.le_of_ble_eq_true rfl)):p:=h
theorem GR.of {es:List PV} {K:Bool→Prop} (h: ∀ q,(q=true→es= [])→K q):GR es K:=⟨h⟩
theorem n0:type_of% @GR.of:= @GR.of
theorem zA:type_of% @eN.set:= @eN.set
theorem zB:type_of% @mD.none:= @mD.none
theorem zC:type_of% @GQ.map:= @GQ.map
theorem zD:type_of% @Ct.mk:= @Ct.mk
theorem zE:type_of% @dg.set:= @dg.set
theorem zF:type_of% @er.set:= @er.set
theorem zG:type_of% @sL.go:= @sL.go
theorem zH:type_of% @e8.box:= @e8.box
theorem zI:type_of% @gK.of:= @gK.of
theorem zJ:type_of% @mD.one:= @mD.one
theorem zK:type_of% @mD.lit:= @mD.lit
theorem zL:type_of% @e8.ep:= @e8.ep
theorem zM:type_of% @dQ.lit:= @dQ.lit
theorem zN:type_of% @dz.box:= @dz.box
theorem zO:type_of% @jZ.ix:= @jZ.ix
theorem zP:type_of% @dQ.ix:= @dQ.ix
theorem zQ:type_of% @kE.ok:= @kE.ok
theorem zR:type_of% @Fb.of:= @Fb.of
theorem zS:type_of% @gL.lo:= @gL.lo
theorem zT:type_of% @iJ.lo:= @iJ.lo
theorem zU:type_of% @gL.hi:= @gL.hi
theorem zV:type_of% @iJ.hi:= @iJ.hi
theorem zW:type_of% @AH.of:= @AH.of
theorem zX:type_of% @om.ways:= @om.ways
theorem zY:type_of% @eP.lazy:= @eP.lazy
theorem zZ:type_of% @qK.of:= @qK.of
theorem SY:((¬True)=False∧(¬False)=True∧(∀ a:Prop,(False∧a)=False)∧(∀ a:Prop,(a∧False)=False)∧(∀ a:Prop,(True∧a)=a)∧(∀ a:Prop,(a∧True)=a)∧(∀ a:Prop,(True∨a)=True)∧(∀ a:Prop,(a∨True)=True)∧(∀ a:Prop,(False∨a)=a)∧(∀ a:Prop,(a∨False)=a))∧
  ((∀ (p:Prop) [Decidable p],(decide p=true)=p)∧(∀ (p:Prop) [Decidable p],(decide p=false)= ¬ p)∧(∀ a b:Int,((a == b)=true)=(a=b))∧(∀ a b:Int,((a == b)=false)= ¬ (a=b))∧
  (∀ a b:List UInt8,((a == b)=true)=(a=b))∧(∀ a b:List UInt8,((a == b)=false)= ¬ (a=b))∧(∀ a b:Int,((a !=b)=true)= ¬ (a=b))∧(∀ a b:Int,((a !=b)=false)=(a=b))∧
  (∀ a b:Bool,((a && b)=true)=(a=true∧b=true))∧(∀ a b:Bool,((a && b)=false)=(a=false∨b=false))∧(∀ a b:Bool,((a || b)=true)=(a=true∨b=true))∧(∀ a b:Bool,((a || b)=false)=(a=false∧b=false))∧
  (∀ a:Bool,((!a)=true)=(a=false))∧(∀ a:Bool,((!a)=false)=(a=true))∧(∀ a b:Int,(¬ a < b)=(b≤a))∧(∀ a b:Int,(¬ a≤b)=(b < a))∧(∀ a b:Int,(a > b)=(b < a))∧(∀ a b:Int,(a≥b)=(b≤a))∧
  (∀ a:Prop,(¬ ¬ a)=a)∧(true=false)=False∧(false=true)=False):=⟨by simp,SS⟩
def kz:List Oper→Nat→List Nat→List Nat
 | [],_,_=> []
 | _::l,i,R=>match A6 i R with
  | true=>kz l (i + 1) R
  | false=>i::kz l (i + 1) R
section
variable {P:Program} {tt:Nat→TI}
theorem aC.sP (d:Option Nat) {ops:Array Oper} (hd:u6 ops=d) (R1 R2:List Nat) {T:List PV} {Γ:List ak} {K:List PV→List ak→Prop} (hk:TT.ok P tt) (hm:P.follows .mixedOrders=true)
  (h:eA P tt ops.toList (aZ ops.toList (kz ops.toList 0 (R1++R2))) T Γ fun T'=>bG P tt ops.toList (aZ ops.toList R1) T' [] [] fun T2 Γ1' _=>ic Γ1' Γ fun Γ'=>bG P tt ops.toList (aZ ops.toList R2) T2 Γ' [] fun T' Γ' _=>K T' Γ')
  (hchk:ni ops (wh ops.toList []) (kz ops.toList 0 (R1++R2)) R1 R2=true:=by kernel_rfl):aC P ops T Γ K:=
 aC.split hk hm _ _ R1 R2 [] hchk h
theorem aC.sE {ops:Array Oper} (Γ1:List ak) (R1 R2:List Nat) {T:List PV} {Γ Γ2:List ak} {K:List PV→List ak→Prop} (hk:TT.ok P tt) (hm:P.follows .mixedOrders=true) [hp:cr Γ Γ1 Γ2]
  (h:eA P tt ops.toList (aZ ops.toList (kz ops.toList 0 (R1++R2))) T Γ2 fun T'=>bG P tt ops.toList (aZ ops.toList R1) T' Γ1 [] fun T2 Γ1' _=>ic Γ1' Γ2 fun Γ'=>bG P tt ops.toList (aZ ops.toList R2) T2 Γ' [] fun T' Γ' _=>K T' Γ')
  (hchk:ni ops (wh ops.toList []) (kz ops.toList 0 (R1++R2)) R1 R2=true:=by kernel_rfl):aC P ops T Γ K:=
 aC.split hk hm _ _ R1 R2 Γ1 hchk h
theorem aC.sQ (d:Option Nat) {ops:Array Oper} (hd:u6 ops=d) (R1 R2:List Nat) {T:List PV} {e:ak} {Γ2:List ak} {K:List PV→List ak→Prop} (hk:TT.ok P tt) (hm:P.follows .mixedOrders=true)
  (h:eA P tt ops.toList (aZ ops.toList (kz ops.toList 0 (R1++R2))) T Γ2 fun T'=>bG P tt ops.toList (aZ ops.toList R1) T' [e] [] fun T2 Γ1' _=>ic Γ1' Γ2 fun Γ'=>bG P tt ops.toList (aZ ops.toList R2) T2 Γ' [] fun T' Γ' _=>K T' Γ')
  (hchk:ni ops (wh ops.toList []) (kz ops.toList 0 (R1++R2)) R1 R2=true:=by kernel_rfl):aC P ops T (e::Γ2) K:=
 aC.split hk hm _ _ R1 R2 [e] (hp:=⟨List.Perm.refl _⟩) hchk h
end
theorem pC:type_of% @au.pure:= @au.pure
theorem wR {T:List PV}:bU T T:=bU.refl _
theorem pS:type_of% @bV.same:= @bV.same
theorem pL:type_of% @bV.lit:= @bV.lit
theorem pE:type_of% @bV.ep:= @bV.ep
theorem OU {p:Prop} (h:p:=by
 conv=>whnf
 repeat ((first|(refine zW ?_ ?_;exact gA)|refine zH rfl ?_|refine zA ?_|refine zI bA ?_|refine zI rfl ?_|refine zJ rfl rfl ?_|refine zB ?_|refine zK rfl ?_|refine zL rfl ?_|refine zC ?_|(refine zO ?_ ?_ ?_;exact OA;exact OA)|(refine zP ?_ ?_ ?_;exact OA;exact OA)|refine zM rfl ?_|(refine zQ ?_ ?_ ?_;exact OA;exact OA)|(refine zR ?_ ?_;exact OA)|(refine zI ?_ ?_;exact NA)|(refine zS ?_ ?_ ?_;exact OA;exact OA)|(refine zT ?_ ?_ ?_;exact OA;exact OA)|(refine zU ?_ ?_ ?_;exact OA;exact OA)|(refine zV ?_ ?_ ?_;exact OA;exact OA)|intro _);conv=>whnf)
 first | exact bV.same | exact bV.lit | exact bV.ep):p:=h
structure Hd (q:Prop):Prop where
 h:q
theorem pZ {p:Prop} (h:p:=by first | exact bV.same | exact bV.lit | exact bV.ep):p:=h
theorem aM {p q:Prop} (k:q) (h:Hd q→p:=by intro hq;(first | (refine zW ?_ ?_;exact gA) | refine zH rfl ?_ | refine zA ?_ | refine zI bA ?_ | refine zI rfl ?_ | refine zJ rfl rfl ?_ | refine zB ?_ | refine zK rfl ?_ | refine zL rfl ?_ | refine zC ?_ | (refine zO ?_ ?_ ?_;omega;omega) | (refine zP ?_ ?_ ?_;omega;omega) | refine zM rfl ?_ | (refine zQ ?_ ?_ ?_;omega;omega) | (refine zR ?_ ?_;omega) | (refine zI ?_ ?_;exact nA) | (refine zS ?_ ?_ ?_;omega;omega) | (refine zT ?_ ?_ ?_;omega;omega) | (refine zU ?_ ?_ ?_;omega;omega) | (refine zV ?_ ?_ ?_;omega;omega));exact hq.h):p:=h ⟨k⟩
theorem aG {p q:Prop} (k:q) (h:Hd q→p:=by intro hq;(first | (refine zW ?_ ?_;exact gA) | refine zA ?_ | refine zH rfl ?_ | refine zB ?_);exact hq.h):p:=h ⟨k⟩
theorem kM {p q:Prop} (k:q) (h:Hd q→p:=by intro hq;(conv=>whnf);(repeat1' ((first | ((first | (apply zY;intro hg) | apply zZ);exact OU) | (refine zW ?_ ?_;exact gA) | refine zH rfl ?_ | refine zA ?_ | refine zI bA ?_ | refine zI rfl ?_ | refine zJ rfl rfl ?_ | refine zB ?_ | refine zK rfl ?_ | refine zL rfl ?_ | refine zC ?_ | (refine zO ?_ ?_ ?_;omega;omega) | (refine zP ?_ ?_ ?_;omega;omega) | refine zM rfl ?_ | (refine zQ ?_ ?_ ?_;omega;omega) | (refine zR ?_ ?_;omega) | (refine zI ?_ ?_;exact nA) | (refine zS ?_ ?_ ?_;omega;omega) | (refine zT ?_ ?_ ?_;omega;omega) | (refine zU ?_ ?_ ?_;omega;omega) | (refine zV ?_ ?_ ?_;omega;omega) | refine zN rfl rfl rfl ?_ | refine zD ?_ | refine zE ?_ | refine zF ?_);conv=>whnf));exact hq.h):p:=h ⟨k⟩
theorem cW {p q:Prop} (k:q) (h:Hd q→p:=by intro hq;(conv=>whnf);(repeat1' ((first | ((first | (apply zY;intro hg) | apply zZ);exact OU) | (refine zW ?_ ?_;exact gA) | refine zH rfl ?_ | refine zA ?_ | refine zI bA ?_ | refine zI rfl ?_ | refine zJ rfl rfl ?_ | refine zB ?_ | refine zK rfl ?_ | refine zL rfl ?_ | refine zC ?_ | (refine zO ?_ ?_ ?_;omega;omega) | (refine zP ?_ ?_ ?_;omega;omega) | refine zM rfl ?_ | (refine zQ ?_ ?_ ?_;omega;omega) | (refine zR ?_ ?_;omega) | (refine zI ?_ ?_;exact nA) | (refine zS ?_ ?_ ?_;omega;omega) | (refine zT ?_ ?_ ?_;omega;omega) | (refine zU ?_ ?_ ?_;omega;omega) | (refine zV ?_ ?_ ?_;omega;omega) | refine zN rfl rfl rfl ?_ | refine zD ?_ | refine zE ?_ | refine zF ?_ | refine zG ?_);conv=>whnf));exact hq.h):p:=h ⟨k⟩
inductive Datum where
 | mk (kind n d:Int) (s:List UInt8) (l:List Datum)
def Datum.kind:Datum→Int | .mk k _ _ _ _=>k
def Datum.n:Datum→Int | .mk _ n _ _ _=>n
def Datum.d:Datum→Int | .mk _ _ d _ _=>d
def Datum.s:Datum→List UInt8 | .mk _ _ _ s _=>s
def Datum.l:Datum→List Datum | .mk _ _ _ _ l=>l
mutual
def Datum.pv:Datum→PV
 | .mk k n d s l=>.agg [.int .i64 k,.int .i64 n,.int .i64 d,.str s,.sl 5 (Datum.EX l) none]
def Datum.EX:List Datum→List PV
 | []=> []
 | x::xs=>Datum.pv x::Datum.EX xs
end
theorem Datum.m6: ∀ l:List Datum,Datum.EX l=l.map Datum.pv
 | []=>rfl
 | x::xs=>by simp only[Datum.EX,List.map_cons,Datum.m6 xs]
def Datum.cells (x:Datum):List PV:= [.int .i64 x.kind,.int .i64 x.n,.int .i64 x.d,.str x.s,.sl 5 (x.l.map Datum.pv) none]
theorem Datum.gC (x:Datum):x.pv=.agg x.cells:=by
 cases x;simp only[Datum.pv,Datum.cells,Datum.m6,Datum.kind,Datum.n,Datum.d,Datum.s,Datum.l]
instance:ec Datum.pv Datum.cells:=⟨fun x=>by rw[Datum.gC];rfl⟩
mutual
theorem Datum.ki {p:Datum→Prop} (h: ∀ x:Datum,(∀ y∈x.l,p y)→p x): ∀ d,p d
 | .mk k n d s l=>h (.mk k n d s l) (Datum.iT h l)
theorem Datum.iT {p:Datum→Prop} (h: ∀ x:Datum,(∀ y∈x.l,p y)→p x): ∀ (l:List Datum), ∀ x∈l,p x
 | []=>by simp
 | y::ys=>List.forall_mem_cons.2 ⟨Datum.ki h y,Datum.iT h ys⟩
end
theorem Datum.ind {p:Datum→Prop} (h: ∀ x:Datum,(∀ y∈x.l,p y)→p x) (d:Datum):p d:=Datum.ki h d
inductive aa where
 | mk (op n:Int) (v:List Int) (t:List aa)
def aa.op:aa→Int | .mk o _ _ _=>o
def aa.n:aa→Int | .mk _ n _ _=>n
def aa.v:aa→List Int | .mk _ _ v _=>v
def aa.t:aa→List aa | .mk _ _ _ t=>t
mutual
def aa.pv:aa→PV
 | .mk o n v t=>.agg [.int .i64 o,.int .i64 n,.sl 1 (v.map (PV.int .i64)) none,.sl 4 (aa.EX t) none]
def aa.EX:List aa→List PV
 | []=> []
 | x::xs=>aa.pv x::aa.EX xs
end
theorem aa.m6: ∀ l:List aa,aa.EX l=l.map aa.pv
 | []=>rfl
 | x::xs=>by simp only[aa.EX,List.map_cons,aa.m6 xs]
def aa.cells (x:aa):List PV:= [.int .i64 x.op,.int .i64 x.n,.sl 1 (x.v.map (PV.int .i64)) none,.sl 4 (x.t.map aa.pv) none]
theorem aa.gC (x:aa):x.pv=.agg x.cells:=by
 cases x;simp only[aa.pv,aa.cells,aa.m6,aa.op,aa.n,aa.v,aa.t]
instance:ec aa.pv aa.cells:=⟨fun x=>by rw[aa.gC];rfl⟩
mutual
theorem aa.ki {p:aa→Prop} (h: ∀ x:aa,(∀ y∈x.t,p y)→p x): ∀ d,p d
 | .mk o n v t=>h (.mk o n v t) (aa.iT h t)
theorem aa.iT {p:aa→Prop} (h: ∀ x:aa,(∀ y∈x.t,p y)→p x): ∀ (l:List aa), ∀ x∈l,p x
 | []=>by simp
 | y::ys=>List.forall_mem_cons.2 ⟨aa.ki h y,aa.iT h ys⟩
end
theorem aa.ind {p:aa→Prop} (h: ∀ x:aa,(∀ y∈x.t,p y)→p x) (d:aa):p d:=aa.ki h d
def lW (c:UInt8):Bool:=decide ((c.toNat:Int) < 32) || decide ((c.toNat:Int) > 126) || (c.toNat:Int) == 34 || (c.toNat:Int) == 92
theorem aq {α:Type} {l:List α} {i:Nat} (h:i < l.length):l.drop i=l[i]::l.drop (i + 1):=List.drop_eq_getElem_cons h
theorem kW {s:List UInt8} {i:Nat} (h:i < s.length):s.drop i=s.getD i 0::s.drop (i + 1):=by
 rw[aq h];simp[List.getD,h]
mutual
def Datum.oe:Datum→Int→Int
 | .mk _ _ _ _ l,left=>Datum.eL l (left - 1)
def Datum.eL:List Datum→Int→Int
 | [],left=>left
 | x::xs,left=>if 0≤left then Datum.eL xs (Datum.oe x left) else left
end
mutual
def aa.oe:aa→Int→Int
 | .mk _ _ _ l,left=>aa.eL l (left - 1)
def aa.eL:List aa→Int→Int
 | [],left=>left
 | x::xs,left=>if 0≤left then aa.eL xs (aa.oe x left) else left
end
theorem Datum.rL (x:Datum) (n:Int):x.oe n=Datum.eL x.l (n - 1):=by cases x;rfl
theorem aa.rL (x:aa) (n:Int):x.oe n=aa.eL x.t (n - 1):=by cases x;rfl
theorem Datum.zg (d:Datum): ∀ left:Int,0≤left→ -1≤d.oe left∧d.oe left < left:=by
 induction d using Datum.ind with
 | h d ih=>
  intro left h0;rw[Datum.rL]
  have key: ∀ (l:List Datum),(∀ x∈l, ∀ left:Int,0≤left→ -1≤x.oe left∧x.oe left < left)→ ∀ left:Int, -1≤left→ -1≤Datum.eL l left∧Datum.eL l left≤left:=by
   intro l
   induction l with
   | nil=>intro _ left h;rw[Datum.eL];omega
   | cons x xs ihx=>
    intro hx left h;rw[Datum.eL]
    split
    ·have h1:=hx x (by simp) left (by omega)
     have h2:=ihx (fun y hy=>hx y (by simp[hy])) (x.oe left) (by omega);omega
    ·omega
  have:=key d.l ih (left - 1) (by omega);omega
theorem aa.zg (d:aa): ∀ left:Int,0≤left→ -1≤d.oe left∧d.oe left < left:=by
 induction d using aa.ind with
 | h d ih=>
  intro left h0;rw[aa.rL]
  have key: ∀ (l:List aa),(∀ x∈l, ∀ left:Int,0≤left→ -1≤x.oe left∧x.oe left < left)→ ∀ left:Int, -1≤left→ -1≤aa.eL l left∧aa.eL l left≤left:=by
   intro l
   induction l with
   | nil=>intro _ left h;rw[aa.eL];omega
   | cons x xs ihx=>
    intro hx left h;rw[aa.eL]
    split
    ·have h1:=hx x (by simp) left (by omega)
     have h2:=ihx (fun y hy=>hx y (by simp[hy])) (x.oe left) (by omega);omega
    ·omega
  have:=key d.t ih (left - 1) (by omega);omega
mutual
def Datum.bp:Datum→Nat
 | .mk _ _ _ s l=>1 + s.length + Datum.aD l
def Datum.aD:List Datum→Nat
 | []=>0
 | x::xs=>Datum.bp x + Datum.aD xs
end
mutual
def aa.bp:aa→Nat
 | .mk _ _ v l=>1 + v.length + aa.aD l
def aa.aD:List aa→Nat
 | []=>0
 | x::xs=>aa.bp x + aa.aD xs
end
theorem Datum.cX (x:Datum):x.bp=1 + x.s.length + Datum.aD x.l:=by cases x;rfl
theorem aa.cX (x:aa):x.bp=1 + x.v.length + aa.aD x.t:=by cases x;rfl
theorem Datum.cU {x:Datum}: ∀ {l:List Datum},x∈l→x.bp≤Datum.aD l
 | [],h=>by simp at h
 | y::l,h=>by
  rw[Datum.aD];rcases List.mem_cons.1 h with rfl | h
  ·omega
  ·have:=Datum.cU h;omega
theorem aa.cU {x:aa}: ∀ {l:List aa},x∈l→x.bp≤aa.aD l
 | [],h=>by simp at h
 | y::l,h=>by
  rw[aa.aD];rcases List.mem_cons.1 h with rfl | h
  ·omega
  ·have:=aa.cU h;omega
theorem Datum.dA: ∀ l:List Datum,l.length≤Datum.aD l
 | []=>by simp
 | x::l=>by have:=Datum.dA l;have:=x.cX;rw[Datum.aD,List.length_cons];omega
theorem aa.dA: ∀ l:List aa,l.length≤aa.aD l
 | []=>by simp
 | x::l=>by have:=aa.dA l;have:=x.cX;rw[aa.aD,List.length_cons];omega
set_option maxHeartbeats 4000000
theorem Ew (a b:Nat) (ha:a < 18446744073709551616) (hb:b < 18446744073709551616):ay Tryz.prog 136 [.int .u64 a,.int .u64 b] (.int .u64 (Nat.gcd a b:Nat)):=by
 refine ah.ai aj Tryz.func136 rfl rfl (n:=14) rfl rfl ?_
 conv=>whnf
 skip
 refine aI.jC (fun | ((a',b'):Nat×Nat)=> [(0,.int .u64 a'),(1,.int .u64 b')]) (fun _=> []) (fun | (a',b')=>Nat.gcd a' b'=Nat.gcd a b∧a' < 18446744073709551616∧b' < 18446744073709551616) (fun | (_,b')=>b') 14
  (a,b) ⟨rfl,ha,hb⟩ rfl wA ?_
 rintro ⟨a',b'⟩ ⟨hg,ha',hb'⟩
 conv=>whnf
 refine ⟨fun hc=>?_,fun hc=>?_⟩
 ·conv=>whnf
  simp only[SS] at hc;refine ⟨by omega,?_⟩
  conv=>whnf
  have hb0:0 < b':=by omega
  refine Bu (b',a' % b') ⟨?_,hb',Nat.lt_trans (Nat.mod_lt _ hb0) hb'⟩ (Nat.mod_lt _ hb0) rfl (And.intro (Wk.refl _) <| And.intro (Wk.int (Int.ofNat_tmod ..).symm) trivial);rw[←hg,Nat.gcd_comm a' b',Nat.gcd_rec b' a',Nat.gcd_comm]
 ·conv=>whnf
  simp only[SS] at hc;have hb0:b'=0:=by omega
  subst hb0;refine an.pure (Wk.int ?_);rw[←hg,Nat.gcd_zero_right]
theorem v7 (n:Int) (h1: -9223372036854775808≤n) (h2:n≤9223372036854775807):ay Tryz.prog 137 [.int .i64 n] (.int .u64 n.natAbs):=by
 refine ah.ai aj Tryz.func137 rfl rfl (n:=10) rfl rfl ?_
 conv=>whnf
 skip
 refine ⟨fun hc=>?_,fun hc=>?_⟩
 ·conv=>whnf
  simp only[SS] at hc;refine kE.uh (by omega) hc ?_
  conv=>whnf
  refine kE.uh (by omega) (by omega) ?_
  conv=>whnf
  refine an.pure (Wk.int (by omega))
 ·conv=>whnf
  simp only[SS] at hc;refine kE.u64 hc (by omega) ?_
  conv=>whnf
  refine an.pure (Wk.int (by omega))
theorem AW (a b:Nat) (ha:a < 18446744073709551616) (hb:b < 18446744073709551616):ay Tryz.prog 144 [.int .u64 a,.int .u64 b] (.int .u64 (Nat.gcd a b:Nat)):=by
 refine ah.ai aj Tryz.func144 rfl rfl (n:=12) rfl rfl ?_
 conv=>whnf
 skip
 refine aI.jC (fun | ((a',b'):Nat×Nat)=> [(0,.int .u64 a'),(1,.int .u64 b')]) (fun _=> []) (fun | (a',b')=>Nat.gcd a' b'=Nat.gcd a b∧a' < 18446744073709551616∧b' < 18446744073709551616) (fun | (_,b')=>b') 12
  (a,b) ⟨rfl,ha,hb⟩ rfl wA ?_
 rintro ⟨a',b'⟩ ⟨hg,ha',hb'⟩
 conv=>whnf
 refine ⟨fun hc=>?_,fun hc=>?_⟩
 ·conv=>whnf
  simp only[SS] at hc;have hb0:b'=0:=by omega
  subst hb0;refine an.pure (Wk.int ?_);rw[←hg,Nat.gcd_zero_right]
 ·conv=>whnf
  simp only[SS] at hc;have hb0:0 < b':=by omega
  refine aC.sE [] [] [] aj mixed ?_
  conv=>whnf
  apply qK.of
  ·conv=>whnf
   exact bV.same
  conv=>whnf
  apply qK.of
  ·conv=>whnf
   exact bV.same
  conv=>whnf
  apply qK.of
  ·conv=>whnf
   exact bV.same
  conv=>whnf
  apply qK.of
  ·conv=>whnf
   refine ⟨by omega,?_⟩
   conv=>whnf
   exact bV.same
  conv=>whnf
  apply qK.of
  ·conv=>whnf
   exact bV.same
  conv=>whnf
  apply qK.of
  ·conv=>whnf
   exact bV.same
  conv=>whnf
  refine Bu (b',a' % b') ⟨?_,hb',Nat.lt_trans (Nat.mod_lt _ hb0) hb'⟩ (Nat.mod_lt _ hb0) rfl (And.intro (Wk.refl _) <| And.intro (Wk.int (Int.ofNat_tmod ..).symm) trivial);rw[←hg,Nat.gcd_comm a' b',Nat.gcd_rec b' a',Nat.gcd_comm]
theorem ux (n:Int) (h1: -9223372036854775808≤n) (h2:n≤9223372036854775807):ay Tryz.prog 145 [.int .i64 n] (.int .u64 n.natAbs):=by
 refine ah.ai aj Tryz.func145 rfl rfl (n:=10) rfl rfl ?_
 conv=>whnf
 skip
 refine ⟨fun hc=>?_,fun hc=>?_⟩
 ·conv=>whnf
  simp only[SS] at hc;refine kE.uh (by omega) hc ?_
  conv=>whnf
  refine kE.uh (by omega) (by omega) ?_
  conv=>whnf
  refine an.pure (Wk.int (by omega))
 ·conv=>whnf
  simp only[SS] at hc;refine kE.u64 hc (by omega) ?_
  conv=>whnf
  refine an.pure (Wk.int (by omega))
def bE (n d:Int):Bool:=decide (1≤d) && (decide (d≤2147483647) && (decide (-2147483647≤n) && (decide (n≤2147483647) && (Nat.gcd n.natAbs d.natAbs == 1))))
theorem fh (n d:Int):ay Tryz.prog 109 [.int .i64 n,.int .i64 d] (.bool (bE n d)):=by
 refine ah.ai aj Tryz.func109 rfl rfl (n:=27) rfl rfl ?_
 conv=>whnf
 repeat' (first|refine cW ?_|(((((apply zY;intro hg));(conv=>whnf);(repeat ((first|refine pC (v7 _ OA OA) wR ?_|refine pC (Ew n.natAbs d.natAbs OA OA) cA ?_|refine aG ?_);conv=>whnf));exact pZ));conv=>whnf)|(refine zX (fun hc=>?_) (fun hc=>?_)<;>(try simp only[SY] at hc)<;>omega))
 exact an.pure (Wk.bool (by rw[Bool.eq_iff_iff];simp[bE];omega))
theorem IQ (n d:Int):ay Tryz.prog 121 [.int .i64 n,.int .i64 d] (.bool (bE n d)):=by
 refine ah.ai aj Tryz.func121 rfl rfl (n:=27) rfl rfl ?_
 conv=>whnf
 repeat' (first|refine cW ?_|(((((apply zY;intro hg));(conv=>whnf);(repeat ((first|refine pC (ux _ OA OA) wR ?_|refine pC (AW n.natAbs d.natAbs OA OA) cA ?_|refine aG ?_);conv=>whnf));exact pZ));conv=>whnf)|(refine zX (fun hc=>?_) (fun hc=>?_)<;>(try simp only[SY] at hc)<;>omega))
 exact an.pure (Wk.bool (by rw[Bool.eq_iff_iff];simp[bE];omega))
def eE (c:UInt8):Bool:=decide (48≤c.toNat) && decide (c.toNat≤57)
def eT (l:List UInt8):Nat:=l.foldl (fun n c=>10 * n + (c.toNat - 48)) 0
def ig:List UInt8→Nat
 | []=>0
 | c::s=>if eE c then ig s + 1 else 0
def cq (s:List UInt8):Nat×Nat:=if 10 < ig s then (0,0) else (eT (s.take (ig s)),ig s)
theorem sk (l:List UInt8) (c:UInt8):eT (l++ [c])=10 * eT l + (c.toNat - 48):=by simp[eT]
theorem nG (l:List UInt8) (h: ∀ c∈l,eE c=true):eT l < 10 ^ l.length:=by
 suffices ∀ (l:List UInt8) (m:Nat),(∀ c∈l,eE c=true)→l.foldl (fun n c=>10 * n + (c.toNat - 48)) m < (m + 1) * 10 ^ l.length by
  have:=this l 0 h;simpa[eT] using this
 intro l
 induction l with
 | nil=>intro m _;simp
 | cons c l ih=>
  intro m h;rw[List.foldl_cons];have h1:=h c (by simp);have h2:=ih (10 * m + (c.toNat - 48)) (fun c hc=>h c (by simp[hc]));simp only[eE,Bool.and_eq_true,decide_eq_true_eq] at h1;refine Nat.lt_of_lt_of_le h2 ?_;rw[List.length_cons,Nat.pow_succ,Nat.mul_comm (10 ^ l.length) 10, ←Nat.mul_assoc];exact Nat.mul_le_mul_right _ (by omega)
theorem El: ∀ (s:List UInt8) (k:Nat),(∀ c∈s.take k,eE c=true)→k≤s.length→(∀ c,s[k]?=some c→eE c=false)→ig s=k
 | [],k,_,h,_=>by simp at h;rw[ig,h]
 | c::s,0,_,_,h=>by simp[ig,h c (by simp)]
 | c::s,k + 1,h1,h2,h3=>by
  rw[ig,if_pos (h1 c (by simp)),El s k (fun c hc=>h1 c (by simp[hc])) (by simpa using h2) (fun c hc=>h3 c (by simpa using hc))]
theorem A4: ∀ (s:List UInt8), ∀ c∈s.take (ig s),eE c=true
 | [],c,h=>by simp at h
 | d::s,c,h=>by
  rw[ig] at h
  split at h
  ·rename_i hd
   rw[List.take_succ_cons] at h;rcases List.mem_cons.1 h with rfl | h
   ·exact hd
   ·exact A4 s c h
  ·simp at h
theorem Em: ∀ (s:List UInt8),ig s≤s.length
 | []=>by simp[ig]
 | d::s=>by rw[ig];split<;>simp[Em s]
theorem MR (s:List UInt8):ay Tryz.prog 155 [.str s] (.aU [.int .i64 (cq s).1,.int .i64 (cq s).2]):=by
 refine ah.ai aj Tryz.func155 rfl rfl (n:=38) rfl rfl ?_
 conv=>whnf
 skip
 refine aI.keep [4,5,6,7,8,9,10,11,12,13,14,15,16,17,18,19,20,21,22,23,24,25,26,27,28,29,30,31,32,33] (fun k:Nat=> [(4,.int .i64 (eT ((s.take k).take 10))),(5,.int .i64 k)])
  (fun k=>k≤s.length∧ ∀ c∈s.take k,eE c=true) (fun k=>s.length - k) 0 ⟨by omega,by simp⟩ wA ?_
 rintro k ⟨hk,hd⟩;have hv:eT ((s.take k).take 10) < 10 ^ 10:=Nat.lt_of_lt_of_le (nG _ fun c hc=>hd c (List.mem_of_mem_take hc)) (Nat.pow_le_pow_right (by omega) (by simp;omega));have aL: ∀ c,s[k]?=some c→s.getD k 0=c:=fun c hc=>by rw[List.getD,hc];rfl
 conv=>whnf
 repeat' (first|refine cW ?_|((intro _);conv=>whnf)|(refine zX (fun hc=>?_) (fun hc=>?_)<;>(try simp only[SY] at hc)<;>(conv=>whnf)))
 ·have hlt:k < s.length:=by omega
  have htk:s.take (k + 1)=s.take k++ [s.getD k 0]:=by rw[List.take_add_one];simp[hlt]
  have e:10 * (eT ((s.take k).take 10):Int) + (((s.getD k 0).toNat:Int) - 48)=eT ((s.take (k + 1)).take 10):=by
   rw[List.take_take,List.take_take,Nat.min_eq_right (by omega),Nat.min_eq_right (by omega),htk,sk];omega
  refine aJ (k + 1) ⟨by omega,fun x hx=>?_⟩ (by show s.length - (k + 1) < s.length - k;omega) wA;rw[htk] at hx;rcases List.mem_append.1 hx with hx | hx
  ·exact hd x hx
  ·rw[List.mem_singleton.1 hx];simp only[eE,Bool.and_eq_true,decide_eq_true_eq];omega
 ·have hlt:k < s.length:=by omega
  have htk:s.take (k + 1)=s.take k++ [s.getD k 0]:=by rw[List.take_add_one];simp[hlt]
  have e:(eT ((s.take k).take 10):Int)=eT ((s.take (k + 1)).take 10):=by
   rw[List.take_take,List.take_take,Nat.min_eq_left (by omega),Nat.min_eq_left (by omega)]
  refine aJ (k + 1) ⟨by omega,fun x hx=>?_⟩ (by show s.length - (k + 1) < s.length - k;omega) wA;rw[htk] at hx;rcases List.mem_append.1 hx with hx | hx
  ·exact hd x hx
  ·rw[List.mem_singleton.1 hx];simp only[eE,Bool.and_eq_true,decide_eq_true_eq];omega
 all_goals
  have hdk:ig s=k:=El s k hd hk fun c hc1=>by
   have hlt:k < s.length:=(List.getElem?_eq_some_iff.1 hc1).1;rw[aL c hc1] at *;simp only[eE,Bool.and_eq_false_iff,decide_eq_false_iff_not];omega
  refine an.pure (Wk.eq ?_)
 ·rw[cq,if_pos (by omega)]
  rfl
 ·rw[cq,if_neg (by omega),List.take_take,Nat.min_eq_right (by omega),hdk]
def kj (n d:Int):Int×Int×Int:=
 if d=0 then (0,0,4) else
 if 2147483647 < n.natAbs / Nat.gcd n.natAbs d.natAbs∨2147483647 < d.natAbs / Nat.gcd n.natAbs d.natAbs then (0,0,3) else
 if decide (n < 0)≠decide (d < 0) then (-((n.natAbs / Nat.gcd n.natAbs d.natAbs:Nat):Int),(d.natAbs / Nat.gcd n.natAbs d.natAbs:Nat),0) else
 ((n.natAbs / Nat.gcd n.natAbs d.natAbs:Nat),(d.natAbs / Nat.gcd n.natAbs d.natAbs:Nat),0)
def Ii (n d:Int) (a b:Nat):Int×Int×Int:=
 if 2147483647 < a∨2147483647 < b then (0,0,3) else if decide (n < 0)≠decide (d < 0) then (-(a:Int),(b:Int),0) else ((a:Int),(b:Int),0)
theorem Bv (n d:Int) (h:d≠0):kj n d=Ii n d (n.natAbs / Nat.gcd n.natAbs d.natAbs) (d.natAbs / Nat.gcd n.natAbs d.natAbs):=by rw[kj,if_neg h];rfl
def Cg (x:Int×Int×Int):PV:=.aU [.int .i64 x.1,.int .i64 x.2.1,.int .i64 x.2.2]
theorem zx (n d:Int) (h1: -9223372036854775808≤n) (h2:n≤9223372036854775807) (h3: -9223372036854775808≤d) (h4:d≤9223372036854775807):
  ay Tryz.prog 156 [.int .i64 n,.int .i64 d] (Cg (kj n d)):=by
 refine ah.ai aj Tryz.func156 rfl rfl (n:=45) rfl rfl ?_
 conv=>whnf
 skip
 refine ⟨fun hc=>?_,fun hc=>?_⟩
 ·conv=>whnf
  skip
  simp only[SS] at hc;exact an.pure (Wk.eq (by rw[kj,if_pos hc];rfl))
 conv=>whnf
 skip
 simp only[SS] at hc;have hd0:=hc;refine au.pure (v7 n h1 h2) (bU.refl _) ?_
 conv=>whnf
 skip
 refine au.pure (v7 d h3 h4) (bU.refl _) ?_
 conv=>whnf
 skip
 have ha:n.natAbs≤9223372036854775808:=by omega
 have hb:d.natAbs≤9223372036854775808:=by omega
 refine au.pure (Ew n.natAbs d.natAbs (by omega) (by omega)) (bU.refl _) ?_;have hg:0 < Nat.gcd n.natAbs d.natAbs:=Nat.gcd_pos_of_pos_right _ (by omega);have hm:=Bv n d hd0;generalize hgg:Nat.gcd n.natAbs d.natAbs=g at *;have qa:n.natAbs / g≤9223372036854775808:=Nat.le_trans (Nat.div_le_self _ _) ha;have qb:d.natAbs / g≤9223372036854775808:=Nat.le_trans (Nat.div_le_self _ _) hb;have ea:(n.natAbs:Int).tdiv (g:Int)=(n.natAbs / g:Nat):=(Int.ofNat_tdiv _ _).symm;have eb:(d.natAbs:Int).tdiv (g:Int)=(d.natAbs / g:Nat):=(Int.ofNat_tdiv _ _).symm;unfold Ii at hm;generalize n.natAbs / g=a at *;generalize d.natAbs / g=b at *
 conv=>whnf
 repeat (refine kM ?_)
 rw[ea,eb]
 conv=>whnf
 repeat' (first|refine cW ?_|(refine zX (fun hc=>?_) (fun hc=>?_)<;>(try simp only[SY] at hc)<;>(conv=>whnf)))
 ·exact an.pure (Wk.eq (by rw[hm,if_pos (by omega)];rfl))
 ·rw[if_neg (by omega)] at hm
  refine an.pure (Wk.eq ?_);rw[hm,if_pos (by simpa using hc)];simp[Cg]
 ·rw[if_neg (by omega)] at hm
  refine an.pure (Wk.eq ?_);rw[hm,if_neg (by simpa using hc)];rfl
theorem Hz {p q:Prop} (k:q) (h:q→p:=by intro hq;first | exact aC.sP (some 19) rfl [] [] aj mixed hq):p:=h k
theorem Kp (n d:Int) (h1: -9223372036854775808≤n) (h2:n≤9223372036854775807) (h3: -9223372036854775808≤d) (h4:d≤9223372036854775807):
  ay Tryz.prog 174 [.int .i64 n,.int .i64 d] (Cg (kj n d)):=by
 refine ah.ai aj Tryz.func174 rfl rfl (n:=45) rfl rfl ?_
 conv=>whnf
 skip
 refine ⟨fun hc=>?_,fun hc=>?_⟩
 ·conv=>whnf
  skip
  simp only[SS] at hc;exact an.pure (Wk.eq (by rw[kj,if_pos hc];rfl))
 conv=>whnf
 skip
 simp only[SS] at hc;have hd0:=hc;refine au.pure (ux n h1 h2) (bU.refl _) ?_
 conv=>whnf
 skip
 refine au.pure (ux d h3 h4) (bU.refl _) ?_
 conv=>whnf
 skip
 have ha:n.natAbs≤9223372036854775808:=by omega
 have hb:d.natAbs≤9223372036854775808:=by omega
 refine au.pure (AW n.natAbs d.natAbs (by omega) (by omega)) (bU.refl _) ?_;have hg:0 < Nat.gcd n.natAbs d.natAbs:=Nat.gcd_pos_of_pos_right _ (by omega);have hm:=Bv n d hd0;generalize hgg:Nat.gcd n.natAbs d.natAbs=g at *;have qa:n.natAbs / g≤9223372036854775808:=Nat.le_trans (Nat.div_le_self _ _) ha;have qb:d.natAbs / g≤9223372036854775808:=Nat.le_trans (Nat.div_le_self _ _) hb;have ea:(n.natAbs:Int).tdiv (g:Int)=(n.natAbs / g:Nat):=(Int.ofNat_tdiv _ _).symm;have eb:(d.natAbs:Int).tdiv (g:Int)=(d.natAbs / g:Nat):=(Int.ofNat_tdiv _ _).symm;unfold Ii at hm;generalize n.natAbs / g=a at *;generalize d.natAbs / g=b at *
 conv=>whnf
 repeat (first|refine kM ?_|((refine Hz ?_);conv=>whnf))
 rw[ea,eb]
 conv=>whnf
 repeat' (first|refine cW ?_|(refine zX (fun hc=>?_) (fun hc=>?_)<;>(try simp only[SY] at hc)<;>(conv=>whnf)))
 ·exact an.pure (Wk.eq (by rw[hm,if_pos (by omega)];rfl))
 ·rw[if_neg (by omega)] at hm
  refine an.pure (Wk.eq ?_);rw[hm,if_pos (by simpa using hc)];simp[Cg]
 ·rw[if_neg (by omega)] at hm
  refine an.pure (Wk.eq ?_);rw[hm,if_neg (by simpa using hc)];rfl
def lQ (s:List UInt8):Bool:=s.head? == some 45
def iw (s:List UInt8):List UInt8:=if lQ s then s.drop 1 else s
def jL (s:List UInt8) (k:Nat):Option Nat:=
 if k < s.length then
  if s[k]?=some 47∧(cq (s.drop (k + 1))).2≠0∧k + 1 + (cq (s.drop (k + 1))).2=s.length then some (cq (s.drop (k + 1))).1 else none
 else some 1
def vG (s:List UInt8):Int×Int×Bool:=
 if (cq (iw s)).2=0 then (0,0,false) else
 match jL (iw s) (cq (iw s)).2 with
 | none=>(0,0,false)
 | some d=>
  let x:=kj (if lQ s then -((cq (iw s)).1:Int) else (cq (iw s)).1) d
  (x.1,x.2.1,x.2.2 == 0)
theorem xV (s:List UInt8):vG s=if (cq (iw s)).2=0 then (0,0,false) else
 match jL (iw s) (cq (iw s)).2 with
 | none=>(0,0,false)
 | some d=>
  let x:=kj (if lQ s then -((cq (iw s)).1:Int) else (cq (iw s)).1) d
  (x.1,x.2.1,x.2.2 == 0):=rfl
def DG (x:Int×Int×Bool):PV:=.aU [.int .i64 x.1,.int .i64 x.2.1,.bool x.2.2]
theorem BE (s:List UInt8):(cq s).1 < 10000000000∧(cq s).2≤10∧(cq s).2≤s.length:=by
 unfold cq
 split
 ·simp
 ·rename_i h
  have h1:=nG (s.take (ig s)) (A4 s);have h2:=Em s;refine ⟨Nat.lt_of_lt_of_le h1 ?_,by omega,h2⟩;have:10 ^ (s.take (ig s)).length≤10 ^ 10:=Nat.pow_le_pow_right (by omega) (by simp;omega);omega
theorem qC:Wk (.aU [.int .i64 0,.int .i64 0,.bfalse]) (DG (0,0,false)):=Wk.aU (.cons (Wk.refl _) (.cons (Wk.refl _) (.cons (Wk.ff rfl) .nil)))
theorem D5 (c d:UInt8):((c.toNat:Int) == (d.toNat:Int))=(c == d):=by
 rw[Bool.eq_iff_iff,beq_iff_eq,beq_iff_eq, ←UInt8.toNat_inj];omega
theorem F6 (c:UInt8) (r:List UInt8):((c.toNat:Int) == 45)=lQ (c::r):=by
 have:=D5 c 45;rw[show ((45:UInt8).toNat:Int)=45 from rfl] at this;rw[this];rfl
theorem EO (s:List UInt8):(decide ((s.length:Int) > 0) && ((s.getD 0 0).toNat:Int) == 45)=lQ s:=by
 cases s with
 | nil=>rfl
 | cons c r=>
  rw[show (decide (((c::r).length:Int) > 0))=true by simp,Bool.true_and];exact F6 c r
theorem getD_eq {s:List UInt8} {k:Nat} (c:UInt8) (h:k < s.length):(s[k]?=some c↔((s.getD k 0).toNat:Int)=c.toNat):=by
 rw[List.getD,List.getElem?_eq_getElem h,Option.getD_some,Option.some.injEq, ←UInt8.toNat_inj];omega
theorem Ju (s:List UInt8):(iw s).length≤s.length:=by
 unfold iw
 split
 ·rw[List.length_drop];omega
 ·omega
theorem Iw (s:List UInt8):ay Tryz.prog 138 [.str s] (DG (vG s)):=by
 refine ah.ai aj Tryz.func138 rfl rfl (n:=72) rfl rfl ?_
 conv=>whnf
 skip
 refine sL.go ?_
 conv=>whnf
 repeat (first|refine kM ?_|((intro _);conv=>whnf))
 rename_i hlen;have hul:=Ju s;refine sL.keep (fun _:Unit=> [(0,.str (iw s))]) (fun _=>True) ?_ ?_
 ·rw[EO]
  conv=>whnf
  repeat' ((refine zX (fun hc=>?_) (fun hc=>?_)<;>(try simp only[SY] at hc)<;>(conv=>whnf)))
  ·refine gL.lo (by omega) (by cases s<;>simp_all [lQ];omega) ?_
   conv=>whnf
   exact EE () trivial (And.intro (Wk.str (by rw[iw,if_pos hc])) wA)
  ·exact EE () trivial (And.intro (Wk.str (by rw[iw,hc];rfl)) wA)
 ·rintro _ _
  rw[EO];have hP:=xV s;generalize lQ s=neg at *;generalize iw s=u at *;have hb:=BE u;have hb2:=fun k=>BE (u.drop k);have hl:jL u (cq u).2=if (cq u).2 < u.length then if u[(cq u).2]?=some 47∧(cq (u.drop ((cq u).2 + 1))).2≠0∧(cq u).2 + 1 + (cq (u.drop ((cq u).2 + 1))).2=u.length then some (cq (u.drop ((cq u).2 + 1))).1 else none else some 1:=rfl
  have hb3:=hb2 ((cq u).2 + 1);clear hb2;have h47:=fun h=>getD_eq (s:=u) (k:=(cq u).2) 47 h;simp only[show ((47:UInt8).toNat:Int)=47 from rfl] at h47
  conv=>whnf
  repeat' (first|refine cW ?_|((first|refine pC (MR _) wR ?_|refine pC (zx _ _ OA OA OA OA) wR ?_|intro _);conv=>whnf)|(refine zX (fun hc=>?_) (fun hc=>?_)<;>(try simp only[SY] at hc)<;>(conv=>whnf)))
  all_goals rw[hP]
  ·rw[if_pos (by omega)]
   exact an.pure qC
  ·rw[if_neg (by omega),hl,if_pos (by omega),if_neg (by omega)]
   exact an.pure qC
  ·rw[if_neg (by omega),hl,if_pos (by omega),if_pos ⟨(h47 (by omega)).2 (by omega),by omega,by omega⟩,hc]
   exact an.pure (Wk.eq (by simp only[DG,if_true,Int.zero_sub]))
  ·rw[if_neg (by omega),hl,if_pos (by omega),if_pos ⟨(h47 (by omega)).2 (by omega),by omega,by omega⟩,hc]
   exact an.pure (Wk.refl _)
  ·rw[if_neg (by omega),hl,if_pos (by omega),if_neg (fun h=>by have:=(h47 (by omega)).1 h.1;omega)]
   exact an.pure qC
  ·rw[if_neg (by omega),hl,if_neg (by omega),hc]
   exact an.pure (Wk.eq (by simp only[DG,if_true,Int.zero_sub];rfl))
  ·rw[if_neg (by omega),hl,if_neg (by omega),hc]
   exact an.pure (Wk.refl _)
def rR:List UInt8:= [45,43,42,47,60,62,61,33,63,95,37]
def DX (c:UInt8):Bool:=decide ((c.toNat:Int)≥97) && decide ((c.toNat:Int)≤122) || decide ((c.toNat:Int)≥48) && decide ((c.toNat:Int)≤57)
def mV (c:UInt8):Bool:=DX c || rR.contains c
def qj (s:List UInt8):Bool:=decide (1≤s.length) && (decide (s.length≤40) && (s.all mV && !(vG s).2.2))
theorem Hw {p q:Prop} (k:q) (h:q→p:=by intro hq;first | exact aC.sP (some 52) rfl [] [] aj mixed hq):p:=h k
theorem Kt (s:List UInt8):ay Tryz.prog 110 [.str s] (.bool (qj s)):=by
 refine ah.ai aj Tryz.func110 rfl rfl (n:=72) rfl rfl ?_
 conv=>whnf
 repeat' (first|refine cW ?_|((intro _);conv=>whnf)|(refine zX (fun hc=>?_) (fun hc=>?_)<;>(try simp only[SY] at hc)<;>(conv=>whnf)))
 ·exact an.pure (Wk.ff (by simp[qj];omega))
 rename_i hlen;have e: [45,43,42,47,60,62,61,33,63,95,37]=rR:=rfl;have em:rR.length=11:=rfl;have hmm: ∀ c,(DX c || rR.contains c)=mV c:=fun _=>rfl;rw[e];generalize rR=m at *;refine aI.keep [2,4,5,6,18,19,20,21,22,23,24,25,26,27,28,29,30,31,32,33,34,35,36,37,38,39,40,41,42,43,44,45,46,47,48,49,50,51,52,53,54,55,56,57,58,59,60,61,62,63] (fun i:Nat=> [(4,.int .i64 i)]) (fun i=>i≤s.length∧(s.drop i).all mV=s.all mV) (fun i=>s.length - i) 0 ⟨by omega,rfl⟩ wA ?_;rintro i ⟨hi,hm⟩
 conv=>whnf
 repeat' (first|refine cW ?_|((first|refine pC (Iw s) wR ?_|intro _);conv=>whnf)|(refine zX (fun hc=>?_) (fun hc=>?_)<;>(try simp only[SY] at hc)<;>(conv=>whnf)))
 ·refine aI.keep [5,6,46,47,48,49,50,51,52,53,54,55,56,57,58,59,60,61] (fun (x:Nat×Bool)=> [(5,.bool x.2),(6,.int .i64 x.1)]) (fun x=>x.1≤11∧(x.2 || (m.drop x.1).contains (s.getD i 0))=mV (s.getD i 0)) (fun x=>11 - x.1) (0,DX (s.getD i 0)) ⟨by omega,hmm _⟩ wA ?_
  rintro ⟨k,b⟩ ⟨hk,hb⟩
  conv=>whnf
  repeat' (first|refine cW ?_|((first|refine Hw ?_|intro _);conv=>whnf)|(refine zX (fun hc=>?_) (fun hc=>?_)<;>(try simp only[SY] at hc)<;>(conv=>whnf)))
  ·refine aJ (k + 1,b || ((s.getD i 0).toNat:Int) == (m.getD k 0).toNat) ⟨by simp only at hk ⊢; omega,?_⟩ (by show 11 - (k + 1) < 11 - k;simp only at hk;omega) wA
   rw[←hb,kW (show k < m.length by omega),List.contains_cons,D5,Bool.or_assoc]
  all_goals
   simp only at hk hb;rw[hc,List.drop_of_length_le (by omega)] at hb;rw[kW (show i < s.length by omega),List.all_cons, ←hb] at hm
  ·refine an.pure (Wk.ff ?_)
   simp only[List.contains_nil,Bool.or_false,Bool.false_and] at hm;simp[qj, ←hm]
  ·exact aJ (i + 1) ⟨by omega,by rw[←hm];simp⟩ (by show s.length - (i + 1) < s.length - i;omega) wA
 ·rw[List.drop_of_length_le (by omega)] at hm
  refine an.pure (Wk.bool ?_);have h1:1≤s.length:=by omega
  have h2:s.length≤40:=by omega
  simp[qj, ←hm,h1,h2]
def gN (d:Datum) (deep:Int):Bool:=
 (decide (deep > 200) || decide (d.kind < 0) || decide (d.kind > 7)) || ((d.kind == 0 && !bE d.n d.d) || (d.kind !=0 && d.d !=0)) ||
 ((d.kind == 1 && d.n !=0 && d.n !=1) || (d.kind !=0 && d.kind !=1 && d.n !=0)) || ((d.kind == 2 && !qj d.s) || (d.kind !=2 && d.kind !=3 && !(d.s == []))) || d.s.any lW ||
 ((d.kind == 6 && (d.l.length:Int) !=2) || (d.kind !=6 && d.kind !=7 && decide ((d.l.length:Int) > 0)))
mutual
def Datum.cM:Datum→Int→Bool
 | .mk k n d s l,deep=>!gN (.mk k n d s l) deep && Datum.eZ l (deep + 1)
def Datum.eZ:List Datum→Int→Bool
 | [],_=>true
 | x::xs,deep=>Datum.cM x deep && Datum.eZ xs deep
end
theorem Datum.nZ (x:Datum) (deep:Int):x.cM deep=(!gN x deep && Datum.eZ x.l (deep + 1)):=by cases x;rfl
theorem IP (d:Datum): ∀ deep:Int,0≤deep→deep≤1000→ay Tryz.prog 85 [.agg d.cells,.int .i64 deep] (.bool (d.cM deep)):=by
 induction d using Datum.ind with
 | h d ih=>
  intro deep h0 h1;refine ah.ai aj Tryz.func85 rfl rfl (n:=166) rfl rfl ?_
  conv=>whnf
  repeat' (first|refine cW ?_|((first|(((apply zY;intro hg));(conv=>whnf);(repeat ((first|refine pC (fh _ _) wR ?_|refine pC (Kt _) wR ?_|refine aG ?_);conv=>whnf));exact pZ)|intro _);conv=>whnf)|(refine zX (fun hc=>?_) (fun hc=>?_)<;>(try simp only[SY] at hc)<;>(conv=>whnf)))
  all_goals rw[Datum.nZ]
  iterate 4 exact an.pure (Wk.ff (by simp only[gN,SS, *, true_or,or_true,Bool.not_true,Bool.false_and]))
  rename_i k1 k2 k3 k4;refine aI.keep [4,5,92,93,94,95,96,97,98,99,100,101,102,103,104,105,106,107,108,109,110,111,112,113,114,115,116,117,118,119,120,121,122,123,124] (fun i:Nat=> [(5,.int .i64 i)]) (fun i=>i≤d.s.length∧(d.s.drop i).any lW=d.s.any lW) (fun i=>d.s.length - i) 0 ⟨by omega,rfl⟩ wA ?_;rintro i ⟨hi,hm⟩
  conv=>whnf
  repeat' (first|refine cW ?_|((intro _);conv=>whnf)|(refine zX (fun hc=>?_) (fun hc=>?_)<;>(try simp only[SY] at hc)<;>(conv=>whnf)))
  ·rename_i k5
   rw[kW (show i < d.s.length by omega),List.any_cons,show lW (d.s.getD i 0)=true by simp only[lW,SS,hc]] at hm;exact an.pure (Wk.ff (by simp only[gN, ←hm,Bool.true_or,Bool.or_true,Bool.not_true,Bool.false_and]))
  ·rename_i k5
   rw[kW (show i < d.s.length by omega),List.any_cons,show lW (d.s.getD i 0)=false by simp only[lW,SS,hc,not_false_eq_true,and_self]] at hm;exact aJ (i + 1) ⟨by omega,hm⟩ (by show d.s.length - (i + 1) < d.s.length - i;omega) wA
  ·exact an.pure (Wk.ff (by simp only[gN,SS, *, true_or,or_true,Bool.not_true,Bool.false_and]))
  ·rename_i k5
   rw[List.drop_of_length_le (by omega),List.any_nil] at hm;replace hm:=hm.symm
   have hbad:gN d deep=false:=by
    simp only[gN,SS, *, and_self]
   simp only[hbad,Bool.not_false,Bool.true_and];refine aI.keep [4,6,150,151,152,153,154,155,156,157,158,159,160,161,162,163,164,165] (fun i:Nat=> [(6,.int .i64 i)]) (fun i=>i≤d.l.length∧Datum.eZ (d.l.drop i) (deep + 1)=Datum.eZ d.l (deep + 1)) (fun i=>d.l.length - i) 0 ⟨by omega,rfl⟩ wA ?_;rintro j ⟨hj,hr⟩
   conv=>whnf
   repeat' (first|refine cW ?_|((first|refine pC (ih _ (List.getElem_mem _) _ OA OA) wR ?_|intro _);conv=>whnf)|(refine zX (fun hc=>?_) (fun hc=>?_)<;>(try simp only[SY] at hc)<;>(conv=>whnf)))
   ·rw[aq (show j < d.l.length by omega),Datum.eZ,hc,Bool.false_and] at hr
    exact an.pure (Wk.ff hr.symm)
   ·rw[aq (show j < d.l.length by omega),Datum.eZ,hc,Bool.true_and] at hr
    exact aJ (j + 1) ⟨by omega,hr⟩ (by show d.l.length - (j + 1) < d.l.length - j;omega) wA
   ·rw[List.drop_of_length_le (by omega),Datum.eZ] at hr
    exact an.pure (Wk.tt hr.symm)
abbrev jQ:Datum:=.mk 4 0 0 [] []
abbrev xU (a b:Datum):Datum:=.mk 6 0 0 [] [a,b]
def xN (l:List Datum):Datum:=l.foldr xU jQ
mutual
def Datum.sz:Datum→Nat
 | .mk _ _ _ _ l=>1 + Datum.w6 l
def Datum.w6:List Datum→Nat
 | []=>0
 | x::xs=>Datum.sz x + Datum.w6 xs
end
theorem Datum.Ca (x:Datum):x.sz=1 + Datum.w6 x.l:=by cases x;rfl
mutual
def Datum.pr:Datum→Bool
 | .mk k _ _ _ l=>(k !=6 || l.length == 2) && Datum.PM l
def Datum.PM:List Datum→Bool
 | []=>true
 | x::xs=>Datum.pr x && Datum.PM xs
end
mutual
def Datum.fW:Datum→List Datum×Datum
 | .mk k n d s l=>if k=6 then Datum.FT l else ([],.mk k n d s l)
def Datum.FT:List Datum→List Datum×Datum
 | [a,b]=>(a::b.fW.1,b.fW.2)
 | _=>([],jQ)
end
structure OY where
 n:Int
 bad:Bool
abbrev Px:=Datum×OY
section
variable (ex:Datum→OY→Px) (bd:List Datum→OY→Px)
end
mutual
def Datum.P8:Datum→Bool
 | .mk k _ _ s l=>(k == 2 && s.contains 37) || Datum.Om l
def Datum.Om:List Datum→Bool
 | []=>false
 | x::xs=>Datum.P8 x || Datum.Om xs
end
def kC (p:UInt8→Bool) (s:List UInt8):List UInt8:=(s.reverse.dropWhile p).reverse
theorem Gv (p:UInt8→Bool) (s:List UInt8) (h:0 < s.length):kC p s=if p (s.getD (s.length - 1) 0) then kC p (s.take (s.length - 1)) else s:=by
 have hne:s≠ []:=by intro e;subst e;simp at h
 have e:s=s.take (s.length - 1)++ [s.getD (s.length - 1) 0]:=by
  have:=List.dropLast_concat_getLast hne;rw[List.dropLast_eq_take,List.getLast_eq_getElem] at this;rw[List.getD,List.getElem?_eq_getElem (by omega)];exact this.symm
 generalize s.getD (s.length - 1) 0=c at *;generalize s.take (s.length - 1)=t at *;subst e;simp only[kC,List.reverse_append,List.reverse_cons,List.reverse_nil,List.nil_append,List.singleton_append,List.dropWhile_cons]
 split<;>simp
theorem uL (m:List Bool) (hm:m.length=256) (b:Nat) (c:UInt8):ah Tryz.prog 184 [.ptr b 0,.int .u8 c.toNat] [.box b (m.map PV.bool)] (fun y Γ'=>y=.bool (m.getD c.toNat false)∧Γ'= [.box b (m.map PV.bool)]):=by
 have hc:=UInt8.toNat_lt c;refine ah.ai aj Tryz.func184 rfl rfl (n:=10) rfl rfl ?_
 conv=>whnf
 skip
 refine jY.ix rfl (by omega) (by omega) ?_
 conv=>whnf
 refine e8.cell (.bool (m.getD c.toNat false)) (by simp[List.getD,show c.toNat < m.length by omega]) ?_
 conv=>whnf
 exact an.gen (Wk.refl _) ⟨rfl,rfl⟩
theorem DF (m:List Bool) (hm:m.length=256) (b:Nat) (s:List UInt8):ah Tryz.prog 166 [.str s,.ptr b 0] [.box b (m.map PV.bool)] (fun y Γ'=>y=.str (s.dropWhile fun c=>m.getD c.toNat false)∧Γ'= [.box b (m.map PV.bool)]):=by
 refine ah.ai aj Tryz.func166 rfl rfl (n:=16) rfl rfl ?_
 conv=>whnf
 skip
 refine aI.keep [0,5,6,7,8,9,10,11,12,13,14] (fun t:List UInt8=> [(0,.str t)]) (fun t=>t.dropWhile (fun c=>m.getD c.toNat false)=s.dropWhile (fun c=>m.getD c.toNat false)) (fun t=>t.length) s rfl wA ?_;intro t ht
 conv=>whnf
 repeat' (first|refine cW ?_|((intro _);conv=>whnf)|(refine zX (fun hc=>?_) (fun hc=>?_)<;>(try simp only[SY] at hc)<;>(conv=>whnf)))
 ·refine au.go (uL m hm b (t.getD 0 0)) (bU.refl _) ?_
  rintro _ _ ⟨rfl,rfl⟩;have hd:t=t.getD 0 0::t.drop 1:=kW (s:=t) (i:=0) (by omega);generalize t.getD 0 0=c at *;rw[hd,List.dropWhile_cons] at ht
  conv=>whnf
  repeat' (first|refine cW ?_|(refine zX (fun hc=>?_) (fun hc=>?_)<;>(try simp only[SY] at hc)<;>(conv=>whnf)))
  ·rw[hc] at ht
   refine an.gen (Wk.str ?_) ⟨rfl,rfl⟩;rw[hd];simpa using ht
  ·rw[hc] at ht
   exact aJ (t.drop 1) (by simpa using ht) (by show (t.drop 1).length < t.length;rw[List.length_drop];omega) wA
 ·obtain rfl:t= []:=List.eq_nil_of_length_eq_zero (by omega)
  exact an.gen (Wk.str ht) ⟨rfl,rfl⟩
theorem Cf (m:List Bool) (hm:m.length=256) (b:Nat) (s:List UInt8):ah Tryz.prog 167 [.str s,.ptr b 0] [.box b (m.map PV.bool)] (fun y Γ'=>y=.str (kC (fun c=>m.getD c.toNat false) s)∧Γ'= [.box b (m.map PV.bool)]):=by
 refine ah.ai aj Tryz.func167 rfl rfl (n:=22) rfl rfl ?_
 conv=>whnf
 skip
 refine aI.keep [0,5,6,7,8,9,10,11,12,13,14,15,16,17,18,19,20] (fun t:List UInt8=> [(0,.str t)]) (fun t=>kC (fun c=>m.getD c.toNat false) t=kC (fun c=>m.getD c.toNat false) s) (fun t=>t.length) s rfl wA ?_;intro t ht
 conv=>whnf
 repeat' (first|refine cW ?_|((intro _);conv=>whnf)|(refine zX (fun hc=>?_) (fun hc=>?_)<;>(try simp only[SY] at hc)<;>(conv=>whnf)))
 ·refine au.go (uL m hm b (t.getD (t.length - 1) 0)) (bU.refl _) ?_
  rintro _ _ ⟨rfl,rfl⟩;rw[Gv _ t (by omega)] at ht
  conv=>whnf
  repeat' (first|refine cW ?_|((intro _);conv=>whnf)|(refine zX (fun hc=>?_) (fun hc=>?_)<;>(try simp only[SY] at hc)<;>(conv=>whnf)))
  ·rw[hc] at ht
   exact an.gen (Wk.str (by simpa using ht)) ⟨rfl,rfl⟩
  ·rw[hc] at ht
   exact aJ (t.take (t.length - 1)) (by simpa using ht) (by show (t.take (t.length - 1)).length < t.length;rw[List.length_take];omega) wA
 ·obtain rfl:t= []:=List.eq_nil_of_length_eq_zero (by omega)
  exact an.gen (Wk.str ht) ⟨rfl,rfl⟩
def setOf (s:List UInt8) (m:List Bool):List Bool:=s.foldl (fun m c=>m.set c.toNat true) m
theorem An (s:List UInt8): ∀ m,(setOf s m).length=m.length:=by
 induction s with
 | nil=>intro m;rfl
 | cons c s ih=>intro m;rw[setOf,List.foldl_cons];exact (ih _).trans (by simp)
theorem Gp (s:List UInt8): ∀ (m:List Bool),m.length=256→ ∀ c:UInt8,(setOf s m).getD c.toNat false=(m.getD c.toNat false || s.contains c):=by
 induction s with
 | nil=>intro m _ c;simp[setOf]
 | cons d s ih=>
  intro m hm c;rw[setOf,List.foldl_cons];refine (ih _ (by simp[hm]) c).trans ?_;rw[List.contains_cons];have hc:=UInt8.toNat_lt c;by_cases h:d=c
  ·subst h
   simp[List.getD,show d.toNat < m.length by omega]
  ·have h':d.toNat≠c.toNat:=fun e=>h (UInt8.toNat_inj.1 e)
   have h2:(c == d)=false:=by simp;exact fun e=>h e.symm
   simp[List.getD,List.getElem?_set_ne h',h2]
def kJ (s:List UInt8) (m:List PV):List PV:=s.foldl (fun m c=>m.set c.toNat .bB) m
theorem wQ (s:List UInt8): ∀ m,(kJ s m).length=m.length:=by
 induction s with
 | nil=>intro m;rfl
 | cons c s ih=>intro m;rw[kJ,List.foldl_cons];exact (ih _).trans (by simp)
theorem ia.set {xs ys:List PV} {x y:PV} (h:ia xs ys) (hx:Wk x y): ∀ i,ia (xs.set i x) (ys.set i y):=by
 induction h with
 | nil=>intro i;exact .nil
 | cons a b ih=>
  intro i
  cases i with
  | zero=>exact .cons hx b
  | succ i=>exact .cons a (ih i)
theorem F4 (s:List UInt8): ∀ (m:List PV) (m':List Bool),ia m (m'.map PV.bool)→ia (kJ s m) ((setOf s m').map PV.bool):=by
 induction s with
 | nil=>intro m m' h;exact h
 | cons c s ih=>
  intro m m' h;rw[kJ,setOf,List.foldl_cons,List.foldl_cons];exact ih _ _ (by rw[List.map_set];exact h.set (Wk.tt rfl) _)
theorem sw (s:List UInt8) (c:UInt8) (m:List PV):kJ (s++ [c]) m=(kJ s m).set c.toNat .bB:=by simp[kJ]
theorem FV (s:List UInt8) (hs: ∀ c∈s,c.toNat < 128):ay Tryz.prog 165 [.str s] (.aU [.agg ((setOf s (List.replicate 256 false)).map PV.bool),.bB]):=by
 refine ah.ai aj Tryz.func165 rfl rfl (n:=21) rfl rfl ?_
 conv=>whnf
 repeat (((intro _);conv=>whnf))
 rename_i b;show aI _ _ [.box b (kJ (s.take 0) (List.replicate 256 .bfalse))] _ _;have hl: ∀ i,(kJ (s.take i) (List.replicate 256 .bfalse)).length=256:=fun i=>(wQ _ _).trans (by simp);refine aI.over [3,4,5,6,7,8,9,10,11,12,13,14,15,16,17,18,19] (fun i:Nat=> [(4,.int .i64 i)]) (fun i=> [.box b (kJ (s.take i) (List.replicate 256 .bfalse))]) (fun i=>i≤s.length) (fun i=>s.length - i) 0 (by omega) wA ?_;intro i hi;have hli:=hl i;have hln:=hl (i + 1);by_cases hlt:i < s.length
 ·have hc:(s.getD i 0).toNat < 128:=hs _ (by rw[List.getD,List.getElem?_eq_getElem hlt];exact List.getElem_mem _)
  have hsn:s.take (i + 1)=s.take i++ [s.getD i 0]:=by rw[List.take_add_one];simp[hlt]
  rw[hsn,sw] at hln
  conv=>whnf
  repeat' (first|refine cW ?_|((intro _);conv=>whnf)|(refine zX (fun hc=>?_) (fun hc=>?_)<;>(try simp only[SY] at hc)<;>first|omega|(conv=>whnf)))
  refine jY.ix rfl (by omega) (by omega) ?_
  conv=>whnf
  refine dz.cell (by omega) rfl rfl ?_
  conv=>whnf
  repeat' (first|refine cW ?_|(refine zX (fun hc=>?_) (fun hc=>?_)<;>(try simp only[SY] at hc)<;>omega))
  rw[show 0 + (s.getD i 0).toNat=(s.getD i 0).toNat by omega, ←sw, ←hsn];exact aJ (i + 1) (by omega) (by omega) wA
 ·rw[List.take_of_length_le (by omega)] at *
  conv=>whnf
  repeat' (first|((intro _);conv=>whnf)|(refine zX (fun hc=>?_) (fun hc=>?_)<;>(try simp only[SY] at hc)<;>first|omega|(conv=>whnf)))
  refine e8.all hli ?_
  conv=>whnf
  refine dz.all hli hli ?_
  conv=>whnf
  refine e8.all hli ?_
  conv=>whnf
  refine an.pure (Wk.aU (.cons (Wk.agg (F4 s _ _ ?_)) (.cons (Wk.refl _) .nil)));rw[List.map_replicate]
  have: ∀ n,ia (List.replicate n .bfalse) (List.replicate n (PV.bool false)):=by
   intro n
   induction n with
   | zero=>exact .nil
   | succ n ih=>exact .cons (Wk.ff rfl) ih
  exact this 256
theorem Jt (s cs:List UInt8) (hl:2≤cs.length) (hcs: ∀ c∈cs,c.toNat < 128):ay Tryz.prog 146 [.str s,.str cs] (.str ((kC cs.contains s).dropWhile cs.contains)):=by
 have hp:(fun c:UInt8=>(setOf cs (List.replicate 256 false)).getD c.toNat false)=cs.contains:=by
  funext c;rw[Gp cs _ (by simp) c];have:(List.replicate 256 false).getD c.toNat false=false:=by rw[List.getD,List.getElem?_replicate];split<;>rfl
  rw[this,Bool.false_or]
 have hlen:(setOf cs (List.replicate 256 false)).length=256:=by rw[An];simp
 have hne:(cs == [])=false:=by simp;intro e;subst e;simp at hl
 refine ah.ai aj Tryz.func146 rfl rfl (n:=43) rfl rfl ?_
 conv=>whnf
 repeat' (first|refine cW ?_|((first|refine pC (FV cs hcs) wR ?_|intro _);conv=>whnf)|(refine zX (fun hc=>?_) (fun hc=>?_)<;>(try simp only[SY] at hc)<;>first|omega|(conv=>whnf)))
 ·rcases hc with hc | hc
  ·subst hc
   exact an.pure (Wk.str rfl)
  ·subst hc;simp at hl
 ·refine dz.all rfl (by rw[List.length_map];exact hlen) ?_
  conv=>whnf
  skip
  refine au.go (Cf _ hlen _ s) (bU.refl _) ?_;rintro _ _ ⟨rfl,rfl⟩
  conv=>whnf
  skip
  refine au.go (DF _ hlen _ _) (bU.refl _) ?_;rintro _ _ ⟨rfl,rfl⟩
  conv=>whnf
  skip
  rw[hp];exact an.pure (Wk.refl _)
theorem qf (s:List UInt8) (c:UInt8):LS Tryz.prog 197 [.str s,.int .u8 c.toNat] (.int .i64 (Go.Lib.indexByte s c)):=by
 intro F w vs hv
 obtain ⟨v1,v2,rfl⟩: ∃ v1 v2,vs= [v1,v2]:=by
  have:=hv.length
  match vs,this with
  | [a,b],_=>exact ⟨a,b,rfl⟩
 simp only[av,ax] at hv;obtain ⟨⟨rfl,_⟩,rfl,_⟩:=hv;refine ⟨.int .i64 (Go.Lib.indexByte s c),?_,by simp only[ax]⟩;rw[show [Value.string ⟨s.toArray⟩,Value.int .u8 c.toNat].toArray= #[Value.string ⟨s.toArray⟩,Value.int .u8 c.toNat] from rfl];rw[run_callFunc_extern (fn:=Tryz.f197) (e:=Extern.BytealgIndexByte.indexByte) (by kernel_rfl) (by kernel_rfl) (by kernel_rfl) (by kernel_rfl) (by kernel_rfl)];simp[Go.Lib.run_indexByteString]
theorem qe (s:List UInt8) (c:UInt8):ay Tryz.prog 188 [.str s,.int .u8 c.toNat] (.int .i64 (Go.Lib.indexByte s c)):=by
 refine ah.ai aj Tryz.func188 rfl rfl (n:=8) rfl rfl ?_
 conv=>whnf
 skip
 refine au.ext (qf s c) (bU.refl _) ?_
 conv=>whnf
 skip
 exact an.pure (Wk.refl _)
theorem Bo (s:List UInt8) (c:UInt8):ay Tryz.prog 170 [.str s,.int .u8 c.toNat] (.int .i64 (Go.Lib.indexByte s c)):=by
 refine ah.ai aj Tryz.func170 rfl rfl (n:=8) rfl rfl ?_
 conv=>whnf
 repeat (((refine pC (qe s c) wR ?_);conv=>whnf))
 exact an.pure (Wk.refl _)
theorem H6 (s:List UInt8) (c:UInt8):ay Tryz.prog 199 [.str s,.str [c]] (.int .i64 (Go.Lib.indexByte s c)):=by
 refine ah.ai aj Tryz.func199 rfl rfl (n:=143) rfl rfl ?_
 conv=>whnf
 repeat' (first|refine cW ?_|((first|refine pC (qe s c) wR ?_|intro _);conv=>whnf)|(refine zX (fun hc=>?_) (fun hc=>?_)<;>(try simp only[SY] at hc)<;>(conv=>whnf)))
 ·have h: [c]=s:=by rcases hc with hc | hc;simp at hc;exact hc
  subst h;exact an.pure (Wk.int (by simp[Go.Lib.indexByte]))
 ·exact an.pure (Wk.refl _)
 all_goals exact absurd rfl ‹¬ (([c].length:Nat):Int)=1›
theorem Bh (s p:List UInt8):ay Tryz.prog 198 [.str s,.str p] (.bool (decide (p.length≤s.length) && s.take p.length == p)):=by
 refine ah.ai aj Tryz.func198 rfl rfl (n:=18) rfl rfl ?_
 conv=>whnf
 repeat' (first|refine cW ?_|((intro _);conv=>whnf)|(refine zX (fun hc=>?_) (fun hc=>?_)<;>(try simp only[SY] at hc)<;>omega))
 exact an.pure (Wk.bool (by congr 1;simp))
def preB (s p:List UInt8):Bool:=decide (p.length≤s.length) && s.take p.length == p
theorem A0 (s p:List UInt8):ay Tryz.prog 189 [.str s,.str p] (.aU [.str (if preB s p=true then s.drop p.length else s),.bool (preB s p)]):=by
 refine ah.ai aj Tryz.func189 rfl rfl (n:=15) rfl rfl ?_
 conv=>whnf
 repeat (((refine pC (Bh s p) wR ?_);conv=>whnf))
 rw[show (decide (p.length≤s.length) && s.take p.length == p)=preB s p from rfl]
 have hb:preB s p=true→p.length≤s.length:=by
  intro h;simp only[preB,Bool.and_eq_true,decide_eq_true_eq] at h;exact h.1
 generalize preB s p=b at *
 cases b with
 | false=>
  conv=>whnf
  repeat' ((refine zX (fun hc=>?_) (fun hc=>?_)<;>(try simp only[SY] at hc)<;>(conv=>whnf)))
  ·exact an.pure (Wk.aU (.cons (Wk.str rfl) (.cons (Wk.ff rfl) .nil)))
 | true=>
  have hb:=hb rfl
  conv=>whnf
  repeat' (first|refine cW ?_|((intro _);conv=>whnf)|(refine zX (fun hc=>?_) (fun hc=>?_)<;>(try simp only[SY] at hc)<;>(conv=>whnf)))
  exact an.pure (Wk.aU (.cons (Wk.str rfl) (.cons (Wk.tt rfl) .nil)))
theorem zb (s p:List UInt8):ay Tryz.prog 171 [.str s,.str p] (.aU [.str (if preB s p=true then s.drop p.length else s),.bool (preB s p)]):=by
 refine ah.ai aj Tryz.func171 rfl rfl (n:=11) rfl rfl ?_
 conv=>whnf
 repeat (((refine pC (A0 s p) wR ?_);conv=>whnf))
 exact an.pure (Wk.refl _)
def tg (s:List UInt8) (c:UInt8):List UInt8:=if 0≤Go.Lib.indexByte s c then s.take (Go.Lib.indexByte s c).toNat else s
def za (s:List UInt8) (c:UInt8):List UInt8:=if 0≤Go.Lib.indexByte s c then s.drop ((Go.Lib.indexByte s c).toNat + 1) else []
theorem zu (s:List UInt8) (c:UInt8):Go.Lib.indexByte s c < s.length∨Go.Lib.indexByte s c= -1:=by
 induction s with
 | nil=>simp[Go.Lib.indexByte]
 | cons d s ih=>
  rw[Go.Lib.indexByte];simp only[List.length_cons]
  split
  ·omega
  ·split<;>rename_i h<;>simp at h<;>omega
theorem JY {p q:Prop} (k:q) (h:q→p:=by intro hq;first | exact aC.sP (some 13) rfl [] [] aj mixed hq):p:=h k
theorem NV (s:List UInt8) (c:UInt8) (hs:s.length≤9223372036854775806):ay Tryz.prog 190 [.str s,.str [c]] (.aU [.str (tg s c),.str (za s c),.bool (decide (0≤Go.Lib.indexByte s c))]):=by
 refine ah.ai aj Tryz.func190 rfl rfl (n:=23) rfl rfl ?_
 conv=>whnf
 repeat (((refine pC (H6 s c) wR ?_);conv=>whnf))
 have h1:=zu s c;unfold tg za;have e1: [c].length=1:=rfl;generalize Go.Lib.indexByte s c=n at *
 conv=>whnf
 repeat' (first|refine cW ?_|((refine JY ?_);conv=>whnf)|(refine zX (fun hc=>?_) (fun hc=>?_)<;>(try simp only[SY] at hc)<;>(conv=>whnf)))
 ·simp only[hc,if_true,decide_true]
  exact an.pure (Wk.aU (.cons (Wk.refl _) (.cons (Wk.str (by congr 1;simp;omega)) (.cons (Wk.tt rfl) .nil))))
 ·simp only[show ¬ 0≤n by omega,if_false,decide_false]
  exact an.pure (Wk.aU (.cons (Wk.refl _) (.cons (Wk.str rfl) (.cons (Wk.ff rfl) .nil))))
theorem Mr (s:List UInt8) (c:UInt8) (hs:s.length≤9223372036854775806):ay Tryz.prog 172 [.str s,.str [c]] (.aU [.str (tg s c),.str (za s c),.bool (decide (0≤Go.Lib.indexByte s c))]):=by
 refine ah.ai aj Tryz.func172 rfl rfl (n:=13) rfl rfl ?_
 conv=>whnf
 repeat (((refine pC (NV s c hs) wR ?_);conv=>whnf))
 exact an.pure (Wk.refl _)
theorem Bg {s:List UInt8} {i:Nat} (h:i < s.length):s.getD i 0∈s:=by rw[List.getD,List.getElem?_eq_getElem h];exact List.getElem_mem _
theorem Gu {s:List UInt8} {i:Nat} (h:i < s.length):s.take (i + 1)=s.take i++ [s.getD i 0]:=by rw[List.take_add_one];simp[h]
theorem HT {s:List UInt8} {i:Nat} (h:i < s.length):s[i]=s.getD i 0:=by simp[List.getD,h]
theorem xI {c:UInt8}:eE c=true↔(48:Int)≤c.toNat∧(c.toNat:Int)≤57:=by simp only[eE,Bool.and_eq_true,decide_eq_true_eq];omega
theorem JQ (s:List UInt8) (h1:1≤s.length) (h2:s.length≤10) (hd: ∀ c∈s,eE c=true):ay Tryz.prog 200 [.str s] (.aU [.int .i64 (eT s),.sc .nilIface]):=by
 have h0:=xI.1 (hd _ (Bg (i:=0) (by omega)));refine ah.ai aj Tryz.func200 rfl rfl (n:=77) rfl rfl ?_
 conv=>whnf
 repeat' (first|refine cW ?_|((intro _);conv=>whnf)|(refine zX (fun hc=>?_) (fun hc=>?_)<;>(try simp only[SY] at hc)<;>first|omega|(conv=>whnf)))
 ·have hv: ∀ i,eT (s.take i) < 10 ^ 10:=fun i=>Nat.lt_of_lt_of_le (nG _ fun c hc=>hd c (List.mem_of_mem_take hc)) (Nat.pow_le_pow_right (by omega) (by simp;omega))
  refine aI.keep [2,3,6,8,49,50,51,52,53,54,55,56,57,58,59,60,61,62,63] (fun i:Nat=> [(6,.int .i64 (eT (s.take i))),(49,.int .i64 i)]) (fun i=>i≤s.length) (fun i=>s.length - i) 0 (by omega) wA ?_;intro i hi;have hvi:=hv i;by_cases hlt:i < s.length
  ·have hc1:=xI.1 (hd _ (Bg hlt))
   have hsn:eT (s.take (i + 1))=10 * eT (s.take i) + ((s.getD i 0).toNat - 48):=by rw[Gu hlt,sk]
   rw[←HT hlt] at hc1 hsn
   conv=>whnf
   repeat' (first|refine cW ?_|(refine zX (fun hc=>?_) (fun hc=>?_)<;>(try simp only[SY] at hc)<;>first|omega|(conv=>whnf)))
   exact aJ (i + 1) (by omega) (by show s.length - (i + 1) < s.length - i;omega) wA
  ·conv=>whnf
   repeat' (first|refine cW ?_|(refine zX (fun hc=>?_) (fun hc=>?_)<;>(try simp only[SY] at hc)<;>first|omega|(conv=>whnf)))
   rw[List.take_of_length_le (by omega)];exact an.pure (Wk.refl _)
theorem Mc (s:List UInt8) (h1:1≤s.length) (h2:s.length≤10) (hd: ∀ c∈s,eE c=true):ay Tryz.prog 191 [.str s] (.aU [.int .i64 (eT s),.sc .nilIface]):=by
 refine ah.ai aj Tryz.func191 rfl rfl (n:=18) rfl rfl ?_
 conv=>whnf
 repeat' (first|((refine pC (JQ s h1 h2 hd) wR ?_);conv=>whnf)|(refine zX (fun hc=>?_) (fun hc=>?_)<;>(try simp only[SY] at hc)<;>omega))
 exact an.pure (Wk.refl _)
def iq (s:List UInt8):Bool:=decide (1≤s.length) && (decide (s.length≤10) && s.all eE)
def jc (s:List UInt8):Nat:=if iq s then eT s else 0
def digits:List UInt8:= [48,49,50,51,52,53,54,55,56,57]
theorem j9 (p:UInt8→Bool): ∀ l:List UInt8,l.dropWhile p= []↔l.all p=true
 | []=>by simp
 | c::l=>by
  rw[List.dropWhile_cons,List.all_cons];cases h:p c
  ·simp
  ·simp only[if_true,Bool.true_and];exact j9 p l
theorem ot (p:UInt8→Bool): ∀ l:List UInt8,(l.dropWhile p).all p=l.all p
 | []=>rfl
 | c::l=>by
  rw[List.dropWhile_cons,List.all_cons];cases h:p c
  ·simp[h]
  ·simp only[if_true,Bool.true_and];exact ot p l
theorem wo (p:UInt8→Bool) (s:List UInt8):(kC p s).dropWhile p= []↔s.all p=true:=by
 rw[j9,kC,List.all_reverse,ot,List.all_reverse]
theorem uO:digits.contains=eE:=by
 funext c;simp only[digits,eE,List.contains_cons,List.contains_nil,Bool.or_false];rw[Bool.eq_iff_iff];simp only[Bool.or_eq_true,beq_iff_eq,Bool.and_eq_true,decide_eq_true_eq, ←UInt8.toNat_inj];simp;omega
theorem Io (s:List UInt8):iq s=true↔(¬ (s.length:Int)=0∧(s.length:Int)≤10)∧(kC digits.contains s).dropWhile digits.contains= []:=by
 rw[wo,uO,iq,Bool.and_eq_true,Bool.and_eq_true,decide_eq_true_eq,decide_eq_true_eq];constructor
 ·rintro ⟨h1,h2,h3⟩;exact ⟨⟨by omega,by omega⟩,h3⟩
 ·rintro ⟨⟨h1,h2⟩,h3⟩;exact ⟨by omega,by omega,h3⟩
theorem HA {p q:Prop} (k:q) (h:q→p:=by intro hq;first | exact aC.sP (some 24) rfl [] [] aj mixed hq):p:=h k
theorem F5 (s:List UInt8):ay Tryz.prog 173 [.str s] (.aU [.int .i64 (jc s),.bool (iq s)]):=by
 have hb:=Io s;refine ah.ai aj Tryz.func173 rfl rfl (n:=27) rfl rfl ?_
 conv=>whnf
 repeat' (first|refine cW ?_|((first|(((apply zY;intro hg));(conv=>whnf);(repeat ((first|refine pC (Jt s digits (by decide) (by decide)) wR ?_|refine aG ?_);conv=>whnf));exact pZ)|intro _);conv=>whnf)|(refine zX (fun hc=>?_) (fun hc=>?_)<;>(try simp only[SY] at hc)<;>(conv=>whnf)))
 ·have hn:iq s=false:=by
   rw[←Bool.not_eq_true,hb];rintro ⟨⟨h1,h2⟩,h3⟩;rcases hc with hc | hc
   ·omega
   ·exact hc h3
  exact an.pure (Wk.aU (.cons (Wk.int (by simp[jc,hn])) (.cons (Wk.ff hn) .nil)))
 ·have hn:iq s=true:=hb.2 hc
  have hall: ∀ c∈s,eE c=true:=by
   have:=hc.2;rw[wo,uO] at this;exact fun c hc=>List.all_eq_true.1 this c hc
  conv=>whnf
  repeat' (first|refine cW ?_|((first|refine pC (Mc s (by omega) (by omega) hall) wR ?_|refine HA ?_);conv=>whnf)|(refine zX (fun hc=>?_) (fun hc=>?_)<;>(try simp only[SY] at hc)<;>omega))
  exact an.pure (Wk.aU (.cons (Wk.int (by simp[jc,hn])) (.cons (Wk.tt hn) .nil)))
def vH (s:List UInt8):Int×Int×Bool:=
 let u:=if lQ s then s.drop 1 else s
 let a:=tg u 47
 let b:=if 0≤Go.Lib.indexByte u 47 then za u 47 else [49]
 if iq a && iq b then
  let x:=kj (if lQ s then -(jc a:Int) else jc a) (jc b)
  (x.1,x.2.1,x.2.2 == 0)
 else (0,0,false)
theorem ID (s:List UInt8):preB s [45]=lQ s:=by
 cases s with
 | nil=>rfl
 | cons c s=>simp[preB,lQ]
theorem EN (s:List UInt8):jc s < 10000000000:=by
 unfold jc
 split
 ·rename_i h
  simp only[iq,Bool.and_eq_true,decide_eq_true_eq] at h;refine Nat.lt_of_lt_of_le (nG s fun c hc=>List.all_eq_true.1 h.2.2 c hc) ?_;have:10 ^ s.length≤10 ^ 10:=Nat.pow_le_pow_right (by omega) (by omega);omega
 ·omega
def oU (neg:Bool) (a b:List UInt8):Int×Int×Bool:=
 if (iq a && iq b)=true then
  ((kj (if neg=true then -(jc a:Int) else jc a) (jc b)).1,(kj (if neg=true then -(jc a:Int) else jc a) (jc b)).2.1,(kj (if neg=true then -(jc a:Int) else jc a) (jc b)).2.2 == 0)
 else (0,0,false)
theorem Ix (s:List UInt8) (hs:s.length≤1000000):ay Tryz.prog 148 [.str s] (DG (vH s)):=by
 refine ah.ai aj Tryz.func148 rfl rfl (n:=57) rfl rfl ?_
 conv=>whnf
 skip
 refine au.pure (zb s [45]) (bU.refl _) ?_;have hP:vH s=oU (lQ s) (tg (if lQ s=true then s.drop [45].length else s) 47) (if 0≤Go.Lib.indexByte (if lQ s=true then s.drop [45].length else s) 47 then za (if lQ s=true then s.drop [45].length else s) 47 else [49]):=rfl;have hu:(if lQ s=true then s.drop [45].length else s).length≤1000000:=by split<;>(try rw[List.length_drop])<;>omega
 rw[ID];rw[hP];generalize (if lQ s=true then s.drop [45].length else s)=u at *;generalize lQ s=neg at *;have v1:=EN (tg u 47);have v2:=EN (za u 47);have v3:jc [49]=1:=by decide
 generalize h1:jc [49]=n1 at *;have h2:iq [49]=true:=by decide
 conv=>whnf
 repeat' (first|refine cW ?_|((first|refine pC (Mr _ 47 OA) wR ?_|refine pC (F5 _) wR ?_|refine pC (Kp _ _ OA OA OA OA) wR ?_);conv=>whnf)|(refine zX (fun hc=>?_) (fun hc=>?_)<;>(try simp only[SY] at hc)<;>(conv=>whnf)))
 all_goals first | rw[if_neg (by omega)] | rw[if_pos (by omega)]
 ·rw[oU,if_neg (by simp only[SS];rcases hc with hc | hc;simp[hc];rw[h2] at hc;cases hc)]
  exact an.pure qC
 ·rw[h1,oU,if_pos (by simp only[SS];exact ‹_∧_›),hc,if_pos rfl,h1]
  exact an.pure (Wk.eq (by simp only[DG,Int.zero_sub]))
 ·rw[h1,oU,if_pos (by simp only[SS];exact ‹_∧_›),hc,if_neg (by simp),h1]
  exact an.pure (Wk.refl _)
 ·rw[oU,if_neg (by simp only[SS];rcases hc with hc | hc<;>simp[hc])]
  exact an.pure qC
 ·rw[oU,if_pos (by simp only[SS];exact ‹_∧_›),hc,if_pos rfl]
  exact an.pure (Wk.eq (by simp only[DG,Int.zero_sub]))
 ·rw[oU,if_pos (by simp only[SS];exact ‹_∧_›),hc,if_neg (by simp)]
  exact an.pure (Wk.refl _)
def cO {α:Type} (p:α→Bool):List α→Int
 | []=> -1
 | x::l=>if p x then 0 else if cO p l= -1 then -1 else cO p l + 1
theorem gT {α:Type} (p:α→Bool): ∀ l:List α, -1≤cO p l
 | []=>by simp[cO]
 | x::l=>by
  have:=gT p l;rw[cO];split
  ·omega
  ·split<;>omega
theorem nK {α:Type} (p:α→Bool): ∀ l:List α,decide (cO p l≥0)=l.any p
 | []=>by simp[cO]
 | x::l=>by
  have h:=nK p l;have hg:=gT p l;rw[cO,List.any_cons, ←h];cases p x
  ·simp only[Bool.false_eq_true,if_false,Bool.false_or]
   split
   ·rename_i e;rw[e]
   ·rw[Bool.eq_iff_iff,decide_eq_true_eq,decide_eq_true_eq];omega
  ·simp
theorem vf (k:Nat) (cap:List PV) (Γ1:List ak) (p:Datum→Bool) (l:List Datum) (hf: ∀ x∈l,ah Tryz.prog k (.agg (Datum.cells x)::cap) Γ1 (fun y Γ'=>y=.bool (p x)∧Γ'=Γ1)):
  ah Tryz.prog 99 [.sl 5 (l.map Datum.pv) none,.fn (.func k) cap] Γ1 (fun y Γ'=>y=.int .i64 (cO p l)∧Γ'=Γ1):=by
 refine ah.ai aj Tryz.func99 rfl rfl (n:=19) rfl rfl ?_
 conv=>whnf
 repeat (first|refine kM ?_|((intro _);conv=>whnf))
 refine aI.keep [4,5,8,9,10,11,12,13,14,15,16,17,18] (fun i:Nat=> [(8,.int .i64 i)]) (fun i=>i≤l.length∧cO p l=if cO p (l.drop i)= -1 then -1 else i + cO p (l.drop i)) (fun i=>l.length - i) 0 ⟨by omega,by simp only[List.drop_zero];split<;>omega⟩ wA ?_;rintro i ⟨h1,h2⟩
 conv=>whnf
 repeat' (first|refine cW ?_|(refine zX (fun hc=>?_) (fun hc=>?_)<;>(try simp only[SY] at hc)<;>(conv=>whnf)))
 ·refine au.same (hf _ (List.getElem_mem (show i < l.length by omega))) (bU.refl _) ?_
  rintro _ _ ⟨rfl,rfl⟩;rw[aq (show i < l.length by omega),cO] at h2
  conv=>whnf
  repeat' (first|refine cW ?_|(refine zX (fun hc=>?_) (fun hc=>?_)<;>(try simp only[SY] at hc)<;>(conv=>whnf)))
  ·rw[hc] at h2
   refine an.gen (Wk.int ?_) ⟨rfl,rfl⟩;simpa using h2.symm
  ·rw[hc] at h2
   refine aJ (i + 1) ⟨by omega,?_⟩ (by show l.length - (i + 1) < l.length - i;omega) wA;rw[h2];have hg:=gT p (l.drop (i + 1));simp only[Bool.false_eq_true,if_false]
   split
   ·simp
   ·rw[if_neg (by omega)];omega
 ·rw[List.drop_of_length_le (by omega)] at h2
  exact an.gen (Wk.int (by rw[h2];rfl)) ⟨rfl,rfl⟩
theorem j8 (k:Nat) (cap:List PV) (Γ1:List ak) (p:Datum→Bool) (l:List Datum) (hf: ∀ x∈l,ah Tryz.prog k (.agg (Datum.cells x)::cap) Γ1 (fun y Γ'=>y=.bool (p x)∧Γ'=Γ1)):
  ah Tryz.prog 65 [.sl 5 (l.map Datum.pv) none,.fn (.func k) cap] Γ1 (fun y Γ'=>y=.bool (l.any p)∧Γ'=Γ1):=by
 refine ah.ai aj Tryz.func65 rfl rfl (n:=9) rfl rfl ?_
 conv=>whnf
 skip
 refine au.same (vf k cap Γ1 p l hf) (bU.refl _) ?_;rintro _ _ ⟨rfl,rfl⟩
 conv=>whnf
 skip
 exact an.gen (Wk.bool (nK p l)) ⟨rfl,rfl⟩
theorem vi (k:Nat) (cap:List PV) (Γ1:List ak) (p:aa→Bool) (l:List aa) (hf: ∀ x∈l,ah Tryz.prog k (.agg (aa.cells x)::cap) Γ1 (fun y Γ'=>y=.bool (p x)∧Γ'=Γ1)):
  ah Tryz.prog 104 [.sl 4 (l.map aa.pv) none,.fn (.func k) cap] Γ1 (fun y Γ'=>y=.int .i64 (cO p l)∧Γ'=Γ1):=by
 refine ah.ai aj Tryz.func104 rfl rfl (n:=19) rfl rfl ?_
 conv=>whnf
 repeat (first|refine kM ?_|((intro _);conv=>whnf))
 refine aI.keep [4,5,8,9,10,11,12,13,14,15,16,17,18] (fun i:Nat=> [(8,.int .i64 i)]) (fun i=>i≤l.length∧cO p l=if cO p (l.drop i)= -1 then -1 else i + cO p (l.drop i)) (fun i=>l.length - i) 0 ⟨by omega,by simp only[List.drop_zero];split<;>omega⟩ wA ?_;rintro i ⟨h1,h2⟩
 conv=>whnf
 repeat' (first|refine cW ?_|(refine zX (fun hc=>?_) (fun hc=>?_)<;>(try simp only[SY] at hc)<;>(conv=>whnf)))
 ·refine au.same (hf _ (List.getElem_mem (show i < l.length by omega))) (bU.refl _) ?_
  rintro _ _ ⟨rfl,rfl⟩;rw[aq (show i < l.length by omega),cO] at h2
  conv=>whnf
  repeat' (first|refine cW ?_|(refine zX (fun hc=>?_) (fun hc=>?_)<;>(try simp only[SY] at hc)<;>(conv=>whnf)))
  ·rw[hc] at h2
   refine an.gen (Wk.int ?_) ⟨rfl,rfl⟩;simpa using h2.symm
  ·rw[hc] at h2
   refine aJ (i + 1) ⟨by omega,?_⟩ (by show l.length - (i + 1) < l.length - i;omega) wA;rw[h2];have hg:=gT p (l.drop (i + 1));simp only[Bool.false_eq_true,if_false]
   split
   ·simp
   ·rw[if_neg (by omega)];omega
 ·rw[List.drop_of_length_le (by omega)] at h2
  exact an.gen (Wk.int (by rw[h2];rfl)) ⟨rfl,rfl⟩
theorem gQ (k:Nat) (cap:List PV) (Γ1:List ak) (p:aa→Bool) (l:List aa) (hf: ∀ x∈l,ah Tryz.prog k (.agg (aa.cells x)::cap) Γ1 (fun y Γ'=>y=.bool (p x)∧Γ'=Γ1)):
  ah Tryz.prog 73 [.sl 4 (l.map aa.pv) none,.fn (.func k) cap] Γ1 (fun y Γ'=>y=.bool (l.any p)∧Γ'=Γ1):=by
 refine ah.ai aj Tryz.func73 rfl rfl (n:=9) rfl rfl ?_
 conv=>whnf
 skip
 refine au.same (vi k cap Γ1 p l hf) (bU.refl _) ?_;rintro _ _ ⟨rfl,rfl⟩
 conv=>whnf
 skip
 exact an.gen (Wk.bool (nK p l)) ⟨rfl,rfl⟩
def dF:List UInt8:= [97,98,99,100,101,102,103,104,105,106,107,108,109,110,111,112,113,114,115,116,117,118,119,120,121,122,48,49,50,51,52,53,54,55,56,57,45,43,42,47,60,62,61,33,63,95,37]
theorem jH (c:UInt8): ∀ l:List UInt8,0≤Go.Lib.indexByte l c↔l.contains c=true
 | []=>by simp[Go.Lib.indexByte]
 | b::l=>by
  have ih:=jH c l;have hge:=Go.Lib.indexByte_ge l c;rw[Go.Lib.indexByte,List.contains_cons];by_cases h:b=c
  ·subst h;simp
  ·have h1:(b == c)=false:=by simp[h]
   have h2:(c == b)=false:=by simp;exact fun e=>h e.symm
   rw[h1,h2,Bool.false_or, ←ih];simp only[Bool.false_eq_true,if_false]
   split<;>rename_i h<;>simp at h<;>omega
theorem KI (s:List UInt8):ay Tryz.prog 147 [.str s] (.bool (s.all dF.contains)):=by
 have hi:=fun c=>jH c dF;refine ah.ai aj Tryz.func147 rfl rfl (n:=16) rfl rfl ?_
 conv=>whnf
 repeat (first|refine kM ?_|((intro _);conv=>whnf))
 refine aI.keep [2,4,8,9,10,11,12,13,14,15] (fun i:Nat=> [(8,.int .i64 i)]) (fun i=>i≤s.length∧(s.drop i).all dF.contains=s.all dF.contains) (fun i=>s.length - i) 0 ⟨by omega,rfl⟩ wA ?_;rintro i ⟨h1,h2⟩
 conv=>whnf
 repeat' (first|refine cW ?_|((refine pC (Bo dF _) wR ?_);conv=>whnf)|(refine zX (fun hc=>?_) (fun hc=>?_)<;>(try simp only[SY] at hc)<;>(conv=>whnf)))
 ·rw[aq (show i < s.length by omega),List.all_cons,show dF.contains s[i]=false by rw[←Bool.not_eq_true, ←hi];omega] at h2
  exact an.pure (Wk.ff h2.symm)
 ·rw[aq (show i < s.length by omega),List.all_cons,(hi s[i]).1 hc] at h2
  exact aJ (i + 1) ⟨by omega,h2⟩ (by show s.length - (i + 1) < s.length - i;omega) wA
 ·rw[List.drop_of_length_le (by omega)] at h2
  exact an.pure (Wk.tt h2.symm)
theorem Jn (s:List UInt8):ay Tryz.prog 123 [.str s] (.bool (!s.any lW)):=by
 refine ah.ai aj Tryz.func123 rfl rfl (n:=27) rfl rfl ?_
 conv=>whnf
 repeat (first|refine kM ?_|((intro _);conv=>whnf))
 refine aI.keep [2,4,8,9,10,11,12,13,14,15,16,17,18,19,20,21,22,23,24,25,26] (fun i:Nat=> [(8,.int .i64 i)]) (fun i=>i≤s.length∧(s.drop i).any lW=s.any lW) (fun i=>s.length - i) 0 ⟨by omega,rfl⟩ wA ?_;rintro i ⟨h1,h2⟩
 conv=>whnf
 repeat' (first|refine cW ?_|(refine zX (fun hc=>?_) (fun hc=>?_)<;>(try simp only[SY] at hc)<;>(conv=>whnf)))
 ·rw[aq (show i < s.length by omega),List.any_cons,show lW s[i]=true by simp only[lW,SS,hc]] at h2
  exact an.pure (Wk.ff (by rw[←h2];rfl))
 ·rw[aq (show i < s.length by omega),List.any_cons,show lW s[i]=false by simp only[lW,SS,hc,not_false_eq_true,and_self]] at h2
  exact aJ (i + 1) ⟨by omega,h2⟩ (by show s.length - (i + 1) < s.length - i;omega) wA
 ·rw[List.drop_of_length_le (by omega)] at h2
  exact an.pure (Wk.tt (by rw[←h2];rfl))
def rS (s:List UInt8):Bool:=!((s.length:Int) == 0 || decide ((s.length:Int) > 40) || !((kC dF.contains s).dropWhile dF.contains == []) || !s.all dF.contains) && !(vH s).2.2
theorem Ku (s:List UInt8):ay Tryz.prog 122 [.str s] (.bool (rS s)):=by
 refine ah.ai aj Tryz.func122 rfl rfl (n:=32) rfl rfl ?_
 conv=>whnf
 repeat' (first|refine cW ?_|((first|(((apply zY;intro hg));(conv=>whnf);(repeat ((first|refine pC (Jt s dF (by decide) (by decide)) wR ?_|refine pC (KI s) wR ?_|refine aG ?_);conv=>whnf));exact pZ)|refine pC (Ix s (by omega)) wR ?_|intro _);conv=>whnf)|(refine zX (fun hc=>?_) (fun hc=>?_)<;>(try simp only[SY] at hc)<;>(conv=>whnf)))
 ·exact an.pure (Wk.ff (by rw[rS,show ((s.length:Int) == 0 || decide ((s.length:Int) > 40) || !((kC dF.contains s).dropWhile dF.contains == []) || !s.all dF.contains)=true by simp only[SS,hc]];rfl))
 ·refine an.pure (Wk.bool ?_)
  have:((s.length:Int) == 0 || decide ((s.length:Int) > 40) || !((kC dF.contains s).dropWhile dF.contains == []) || !s.all dF.contains)=false:=by simp only[SS,hc,not_false_eq_true,and_self]
  rw[rS,this];rfl
def mE (d:Datum):Datum×Bool:=
 if d.kind=0 then (.mk 0 d.n d.d [] [],bE d.n d.d) else
 if d.kind=1 then (.mk d.kind d.n 0 [] [],d.n == 0 || d.n == 1) else
 if d.kind=2 then (.mk d.kind 0 0 d.s [],rS d.s) else
 if d.kind=3 then (.mk d.kind 0 0 d.s [],!d.s.any lW) else
 if d.kind=4∨d.kind=5 then (.mk d.kind 0 0 [] [],true) else
 if d.kind=6 then (.mk d.kind 0 0 [] d.l,(d.l.length:Int) == 2) else
 if d.kind=7 then (.mk d.kind 0 0 [] d.l,true) else
 (.mk 0 0 0 [] [],false)
theorem Hx {p q:Prop} (k:q) (h:q→p:=by intro hq;first | exact aC.sP (some 8) rfl [] [10,11] aj mixed hq | exact aC.sQ (some 20) rfl [13] [14] aj mixed hq | exact aC.sP (some 35) rfl [] [8,9] aj mixed hq | exact aC.sP (some 45) rfl [] [8,9] aj mixed hq | exact aC.sQ (some 61) rfl [9] [10] aj mixed hq):p:=h k
theorem Md (d:Datum):ay Tryz.prog 101 [.agg d.cells] (.aU [.agg (mE d).1.cells,.bool (mE d).2]):=by
 refine ah.ai aj Tryz.func101 rfl rfl (n:=78) rfl rfl ?_
 conv=>whnf
 repeat (((intro _);conv=>whnf))
 have hB:mE d=mE d:=rfl
 conv at hB=>rhs;unfold mE
 conv=>whnf
 repeat' (first|refine cW ?_|((first|((apply zZ);(conv=>whnf);(repeat ((first|refine pC (IQ _ _) wR ?_|refine pC (Ku _) wR ?_|refine pC (Jn _) wR ?_);conv=>whnf));exact pZ)|refine Hx ?_);conv=>whnf)|(refine zX (fun hc=>?_) (fun hc=>?_)<;>(try simp only[SY] at hc)<;>first|omega|(conv=>whnf)))
 all_goals repeat (first|rw[if_neg (by omega)] at hB|rw[if_pos (by omega)] at hB)
 all_goals rw[hB]
 all_goals exact an.pure wA
def gO (d:Datum) (deep:Int):Bool:=
 !(mE d).2 || decide (deep > 200) || !((mE d).1.n == d.n) || !((mE d).1.d == d.d) || !((mE d).1.s == d.s) || !(((mE d).1.l.length:Int) == d.l.length)
mutual
def Datum.ej:Datum→Int→Bool
 | .mk k n d s l,deep=>!gO (.mk k n d s l) deep && Datum.kA l (deep + 1)
def Datum.kA:List Datum→Int→Bool
 | [],_=>true
 | x::xs,deep=>Datum.ej x deep && Datum.kA xs deep
end
theorem Datum.x9 (x:Datum) (deep:Int):x.ej deep=(!gO x deep && Datum.kA x.l (deep + 1)):=by cases x;rfl
theorem Gk (b bd:Nat) (x:Datum) (deep:Int) (h0:0≤deep) (h1:deep≤1000) (ih:ah Tryz.prog 100 [.agg x.cells,.int .i64 (deep + 1),.ptr b 0] [.box b [.fn (.func 100) [.ptr b 0]]] (fun y Γ'=>y=.bool (x.ej (deep + 1))∧Γ'= [.box b [.fn (.func 100) [.ptr b 0]]])):
  ah Tryz.prog 102 [.agg x.cells,.ptr b 0,.ptr bd 0] [.box b [.fn (.func 100) [.ptr b 0]],.box bd [.int .i64 deep]] (fun y Γ'=>y=.bool (!x.ej (deep + 1))∧Γ'= [.box b [.fn (.func 100) [.ptr b 0]],.box bd [.int .i64 deep]]):=by
 refine ah.ai aj Tryz.func102 rfl rfl (n:=11) rfl rfl ?_
 conv=>whnf
 repeat (first|refine kM ?_|((intro _);conv=>whnf))
 refine au.go ih (bU.refl _) ?_;rintro _ _ ⟨rfl,rfl⟩
 conv=>whnf
 skip
 exact an.gen (Wk.refl _) ⟨rfl,rfl⟩
theorem ow (deep:Int): ∀ l:List Datum,l.any (fun x=>!x.ej deep)=!Datum.kA l deep
 | []=>rfl
 | x::l=>by rw[List.any_cons,Datum.kA,ow deep l,Bool.not_and]
theorem Gj (b:Nat) (d:Datum): ∀ deep:Int,0≤deep→deep≤1000→ah Tryz.prog 100 [.agg d.cells,.int .i64 deep,.ptr b 0] [.box b [.fn (.func 100) [.ptr b 0]]] (fun y Γ'=>y=.bool (d.ej deep)∧Γ'= [.box b [.fn (.func 100) [.ptr b 0]]]):=by
 induction d using Datum.ind with
 | h d ih=>
  intro deep h0 h1;have hb:gO d deep=gO d deep:=rfl
  conv at hb=>rhs;unfold gO
  rw[Datum.x9];refine ah.ai aj Tryz.func100 rfl rfl (n:=54) rfl rfl ?_
  conv=>whnf
  repeat' (first|refine cW ?_|((first|refine pC (Md d) wR ?_|intro _);conv=>whnf)|(refine zX (fun hc=>?_) (fun hc=>?_)<;>(try simp only[SY] at hc)<;>(conv=>whnf)))
  ·rw[show gO d deep=true by rw[hb];simp only[SS,hc]]
   exact an.gen (Wk.ff rfl) ⟨rfl,rfl⟩
  ·rename_i b1 b2 b3
   rw[show gO d deep=false by rw[hb];simp only[SS,hc,and_self]];refine au.go (j8 102 [.ptr b 0,.ptr b2 0] [.box b [.fn (.func 100) [.ptr b 0]],.box b2 [.int .i64 deep]] (fun x=>!x.ej (deep + 1)) d.l (fun x hx=>Gk b b2 x deep h0 (by omega) (ih x hx (deep + 1) (by omega) (by omega)))) (bU.refl _) ?_;rintro _ _ ⟨rfl,rfl⟩
   conv=>whnf
   skip
   exact an.gen (Wk.bool (by rw[ow];simp)) ⟨rfl,rfl⟩
theorem IS (d:Datum):ay Tryz.prog 67 [.agg d.cells] (.bool (d.ej 0)):=by
 refine ah.ai aj Tryz.func67 rfl rfl (n:=8) rfl rfl ?_
 conv=>whnf
 repeat (first|refine kM ?_|((intro _);conv=>whnf))
 refine au.go (Gj _ d 0 (by omega) (by omega)) (bU.refl _) ?_;rintro _ _ ⟨rfl,rfl⟩
 conv=>whnf
 skip
 exact an.pure (Wk.refl _)
theorem CZ (d:Datum): ∀ left:Int,0≤left→left≤1000000000→ay Tryz.prog 30 [.agg d.cells,.int .i64 left] (.int .i64 (d.oe left)):=by
 induction d using Datum.ind with
 | h d ih=>
  intro left h0 h1;refine ah.ai aj Tryz.func30 rfl rfl (n:=27) rfl rfl ?_
  conv=>whnf
  repeat (first|refine kM ?_|((intro _);conv=>whnf))
  refine aI.keep [1,5,8,9,10,11,12,13,14,15,16,17,18,19,20,21,22,23,24,25] (fun (x:Nat×Int)=> [(1,.int .i64 x.2),(5,.int .i64 x.1)]) (fun x=>x.1≤d.l.length∧ -1≤x.2∧x.2 < left∧Datum.eL (d.l.drop x.1) x.2=Datum.eL d.l (left - 1)) (fun x=>d.l.length - x.1) (0,left - 1) ⟨by simp,by simp only;omega,by simp only;omega,rfl⟩ wA ?_;rintro ⟨i,n⟩ ⟨hi,h2,h3,hf⟩;simp only at hi h2 h3 hf;have hbd:=fun (x:Datum) (h:0≤n)=>x.zg n h
  conv=>whnf
  repeat' (first|refine cW ?_|((first|(((apply zY;intro hg));(conv=>whnf);(repeat ((refine aG ?_);conv=>whnf));exact pZ)|refine pC (ih _ (List.getElem_mem _) _ OA OA) wR ?_|intro _);conv=>whnf)|(refine zX (fun hc=>?_) (fun hc=>?_)<;>(try simp only[SY] at hc)<;>(conv=>whnf)))
  ·rw[aq (show i < d.l.length by omega),Datum.eL,if_pos (by omega)] at hf
   have hx:=hbd d.l[i] (by omega);exact aJ (i + 1,d.l[i].oe n) ⟨by simp only;omega,by simp only;omega,by simp only;omega,hf⟩ (by show d.l.length - (i + 1) < d.l.length - i;omega) wA
  ·refine an.pure (Wk.int ?_)
   rw[Datum.rL, ←hf];rcases Nat.lt_or_ge i d.l.length with h | h
   ·rw[aq h,Datum.eL,if_neg (by omega)]
   ·rw[List.drop_of_length_le h,Datum.eL]
theorem HO (d:aa): ∀ left:Int,0≤left→left≤1000000000→ay Tryz.prog 37 [.agg d.cells,.int .i64 left] (.int .i64 (d.oe left)):=by
 induction d using aa.ind with
 | h d ih=>
  intro left h0 h1;refine ah.ai aj Tryz.func37 rfl rfl (n:=27) rfl rfl ?_
  conv=>whnf
  repeat (first|refine kM ?_|((intro _);conv=>whnf))
  refine aI.keep [1,5,8,9,10,11,12,13,14,15,16,17,18,19,20,21,22,23,24,25] (fun (x:Nat×Int)=> [(1,.int .i64 x.2),(5,.int .i64 x.1)]) (fun x=>x.1≤d.t.length∧ -1≤x.2∧x.2 < left∧aa.eL (d.t.drop x.1) x.2=aa.eL d.t (left - 1)) (fun x=>d.t.length - x.1) (0,left - 1) ⟨by simp,by simp only;omega,by simp only;omega,rfl⟩ wA ?_;rintro ⟨i,n⟩ ⟨hi,h2,h3,hf⟩;simp only at hi h2 h3 hf;have hbd:=fun (x:aa) (h:0≤n)=>x.zg n h
  conv=>whnf
  repeat' (first|refine cW ?_|((first|refine pC (ih _ (List.getElem_mem _) _ OA OA) wR ?_|intro _);conv=>whnf)|(refine zX (fun hc=>?_) (fun hc=>?_)<;>(try simp only[SY] at hc)<;>(conv=>whnf)))
  ·rw[aq (show i < d.t.length by omega),aa.eL,if_pos (by omega)] at hf
   have hx:=hbd d.t[i] (by omega);exact aJ (i + 1,d.t[i].oe n) ⟨by simp only;omega,by simp only;omega,by simp only;omega,hf⟩ (by show d.t.length - (i + 1) < d.t.length - i;omega) wA
  ·refine an.pure (Wk.int ?_)
   rw[aa.rL, ←hf];rcases Nat.lt_or_ge i d.t.length with h | h
   ·rw[aq h,aa.eL,if_neg (by omega)]
   ·rw[List.drop_of_length_le h,aa.eL]
theorem GN (d:aa) (n:Int) (h0:0≤n) (h1:n≤1000000000):ay Tryz.prog 22 [.agg d.cells,.int .i64 n] (.bool (decide (0≤d.oe n))):=by
 refine ah.ai aj Tryz.func22 rfl rfl (n:=9) rfl rfl ?_
 conv=>whnf
 repeat (first|refine kM ?_|((first|refine pC (HO d n h0 h1) wR ?_|intro _);conv=>whnf))
 exact an.pure (Wk.refl _)
theorem GL (l:List Datum) (n:Int) (h0:0≤n) (h1:n≤1000000000):ay Tryz.prog 15 [.sl 5 (l.map Datum.pv) none,.int .i64 n] (.bool (decide (0≤Datum.eL l n))):=by
 refine ah.ai aj Tryz.func15 rfl rfl (n:=24) rfl rfl ?_
 conv=>whnf
 skip
 refine aI.keep [1,5,6,7,8,9,10,11,12,13,14,15,16,17,18,19,20,21] (fun (x:Nat×Int)=> [(1,.int .i64 x.2),(5,.int .i64 x.1)]) (fun x=>x.1≤l.length∧ -1≤x.2∧x.2≤n∧Datum.eL (l.drop x.1) x.2=Datum.eL l n) (fun x=>l.length - x.1) (0,n) ⟨by simp,by simp only;omega,by simp only;omega,rfl⟩ wA ?_;rintro ⟨i,m⟩ ⟨hi,h2,h3,hf⟩;simp only at hi h2 h3 hf;have hbd:=fun (x:Datum) (h:0≤m)=>x.zg m h
 conv=>whnf
 repeat' (first|refine cW ?_|((first|refine pC (CZ _ _ OA OA) wR ?_|intro _);conv=>whnf)|(refine zX (fun hc=>?_) (fun hc=>?_)<;>(try simp only[SY] at hc)<;>(conv=>whnf)))
 ·rw[aq (show i < l.length by omega),Datum.eL,if_pos (by omega)] at hf
  have hx:=hbd l[i] (by omega);exact aJ (i + 1,l[i].oe m) ⟨by simp only;omega,by simp only;omega,by simp only;omega,hf⟩ (by show l.length - (i + 1) < l.length - i;omega) wA
 ·refine an.pure (Wk.bool ?_)
  rw[←hf];rcases Nat.lt_or_ge i l.length with h | h
  ·rw[aq h,Datum.eL,if_neg (by omega)]
  ·rw[List.drop_of_length_le h,Datum.eL]
def dW (op level:Int):Bool:=
 if op=0∨op=1∨op=3∨op=5∨op=6∨op=11 then true else
 if op=2 then decide (level≤1) else
 if op=4 then decide (level≤2) else
 if op=7 then level == 0 else
 if op=8∨op=9∨op=12∨op=13 then decide (level≥1) else
 if op=14 then level == 1 else
 if op=10∨op=15∨op=16∨op=17∨op=18 then decide (level≥2) else
 if op=19∨op=20∨op=21∨op=22 then level == 3 else false
theorem Lc (op level:Int):ay Tryz.prog 48 [.int .i64 op,.int .i64 level] (.bool (dW op level)):=by
 have hs:dW op level=dW op level:=rfl
 conv at hs=>rhs;unfold dW
 refine ah.ai aj Tryz.func48 rfl rfl (n:=51) rfl rfl ?_
 conv=>whnf
 repeat' (first|refine cW ?_|(refine zX (fun hc=>?_) (fun hc=>?_)<;>(try simp only[SY] at hc)<;>first|omega|(conv=>whnf)))
 all_goals repeat (first|rw[if_neg (by omega)] at hs|rw[if_pos (by omega)] at hs)
 all_goals rw[hs]
 all_goals first | exact an.pure (Wk.refl _) | exact an.pure (Wk.tt rfl) | exact an.pure (Wk.ff rfl)
def oG (op:Int):Bool:=op == 4 || op == 7 || op == 8 || op == 9
def di (t:aa):Bool:=
 if (!oG t.op && decide ((t.v.length:Int) > 0))=true then false else
 if t.op=0∨t.op=1∨t.op=11∨t.op=13∨t.op=20∨t.op=21 then (t.t.length:Int) == 0 else
 if t.op=2∨t.op=14∨t.op=4∨t.op=12∨t.op=15∨t.op=16 then (t.t.length:Int) == 1 else
 if t.op=3 then (t.t.length:Int) == 3 else
 if t.op=17∨t.op=18 then (t.t.length:Int) == 2 else
 if t.op=5∨t.op=6∨t.op=22 then decide ((t.t.length:Int)≥1) else
 if t.op=7∨t.op=8∨t.op=9 then (t.t.length:Int) == (t.v.length:Int) + 1 else true
theorem Hq (t:aa) (hv:t.v.length≤1000000000):ay Tryz.prog 49 [.agg t.cells] (.bool (di t)):=by
 have hs:di t=di t:=rfl
 conv at hs=>rhs;unfold di;simp only[oG,SS]
 refine ah.ai aj Tryz.func49 rfl rfl (n:=79) rfl rfl ?_
 conv=>whnf
 repeat' (first|refine cW ?_|((intro _);conv=>whnf)|(refine zX (fun hc=>?_) (fun hc=>?_)<;>(try simp only[SY] at hc)<;>first|omega|(conv=>whnf)))
 all_goals repeat (first|rw[if_neg (by omega)] at hs|rw[if_pos (by omega)] at hs)
 all_goals rw[hs]
 all_goals first | exact an.pure (Wk.refl _) | exact an.pure (Wk.tt rfl) | exact an.pure (Wk.ff rfl)
theorem LL (l:List Int) (v:Int):ay Tryz.prog 64 [.sl 1 (l.map (PV.int .i64)) none,.int .i64 v] (.bool (l.contains v)):=by
 refine ah.ai aj Tryz.func64 rfl rfl (n:=18) rfl rfl ?_
 conv=>whnf
 skip
 refine aI.keep [4,5,6,7,8,9,10,11,12,13,14,15,16,17] (fun i:Nat=> [(5,.int .i64 i)]) (fun i=>i≤l.length∧(l.drop i).contains v=l.contains v) (fun i=>l.length - i) 0 ⟨by omega,rfl⟩ wA ?_;rintro i ⟨h1,h2⟩
 conv=>whnf
 repeat' (first|refine cW ?_|((intro _);conv=>whnf)|(refine zX (fun hc=>?_) (fun hc=>?_)<;>(try simp only[SY] at hc)<;>(conv=>whnf)))
 ·rw[aq (show i < l.length by omega),List.contains_cons,show (v == l[i])=true by simp[hc]] at h2
  exact an.pure (Wk.tt (by rw[←h2];rfl))
 ·rw[aq (show i < l.length by omega),List.contains_cons,show (v == l[i])=false by simp;exact fun e=>hc e.symm] at h2
  exact aJ (i + 1) ⟨by omega,by simpa using h2⟩ (by show l.length - (i + 1) < l.length - i;omega) wA
 ·rw[List.drop_of_length_le (by omega)] at h2
  exact an.pure (Wk.ff (by rw[←h2];rfl))
theorem x8 (d:Datum):ay Tryz.prog 47 [.agg d.cells] (.bool (d.cM 0)):=by
 refine ah.ai aj Tryz.func47 rfl rfl (n:=5) rfl rfl ?_
 conv=>whnf
 repeat (first|refine kM ?_|((first|refine pC (IP d 0 (by omega) (by omega)) wR ?_|intro _);conv=>whnf))
 exact an.pure (Wk.refl _)
theorem y9 (l:List Datum):ay Tryz.prog 27 [.sl 5 (l.map Datum.pv) none] (.bool (l.all fun d=>d.cM 0)):=by
 refine ah.ai aj Tryz.func27 rfl rfl (n:=16) rfl rfl ?_
 conv=>whnf
 skip
 refine aI.keep [2,3,4,5,6,7,8,9,10,11,12,13,14,15] (fun i:Nat=> [(3,.int .i64 i)]) (fun i=>i≤l.length∧(l.drop i).all (fun d=>d.cM 0)=l.all fun d=>d.cM 0) (fun i=>l.length - i) 0 ⟨by omega,rfl⟩ wA ?_;rintro i ⟨h1,h2⟩
 conv=>whnf
 repeat' (first|refine cW ?_|((first|refine pC (x8 _) wR ?_|intro _);conv=>whnf)|(refine zX (fun hc=>?_) (fun hc=>?_)<;>(try simp only[SY] at hc)<;>(conv=>whnf)))
 ·rw[aq (show i < l.length by omega),List.all_cons,hc] at h2
  exact an.pure (Wk.ff (by rw[←h2];rfl))
 ·rw[aq (show i < l.length by omega),List.all_cons,hc] at h2
  exact aJ (i + 1) ⟨by omega,by simpa using h2⟩ (by show l.length - (i + 1) < l.length - i;omega) wA
 ·rw[List.drop_of_length_le (by omega)] at h2
  exact an.pure (Wk.tt (by rw[←h2];rfl))
def Jv (bound:List Int) (v:Int):Bool:=!(decide (v < 0) || decide (v > 1000000) || bound.contains v)
def bH:List Int→List Int→Bool×List Int
 | [],bound=>(true,bound)
 | v::l,bound=>if Jv bound v then bH l (bound++ [v]) else (false,bound++ [v])
theorem FH {p q:Prop} (k:q) (h:q→p:=by intro hq;first | exact aC.sP (some 17) rfl [] [] aj mixed hq):p:=h k
theorem DY (b:Nat) (level consts codes size:Int) (free:Bool) (l bound:List Int) (t:Tok) (ht:t.e=3) (hl:l.length + bound.length≤1000000000):
  ah Tryz.prog 35 [.ptr b 0,.sl 1 (l.map (PV.int .i64)) none] [.box b [.int .i64 level,.int .i64 consts,.int .i64 codes,.bool free,.int .i64 size,.sl 1 (bound.map (PV.int .i64)) (some t),.bool true],.tok t]
  (fun y Γ'=>y=.aU []∧ ∃ t':Tok,t'.e=3∧Γ'= [.box b [.int .i64 level,.int .i64 consts,.int .i64 codes,.bool free,.int .i64 size,.sl 1 ((bH l bound).2.map (PV.int .i64)) (some t'),.bool (bH l bound).1],.tok t']):=by
 refine ah.ai aj Tryz.func35 rfl rfl (n:=56) rfl rfl ?_
 conv=>whnf
 skip
 refine aI.over [4,5,6,7,8,9,10,11,12,13,14,15,16,17,18,19,20,21,22,23,24,25,26,27,28,29,30,31,32,33,34,35,36,37,38,39,40,41,42,43,44,45,46,47,48,49,50,51,52,53,54,55] (fun | ((i,bd,ok,t1):Nat×List Int×Bool×Tok)=> [(4,.int .i64 i)]) (fun x=> [.box b [.int .i64 level,.int .i64 consts,.int .i64 codes,.bool free,.int .i64 size,.sl 1 (x.2.1.map (PV.int .i64)) (some x.2.2.2),.bool x.2.2.1],.tok x.2.2.2])
  (fun | (i,bd,ok,t1)=>i≤l.length∧bd.length=bound.length + i∧t1.e=3∧(ok=true→bH (l.drop i) bd=bH l bound)∧(ok=false→bH l bound=(false,bd))) (fun | (i,_)=>l.length - i) (0,bound,true,t) ⟨by simp,by simp,ht,fun _=>rfl,fun h=>by cases h⟩ wA ?_
 rintro ⟨i,bd,ok,t1⟩ ⟨hi,hb,ht1,h1,h2⟩;have e1:List.length (i,bd,ok,t1).2.1=bd.length:=rfl
 conv=>whnf
 repeat' (first|refine cW ?_|((first|(((apply zY;intro hg));(conv=>whnf);(repeat ((first|refine pC (LL _ _) cA ?_|refine aG ?_);conv=>whnf));exact pZ)|refine FH ?_|intro _);conv=>whnf)|(refine zX (fun hc=>?_) (fun hc=>?_)<;>(try simp only[SY] at hc)<;>(conv=>whnf)))
 ·have hlt:i < l.length:=by omega
  refine aC.sE [.tok t1] [10] [11,12,13] aj mixed ?_
  conv=>whnf
  repeat (refine kM ?_)
  refine bg.one l[i] ht1 (Wk.tok _ _ _) (by omega) (by show _ * 8≤_;omega) ?_;intro t2 ht2
  conv=>whnf
  repeat (refine kM ?_)
  rw[aq hlt,bH,if_neg (by simp only[Jv,SS];rintro ⟨h,h'⟩;rw[h'] at hc;simp at hc;omega)] at h1;have h1':=h1 (‹_∧ok=true›).2;refine aJ (i + 1,bd++ [l[i]],false,t2) ⟨by omega,by simp;omega,ht2,fun h=>(by cases h),fun _=>h1'.symm⟩ (by show l.length - (i + 1) < l.length - i;omega) wA
 ·have hlt:i < l.length:=by omega
  refine aC.sE [.tok t1] [10] [11,12,13] aj mixed ?_
  conv=>whnf
  repeat (refine kM ?_)
  refine bg.one l[i] ht1 (Wk.tok _ _ _) (by omega) (by show _ * 8≤_;omega) ?_;intro t2 ht2
  conv=>whnf
  repeat (refine kM ?_)
  rw[aq hlt,bH,if_pos (by simp only[Jv,SS];exact hc)] at h1;obtain ⟨_,rfl⟩:= ‹_∧ok=true›;refine aJ (i + 1,bd++ [l[i]],true,t2) ⟨by omega,by simp;omega,ht2,fun _=>h1 rfl,fun h=>(by cases h)⟩ (by show l.length - (i + 1) < l.length - i;omega) wA
 ·have e:bH l bound=(ok,bd):=by
   cases ok with
   | false=>exact h2 rfl
   | true=>
    have:=h1 rfl;rw[List.drop_of_length_le (by rcases hc with hc | hc;omega;cases hc),bH] at this;exact this.symm
  exact an.gen (Wk.refl _) ⟨rfl,t1,ht1,by rw[e]⟩
structure NI where
 fm:Int
 to:Int
 least:Int
 any:Bool
 binds:Bool
abbrev NI.cells (s:NI):List PV:= [.int .i64 s.fm,.int .i64 s.to,.int .i64 s.least,.bool s.any,.bool s.binds]
def de (op:Int):NI×Bool:=
 if op=0∨op=1∨op=11 then (⟨0,3,0,false,false⟩,true) else
 if op=3 then (⟨0,3,3,false,false⟩,true) else
 if op=5∨op=6 then (⟨0,3,1,true,false⟩,true) else
 if op=2 then (⟨0,1,1,false,false⟩,true) else
 if op=4 then (⟨0,2,1,false,true⟩,true) else
 if op=7 then (⟨0,0,0,false,true⟩,true) else
 if op=8∨op=9 then (⟨1,3,0,false,true⟩,true) else
 if op=12 then (⟨1,3,1,false,false⟩,true) else
 if op=13 then (⟨1,3,0,false,false⟩,true) else
 if op=14 then (⟨1,1,1,false,false⟩,true) else
 if op=10 then (⟨2,3,0,true,false⟩,true) else
 if op=15∨op=16 then (⟨2,3,1,false,false⟩,true) else
 if op=17∨op=18 then (⟨2,3,2,false,false⟩,true) else
 if op=19 then (⟨3,3,0,true,false⟩,true) else
 if op=20∨op=21 then (⟨3,3,0,false,false⟩,true) else
 if op=22 then (⟨3,3,1,true,false⟩,true) else (⟨0,0,0,false,false⟩,false)
theorem Gq (op:Int):ay Tryz.prog 68 [.int .i64 op] (.aU [.agg (de op).1.cells,.bool (de op).2]):=by
 have hs:de op=de op:=rfl
 conv at hs=>rhs;unfold de
 refine ah.ai aj Tryz.func68 rfl rfl (n:=61) rfl rfl ?_
 conv=>whnf
 repeat' (first|refine cW ?_|((intro _);conv=>whnf)|(refine zX (fun hc=>?_) (fun hc=>?_)<;>(try simp only[SY] at hc)<;>first|omega|(conv=>whnf)))
 all_goals repeat (first|rw[if_neg (by omega)] at hs|rw[if_pos (by omega)] at hs)
 all_goals rw[hs]
 all_goals exact an.pure wA
def fV (op:Int):Bool:=op == 7 || op == 9
theorem tO (t:aa):ay Tryz.prog 71 [.agg t.cells] (.bool (fV t.op)):=by
 refine ah.ai aj Tryz.func71 rfl rfl (n:=11) rfl rfl ?_
 conv=>whnf
 repeat' (first|refine cW ?_|((intro _);conv=>whnf)|(refine zX (fun hc=>?_) (fun hc=>?_)<;>(try simp only[SY] at hc)<;>omega))
 exact an.pure (Wk.refl _)
def mR (s:NI) (t:aa):Bool:=
 let want:Int:=if s.binds=true∧t.op≠4 then (t.v.length:Int) + 1 else s.least
 ((t.t.length:Int) == want || (s.any && decide ((t.t.length:Int)≥want))) && (s.binds || (t.v.length:Int) == 0)
theorem Mu (s:NI) (t:aa) (hv:t.v.length≤1000000000):ay Tryz.prog 69 [.agg s.cells,.agg t.cells] (.bool (mR s t)):=by
 refine ah.ai aj Tryz.func69 rfl rfl (n:=45) rfl rfl ?_
 conv=>whnf
 repeat' (first|refine cW ?_|((intro _);conv=>whnf)|(refine zX (fun hc=>?_) (fun hc=>?_)<;>(try simp only[SY] at hc)<;>(conv=>whnf)))
 ·rw[show mR s t=(((t.t.length:Int) == (t.v.length:Int) + 1 || (s.any && decide ((t.t.length:Int)≥(t.v.length:Int) + 1))) && (s.binds || (t.v.length:Int) == 0)) by unfold mR;rw[if_pos hc]]
  exact an.pure (Wk.refl _)
 ·rw[show mR s t=(((t.t.length:Int) == s.least || (s.any && decide ((t.t.length:Int)≥s.least))) && (s.binds || (t.v.length:Int) == 0)) by
   unfold mR;rw[if_neg (by rcases hc with hc | hc<;>simp[hc])]]
  exact an.pure (Wk.refl _)
theorem BJ (b:Nat) (t:aa) (w:Int):ah Tryz.prog 105 [.agg t.cells,.ptr b 0] [.box b [.int .i64 w]] (fun y Γ'=>y=.bool (t.op !=w)∧Γ'= [.box b [.int .i64 w]]):=by
 refine ah.ai aj Tryz.func105 rfl rfl (n:=8) rfl rfl ?_
 conv=>whnf
 repeat' (first|refine cW ?_|((intro _);conv=>whnf)|(refine zX (fun hc=>?_) (fun hc=>?_)<;>(try simp only[SY] at hc)<;>omega))
 exact an.gen (Wk.refl _) ⟨rfl,rfl⟩
def jd (level:Int) (l:List aa):Bool:=!l.any (fun t=>t.op !=if level=3 then 19 else 4)
abbrev tc (level consts codes size:Int) (frees:Bool) (rb:Nat):List PV:= [.int .i64 level,.int .i64 consts,.int .i64 codes,.bool frees,.int .i64 size,.mp rb]
theorem EV (c rb:Nat) (level consts codes size:Int) (frees:Bool) (l:List aa):ah Tryz.prog 75 [.ptr c 0,.sl 4 (l.map aa.pv) none] [.box c (tc level consts codes size frees rb)] (fun y Γ'=>y=.bool (jd level l)∧Γ'= [.box c (tc level consts codes size frees rb)]):=by
 refine ah.ai aj Tryz.func75 rfl rfl (n:=15) rfl rfl ?_
 conv=>whnf
 repeat' (first|refine cW ?_|((intro _);conv=>whnf)|(refine zX (fun hc=>?_) (fun hc=>?_)<;>(try simp only[SY] at hc)<;>(conv=>whnf)))
 all_goals rename_i b2
 ·refine au.go (gQ 105 [.ptr b2 0] [.box b2 [.int .i64 19]] (fun t=>t.op !=19) l (fun x _=>BJ b2 x 19)) (bU.refl _) ?_
  rintro _ _ ⟨rfl,rfl⟩
  conv=>whnf
  skip
  exact an.gen (Wk.bool (by simp[jd,hc])) ⟨rfl,rfl⟩
 ·refine au.go (gQ 105 [.ptr b2 0] [.box b2 [.int .i64 4]] (fun t=>t.op !=4) l (fun x _=>BJ b2 x 4)) (bU.refl _) ?_
  rintro _ _ ⟨rfl,rfl⟩
  conv=>whnf
  skip
  exact an.gen (Wk.bool (by simp[jd,hc])) ⟨rfl,rfl⟩
structure Gy where
 name:List UInt8
 least:Int
 most:Int
 pure:Bool
 LH:Bool
abbrev Gy.cells (f:Gy):List PV:= [.str f.name,.int .i64 f.least,.int .i64 f.most,.bool f.pure,.bool f.LH]
def Gy.none:Gy:=⟨[],0,0,false,false⟩
def facts:List Gy:= [⟨[43],0, -1,true,true⟩,⟨[45],1, -1,true,true⟩,⟨[42],0, -1,true,true⟩,⟨[47],1, -1,true,true⟩,⟨[61],2,2,true,true⟩,⟨[60],2,2,true,true⟩,
 ⟨[101,113,63],2,2,true,true⟩,⟨[101,113,117,97,108,63],2,2,true,true⟩,⟨[110,111,116],1,1,true,true⟩,⟨[110,117,108,108,63],1,1,true,true⟩,⟨[112,97,105,114,63],1,1,true,true⟩,
 ⟨[110,117,109,98,101,114,63],1,1,true,true⟩,⟨[115,121,109,98,111,108,63],1,1,true,true⟩,⟨[98,111,111,108,101,97,110,63],1,1,true,true⟩,⟨[115,116,114,105,110,103,63],1,1,true,true⟩,
 ⟨[118,101,99,116,111,114,63],1,1,true,true⟩,⟨[112,114,111,99,101,100,117,114,101,63],1,1,true,true⟩,⟨[99,111,110,115],2,2,true,false⟩,⟨[99,97,114],1,1,true,true⟩,⟨[99,100,114],1,1,true,true⟩,
 ⟨[108,105,115,116],0, -1,true,false⟩,⟨[118,101,99,116,111,114],0, -1,true,false⟩,⟨[118,101,99,116,111,114,45,114,101,102],2,2,true,true⟩,⟨[118,101,99,116,111,114,45,108,101,110,103,116,104],1,1,true,true⟩,
 ⟨[108,101,110,103,116,104],1,1,true,true⟩,⟨[118,111,105,100],0,0,true,true⟩,⟨[100,105,115,112,108,97,121],1,1,false,false⟩,⟨[110,101,119,108,105,110,101],0,0,false,false⟩,
 ⟨[114,97,105,115,101],1,1,false,false⟩,⟨[99,97,108,108,47,99,99],1,1,false,false⟩,⟨[97,112,112,108,121],2,2,false,false⟩]
theorem Ll:ay Tryz.prog 124 [] (.agg (facts.flatMap Gy.cells)):=by
 refine ah.ai aj Tryz.func124 rfl rfl (n:=33) rfl rfl ?_
 conv=>whnf
 repeat (((intro _);conv=>whnf))
 refine AG.lit rfl ?_
 conv=>whnf
 repeat (refine kM ?_)
 exact an.pure (Wk.refl _)
def aP (n:Int):Gy:=if 0≤n∧n < 31 then facts.getD n.toNat Gy.none else Gy.none
theorem xC {α:Type} {c:α→List PV} {s:Nat} (hc: ∀ x,(c x).length=s): ∀ (l:List α) (m:Nat) (h:m < l.length),((l.flatMap c).drop (m * s)).take s=c l[m]
 | x::l,0,_=>by
  simp only[Nat.zero_mul,List.drop_zero,List.flatMap_cons,List.getElem_cons_zero];rw[←hc x,List.take_left]
 | x::l,m + 1,h=>by
  have:=xC hc l m (by simpa using h);rw[Nat.succ_mul,Nat.add_comm,List.flatMap_cons]
  conv=>lhs;rw[←hc x]
  rw[List.drop_length_add_append,hc x];simpa using this
theorem Bb {α:Type} {c:α→List PV} {s:Nat} (hc: ∀ x,(c x).length=s): ∀ (l:List α),(l.flatMap c).length=l.length * s
 | []=>by simp
 | x::l=>by rw[List.flatMap_cons,List.length_append,hc,Bb hc l,List.length_cons,Nat.succ_mul,Nat.add_comm]
theorem jX.flat {α:Type} {c:α→List PV} {l:List α} {n sz:Nat} {k:IntKind} {m:Int} {K:PV→Prop} (hc: ∀ x,(c x).length=sz) (hn:l.length=n) (h0:0≤m) (h1:m < n) (h:K (.agg (c (l[m.toNat]'(by omega))))):jX n sz true (l.flatMap c) (.int k m) K:=
 ⟨k,m,rfl,h0,h1,by rw[Bb hc,hn],.inl ⟨rfl,by rw[xC hc l m.toNat (by omega)];exact h⟩⟩
theorem JH (n:Int):ay Tryz.prog 103 [.int .i64 n] (.aU [.agg (aP n).cells,.bool (decide (0≤n∧n < 31))]):=by
 refine ah.ai aj Tryz.func103 rfl rfl (n:=14) rfl rfl ?_
 conv=>whnf
 repeat' (first|refine cW ?_|((first|refine pC (Ll) wR ?_|intro _);conv=>whnf)|(refine zX (fun hc=>?_) (fun hc=>?_)<;>(try simp only[SY] at hc)<;>(conv=>whnf)))
 ·rw[show aP n=Gy.none by unfold aP;rw[if_neg (by omega)],show decide (0≤n∧n < 31)=false by simp;omega]
  exact an.pure wA
 ·have hl:n.toNat < facts.length:=by show n.toNat < 31;omega
  refine jX.flat (fun _=>rfl) rfl (by omega) (by omega) ?_
  conv=>whnf
  repeat (refine kM ?_)
  rw[show decide (0≤n∧n < 31)=true by simp;omega];rw[show aP n=facts[n.toNat] by unfold aP;rw[if_pos (by omega)];simp[List.getD,hl]];exact an.pure wA
structure Qm where
 cs:List Datum
 vars:Int
 lost:Bool
theorem Datum.Nn (d:Datum):1≤d.sz:=by rw[Datum.Ca];omega
theorem Datum.js: ∀ {l:List Datum} {x:Datum},x∈l→x.sz≤Datum.w6 l
 | y::l,x,h=>by
  rw[Datum.w6];rcases List.mem_cons.1 h with h | h
  ·subst h;omega
  ·have:=Datum.js h;omega
theorem Datum.n7: ∀ (l:List Datum),l.length≤Datum.w6 l
 | []=>by simp
 | x::l=>by have:=Datum.n7 l;have:=x.Nn;rw[List.length_cons,Datum.w6];omega
theorem mN {l:List Datum} {i:Nat} (h:i < l.length):l.getD i jQ=l[i]:=by simp[List.getD,h]
abbrev Mm (level consts codes size:Int) (free:Bool) (bound:List Int) (t:Tok) (ok:Bool):List PV:=
 [.int .i64 level,.int .i64 consts,.int .i64 codes,.bool free,.int .i64 size,.sl 1 (bound.map (PV.int .i64)) (some t),.bool ok]
def bW (consts codes:Int) (free:Bool) (t:aa) (scope:List Int):Bool:=
 if t.op=0 then decide (t.n≥0) && decide (t.n < consts) else
 if t.op=1∨t.op=2∨t.op=14 then scope.contains t.n else
 if t.op=11∨t.op=10 then decide (t.n≥0) && decide (t.n≤30) else
 if t.op=4 then t.n == 0 || (t.n == 1 && decide ((t.v.length:Int) > 0)) else
 if t.op=7 then t.n == 0 || t.n == 1 else
 if t.op=19∨t.op=21∨t.op=22 then decide (t.n≥0) && decide (t.n < codes) else
 if t.op=20 then decide (t.n≥0) && free else t.n == 0
theorem Fu {p q:Prop} (k:q) (h:q→p:=by intro hq;first | exact aC.sP (some 11) rfl [] [] aj mixed hq | exact aC.sP (some 72) rfl [] [] aj mixed hq):p:=h k
theorem F7 (b:Nat) (level consts codes size:Int) (free ok:Bool) (bound:List Int) (tk:Tok) (t:aa) (scope:List Int):
  ah Tryz.prog 50 [.ptr b 0,.agg t.cells,.sl 1 (scope.map (PV.int .i64)) none] [.box b (Mm level consts codes size free bound tk ok)]
  (fun y Γ'=>y=.bool (bW consts codes free t scope)∧Γ'= [.box b (Mm level consts codes size free bound tk ok)]):=by
 have hs:bW consts codes free t scope=bW consts codes free t scope:=rfl
 conv at hs=>rhs;unfold bW
 refine ah.ai aj Tryz.func50 rfl rfl (n:=98) rfl rfl ?_
 conv=>whnf
 repeat' (first|refine cW ?_|((first|refine pC (LL _ _) wR ?_|refine Fu ?_|intro _);conv=>whnf)|(refine zX (fun hc=>?_) (fun hc=>?_)<;>(try simp only[SY] at hc)<;>first|omega|(conv=>whnf)))
 all_goals repeat (first|rw[if_neg (by omega)] at hs|rw[if_pos (by omega)] at hs)
 all_goals rw[hs]
 all_goals exact an.gen (Wk.refl _) ⟨rfl,rfl⟩
def jf (level:Int):Int:=if level=3 then 19 else 4
mutual
def aa.wI (level consts codes:Int) (free:Bool):aa→List Int→Int→Int→List Int→Option (Int×List Int)
 | .mk op n v t,scope,deep,size,bound=>
  if (decide (deep > 400) || decide (size + 1 > 20000) || !dW op level || !di (.mk op n v t) || !bW consts codes free (.mk op n v t) scope)=true then none else
  if (bH v bound).1=true then aa.oc level consts codes free op scope (scope++v) t (deep + 1) (size + 1) (bH v bound).2 else none
def aa.oc (level consts codes:Int) (free:Bool) (op:Int) (scope inner:List Int):List aa→Int→Int→List Int→Option (Int×List Int)
 | [],_,size,bound=>some (size,bound)
 | x::xs,deep,size,bound=>
  if op=9∧xs≠ []∧x.op≠jf level then none else
  match aa.wI level consts codes free x (if xs= []∨op=7∨op=9 then inner else scope) deep size bound with
  | none=>none
  | some (s,b)=>aa.oc level consts codes free op scope inner xs deep s b
end
theorem aa.CL (level consts codes:Int) (free:Bool) (x:aa) (scope:List Int) (deep size:Int) (bound:List Int):x.wI level consts codes free scope deep size bound=
  if (decide (deep > 400) || decide (size + 1 > 20000) || !dW x.op level || !di x || !bW consts codes free x scope)=true then none else
  if (bH x.v bound).1=true then aa.oc level consts codes free x.op scope (scope++x.v) x.t (deep + 1) (size + 1) (bH x.v bound).2 else none:=by
 cases x;rw[aa.wI];rfl
theorem nD: ∀ (l bound:List Int),(bH l bound).2.length≤bound.length + l.length
 | [],bound=>by simp[bH]
 | v::l,bound=>by
  rw[bH]
  split
  ·have:=nD l (bound++ [v]);simp at this ⊢; omega
  ·simp
theorem aa.CK (level consts codes:Int) (free:Bool) (x:aa): ∀ (scope:List Int) (deep size:Int) (bound:List Int) (s:Int) (b:List Int),x.wI level consts codes free scope deep size bound=some (s,b)→
  size < s∧s≤20000∧b.length≤bound.length + x.bp:=by
 induction x using aa.ind with
 | h x ih=>
  intro scope deep size bound s b h;rw[aa.CL] at h
  split at h
  ·cases h
  rename_i hc
  split at h
  ·have key: ∀ (l:List aa),(∀ y∈l, ∀ (scope:List Int) (deep size:Int) (bound:List Int) (s:Int) (b:List Int),y.wI level consts codes free scope deep size bound=some (s,b)→size < s∧s≤20000∧b.length≤bound.length + y.bp)→
     ∀ (deep size:Int) (bound:List Int) (s:Int) (b:List Int),size≤20000→aa.oc level consts codes free x.op scope (scope++x.v) l deep size bound=some (s,b)→size≤s∧s≤20000∧b.length≤bound.length + aa.aD l:=by
    intro l
    induction l with
    | nil=>intro _ deep size bound s b h0 h;rw[aa.oc] at h;cases h;rw[aa.aD];omega
    | cons y l ihl=>
     intro hy deep size bound s b h0 h;rw[aa.oc] at h
     split at h
     ·cases h
     split at h
     ·cases h
     ·rename_i s1 b1 h1
      have e1:=hy y (by simp) _ _ _ _ _ _ h1;have e2:=ihl (fun z hz=>hy z (by simp[hz])) _ _ _ _ _ (by omega) h;rw[aa.aD];omega
   have hb:=nD x.v bound;have h2:size + 1≤20000:=by simp at hc;omega
   have:=key x.t ih _ _ _ _ _ h2 h;rw[aa.cX];omega
  ·cases h
def Mn (b:Nat) (level consts codes:Int) (free:Bool) (r:Option (Int×List Int)) (y:PV) (Γ':List ak):Prop:=
 y=.aU []∧ ∃ size' bound' tk' ok',tk'.e=3∧Γ'= [.box b (Mm level consts codes size' free bound' tk' ok'),.tok tk']∧(ok'=true→r=some (size',bound'))∧(ok'=false→r=none)
theorem pM {level consts codes:Int} {free:Bool} {op:Int} {scope inner:List Int} {l:List aa} {i:Nat} (hlt:i < l.length) {deep sz:Int} {bd:List Int} {total:Option (Int×List Int)}
  (h:total=aa.oc level consts codes free op scope inner (l.drop i) deep sz bd) (okv:Bool) (sc:List Int) (h1:okv=true↔(op=9∧i + 1≠l.length→l[i].op=jf level)) (h2:sc=if i + 1=l.length∨op=7∨op=9 then inner else scope):
  (∀ s b,(if okv=true then l[i].wI level consts codes free sc deep sz bd else none)=some (s,b)→total=aa.oc level consts codes free op scope inner (l.drop (i + 1)) deep s b)∧
  ((if okv=true then l[i].wI level consts codes free sc deep sz bd else none)=none→total=none):=by
 have e:l.drop (i + 1)= []↔i + 1=l.length:=by rw[List.drop_eq_nil_iff];omega
 rw[aq hlt,aa.oc] at h;simp only[ne_eq,e] at h;rw[←h2] at h;by_cases ho:okv=true
 ·rw[if_pos ho]
  have:=h1.1 ho;rw[if_neg (fun hh=>hh.2.2 (this ⟨hh.1,hh.2.1⟩))] at h;refine ⟨fun s b hr=>?_,fun hr=>?_⟩
  ·rw[hr] at h;exact h
  ·rw[hr] at h;exact h
 ·rw[if_neg ho]
  refine ⟨fun s b hr=>(by cases hr),fun _=>?_⟩;rw[if_pos] at h
  ·exact h
  ·refine ⟨?_,?_,?_⟩
   ·apply Classical.byContradiction;intro hh;exact ho (h1.2 fun x=>absurd x.1 hh)
   ·intro hh;exact ho (h1.2 fun x=>absurd hh x.2)
   ·intro hh;exact ho (h1.2 fun _=>hh)
theorem tF {level consts codes:Int} {free:Bool} {x:aa} {sc:List Int} {deep sz:Int} {bd:List Int} {R:Int→List Int→Prop} {n:Nat} (okv:Bool) {s:Int} {b:List Int}
  (h:(if okv=true then x.wI level consts codes free sc deep sz bd else none)=some (s,b)) (k: ∀ s b,(if okv=true then x.wI level consts codes free sc deep sz bd else none)=some (s,b)→R s b) (h0:0≤sz) (hn:bd.length + (x.bp + n)≤1000000000):
  0≤s∧s≤20000∧b.length + n≤1000000000∧R s b:=by
 have hk:=k s b h
 split at h
 ·have:=x.CK level consts codes free sc deep sz bd s b h
  exact ⟨by omega,by omega,by omega,hk⟩
 ·cases h
theorem CW {p q:Prop} (k:q) (h:q→p:=by intro hq;first | exact aC.sP (some 19) rfl [] [28,29,30] aj mixed hq):p:=h k
theorem E4 (b:Nat) (level consts codes:Int) (free:Bool) (t:aa): ∀ (size deep:Int) (bound scope:List Int) (ok0:Bool) (tk:Tok),tk.e=3→0≤size→size≤20000→0≤deep→deep≤401→bound.length + t.bp≤1000000000→scope.length + t.bp≤1000000000→
  ah Tryz.prog 28 [.ptr b 0,.agg t.cells,.sl 1 (scope.map (PV.int .i64)) none,.int .i64 deep] [.box b (Mm level consts codes size free bound tk ok0),.tok tk]
  (Mn b level consts codes free (if ok0=true then t.wI level consts codes free scope deep size bound else none)):=by
 induction t using aa.ind with
 | h t ih=>
  intro size deep bound scope ok0 tk htk hs0 hs1 hd0 hd1 hb1 hb2;have hbk:=t.cX;have hr:=t.CL level consts codes free scope deep size bound;refine ah.ai aj Tryz.func28 rfl rfl (n:=141) rfl rfl ?_
  conv=>whnf
  repeat' (first|refine cW ?_|((first|(((apply zY;intro hg));(conv=>whnf);(repeat ((first|refine pC (Lc _ _) wR ?_|refine pC (Hq t OA) wR ?_|refine au.read (F7 b level consts codes (size + 1) free ok0 bound tk t scope) wR ?_|refine aG ?_);conv=>whnf));exact pZ)|refine CW ?_|intro _);conv=>whnf)|(refine zX (fun hc=>?_) (fun hc=>?_)<;>(try simp only[SY] at hc)<;>(conv=>whnf)))
  ·exact an.gen (Wk.refl _) ⟨rfl,size + 1,bound,tk,false,htk,rfl,fun h=>(by cases h),fun _=>(by split;rw[hr,if_pos (by simp only[SS];exact ‹_∨_›)];rfl)⟩
  ·exact an.gen (Wk.refl _) ⟨rfl,size + 1,bound,tk,ok0,htk,rfl,fun h=>(by rw[h] at hc;simp at hc),fun h=>by rw[if_neg (by simp[h])]⟩
  rename_i b2 hgood;obtain ⟨⟨⟨⟨g1,g2⟩,g3⟩,g4⟩,g5⟩:=hgood;obtain rfl:ok0=true:=by simpa using hc
  rw[if_pos rfl];rw[if_neg (by simp[g3,g4,g5];omega)] at hr;refine au.go (DY b level consts codes (size + 1) free t.v bound tk htk (by omega)) (bU.refl _) ?_;rintro _ _ ⟨rfl,tk2,htk2,rfl⟩
  conv=>whnf
  skip
  refine aC.sE [] [0,2] [5,6] aj mixed ?_
  conv=>whnf
  repeat (first|refine kM ?_|((intro _);conv=>whnf))
  rename_i t3 ht3;refine bg.list (l:=([]:List Int)) (f:=PV.int .i64) ht3 (by simp;omega) (by show _ * 8≤_;simp;omega) ?_;intro t4 ht4
  conv=>whnf
  skip
  refine bg.list (l:= []++scope) (f:=PV.int .i64) ht4 (by simp;omega) (by show _ * 8≤_;simp;omega) ?_;intro t5 ht5
  conv=>whnf
  skip
  rw[List.nil_append];have hbl:=nD t.v bound
  refine aI.over [9,10,11,68,69,70,71,72,73,74,75,76,77,78,79,80,81,82,83,84,85,86,87,88,89,90,91,92,93,94,95,96,97,98,99,100,101,102,103,104,105,106,107,108,109,110,111,112,113,114,115,116,117,118,119,120,121,122,123,124,125,126,127,128,129,130,131,132,133,134,135,136,137,138,139,140] (fun | ((i,sz,bd,ok,tk'):Nat×Int×List Int×Bool×Tok)=> [(9,.int .i64 i)])
   (fun x=> [.box b (Mm level consts codes x.2.1 free x.2.2.1 x.2.2.2.2 x.2.2.2.1),.tok x.2.2.2.2,.box b2 [.int .i64 t.op,.int .i64 t.n,.sl 1 (t.v.map (PV.int .i64)) none,.sl 4 (t.t.map aa.pv) none]])
   (fun | (i,sz,bd,ok,tk')=>i≤t.t.length∧tk'.e=3∧(ok=true→0≤sz∧sz≤20000∧bd.length + aa.aD (t.t.drop i)≤1000000000∧t.wI level consts codes free scope deep size bound=aa.oc level consts codes free t.op scope (scope++t.v) (t.t.drop i) (deep + 1) sz bd)∧
    (ok=false→t.wI level consts codes free scope deep size bound=none)) (fun | (i,_)=>t.t.length - i) (0,size + 1,(bH t.v bound).2,(bH t.v bound).1,tk2)
   ⟨by simp,htk2,fun h=>⟨by omega,by omega,by rw[List.drop_zero];omega,by rw[hr,if_pos h];rfl⟩,fun h=>by rw[hr,if_neg (by simp[h])]⟩ wA ?_
  rintro ⟨i,sz,bd,ok,tk'⟩ ⟨hi,htk',hok,hno⟩
  conv=>whnf
  repeat' (first|refine cW ?_|((intro _);conv=>whnf)|(refine zX (fun hc=>?_) (fun hc=>?_)<;>(try simp only[SY] at hc)<;>first|omega|(conv=>whnf)))
  rotate_right
  ·refine an.gen (Wk.refl _) ⟨rfl,sz,bd,tk',ok,htk',rfl,fun h=>?_,hno⟩
   obtain ⟨_,_,_,h3⟩:=hok h;rw[h3,List.drop_of_length_le (by rcases hc with hc | hc;omega;rw[h] at hc;cases hc),aa.oc]
  all_goals
   have hlt:i < t.t.length:=by omega
   obtain rfl:ok=true:=(‹_∧ok=true›).2;obtain ⟨hz,q1,q2,q3⟩:=hok rfl;have hbm:=aa.cU (List.getElem_mem hlt);rw[aq hlt,aa.aD] at q2
  ·obtain ⟨k1,k2⟩:=pM hlt q3 (t.t[i].op == 19) (scope++t.v) (by simp[jf, *];omega) (by rw[if_pos (by omega)])
   refine au.go (ih t.t[i] (List.getElem_mem _) sz (deep + 1) bd (scope++t.v) (t.t[i].op == 19) tk' htk' hz q1 (by omega) (by omega) (by omega) (by first | omega | (simp;omega))) wA ?_;rintro _ _ ⟨rfl,s',b',tk2',ok2,h1,rfl,h3,h4⟩
   conv=>whnf
   repeat (refine kM ?_)
   exact aJ (i + 1,s',b',ok2,tk2') ⟨by omega,h1,fun h=>tF _ (h3 h) k1 hz (by omega),fun h=>k2 (h4 h)⟩ (by show t.t.length - (i + 1) < t.t.length - i;omega) wA
  ·obtain ⟨k1,k2⟩:=pM hlt q3 (t.t[i].op == 4) (scope++t.v) (by simp[jf, *];omega) (by rw[if_pos (by omega)])
   refine au.go (ih t.t[i] (List.getElem_mem _) sz (deep + 1) bd (scope++t.v) (t.t[i].op == 4) tk' htk' hz q1 (by omega) (by omega) (by omega) (by first | omega | (simp;omega))) wA ?_;rintro _ _ ⟨rfl,s',b',tk2',ok2,h1,rfl,h3,h4⟩
   conv=>whnf
   repeat (refine kM ?_)
   exact aJ (i + 1,s',b',ok2,tk2') ⟨by omega,h1,fun h=>tF _ (h3 h) k1 hz (by omega),fun h=>k2 (h4 h)⟩ (by show t.t.length - (i + 1) < t.t.length - i;omega) wA
  ·obtain ⟨k1,k2⟩:=pM hlt q3 true (scope++t.v) ⟨fun _ hh=>(by omega),fun _=>rfl⟩ (by rw[if_pos (by omega)])
   refine au.go (ih t.t[i] (List.getElem_mem _) sz (deep + 1) bd (scope++t.v) (true) tk' htk' hz q1 (by omega) (by omega) (by omega) (by first | omega | (simp;omega))) wA ?_;rintro _ _ ⟨rfl,s',b',tk2',ok2,h1,rfl,h3,h4⟩
   conv=>whnf
   repeat (refine kM ?_)
   exact aJ (i + 1,s',b',ok2,tk2') ⟨by omega,h1,fun h=>tF _ (h3 h) k1 hz (by omega),fun h=>k2 (h4 h)⟩ (by show t.t.length - (i + 1) < t.t.length - i;omega) wA
  ·obtain ⟨k1,k2⟩:=pM hlt q3 true scope ⟨fun _ hh=>(by omega),fun _=>rfl⟩ (by rw[if_neg (by omega)])
   refine au.go (ih t.t[i] (List.getElem_mem _) sz (deep + 1) bd (scope) (true) tk' htk' hz q1 (by omega) (by omega) (by omega) (by first | omega | (simp;omega))) wA ?_;rintro _ _ ⟨rfl,s',b',tk2',ok2,h1,rfl,h3,h4⟩
   conv=>whnf
   repeat (refine kM ?_)
   exact aJ (i + 1,s',b',ok2,tk2') ⟨by omega,h1,fun h=>tF _ (h3 h) k1 hz (by omega),fun h=>k2 (h4 h)⟩ (by show t.t.length - (i + 1) < t.t.length - i;omega) wA
end Go.Cb


