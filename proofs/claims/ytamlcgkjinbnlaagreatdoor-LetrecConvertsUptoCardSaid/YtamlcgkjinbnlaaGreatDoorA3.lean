/-
 The types of this seat: a table made by a program, checked by the kernel.
 More rules: integers of other kinds, stable operations, maps.
 Rules for the automatic walk: guarded operations, indices, loops over what they change.
 The data of the program as Lean types, and how they lie in values.
 Contracts: numbers.
 Contracts: numbers from texts.
 Contracts: a number by another one.
 Contracts: the document's reading of a number.
 Contracts: data, the document's.
 Plain law: the document's reading of texts, as a function.
 Plain law: the document's reading goes on, and needs no more fuel than there are bytes.
 Drawn regions in two stages: stable operations, a chain, stable operations, a chain.
 Calls among entries that end in entries unknown.
 Drawn regions with allocations that may come at any time.
 Indices within bounds by a condition.
 More for the walk: elements within bounds on a condition; what values are as data; appends.
 Contracts: the document's reader: blanks, marks, failure.
-/
import Derived.Test.YtamlcgkjinbnlaaGreatDoorProg
import Derived.Test.YtamlcgkjinbnlaaGreatDoorA2
set_option linter.unusedSimpArgs false
set_option linter.unusedVariables false
namespace Go.Cb
open Go.Proofs
set_option maxRecDepth 100000
def tl:List TI:= [
 TI.none,
 ⟨.fn,1,8, [.fn]⟩,
 ⟨.int .i64,1,8, [.int .i64]⟩,
 ⟨.int .i64,1,8, [.int .i64]⟩,
 ⟨.bool,1,1, [.bool]⟩,
 ⟨.int .u8,1,1, [.int .u8]⟩,
 ⟨.int .u8,1,1, [.int .u8]⟩,
 ⟨.st [(0,1,false),(1,1,false),(2,1,false),(3,1,false)],4,24, [.int .i64,.int .i64,.bool,.int .u8]⟩,
 ⟨.st [(0,1,false),(1,1,false),(2,1,false),(3,1,false)],4,24, [.int .i64,.int .i64,.bool,.int .u8]⟩,
 ⟨.str,1,16, [.str]⟩,
 ⟨.str,1,16, [.str]⟩,
 ⟨.str,1,16, [.str]⟩,
 ⟨.int .u64,1,8, [.int .u64]⟩,
 ⟨.st [(0,1,false),(1,1,false)],2,24, [.str,.int .u64]⟩,
 ⟨.st [(0,1,false),(1,1,false)],2,24, [.str,.int .u64]⟩,
 ⟨.ptr 361,1,8, [.ptr]⟩,
 ⟨.ptr 364,1,8, [.ptr]⟩,
 ⟨.ptr 372,1,8, [.ptr]⟩,
 ⟨.st [(0,1,false)],1,8, [.ptr]⟩,
 ⟨.st [(0,1,false)],1,8, [.ptr]⟩,
 ⟨.sJ,1,16, [.sJ]⟩,
 ⟨.int .i32,1,4, [.int .i32]⟩,
 ⟨.sl 55,1,24, [.sl]⟩,
 ⟨.sl 3,1,24, [.sl]⟩,
 ⟨.sl 26,1,24, [.sl]⟩,
 ⟨.st [(0,1,false),(1,1,false),(2,1,false),(3,1,false)],4,64, [.int .i64,.int .i64,.sl,.sl]⟩,
 ⟨.st [(0,1,false),(1,1,false),(2,1,false),(3,1,false)],4,64, [.int .i64,.int .i64,.sl,.sl]⟩,
 ⟨.st [(0,1,false),(1,4,true)],5,88, [.sl,.int .i64,.int .i64,.sl,.sl]⟩,
 ⟨.st [(0,1,false),(1,4,true)],5,88, [.sl,.int .i64,.int .i64,.sl,.sl]⟩,
 ⟨.fn,1,8, [.fn]⟩,
 ⟨.fn,1,8, [.fn]⟩,
 ⟨.fn,1,8, [.fn]⟩,
 ⟨.int .i64,1,8, [.int .i64]⟩,
 TI.none,
 ⟨.fn,1,8, [.fn]⟩,
 ⟨.fn,1,8, [.fn]⟩,
 ⟨.fn,1,8, [.fn]⟩,
 TI.none,
 ⟨.fn,1,8, [.fn]⟩,
 ⟨.fn,1,8, [.fn]⟩,
 ⟨.fn,1,8, [.fn]⟩,
 ⟨.fn,1,8, [.fn]⟩,
 ⟨.fn,1,8, [.fn]⟩,
 ⟨.fn,1,8, [.fn]⟩,
 ⟨.fn,1,8, [.fn]⟩,
 ⟨.fn,1,8, [.fn]⟩,
 ⟨.fn,1,8, [.fn]⟩,
 ⟨.fn,1,8, [.fn]⟩,
 ⟨.fn,1,8, [.fn]⟩,
 ⟨.fn,1,8, [.fn]⟩,
 ⟨.st [(0,1,false),(1,1,false),(2,1,false)],3,40, [.str,.int .i64,.str]⟩,
 ⟨.st [(0,1,false),(1,1,false),(2,1,false)],3,40, [.str,.int .i64,.str]⟩,
 ⟨.fn,1,8, [.fn]⟩,
 ⟨.fn,1,8, [.fn]⟩,
 ⟨.st [(0,1,false),(1,1,false),(2,1,false),(3,1,false),(4,1,false)],5,64, [.int .i64,.int .i64,.int .i64,.str,.sl]⟩,
 ⟨.st [(0,1,false),(1,1,false),(2,1,false),(3,1,false),(4,1,false)],5,64, [.int .i64,.int .i64,.int .i64,.str,.sl]⟩,
 ⟨.ptr 59,1,8, [.ptr]⟩,
 ⟨.mp 3 4,1,8, [.mp]⟩,
 ⟨.st [(0,1,false),(1,1,false)],2,16, [.mp,.int .i64]⟩,
 ⟨.st [(0,1,false),(1,1,false)],2,16, [.mp,.int .i64]⟩,
 ⟨.fn,1,8, [.fn]⟩,
 ⟨.fn,1,8, [.fn]⟩,
 ⟨.fn,1,8, [.fn]⟩,
 ⟨.ptr 65,1,8, [.ptr]⟩,
 ⟨.st [(0,4,true),(4,1,false)],5,72, [.int .i64,.int .i64,.sl,.sl,.int .i64]⟩,
 ⟨.st [(0,4,true),(4,1,false)],5,72, [.int .i64,.int .i64,.sl,.sl,.int .i64]⟩,
 ⟨.fn,1,8, [.fn]⟩,
 TI.none,
 ⟨.fn,1,8, [.fn]⟩,
 TI.none,
 ⟨.fn,1,8, [.fn]⟩,
 ⟨.fn,1,8, [.fn]⟩,
 ⟨.ptr 75,1,8, [.ptr]⟩,
 ⟨.fn,1,8, [.fn]⟩,
 ⟨.st [(0,1,false),(1,1,false),(2,1,false),(3,1,false),(4,1,false),(5,1,false),(6,1,false)],7,72, [.int .i64,.int .i64,.int .i64,.bool,.int .i64,.sl,.bool]⟩,
 ⟨.st [(0,1,false),(1,1,false),(2,1,false),(3,1,false),(4,1,false),(5,1,false),(6,1,false)],7,72, [.int .i64,.int .i64,.int .i64,.bool,.int .i64,.sl,.bool]⟩,
 ⟨.fn,1,8, [.fn]⟩,
 TI.none,
 ⟨.fn,1,8, [.fn]⟩,
 ⟨.fn,1,8, [.fn]⟩,
 ⟨.fn,1,8, [.fn]⟩,
 ⟨.ptr 83,1,8, [.ptr]⟩,
 ⟨.st [(0,1,false),(1,1,false),(2,1,false),(3,1,false),(4,1,false),(5,1,false)],6,48, [.int .i64,.int .i64,.int .i64,.bool,.int .i64,.mp]⟩,
 ⟨.st [(0,1,false),(1,1,false),(2,1,false),(3,1,false),(4,1,false),(5,1,false)],6,48, [.int .i64,.int .i64,.int .i64,.bool,.int .i64,.mp]⟩,
 ⟨.fn,1,8, [.fn]⟩,
 ⟨.fn,1,8, [.fn]⟩,
 ⟨.fn,1,8, [.fn]⟩,
 ⟨.fn,1,8, [.fn]⟩,
 ⟨.st [(0,4,true),(4,1,false)],5,88, [.int .i64,.int .i64,.sl,.sl,.sl]⟩,
 ⟨.st [(0,4,true),(4,1,false)],5,88, [.int .i64,.int .i64,.sl,.sl,.sl]⟩,
 ⟨.fn,1,8, [.fn]⟩,
 ⟨.fn,1,8, [.fn]⟩,
 ⟨.fn,1,8, [.fn]⟩,
 ⟨.ptr 95,1,8, [.ptr]⟩,
 ⟨.st [(0,1,false),(1,1,false),(2,1,false)],3,32, [.str,.int .i64,.int .i64]⟩,
 ⟨.st [(0,1,false),(1,1,false),(2,1,false)],3,32, [.str,.int .i64,.int .i64]⟩,
 ⟨.fn,1,8, [.fn]⟩,
 ⟨.fn,1,8, [.fn]⟩,
 ⟨.fn,1,8, [.fn]⟩,
 ⟨.ptr 101,1,8, [.ptr]⟩,
 ⟨.st [(0,1,false),(1,1,false)],2,16, [.int .i64,.bool]⟩,
 ⟨.st [(0,1,false),(1,1,false)],2,16, [.int .i64,.bool]⟩,
 ⟨.fn,1,8, [.fn]⟩,
 ⟨.ptr 105,1,8, [.ptr]⟩,
 ⟨.st [(0,1,false),(1,1,false),(2,1,false)],3,40, [.sl,.int .i64,.bool]⟩,
 ⟨.st [(0,1,false),(1,1,false),(2,1,false)],3,40, [.sl,.int .i64,.bool]⟩,
 ⟨.fn,1,8, [.fn]⟩,
 ⟨.sl 9,1,24, [.sl]⟩,
 ⟨.st [(0,1,false),(1,1,false)],2,48, [.sl,.sl]⟩,
 ⟨.st [(0,1,false),(1,1,false)],2,48, [.sl,.sl]⟩,
 ⟨.fn,1,8, [.fn]⟩,
 ⟨.fn,1,8, [.fn]⟩,
 ⟨.fn,1,8, [.fn]⟩,
 ⟨.fn,1,8, [.fn]⟩,
 ⟨.fn,1,8, [.fn]⟩,
 ⟨.sl 230,1,24, [.sl]⟩,
 ⟨.ptr 124,1,8, [.ptr]⟩,
 ⟨.sl 122,1,24, [.sl]⟩,
 ⟨.sl 4,1,24, [.sl]⟩,
 ⟨.ptr 185,1,8, [.ptr]⟩,
 ⟨.ptr 183,1,8, [.ptr]⟩,
 ⟨.st [(0,1,false),(1,1,false),(2,1,false),(3,1,false),(4,1,false),(5,1,false),(6,1,false)],7,80, [.int .i64,.int .i64,.int .i64,.str,.sl,.ptr,.ptr]⟩,
 ⟨.st [(0,1,false),(1,1,false),(2,1,false),(3,1,false),(4,1,false),(5,1,false),(6,1,false)],7,80, [.int .i64,.int .i64,.int .i64,.str,.sl,.ptr,.ptr]⟩,
 ⟨.st [(0,1,false),(1,1,false),(2,1,false),(3,1,false),(4,1,false),(5,1,false),(6,7,true)],13,184, [.sl,.sl,.int .i64,.str,.sl,.int .i64,.int .i64,.int .i64,.int .i64,.str,.sl,.ptr,.ptr]⟩,
 ⟨.st [(0,1,false),(1,1,false),(2,1,false),(3,1,false),(4,1,false),(5,1,false),(6,7,true)],13,184, [.sl,.sl,.int .i64,.str,.sl,.int .i64,.int .i64,.int .i64,.int .i64,.str,.sl,.ptr,.ptr]⟩,
 ⟨.fn,1,8, [.fn]⟩,
 TI.none,
 ⟨.fn,1,8, [.fn]⟩,
 ⟨.fn,1,8, [.fn]⟩,
 ⟨.fn,1,8, [.fn]⟩,
 ⟨.st [(0,1,false),(1,1,false),(2,1,false),(3,1,false),(4,1,false)],5,32, [.int .i64,.int .i64,.int .i64,.bool,.bool]⟩,
 ⟨.st [(0,1,false),(1,1,false),(2,1,false),(3,1,false),(4,1,false)],5,32, [.int .i64,.int .i64,.int .i64,.bool,.bool]⟩,
 TI.none,
 ⟨.fn,1,8, [.fn]⟩,
 ⟨.fn,1,8, [.fn]⟩,
 ⟨.fn,1,8, [.fn]⟩,
 ⟨.fn,1,8, [.fn]⟩,
 ⟨.fn,1,8, [.fn]⟩,
 ⟨.fn,1,8, [.fn]⟩,
 ⟨.fn,1,8, [.fn]⟩,
 ⟨.fn,1,8, [.fn]⟩,
 ⟨.sl 144,1,24, [.sl]⟩,
 ⟨.fn,1,8, [.fn]⟩,
 ⟨.st [(0,1,false),(1,4,true),(5,1,false),(6,1,false),(7,1,false)],8,104, [.int .i64,.int .i64,.int .i64,.sl,.sl,.bool,.bool,.sl]⟩,
 ⟨.st [(0,1,false),(1,4,true),(5,1,false),(6,1,false),(7,1,false)],8,104, [.int .i64,.int .i64,.int .i64,.sl,.sl,.bool,.bool,.sl]⟩,
 ⟨.fn,1,8, [.fn]⟩,
 ⟨.sl 26,1,24, [.sl]⟩,
 ⟨.fn,1,8, [.fn]⟩,
 ⟨.fn,1,8, [.fn]⟩,
 ⟨.ptr 146,1,8, [.ptr]⟩,
 ⟨.sl 23,1,24, [.sl]⟩,
 ⟨.st [(0,1,false),(1,1,false),(2,1,false),(3,1,false)],4,80, [.int .i64,.sl,.sl,.sl]⟩,
 ⟨.st [(0,1,false),(1,1,false),(2,1,false),(3,1,false)],4,80, [.int .i64,.sl,.sl,.sl]⟩,
 ⟨.fn,1,8, [.fn]⟩,
 ⟨.ptr 156,1,8, [.ptr]⟩,
 ⟨.st [(0,4,true),(4,4,true),(8,1,false),(9,1,false),(10,1,false),(11,1,false)],12,240, [.int .i64,.int .i64,.sl,.sl,.int .i64,.sl,.sl,.sl,.sl,.sl,.sl,.sl]⟩,
 ⟨.st [(0,4,true),(4,4,true),(8,1,false),(9,1,false),(10,1,false),(11,1,false)],12,240, [.int .i64,.int .i64,.sl,.sl,.int .i64,.sl,.sl,.sl,.sl,.sl,.sl,.sl]⟩,
 TI.none,
 ⟨.fn,1,8, [.fn]⟩,
 ⟨.fn,1,8, [.fn]⟩,
 ⟨.fn,1,8, [.fn]⟩,
 ⟨.fn,1,8, [.fn]⟩,
 ⟨.fn,1,8, [.fn]⟩,
 TI.none,
 ⟨.fn,1,8, [.fn]⟩,
 ⟨.fn,1,8, [.fn]⟩,
 TI.none,
 ⟨.fn,1,8, [.fn]⟩,
 ⟨.fn,1,8, [.fn]⟩,
 ⟨.fn,1,8, [.fn]⟩,
 ⟨.fn,1,8, [.fn]⟩,
 ⟨.fn,1,8, [.fn]⟩,
 TI.none,
 ⟨.fn,1,8, [.fn]⟩,
 ⟨.fn,1,8, [.fn]⟩,
 ⟨.fn,1,8, [.fn]⟩,
 TI.none,
 ⟨.fn,1,8, [.fn]⟩,
 ⟨.fn,1,8, [.fn]⟩,
 ⟨.fn,1,8, [.fn]⟩,
 ⟨.ptr 228,1,8, [.ptr]⟩,
 ⟨.fn,1,8, [.fn]⟩,
 ⟨.st [(0,7,true),(7,1,false)],8,88, [.int .i64,.int .i64,.int .i64,.str,.sl,.ptr,.ptr,.bool]⟩,
 ⟨.st [(0,7,true),(7,1,false)],8,88, [.int .i64,.int .i64,.int .i64,.str,.sl,.ptr,.ptr,.bool]⟩,
 ⟨.st [(0,1,false),(1,1,false),(2,4,true),(6,1,false),(7,1,false),(8,1,false)],9,136, [.sl,.bool,.int .i64,.int .i64,.sl,.sl,.ptr,.int .i64,.sl]⟩,
 ⟨.st [(0,1,false),(1,1,false),(2,4,true),(6,1,false),(7,1,false),(8,1,false)],9,136, [.sl,.bool,.int .i64,.int .i64,.sl,.sl,.ptr,.int .i64,.sl]⟩,
 ⟨.fn,1,8, [.fn]⟩,
 TI.none,
 ⟨.fn,1,8, [.fn]⟩,
 ⟨.fn,1,8, [.fn]⟩,
 ⟨.fn,1,8, [.fn]⟩,
 ⟨.ptr 9,1,8, [.ptr]⟩,
 ⟨.fn,1,8, [.fn]⟩,
 TI.none,
 ⟨.fn,1,8, [.fn]⟩,
 ⟨.st [(0,1,false),(1,1,false),(2,1,false),(3,1,false),(4,1,false)],5,40, [.str,.int .i64,.int .i64,.bool,.bool]⟩,
 ⟨.st [(0,1,false),(1,1,false),(2,1,false),(3,1,false),(4,1,false)],5,40, [.str,.int .i64,.int .i64,.bool,.bool]⟩,
 TI.none,
 ⟨.fn,1,8, [.fn]⟩,
 ⟨.fn,1,8, [.fn]⟩,
 ⟨.fn,1,8, [.fn]⟩,
 ⟨.fn,1,8, [.fn]⟩,
 ⟨.int .u64,1,8, [.int .u64]⟩,
 ⟨.fn,1,8, [.fn]⟩,
 ⟨.fn,1,8, [.fn]⟩,
 TI.none,
 ⟨.fn,1,8, [.fn]⟩,
 ⟨.sl 252,1,24, [.sl]⟩,
 ⟨.fn,1,8, [.fn]⟩,
 ⟨.fn,1,8, [.fn]⟩,
 ⟨.fn,1,8, [.fn]⟩,
 ⟨.fn,1,8, [.fn]⟩,
 ⟨.fn,1,8, [.fn]⟩,
 ⟨.fn,1,8, [.fn]⟩,
 ⟨.fn,1,8, [.fn]⟩,
 TI.none,
 ⟨.fn,1,8, [.fn]⟩,
 ⟨.fn,1,8, [.fn]⟩,
 ⟨.fn,1,8, [.fn]⟩,
 TI.none,
 ⟨.fn,1,8, [.fn]⟩,
 ⟨.fn,1,8, [.fn]⟩,
 TI.none,
 ⟨.fn,1,8, [.fn]⟩,
 ⟨.st [(0,1,false),(1,1,false),(2,1,false),(3,1,false),(4,1,false)],5,40, [.str,.int .i64,.int .i64,.bool,.bool]⟩,
 TI.none,
 ⟨.fn,1,8, [.fn]⟩,
 ⟨.st [(0,1,false),(1,1,false),(2,1,false)],3,24, [.int .i64,.ptr,.ptr]⟩,
 ⟨.st [(0,1,false),(1,1,false),(2,1,false)],3,24, [.int .i64,.ptr,.ptr]⟩,
 ⟨.st [(0,1,false),(1,1,false),(2,4,true)],6,96, [.sl,.bool,.int .i64,.int .i64,.sl,.sl]⟩,
 ⟨.st [(0,1,false),(1,1,false),(2,4,true)],6,96, [.sl,.bool,.int .i64,.int .i64,.sl,.sl]⟩,
 ⟨.fn,1,8, [.fn]⟩,
 ⟨.fn,1,8, [.fn]⟩,
 ⟨.fn,1,8, [.fn]⟩,
 ⟨.fn,1,8, [.fn]⟩,
 ⟨.arr 31 196,155,1240,(List.replicate 31 [.str,.int .i64,.int .i64,.bool,.bool]).flatten⟩,
 ⟨.fn,1,8, [.fn]⟩,
 ⟨.fn,1,8, [.fn]⟩,
 ⟨.int .i64,1,8, [.int .i64]⟩,
 TI.none,
 ⟨.fn,1,8, [.fn]⟩,
 ⟨.fn,1,8, [.fn]⟩,
 ⟨.fn,1,8, [.fn]⟩,
 ⟨.fn,1,8, [.fn]⟩,
 ⟨.fn,1,8, [.fn]⟩,
 ⟨.int .u32,1,4, [.int .u32]⟩,
 ⟨.fn,1,8, [.fn]⟩,
 ⟨.int .u64,1,8, [.int .u64]⟩,
 ⟨.fn,1,8, [.fn]⟩,
 ⟨.fn,1,8, [.fn]⟩,
 ⟨.fn,1,8, [.fn]⟩,
 ⟨.st [(0,1,false),(1,4,true)],5,72, [.int .i64,.int .i64,.int .i64,.sl,.sl]⟩,
 ⟨.st [(0,1,false),(1,4,true)],5,72, [.int .i64,.int .i64,.int .i64,.sl,.sl]⟩,
 ⟨.fn,1,8, [.fn]⟩,
 ⟨.fn,1,8, [.fn]⟩,
 ⟨.fn,1,8, [.fn]⟩,
 ⟨.fn,1,8, [.fn]⟩,
 ⟨.sl 118,1,24, [.sl]⟩,
 ⟨.fn,1,8, [.fn]⟩,
 TI.none,
 ⟨.fn,1,8, [.fn]⟩,
 ⟨.fn,1,8, [.fn]⟩,
 ⟨.fn,1,8, [.fn]⟩,
 ⟨.fn,1,8, [.fn]⟩,
 ⟨.fn,1,8, [.fn]⟩,
 ⟨.fn,1,8, [.fn]⟩,
 TI.none,
 ⟨.fn,1,8, [.fn]⟩,
 ⟨.fn,1,8, [.fn]⟩,
 ⟨.fn,1,8, [.fn]⟩,
 ⟨.fn,1,8, [.fn]⟩,
 ⟨.fn,1,8, [.fn]⟩,
 ⟨.fn,1,8, [.fn]⟩,
 ⟨.sl 5,1,24, [.sl]⟩,
 ⟨.int .u64,1,8, [.int .u64]⟩,
 ⟨.fn,1,8, [.fn]⟩,
 ⟨.fn,1,8, [.fn]⟩,
 ⟨.fn,1,8, [.fn]⟩,
 ⟨.ptr 3,1,8, [.ptr]⟩,
 ⟨.fn,1,8, [.fn]⟩,
 ⟨.fn,1,8, [.fn]⟩,
 ⟨.fn,1,8, [.fn]⟩,
 ⟨.fn,1,8, [.fn]⟩,
 ⟨.fn,1,8, [.fn]⟩,
 ⟨.sl 57,1,24, [.sl]⟩,
 ⟨.fn,1,8, [.fn]⟩,
 ⟨.fn,1,8, [.fn]⟩,
 ⟨.fn,1,8, [.fn]⟩,
 ⟨.fn,1,8, [.fn]⟩,
 ⟨.fn,1,8, [.fn]⟩,
 TI.none,
 ⟨.fn,1,8, [.fn]⟩,
 ⟨.fn,1,8, [.fn]⟩,
 ⟨.arr 256 4,256,256,(List.replicate 256 (.bool))⟩,
 ⟨.arr 256 4,256,256,(List.replicate 256 (.bool))⟩,
 TI.none,
 ⟨.fn,1,8, [.fn]⟩,
 ⟨.fn,1,8, [.fn]⟩,
 ⟨.ptr 294,1,8, [.ptr]⟩,
 ⟨.fn,1,8, [.fn]⟩,
 TI.none,
 ⟨.fn,1,8, [.fn]⟩,
 TI.none,
 ⟨.fn,1,8, [.fn]⟩,
 ⟨.ptr 274,1,8, [.ptr]⟩,
 ⟨.fn,1,8, [.fn]⟩,
 ⟨.fn,1,8, [.fn]⟩,
 ⟨.fn,1,8, [.fn]⟩,
 TI.none,
 ⟨.fn,1,8, [.fn]⟩,
 TI.none,
 ⟨.fn,1,8, [.fn]⟩,
 ⟨.fn,1,8, [.fn]⟩,
 ⟨.sJ,1,16, [.sJ]⟩,
 ⟨.sJ,1,16, [.sJ]⟩,
 TI.none,
 ⟨.fn,1,8, [.fn]⟩,
 ⟨.fn,1,8, [.fn]⟩,
 ⟨.fn,1,8, [.fn]⟩,
 ⟨.fn,1,8, [.fn]⟩,
 ⟨.fn,1,8, [.fn]⟩,
 ⟨.fn,1,8, [.fn]⟩,
 ⟨.fn,1,8, [.fn]⟩,
 ⟨.fn,1,8, [.fn]⟩,
 ⟨.fn,1,8, [.fn]⟩,
 ⟨.arr 256 5,256,256,(List.replicate 256 (.int .u8))⟩,
 ⟨.st [(0,1,false),(1,1,false)],2,2, [.int .u8,.int .u8]⟩,
 ⟨.st [(0,1,false),(1,1,false)],2,2, [.int .u8,.int .u8]⟩,
 ⟨.arr 16 327,32,32,(List.replicate 32 (.int .u8))⟩,
 ⟨.fn,1,8, [.fn]⟩,
 ⟨.int .i64,1,8, [.int .i64]⟩,
 TI.none,
 ⟨.fn,1,8, [.fn]⟩,
 ⟨.ptr 342,1,8, [.ptr]⟩,
 ⟨.fn,1,8, [.fn]⟩,
 ⟨.fn,1,8, [.fn]⟩,
 TI.none,
 ⟨.fn,1,8, [.fn]⟩,
 TI.none,
 ⟨.fn,1,8, [.fn]⟩,
 ⟨.fn,1,8, [.fn]⟩,
 ⟨.st [(0,1,false),(1,1,false),(2,1,false)],3,48, [.str,.str,.sJ]⟩,
 ⟨.st [(0,1,false),(1,1,false),(2,1,false)],3,48, [.str,.str,.sJ]⟩,
 ⟨.fn,1,8, [.fn]⟩,
 ⟨.fn,1,8, [.fn]⟩,
 ⟨.ptr 5,1,8, [.ptr]⟩,
 ⟨.ptr 348,1,8, [.ptr]⟩,
 ⟨.st [(0,1,false)],1,16, [.str]⟩,
 ⟨.st [(0,1,false)],1,16, [.str]⟩,
 ⟨.fn,1,8, [.fn]⟩,
 ⟨.arr 24 5,24,24,(List.replicate 24 (.int .u8))⟩,
 ⟨.fn,1,8, [.fn]⟩,
 TI.none,
 ⟨.fn,1,8, [.fn]⟩,
 ⟨.fn,1,8, [.fn]⟩,
 ⟨.arr 20 247,20,160,(List.replicate 20 (.int .u64))⟩,
 ⟨.arr 65 5,65,65,(List.replicate 65 (.int .u8))⟩,
 ⟨.arr 32 5,32,32,(List.replicate 32 (.int .u8))⟩,
 ⟨.arr 64 5,64,64,(List.replicate 64 (.int .u8))⟩,
 ⟨.fn,1,8, [.fn]⟩,
 ⟨.st [(0,1,false),(1,1,false),(2,1,false),(3,1,false)],4,40, [.ptr,.ptr,.ptr,.str]⟩,
 ⟨.st [(0,1,false),(1,1,false),(2,1,false),(3,1,false)],4,40, [.ptr,.ptr,.ptr,.str]⟩,
 TI.none,
 TI.none,
 TI.none,
 ⟨.fn,1,8, [.fn]⟩,
 ⟨.int .u8,1,1, [.int .u8]⟩,
 ⟨.int .u8,1,1, [.int .u8]⟩,
 ⟨.fn,1,8, [.fn]⟩,
 ⟨.int .i32,1,4, [.int .i32]⟩,
 ⟨.int .i32,1,4, [.int .i32]⟩,
 ⟨.st [(0,1,false),(1,1,false),(2,1,false),(3,1,false),(4,1,false),(5,1,false),(6,1,false),(7,1,false),(8,1,false),(9,1,false),(10,1,false)],11,48, [.int .u64,.int .u64,.int .u32,.int .u8,.int .u8,.int .u8,.int .u8,.fn,.ptr,.int .i32,.int .i32]⟩,
 ⟨.st [(0,1,false),(1,1,false),(2,1,false),(3,1,false),(4,1,false),(5,1,false),(6,1,false),(7,1,false),(8,1,false),(9,1,false),(10,1,false)],11,48, [.int .u64,.int .u64,.int .u32,.int .u8,.int .u8,.int .u8,.int .u8,.fn,.ptr,.int .i32,.int .i32]⟩,
 TI.none]
def tt:Nat→TI:=bH tl
theorem ai:TT.ok Tryz.prog tt:=OG (l:=tl) (by kernel_rfl)
theorem mixed:Tryz.prog.follows .mixedOrders=true:=rfl
theorem oY.of {B:(PV→List aj→Prop)→Prop} {Γ:List aj} {k:PV→Prop} (v:PV) (h1:B (fun p Γ'=>bJ p Γ' v Γ)) (h2:k v):oY B Γ k:=⟨v,h1,h2⟩
theorem A6 {k:IntKind} {v u:Int} (h:k.wrap v=u) {K:Int→Prop} (hk:K u):ju k v K:=⟨h▸hk⟩
theorem wrap_u64 {v:Int} (h1:0≤v) (h2:v < 18446744073709551616):IntKind.u64.wrap v=v:=by
 simp only[IntKind.wrap,IntKind.bits,IntKind.signed];simp;omega
theorem ju.u64 {v:Int} {K:Int→Prop} (h1:0≤v) (h2:v < 18446744073709551616) (k:K v):ju .u64 v K:=A6 (wrap_u64 h1 h2) k
theorem A7 {v:Int} (h1: -18446744073709551616≤v) (h2:v < 0):IntKind.u64.wrap v=v + 18446744073709551616:=by
 simp only[IntKind.wrap,IntKind.bits,IntKind.signed];simp;omega
theorem ju.u9 {v:Int} {K:Int→Prop} (h1: -18446744073709551616≤v) (h2:v < 0) (k:K (v + 18446744073709551616)):ju .u64 v K:=A6 (A7 h1 h2) k
theorem wrap_u8 {v:Int} (h1:0≤v) (h2:v < 256):IntKind.u8.wrap v=v:=by
 simp only[IntKind.wrap,IntKind.bits,IntKind.signed];simp;omega
class de (Γ:List aj) (r:Nat) (d:outParam TypeDesc) (m:outParam (Value→Option PV)) (aL:outParam (List (Int×Value))) (put:outParam ((Value→Option PV)→List (Int×Value)→List aj)):Prop where
 at_: ∃ Γ1 Γ2,Γ=Γ1++.mp r d m aL::Γ2∧ ∀ m' p',put m' p'=Γ1++.mp r d m' p'::Γ2
instance (priority:=high) de.head (Γ:List aj) (r:Nat) (d:TypeDesc) (m:Value→Option PV) (aL:List (Int×Value)):de (.mp r d m aL::Γ) r d m aL (fun m' p'=>.mp r d m' p'::Γ):=⟨[],Γ,rfl,fun _ _=>rfl⟩
instance de.tail (e:aj) (Γ:List aj) (r:Nat) (d:TypeDesc) (m:Value→Option PV) (aL:List (Int×Value)) (put:(Value→Option PV)→List (Int×Value)→List aj) [h:de Γ r d m aL put]:de (e::Γ) r d m aL (fun m' p'=>e::put m' p'):=by
 obtain ⟨Γ1,Γ2,h1,h2⟩:=h.at_;exact ⟨e::Γ1,Γ2,by rw[h1];rfl,fun m' p'=>by rw[h2];rfl⟩
theorem fM.at_ {r:Nat} {d:TypeDesc} {k:Value} {z:PV} {Γ:List aj} {m:Value→Option PV} {aL:List (Int×Value)} {put:(Value→Option PV)→List (Int×Value)→List aj} [hp:de Γ r d m aL put] {K:PV→Bool→Prop} (y:PV) (b:Bool)
  (hk:oX d k) (h1: ∀ p,m k=some p→Wk p y∧b=true) (h2:m k=none→Wk z y∧b=false) (h:K y b):fM r d (some k) z Γ K:=by
 obtain ⟨Γ1,Γ2,e1,_⟩:=hp.at_;exact ⟨k,m,aL,y,b,rfl,hk,by rw[e1];simp,h1,h2,h⟩
theorem gf.at_ {r:Nat} {d:TypeDesc} {k:Value} {p:PV} {Γ:List aj} {m:Value→Option PV} {aL:List (Int×Value)} {put:(Value→Option PV)→List (Int×Value)→List aj} [hp:de Γ r d m aL put] {K:List aj→Prop} (m':Value→Option PV)
  (hk:oX d k) (h1:m' k=some p) (h2: ∀ k',k'≠k→m' k'=m k') (h:K (put m' aL)) (hq:m k≠none∨ ∀ q∈aL,q.2≠.tuple #[]:=by right;simp):gf r d (some k) p Γ K:=by
 obtain ⟨Γ1,Γ2,e1,e2⟩:=hp.at_;exact ⟨k,m,m',aL,Γ1,Γ2,rfl,hk,e1,h1,h2,hq,by rw[←e2];exact h⟩
theorem ef.at_ {r:Nat} {d:TypeDesc} {k:Value} {z:PV} {Γ:List aj} {m:Value→Option PV} {aL:List (Int×Value)} {put:(Value→Option PV)→List (Int×Value)→List aj} [hp:de Γ r d m aL put] {K:PV→List aj→Prop} (m':Value→Option PV)
  (hk:oX d k) (h1:m' k=some ((m k).getD z)) (h2: ∀ k',k'≠k→m' k'=m k') (h: ∀ n,K (.bn [(m k).getD z,.int .i64 n]) (put m' ((n,k)::aL))) (hq:m k≠none∨ ∀ q∈aL,q.2≠.tuple #[]:=by right;simp):ef r d (some k) z Γ K:=by
 obtain ⟨Γ1,Γ2,e1,e2⟩:=hp.at_;exact ⟨k,m,m',aL,Γ1,Γ2,rfl,hk,e1,h1,h2,hq,fun n=>by rw[←e2];exact h n⟩
theorem cF.at_ {r:Nat} {d:TypeDesc} {n:Int} {k:Value} {p:PV} {Γ:List aj} {m:Value→Option PV} {aL:List (Int×Value)} {put:(Value→Option PV)→List (Int×Value)→List aj} [hp:de Γ r d m ((n,k)::aL) put] {K:List aj→Prop} (m':Value→Option PV)
  (h1:m' k=some p) (h2: ∀ k',k'≠k→m' k'=m k') (h:K (put m' ((n,k)::aL))) (hq:k≠.tuple #[]:=by simp):cF r n p Γ K:=by
 obtain ⟨Γ1,Γ2,e1,e2⟩:=hp.at_;exact ⟨d,k,m,m',(n,k)::aL,Γ1,Γ2,by simp,hq,e1,h1,h2,by rw[←e2];exact h⟩
theorem dZ.at_ {r:Nat} {d:TypeDesc} {k:Value} {Γ:List aj} {m:Value→Option PV} {aL:List (Int×Value)} {put:(Value→Option PV)→List (Int×Value)→List aj} [hp:de Γ r d m aL put] {K:List aj→Prop} (m':Value→Option PV)
  (hk:oX d k) (h1:m' k=none) (h2: ∀ k',k'≠k→m' k'=m k') (h:K (put m' [])):dZ r d (some k) Γ K:=by
 obtain ⟨Γ1,Γ2,e1,e2⟩:=hp.at_;exact ⟨k,m,m',aL,Γ1,Γ2,rfl,hk,e1,h1,h2,by rw[←e2];exact h⟩
section
variable {P:Program} {tt:Nat→TI}
theorem me.go {ds:List Nat} {a b:Code} {T:List PV} {Γ:List aj} {D:Ds} {Q:QT} (h:W P tt a T Γ D (P6 (W P tt b) Q)):me ds (W P tt a) (W P tt b) T Γ D Q:=by
 refine ⟨fun _ _=>False,o3 _ _ _ _ _ _ ?_ h,fun _ _ h=>h.elim⟩;intro e T' Γ' D' h;cases e<;>first | exact h | exact .inl h
def Fs:Nat→List (Nat×PV)→Option PV
 | _, []=>none
 | i,(j,x)::r=>match Nat.beq i j with
  | true=>some x
  | false=>Fs i r
def BO:Nat→List Nat→Bool
 | _, []=>false
 | i,j::r=>match Nat.beq i j with
  | true=>true
  | false=>BO i r
def kK:Nat→List PV→List Nat→List (Nat×PV)→List PV
 | _, [],_,_=> []
 | i,x::T,ds,ps=>(match Fs i ps with
  | some v=>v
  | none=>match BO i ds with
   | true=>.any
   | false=>x)::kK (i + 1) T ds ps
def mW {q:Sort _}:Nat→List PV→List Nat→List (Nat×PV)→(List PV→q)→q
 | _, [],_,_,k=>k []
 | i,x::T,ds,ps,k=>match Fs i ps with
  | some v=>mW (i + 1) T ds ps fun r=>k (v::r)
  | none=>match BO i ds with
   | true=>mW (i + 1) T ds ps fun r=>k (.any::r)
   | false=>mW (i + 1) T ds ps fun r=>k (x::r)
theorem j4 {q:Sort _}: ∀ (i:Nat) (T:List PV) (ds:List Nat) (ps:List (Nat×PV)) (k:List PV→q),mW i T ds ps k=k (kK i T ds ps)
 | _, [],_,_,_=>rfl
 | i,x::T,ds,ps,k=>by
  simp only[mW,kK]
  split
  ·exact j4 (i + 1) T ds ps _
  ·split<;>exact j4 (i + 1) T ds ps _
def wq {q:Sort _}:Nat→Nat→List (Nat×PV)→(List PV→q)→q
 | _,0,_,k=>k []
 | i,n + 1, [],k=>wq (i + 1) n [] fun r=>k (.any::r)
 | i,n + 1,(j,x)::ps,k=>match Nat.beq i j with
  | true=>wq (i + 1) n ps fun r=>k (x::r)
  | false=>wq (i + 1) n ((j,x)::ps) fun r=>k (.any::r)
theorem rQ {q:Sort _}: ∀ (i n:Nat) (ps:List (Nat×PV)) (k:List PV→q),wq i n ps k=k (jZ i n ps)
 | _,0,_,_=>rfl
 | i,n + 1, [],k=>by simp only[wq,jZ];exact rQ (i + 1) n [] _
 | i,n + 1,(j,x)::ps,k=>by
  simp only[wq,jZ];cases Nat.beq i j
  ·exact rQ (i + 1) n ((j,x)::ps) _
  ·exact rQ (i + 1) n ps _
def cg:Nat→List PV→List PV→List Nat→List (Nat×PV)→Prop
 | _, [], [],_,_=>True
 | i,x'::T',x::T,ds,ps=>match Fs i ps with
  | some v=>Wk x' v∧cg (i + 1) T' T ds ps
  | none=>match BO i ds with
   | true=>cg (i + 1) T' T ds ps
   | false=>Wk x' x∧cg (i + 1) T' T ds ps
 | _,_,_,_,_=>False
theorem cg.wk: ∀ (i:Nat) (T' T:List PV) (ds:List Nat) (ps:List (Nat×PV)),cg i T' T ds ps→aX T' (kK i T ds ps)
 | _, [], [],_,_,_=>.nil
 | _, [],_::_,_,_,h=>by simp[cg] at h
 | _,_::_, [],_,_,h=>by simp[cg] at h
 | i,x'::T',x::T,ds,ps,h=>by
  simp only[cg] at h;simp only[kK]
  split at h
  ·rename_i hv
   exact .cons h.1 (cg.wk (i + 1) T' T ds ps h.2)
  ·split at h
   ·exact .cons (Wk.any _) (cg.wk (i + 1) T' T ds ps h)
   ·exact .cons h.1 (cg.wk (i + 1) T' T ds ps h.2)
structure uK {τ:Type} (ds:List Nat) (ps:τ→List (Nat×PV)) (G:τ→List aj) (J:τ→Prop) (T:List PV) (D0:Ds) (T':List PV) (Γ:List aj) (D:Ds):Prop where
 h:D=D0∧ ∃ t,J t∧dg T' Γ (kK 0 T ds (ps t)) (G t)
theorem fH {τ:Type} {ds:List Nat} {ps:τ→List (Nat×PV)} {G:τ→List aj} {J:τ→Prop} {T T':List PV} {Γ Γ1:List aj} {D:Ds} (t:τ) (hJ:J t) (hw:cg 0 T' T ds (ps t)) [hp:bC Γ (G t) Γ1]:uK ds ps G J T D T' Γ D:=
 ⟨rfl,t,hJ,dg.of (cg.wk 0 T' T ds (ps t) hw) (au.drop hp.p)⟩
theorem me.join {τ:Type} {ds:List Nat} {a b:Code} {T:List PV} {Γ:List aj} {D:Ds} {Q:QT} (ps:τ→List (Nat×PV)) (G:τ→List aj) (J:τ→Prop)
  (h:W P tt a T Γ D (C1 (uK ds ps G J T D) Q)) (h2: ∀ t,J t→mW 0 T ds (ps t) fun T0=>W P tt b T0 (G t) D Q):me ds (W P tt a) (W P tt b) T Γ D Q:=by
 refine ⟨fun T0 Γ0=> ∃ t,J t∧T0=kK 0 T ds (ps t)∧Γ0=G t,o3 _ _ _ _ _ _ ?_ h,?_⟩
 ·intro e T' Γ' D' h
  cases e<;>first | exact h | skip
  obtain ⟨h1,t,h3,h4⟩:=h.h;exact .inr ⟨h1,_,_,h4,t,h3,rfl,rfl⟩
 ·rintro _ _ ⟨t,h1,rfl,rfl⟩
  have:=h2 t h1;rwa [j4] at this
structure EO {σ:Type} (R:σ→List (Nat×PV)) (G:σ→List aj) (I:σ→Prop) (μ:σ→Nat) (len:Nat) (s:σ) (D0:Ds) (T:List PV) (Γ:List aj) (D:Ds):Prop where
 h:D=D0∧ ∃ s',I s'∧μ s' < μ s∧dg T Γ (jZ 0 len (R s')) (G s')
theorem aq.kB {σ:Type} {c:Code} {T:List PV} {Γ Γ1:List aj} {D:Ds} {Q:QT} (R:σ→List (Nat×PV)) (G:σ→List aj) (I:σ→Prop) (μ:σ→Nat) (len:Nat) (s0:σ)
  (hI:I s0) (hl:jU T len=true) (hw:fN T 0 (R s0)) [hp:bC Γ (G s0) Γ1]
  (round: ∀ s,I s→wq 0 len (R s) fun T0=>W P tt c T0 (G s) D (C1 (EO R G I μ len s D) Q)):aq (W P tt c) T Γ D Q:=by
 refine ⟨fun n T Γ=> ∃ s,I s∧n=μ s∧T=jZ 0 len (R s)∧Γ=G s,fun _ _ _=>False,⟨μ s0,_,_,dg.mask (R s0) hl hw (hp:=hp),s0,hI,rfl,rfl,rfl⟩,?_,fun _ _ _ h=>h.elim⟩;rintro n _ _ ⟨s,hs,rfl,rfl,rfl⟩;have hr:=round s hs;rw[rQ] at hr;refine o3 _ _ _ _ _ _ ?_ hr;intro e T Γ D' h;cases e<;>first | exact h | exact .inl h | skip
 obtain ⟨h1,s',h2,h3,h4⟩:=h.h;exact ⟨h1,μ s',_,_,h3,h4,s',h2,rfl,rfl,rfl⟩
structure Pa {τ:Type} (R2:τ→List (Nat×PV)) (G2:τ→List aj) (J:τ→Prop) (len:Nat) (D0:Ds) (T:List PV) (Γ:List aj) (D:Ds):Prop where
 h:D=D0∧ ∃ t,J t∧dg T Γ (jZ 0 len (R2 t)) (G2 t)
theorem Ck {σ:Type} {R:σ→List (Nat×PV)} {G:σ→List aj} {I:σ→Prop} {μ:σ→Nat} {len:Nat} {s:σ} {T:List PV} {Γ Γ1:List aj} {D:Ds} (s':σ) (hI:I s') (hμ:μ s' < μ s) (hl:jU T len=true) (hw:fN T 0 (R s')) [hp:bC Γ (G s') Γ1]:
  EO R G I μ len s D T Γ D:=⟨rfl,s',hI,hμ,dg.mask (R s') hl hw⟩
end
theorem e6.lazy {g:Bool} {E:PV→Prop} {A B:Prop} {L:PV→Prop} {x:PV} (h1:g=true→E x) (h2:L (.opt g x)):e6 g E A B L:=⟨.inr ⟨x,h1,h2⟩⟩
theorem e6.ways {g:Bool} {E:PV→Prop} {A B:Prop} {L:PV→Prop} (h1:g=true→A) (h2:g=false→B):e6 g E A B L:=⟨.inl ⟨h1,h2⟩⟩
theorem Bi.of {q:Bool} {K:Prop} (h:q=true) (k:K):Bi q K:=⟨h,k⟩
theorem kj.ways {p:Bool} {A B:Prop} (h1:p=true→A) (h2:p=false→B):kj p A B:=⟨h1,h2⟩
theorem kj.no {p:Bool} {A B:Prop} (h:p=false) (k:B):kj p A B:=⟨fun e=>(by rw[h] at e;cases e),fun _=>k⟩
theorem iE.of {p K:Prop} (h:p) (k:K):iE p K:=⟨h,k⟩
theorem Gh.of {k:IntKind} {a b:Int} {K:Prop} (h:b≠0) (k':K):Gh k a b K:=⟨h,k'⟩
theorem SS:(∀ (p:Prop) [Decidable p],(decide p=true)=p)∧(∀ (p:Prop) [Decidable p],(decide p=false)= ¬ p)∧(∀ a b:Int,((a == b)=true)=(a=b))∧(∀ a b:Int,((a == b)=false)= ¬ (a=b))∧
  (∀ a b:List UInt8,((a == b)=true)=(a=b))∧(∀ a b:List UInt8,((a == b)=false)= ¬ (a=b))∧(∀ a b:Int,((a !=b)=true)= ¬ (a=b))∧(∀ a b:Int,((a !=b)=false)=(a=b))∧
  (∀ a b:Bool,((a && b)=true)=(a=true∧b=true))∧(∀ a b:Bool,((a && b)=false)=(a=false∨b=false))∧(∀ a b:Bool,((a || b)=true)=(a=true∨b=true))∧(∀ a b:Bool,((a || b)=false)=(a=false∧b=false))∧
  (∀ a:Bool,((!a)=true)=(a=false))∧(∀ a:Bool,((!a)=false)=(a=true))∧(∀ a b:Int,(¬ a < b)=(b≤a))∧(∀ a b:Int,(¬ a≤b)=(b < a))∧(∀ a b:Int,(a > b)=(b < a))∧(∀ a b:Int,(a≥b)=(b≤a))∧
  (∀ a:Prop,(¬ ¬ a)=a)∧(true=false)=False∧(false=true)=False:=by
 refine ⟨fun p _=>by simp,fun p _=>by simp,fun a b=>by simp,fun a b=>by simp,fun a b=>by simp,fun a b=>by simp,fun a b=>by simp,fun a b=>by simp,fun a b=>by simp,fun a b=>by cases a<;>cases b<;>simp,
  fun a b=>by simp,fun a b=>by simp,fun a=>by simp,fun a=>by simp,fun a b=>by simp,fun a b=>by simp,fun a b=>rfl,fun a b=>rfl,fun a=>by simp,by simp,by simp⟩
theorem Nw {a b:Bool} (h:(a && b)=true):a=true:=by simp at h;exact h.1
theorem QX {a b:Bool} (h:(a && b)=true):b=true:=by simp at h;exact h.2
class gq (n:Int) (i:outParam Nat):Prop where eq:n=(i:Int)
instance (i:Nat):gq (i:Int) i:=⟨rfl⟩
instance:gq 0 0:=⟨rfl⟩
instance:gq 1 1:=⟨rfl⟩
instance:gq 2 2:=⟨rfl⟩
instance:gq 3 3:=⟨rfl⟩
instance (a b:Int) (i j:Nat) [h:gq a i] [k:gq b j]:gq (a + b) (i + j):=⟨by rw[h.eq,k.eq];simp⟩
class eU (n:Int) (i:outParam Nat):Prop where eq:0≤n→n=(i:Int)
instance (priority:=low) (n:Int):eU n n.toNat:=⟨fun h=>by omega⟩
instance (n:Int) (i:Nat) [h:gq n i]:eU n i:=⟨fun _=>h.eq⟩
instance (a b:Int) (i j:Nat) [h:gq a i] [k:gq b j]:eU (a - b) (i - j):=⟨fun e=>by rw[h.eq,k.eq] at *; omega⟩
theorem eU.lt {n:Int} {i:Nat} [x:eU n i] {k:Nat} (h0:0≤n) (h1:n < (k:Int)):i < k:=by have:=x.eq h0;omega
theorem kz.ix {s:List UInt8} {k:IntKind} {n:Int} {i:Nat} [x:eU n i] {K:PV→Prop} (h0:0≤n) (h1:n < s.length) (hk:K (.int .u8 (s.getD i 0).toNat)):kz s (.int k n) K:=by
 have hi:=eU.lt h0 h1;have:=x.eq h0;refine ⟨k,n,s.getD i 0,rfl,h0,?_,hk⟩;rw[this];simp[List.getD,hi]
class cz {α:Type} (f:α→PV) (g:outParam (α→List PV)):Prop where
 eq: ∀ x,(f x).cellsOf=g x
instance (k:IntKind):cz (PV.int k) (fun n=> [.int k n]):=⟨fun _=>rfl⟩
instance:cz PV.str (fun s=> [.str s]):=⟨fun _=>rfl⟩
instance:cz PV.bool (fun s=> [.bool s]):=⟨fun _=>rfl⟩
theorem dA.ix {α:Type} {f:α→PV} {g:α→List PV} [c:cz f g] {sz:Nat} {l:List α} {tk:Option Tok} {k:IntKind} {n:Int} {i:Nat} [x:eU n i] {K:PV→Prop} (h0:0≤n) (h:n < l.length)
  (hk:K (.ep (g (l[i]'(eU.lt h0 h))))):dA sz (.sl sz (l.map f) tk) (.int k n) K:=by
 have hi:=eU.lt h0 h;have e:=x.eq h0;refine ⟨sz,_,tk,k,_,f l[i],rfl,rfl,h0,?_,rfl,by rw[c.eq];exact hk⟩;rw[e];simp[hi]
theorem dA.lit {sz:Nat} {es:List PV} {tk:Option Tok} {k:IntKind} {n:Int} {i:Nat} {e:PV} [x:gq n i] {K:PV→Prop} (h:Ec es i=some e) (hk:K (.ep e.cellsOf)):dA sz (.sl sz es tk) (.int k n) K:=by
 have e1:=x.eq;refine ⟨sz,_,tk,k,_,e,rfl,rfl,by omega,?_,rfl,hk⟩;rw[e1, ←h,AE];rfl
theorem IA.map {α:Type} {f:α→PV} {l:List α} {K:Nat→Prop} (h:l.length≤9223372036854775807→K l.length):IA (l.map f) K:=⟨by rw[List.length_map];exact h⟩
theorem eC.lo {s:List UInt8} {k:IntKind} {n:Int} {i:Nat} [x:eU n i] {K:PV→Prop} (h0:0≤n) (h:n≤s.length) (hk:K (.str (s.drop i))):eC s (some (.int k n)) none K:=
 ⟨i,s.length,rfl,x.eq h0,by have:=x.eq h0;omega,Nat.le_refl _,by rw[List.take_length];exact hk⟩
theorem eC.hi {s:List UInt8} {k:IntKind} {n:Int} {i:Nat} [x:eU n i] {K:PV→Prop} (h0:0≤n) (h:n≤s.length) (hk:K (.str (s.take i))):eC s none (some (.int k n)) K:=
 ⟨0,i,x.eq h0,rfl,by omega,by have:=x.eq h0;omega,hk⟩
theorem eC.both {s:List UInt8} {k k':IntKind} {n m:Int} {i j:Nat} [x:eU n i] [y:eU m j] {K:PV→Prop} (h0:0≤n) (h1:n≤m) (h:m≤s.length) (hk:K (.str ((s.take j).drop i))):eC s (some (.int k n)) (some (.int k' m)) K:=
 ⟨i,j,y.eq (by omega),x.eq h0,by have:=x.eq h0;have:=y.eq (by omega);omega,by have:=y.eq (by omega);omega,hk⟩
theorem iS.lo {s:Nat} {α:Type} {f:α→PV} {es:List α} {k:IntKind} {n:Int} {i:Nat} [x:eU n i] {K:PV→Prop} (h0:0≤n) (h:n≤es.length) (hk:K (.sl s ((es.drop i).map f) none)):iS s (es.map f) (some (.int k n)) none K:=
 ⟨i,_,rfl,x.eq h0,by have:=x.eq h0;simp;omega,Nat.le_refl _,by rw[List.take_length, ←List.map_drop];exact hk⟩
theorem iS.hi {s:Nat} {α:Type} {f:α→PV} {es:List α} {k:IntKind} {n:Int} {i:Nat} [x:eU n i] {K:PV→Prop} (h0:0≤n) (h:n≤es.length) (hk:K (.sl s ((es.take i).map f) none)):iS s (es.map f) none (some (.int k n)) K:=
 ⟨0,i,x.eq h0,rfl,by omega,by have:=x.eq h0;simp;omega,by rw[List.drop_zero, ←List.map_take];exact hk⟩
class zc (k:IntKind) (lo hi:outParam Int):Prop where eq: ∀ v,lo≤v→v≤hi→k.wrap v=v
instance:zc .i64 (-9223372036854775808) 9223372036854775807:=⟨fun v h1 h2=>by rw[IntKind.wrap_i64];omega⟩
instance:zc .u64 0 18446744073709551615:=⟨fun v h1 h2=>wrap_u64 h1 (by omega)⟩
instance:zc .u8 0 255:=⟨fun v h1 h2=>wrap_u8 h1 (by omega)⟩
theorem ju.ok {k:IntKind} {lo hi v:Int} [x:zc k lo hi] {K:Int→Prop} (h1:lo≤v) (h2:v≤hi) (hk:K v):ju k v K:=A6 (x.eq v h1 h2) hk
section
variable {P:Program} {tt:Nat→TI}
structure jK {σ:Type} (ds:List Nat) (R:σ→List (Nat×PV)) (G:σ→List aj) (I:σ→Prop) (μ:σ→Nat) (T0:List PV) (s:σ) (D0:Ds) (T:List PV) (Γ:List aj) (D:Ds):Prop where
 h:D=D0∧ ∃ s',I s'∧μ s' < μ s∧dg T Γ (kK 0 T0 ds (R s')) (G s')
theorem aq.over {σ:Type} {c:Code} {T:List PV} {Γ Γ1:List aj} {D:Ds} {Q:QT} (ds:List Nat) (R:σ→List (Nat×PV)) (G:σ→List aj) (I:σ→Prop) (μ:σ→Nat) (s0:σ)
  (hI:I s0) (hw:cg 0 T T ds (R s0)) [hp:bC Γ (G s0) Γ1]
  (round: ∀ s,I s→mW 0 T ds (R s) fun T0=>W P tt c T0 (G s) D (C1 (jK ds R G I μ T s D) Q)):aq (W P tt c) T Γ D Q:=by
 refine ⟨fun n T' Γ=> ∃ s,I s∧n=μ s∧T'=kK 0 T ds (R s)∧Γ=G s,fun _ _ _=>False,⟨μ s0,_,_,dg.of (cg.wk 0 T T ds (R s0) hw) (au.drop hp.p),s0,hI,rfl,rfl,rfl⟩,?_,fun _ _ _ h=>h.elim⟩;rintro n _ _ ⟨s,hs,rfl,rfl,rfl⟩;have hr:=round s hs;rw[j4] at hr;refine o3 _ _ _ _ _ _ ?_ hr;intro e T' Γ D' h;cases e<;>first | exact h | exact .inl h | skip
 obtain ⟨h1,s',h2,h3,h4⟩:=h.h;exact ⟨h1,μ s',_,_,h3,h4,s',h2,rfl,rfl,rfl⟩
theorem an {σ:Type} {ds:List Nat} {R:σ→List (Nat×PV)} {G:σ→List aj} {I:σ→Prop} {μ:σ→Nat} {T0:List PV} {s:σ} {T:List PV} {Γ Γ1:List aj} {D:Ds} (s':σ) (hI:I s') (hμ:μ s' < μ s)
  (hw:cg 0 T T0 ds (R s')) [hp:bC Γ (G s') Γ1]:jK ds R G I μ T0 s D T Γ D:=⟨rfl,s',hI,hμ,dg.of (cg.wk 0 T T0 ds (R s') hw) (au.drop hp.p)⟩
theorem aq.keep {σ:Type} {c:Code} {T:List PV} {Γ:List aj} {D:Ds} {Q:QT} (ds:List Nat) (R:σ→List (Nat×PV)) (I:σ→Prop) (μ:σ→Nat) (s0:σ)
  (hI:I s0) (hw:cg 0 T T ds (R s0))
  (round: ∀ s,I s→mW 0 T ds (R s) fun T0=>W P tt c T0 Γ D (C1 (jK ds R (fun _=>Γ) I μ T s D) Q)):aq (W P tt c) T Γ D Q:=
 aq.over (hp:=⟨by rw[List.append_nil]⟩) (Γ1:= []) ds R (fun _=>Γ) I μ s0 hI hw round
structure EP {τ:Type} (ds:List Nat) (R2:τ→List (Nat×PV)) (G2:τ→List aj) (J:τ→Prop) (T0:List PV) (D0:Ds) (T:List PV) (Γ:List aj) (D:Ds):Prop where
 h:D=D0∧ ∃ t,J t∧dg T Γ (kK 0 T0 ds (R2 t)) (G2 t)
theorem Mb {τ:Type} {ds:List Nat} {R2:τ→List (Nat×PV)} {G2:τ→List aj} {J:τ→Prop} {T0:List PV} {T:List PV} {Γ Γ1:List aj} {D:Ds} (t:τ) (hJ:J t) (hw:cg 0 T T0 ds (R2 t)) [hp:bC Γ (G2 t) Γ1]:
  EP ds R2 G2 J T0 D T Γ D:=⟨rfl,t,hJ,dg.of (cg.wk 0 T T0 ds (R2 t) hw) (au.drop hp.p)⟩
theorem aq.PS {σ τ:Type} {c:Code} {T:List PV} {Γ Γ1:List aj} {D:Ds} {Q:QT} (j0:Nat) (ds:List Nat) (R:σ→List (Nat×PV)) (G:σ→List aj) (I:σ→Prop) (μ:σ→Nat) (s0:σ)
  (R2:τ→List (Nat×PV)) (G2:τ→List aj) (J:τ→Prop) (hI:I s0) (hw:cg 0 T T ds (R s0)) [hp:bC Γ (G s0) Γ1]
  (round: ∀ s,I s→mW 0 T ds (R s) fun T0=>W P tt c T0 (G s) D (Nn (jK ds R G I μ T s D) j0 (EP ds R2 G2 J T D) Q)) (after: ∀ t,J t→mW 0 T ds (R2 t) fun T0=>Q (.exit j0) T0 (G2 t) D):aq (W P tt c) T Γ D Q:=by
 refine ⟨fun n T' Γ=> ∃ s,I s∧n=μ s∧T'=kK 0 T ds (R s)∧Γ=G s,fun j T' Γ=>j=j0∧ ∃ t,J t∧T'=kK 0 T ds (R2 t)∧Γ=G2 t,⟨μ s0,_,_,dg.of (cg.wk 0 T T ds (R s0) hw) (au.drop hp.p),s0,hI,rfl,rfl,rfl⟩,?_,?_⟩
 ·rintro n _ _ ⟨s,hs,rfl,rfl,rfl⟩
  have hr:=round s hs;rw[j4] at hr;refine o3 _ _ _ _ _ _ ?_ hr;intro e T' Γ D' h;cases e<;>first | exact h | skip
  ·obtain ⟨h1,s',h2,h3,h4⟩:=h.h
   exact ⟨h1,μ s',_,_,h3,h4,s',h2,rfl,rfl,rfl⟩
  ·simp only[Nn] at h⊢
   split at h
   ·rename_i hb
    obtain ⟨h1,t,h2,h3⟩:=h.h;exact .inr ⟨h1,_,_,h3,Nat.eq_of_beq_eq_true hb,t,h2,rfl,rfl⟩
   ·exact .inl h
 ·rintro j _ _ ⟨rfl,t,h1,rfl,rfl⟩
  have:=after t h1;rwa [j4] at this
theorem me.keep {τ:Type} {ds:List Nat} {a b:Code} {T:List PV} {Γ:List aj} {D:Ds} {Q:QT} (ps:τ→List (Nat×PV)) (J:τ→Prop)
  (h:W P tt a T Γ D (C1 (uK ds ps (fun _=>Γ) J T D) Q)) (h2: ∀ t,J t→mW 0 T ds (ps t) fun T0=>W P tt b T0 Γ D Q):me ds (W P tt a) (W P tt b) T Γ D Q:=
 me.join ps (fun _=>Γ) J h h2
theorem e7.all {Γ:List aj} {b:Nat} {all:List PV} {put:List PV→List aj} [hp:gi Γ b all put] {n:Nat} {K:PV→Prop} (hl:all.length=n) (k:K (.agg all)):e7 true n (.ptr b 0) Γ K:=by
 obtain ⟨Γ1,Γ2,h1,_⟩:=hp.at_;exact ⟨all,⟨all,by rw[h1];simp,by omega,by rw[List.drop_zero, ←hl,List.take_length]⟩,k⟩
theorem e7.cell {Γ:List aj} {b o:Nat} {all:List PV} {put:List PV→List aj} [hp:gi Γ b all put] {K:PV→Prop} (c:PV) (hl:all[o]?=some c) (k:K c):e7 false 1 (.ptr b o) Γ K:=by
 obtain ⟨Γ1,Γ2,h1,_⟩:=hp.at_;have ho:o < all.length:=(List.getElem?_eq_some_iff.1 hl).1;refine ⟨[c],⟨all,by rw[h1];simp,by omega,?_⟩,k⟩;rw[List.drop_eq_getElem_cons ho];have:=(List.getElem?_eq_some_iff.1 hl).2;simp[this]
theorem bP.cell {Γ:List aj} {b o:Nat} {all:List PV} {put:List PV→List aj} [hp:gi Γ b all put] {x:PV} {K:List aj→Prop} (ho:o < all.length) (hx:x.cellsOf= [x]) (hc:x.cC=true) (k:K (put (all.set o x))):bP 1 (.ptr b o) x Γ K:=by
 obtain ⟨Γ1,Γ2,h1,h2⟩:=hp.at_;refine ⟨by rw[hx];rfl,hc, [x],fun F vs h=>by rwa [hx] at h,rfl,.inl ⟨b,o,all,Γ1,Γ2,rfl,h1,by omega,?_⟩⟩;rw[h2] at k;rw[List.set_eq_take_append_cons_drop,if_pos ho] at k;simpa using k
theorem bP.all {Γ:List aj} {b n:Nat} {all:List PV} {put:List PV→List aj} [hp:gi Γ b all put] {xs:List PV} {K:List aj→Prop} (hl:all.length=n) (hx:xs.length=n) (k:K (put xs)):bP n (.ptr b 0) (.agg xs) Γ K:=by
 obtain ⟨Γ1,Γ2,h1,h2⟩:=hp.at_;refine ⟨hx,rfl,xs,fun F vs h=>h,hx,.inl ⟨b,0,all,Γ1,Γ2,rfl,h1,by omega,?_⟩⟩;rw[h2] at k;rw[List.drop_of_length_le (by omega)];simpa[PV.cellsOf] using k
def vP (ops:Array Oper):Option Nat:=match ops.toList with
 | []=>none
 | o::_=>o.dst
theorem aC.at_ {ops:Array Oper} {T:List PV} {Γ Γ2:List aj} {K:List PV→List aj→Prop} (d:Option Nat) (hd:vP ops=d) (hk:TT.ok P tt) (hm:P.follows .mixedOrders=true) (bH A R1 R2:List Nat) (Γ1:List aj)
  (hchk:nZ ops bH A R1 R2=true) [hp:bC Γ Γ1 Γ2]
  (h:gM P tt ops.toList (bM ops.toList A) T Γ2 fun T'=>bU P tt ops.toList (bM ops.toList R1) T' Γ1 [] fun T2 Γ1' _=>kS Γ1' Γ2 fun Γ'=>bU P tt ops.toList (bM ops.toList R2) T2 Γ' [] fun T' Γ' _=>K T' Γ'):aC P ops T Γ K:=
 aC.split hk hm bH A R1 R2 Γ1 hchk h
theorem av.same {f:FuncId} {args args':List PV} {Γ:List aj} {Q K:PV→List aj→Prop} (h:af P f args' Γ Q) (hw:aX args args') (k: ∀ y Γ',Q y Γ'→K y Γ'):av P f args Γ K:=⟨.inl ((h.wk hw).mono k)⟩
theorem av.go {f:FuncId} {args args':List PV} {Γ Γ1 Γ2:List aj} {Q K:PV→List aj→Prop} (h:af P f args' Γ1 Q) (hw:aX args args') [hp:bC Γ Γ1 Γ2]
  (k: ∀ y Γ1',Q y Γ1'→kS Γ1' Γ2 fun Γ'=>K y Γ'):av P f args Γ K:=av.gen h hw (hp:=hp) fun y Γ1' hq=>by have:=k y Γ1' hq;rwa [fC] at this
theorem av.read {f:FuncId} {args args':List PV} {v:PV} {Γ Γ1 Γ2:List aj} {K:PV→List aj→Prop} (h:af P f args' Γ1 fun y Γ'=>y=v∧Γ'=Γ1) (hw:aX args args') [hp:bC Γ Γ1 Γ2] (k:K v Γ):av P f args Γ K:=by
 refine ⟨.inl ⟨h.1,fun w0 F M w vs hS hT=>?_⟩⟩
 have hS':aP w0 F (Γ1++(Γ2++M)) w:=by
  have:=hS.perm (hp.p.append_right M);simpa using this
 refine (h.2 w0 F (Γ2++M) w vs hS' (hw.rep hT)).mono ?_;rintro e w' ⟨v',F',y,Γ',e1,e2,e3,e4,hv,hg⟩;subst hv;rw[hg] at e3;refine ⟨v',F',_,Γ,e1,e2,?_,e4,k⟩;have h2:aP w0 F' ((Γ1++Γ2)++M) w':=by simpa using e3
 exact h2.perm (hp.p.symm.append_right M)
theorem kr.ix {n sz b o:Nat} {k:IntKind} {m:Int} {i:Nat} [x:eU m i] {K:PV→Prop} (hs:sz=1) (h0:0≤m) (hm:m < n) (hk:K (.ptr b (o + i))):kr n sz (.ptr b o) (.int k m) K:=by
 have:=x.eq h0;refine ⟨b,o,k,m,rfl,rfl,h0,hm,?_⟩;subst hs this;simpa using hk
instance:cz (fun b:UInt8=>PV.int .u8 (b.toNat:Int)) (fun b=> [.int .u8 (b.toNat:Int)]):=⟨fun _=>rfl⟩
instance bC.self (Γ:List aj):bC Γ Γ []:=⟨by rw[List.append_nil]⟩
theorem au.nil (s:Nat) (e:TypeId) (Γ:List aj):au Γ (.tok (ay s e)::Γ):=fun w0 F M w hS=>⟨F,Fz.le_refl F,hS.ay s e⟩
theorem au.cm (s:Nat) (e:TypeId) (Γ:List aj):au Γ (.row (ay s e) []::Γ):=fun w0 F M w hS=>⟨F,Fz.le_refl F,hS.cm s e⟩
theorem Wk.cm (s:Nat) (e:TypeId):Wk .nil (.ms (ay s e)):=fun F v r=>by
 simp only[aE] at r ⊢;exact ⟨r,rfl⟩
theorem Wk.ay (s:Nat) (e:TypeId):Wk .nil (.sl s [] (some (ay s e))):=fun F v r=>by
 simp only[aE] at r ⊢;exact ⟨fun t ht=>by cases ht;exact ⟨r,rfl,rfl⟩,.inl ⟨r,trivial⟩⟩
theorem au.trans {Γ Γ' Γ2:List aj} (h:au Γ Γ') (k:au Γ' Γ2):au Γ Γ2:=fun w0 F M w hS=>by
 obtain ⟨F1,a1,a2⟩:=h w0 F M w hS;obtain ⟨F2,b1,b2⟩:=k w0 F1 M w a2;exact ⟨F2,Fz.le_trans a1 b1,b2⟩
theorem au.pick {Γ Γ' Γ1:List aj} [hp:bC Γ Γ' Γ1]:au Γ Γ':=au.drop hp.p
theorem au.box {Γ Γ1:List aj} {b:Nat} {cs cs':List PV} [hp:gP Γ (.box b cs) Γ1] (h:fR cs cs'):au Γ (.box b cs'::Γ1):=fun w0 F M w hS=>by
 have hS':=hS.perm (hp.p.append_right M);have hS':aP w0 F (.box b cs::(Γ1++M)) w:=by simpa using hS'
 refine ⟨F,Fz.le_refl F,⟨hS'.below,hS'.fz,fun x hx=>?_,?_⟩⟩
 ·rcases List.mem_cons.1 hx with rfl | hx
  ·obtain ⟨h1,⟨vs,el,h2,h3⟩,h4⟩:=hS'.fE _ (List.mem_cons_self ..)
   exact ⟨h1,⟨vs,el,h2,h.rep h3⟩,h4⟩
  ·exact hS'.fE x (List.mem_cons_of_mem _ hx)
 ·have:=List.pairwise_cons.1 hS'.sep
  exact List.pairwise_cons.2 ⟨this.1,this.2⟩
theorem af.ghost {f:FuncId} {args:List PV} {Γ Γ':List aj} {Q:PV→List aj→Prop} (hg:au Γ Γ') (h:af P f args Γ' Q):af P f args Γ Q:=
 ⟨h.1,fun w0 F M w vs hS hT=>by
  obtain ⟨F1,a1,a2⟩:=hg w0 F M w hS;refine (h.2 w0 F1 M w vs a2 (aB.mono a1 _ _ hT)).mono ?_;rintro e w' ⟨v,F',y,Γ2,e1,e2,e3⟩
  exact ⟨v,F',y,Γ2,e1,Fz.le_trans a1 e2,e3⟩⟩
theorem av.ghost {f:FuncId} {args:List PV} {Γ Γ':List aj} {K:PV→List aj→Prop} (hg:au Γ Γ') (h:af P f args Γ' K):av P f args Γ K:=⟨.inl (af.ghost hg h)⟩
theorem aZ.one {α:Type} {f:α→PV} {l:List α} {s kB:Nat} {e:TypeId} {y:PV} {t:Tok} {Γ:List aj} {put:Tok→List aj} [hp:jx Γ t put] {K:PV→List aj→Prop} (v:α) (he:t.e=e) (hy:Wk y (.sl s [f v] none))
  (h1:l.length + 1≤281474976710655) (h2:(l.length + 1) * kB≤140737488355328)
  (k: ∀ t':Tok,t'.e=e→K (.sl s ((l++ [v]).map f) (some t')) (put t')):aZ s kB e (.sl s (l.map f) (some t)) y Γ K:=by
 obtain ⟨Γ1,Γ2,e1,e2⟩:=hp.at_;refine ⟨l.map f, [f v],.inl ⟨none,hy⟩,by simpa using h1,by simpa using h2,.inr (.inl ⟨t,Γ1,Γ2,rfl,e1,he,fun t' ht=>?_⟩)⟩;have:=k t' ht;rw[List.map_append,e2] at this;exact this
theorem aZ.list {α:Type} {f:α→PV} {l m:List α} {s kB:Nat} {e:TypeId} {tk:Option Tok} {t:Tok} {Γ:List aj} {put:Tok→List aj} [hp:jx Γ t put] {K:PV→List aj→Prop} (he:t.e=e)
  (h1:l.length + m.length≤281474976710655) (h2:(l.length + m.length) * kB≤140737488355328)
  (k: ∀ t':Tok,t'.e=e→K (.sl s ((l++m).map f) (some t')) (put t')):aZ s kB e (.sl s (l.map f) (some t)) (.sl s (m.map f) tk) Γ K:=by
 obtain ⟨Γ1,Γ2,e1,e2⟩:=hp.at_;refine ⟨l.map f,m.map f,.inl ⟨tk,Wk.refl _⟩,by simpa using h1,by simpa using h2,.inr (.inl ⟨t,Γ1,Γ2,rfl,e1,he,fun t' ht=>?_⟩)⟩;have:=k t' ht;rw[List.map_append,e2] at this;exact this
class dD (Γ:List aj) (t:Tok) (es:outParam (List PV)) (put:outParam (Tok→List PV→List aj)):Prop where
 at_: ∃ Γ1 Γ2,Γ=Γ1++.row t es::Γ2∧ ∀ t' es',put t' es'=Γ1++.row t' es'::Γ2
instance (priority:=high) dD.head (Γ:List aj) (t:Tok) (es:List PV):dD (.row t es::Γ) t es (fun t' es'=>.row t' es'::Γ):=⟨[],Γ,rfl,fun _ _=>rfl⟩
instance dD.tail (e:aj) (Γ:List aj) (t:Tok) (es:List PV) (put:Tok→List PV→List aj) [h:dD Γ t es put]:dD (e::Γ) t es (fun t' es'=>e::put t' es'):=by
 obtain ⟨Γ1,Γ2,h1,h2⟩:=h.at_;exact ⟨e::Γ1,Γ2,by rw[h1];rfl,fun t' es'=>by rw[h2];rfl⟩
theorem dQ.at_ {Γ:List aj} {t:Tok} {es:List PV} {put:Tok→List PV→List aj} [hp:dD Γ t es put] {K:Nat→Prop} (k:es.length≤9223372036854775807→K es.length):dQ t Γ K:=by
 obtain ⟨Γ1,Γ2,h1,_⟩:=hp.at_;exact ⟨es,by rw[h1];simp,k⟩
theorem dQ.map {α:Type} {f:α→PV} {l:List α} {Γ:List aj} {t:Tok} {put:Tok→List PV→List aj} [hp:dD Γ t (l.map f) put] {K:Nat→Prop} (k:l.length≤9223372036854775807→K l.length):dQ t Γ K:=
 dQ.at_ (hp:=hp) (by simpa using k)
theorem dB.at_ {sz:Nat} {Γ:List aj} {t:Tok} {es:List PV} {put:Tok→List PV→List aj} [hp:dD Γ t es put] {k:IntKind} {n:Int} {i:Nat} [x:eU n i] {K:PV→Prop} (hs:t.s=sz) (h0:0≤n) (hl:i < es.length) (hk:K (.rp t i 0)):dB sz t (.int k n) Γ K:=by
 obtain ⟨Γ1,Γ2,h1,_⟩:=hp.at_;have e:=x.eq h0;refine ⟨es,k,n,rfl,by rw[h1];simp,h0,by omega,hs,?_⟩;rw[e];exact hk
theorem e7.row {α:Type} {f:α→PV} {c:α→List PV} [hc:cz f c] {l:List α} {Γ:List aj} {t:Tok} {put:Tok→List PV→List aj} [hp:dD Γ t (l.map f) put] {agg:Bool} {i o n:Nat} {K:PV→Prop} (hi:i < l.length)
  (hl:Nat.ble (o + n) (c l[i]).length=true) (k:mU (c l[i]) o fun r=>n6 r n fun cs=>nN agg cs K):e7 agg n (.rp t i o) Γ K:=by
 obtain ⟨Γ1,Γ2,h1,_⟩:=hp.at_;simp only[eg,gb] at k;have hce:(f l[i]).cellsOf=c l[i]:=hc.eq _;exact ⟨_,⟨l.map f,f l[i],by rw[h1];simp,by simp[hi],by rw[hce];exact Nat.le_of_ble_eq_true hl,rfl⟩,by rw[hce];exact k⟩
theorem bP.row {α:Type} {f:α→PV} {c:α→List PV} [hc:cz f c] {l:List α} {Γ:List aj} {t:Tok} {put:Tok→List PV→List aj} [hp:dD Γ t (l.map f) put] {i o n:Nat} {x:PV} {K:List aj→Prop} (v:α) (hi:i < l.length)
  (hl:Nat.ble (o + n) (c l[i]).length=true) (hx:jU x.cellsOf n=true) (hcl:x.cC=true) {xs:List PV} (hw:fR x.cellsOf xs) (hv:c v=(c l[i]).take o++xs++(c l[i]).drop (o + n))
  (k:K (put t ((l.set i v).map f))):bP n (.rp t i o) x Γ K:=by
 obtain ⟨Γ1,Γ2,h1,h2⟩:=hp.at_;have hce: ∀ y,(f y).cellsOf=c y:=hc.eq;rw[h2] at k;refine ⟨eT hx,hcl,xs,fun F vs h=>hw.rep h,by rw[←hw.length];exact eT hx,.inr ⟨t,i,o,l.map f,f l[i],f v,Γ1,Γ2,rfl,h1,by simp[hi],by rw[hce];exact Nat.le_of_ble_eq_true hl,by rw[hce,hce];exact hv,?_⟩⟩;rw[List.map_set] at k;exact k
theorem aZ.Oq {α:Type} {f:α→PV} {l:List α} {s kB:Nat} {e:TypeId} {y:PV} {t:Tok} {Γ:List aj} {put:Tok→List PV→List aj} [hp:dD Γ t (l.map f) put] {K:PV→List aj→Prop} (v:α) (he:t.e=e) (hs:t.s=s) (hy:Wk y (.sl s [f v] none))
  (h1:l.length + 1≤281474976710655) (h2:(l.length + 1) * kB≤140737488355328)
  (k: ∀ t':Tok,t'.e=e→t'.s=s→K (.ms t') (put t' ((l++ [v]).map f))):aZ s kB e (.ms t) y Γ K:=by
 obtain ⟨Γ1,Γ2,e1,e2⟩:=hp.at_;refine ⟨l.map f, [f v],.inl ⟨none,hy⟩,by simpa using h1,by simpa using h2,.inr (.inr ⟨t,Γ1,Γ2,rfl,e1,he,hs,fun t' ht hs'=>?_⟩)⟩;have:=k t' ht hs';rw[List.map_append,e2] at this;exact this
theorem aZ.FY {α:Type} {f:α→PV} {l m:List α} {s kB:Nat} {e:TypeId} {y:PV} {t:Tok} {Γ:List aj} {put:Tok→List PV→List aj} [hp:dD Γ t (l.map f) put] {K:PV→List aj→Prop} (he:t.e=e) (hs:t.s=s) (hy:Wk y (.sl s (m.map f) none))
  (h1:l.length + m.length≤281474976710655) (h2:(l.length + m.length) * kB≤140737488355328)
  (k: ∀ t':Tok,t'.e=e→t'.s=s→K (.ms t') (put t' ((l++m).map f))):aZ s kB e (.ms t) y Γ K:=by
 obtain ⟨Γ1,Γ2,e1,e2⟩:=hp.at_;refine ⟨l.map f,m.map f,.inl ⟨none,hy⟩,by simpa using h1,by simpa using h2,.inr (.inr ⟨t,Γ1,Γ2,rfl,e1,he,hs,fun t' ht hs'=>?_⟩)⟩;have:=k t' ht hs';rw[List.map_append,e2] at this;exact this
theorem aZ.cm {α:Type} {f:α→PV} {m:List α} {s kB:Nat} {e:TypeId} {y:PV} {Γ:List aj} {K:PV→List aj→Prop} (hy:Wk y (.sl s (m.map f) none))
  (h1:m.length≤281474976710655) (h2:m.length * kB≤140737488355328)
  (k: ∀ t:Tok,t.e=e→t.s=s→K (.ms t) (.row t (m.map f)::Γ)):aZ s kB e .nil y Γ K:=
 ⟨[],m.map f,.inl ⟨none,hy⟩,by simpa using h1,by simpa using h2,.inl ⟨rfl,rfl,.inr k⟩⟩
theorem gO.row {s kB:Nat} {e:TypeId} {z:PV} {k k':IntKind} {m p:Int} {K:PV→aj→Prop} (h1:0≤m) (h2:m≤p) (h3:p≤140737488355328) (h4:p * kB≤140737488355328) (h5:jU z.cellsOf s=true)
  (h: ∀ t:Tok,t.e=e→t.s=s→K (.ms t) (.row t (List.replicate m.toNat z))):gO s kB e z (.int k m) (.int k' p) K:=
 ⟨k,k',m,p,rfl,rfl,h1,h2,h3,h4,eT h5,.inr h⟩
def iA (t:Tok) (es:List PV) (x y:PV):Prop:= ∀ F v,aE F (.sl t.s es (some t)) t.v→aE F x v→aE F y v
inductive jy (t:Tok) (es:List PV):List PV→List PV→Prop
 | nil:jy t es [] []
 | cons {x y:PV} {xs ys:List PV}:iA t es x y→jy t es xs ys→jy t es (x::xs) (y::ys)
theorem iA.of {t:Tok} {es:List PV} {x y:PV} (h:Wk x y):iA t es x y:=fun F v _ r=>h F v r
theorem iA.ms' {t:Tok} {es:List PV} {s:Nat} (hs:t.s=s):iA t es (.ms t) (.sl s es none):=fun F v h r=>by
 simp only[aE] at r;rw[r.1, ←hs];exact (Wk.tok _ _ _) F _ h
theorem jy.rep {t:Tok} {es:List PV} {F:Fz} (hF:aE F (.sl t.s es (some t)) t.v): ∀ {xs ys:List PV} {vs:List Value},jy t es xs ys→aB F xs vs→aB F ys vs
 | _,_, [],.nil,h=>h
 | _,_,_::_,.nil,h=>h
 | _,_, [],.cons _ _,h=>by simp only[aB] at h
 | _,_,v::vs,.cons h1 h2,h=>by
  simp only[aB] at h ⊢;exact ⟨h1 _ _ hF h.1,jy.rep hF h2 h.2⟩
theorem jy.qp {t:Tok} {es:List PV} {F:Fz} (hF:aE F (.sl t.s es (some t)) t.v): ∀ {xs ys:List PV} {vs:List Value},jy t es xs ys→aR F xs vs→aR F ys vs
 | _,_, [],.nil,h=>h
 | _,_,_::_,.nil,h=>h
 | _,_, [],.cons _ _,h=>by simp only[aR] at h
 | _,_,v::vs,.cons h1 h2,h=>by
  simp only[aR] at h ⊢;exact ⟨⟨h.1.1,h1 _ _ hF h.1.2⟩,jy.qp hF h2 h.2⟩
theorem iA.agg {t:Tok} {es xs ys:List PV} (h:jy t es xs ys):iA t es (.agg xs) (.agg ys):=fun F v hF r=>by
 simp only[aE] at r ⊢;obtain ⟨vs,h1,h2⟩:=r;exact ⟨vs,h1,h.qp hF h2⟩
theorem iA.bn {t:Tok} {es xs ys:List PV} (h:jy t es xs ys):iA t es (.bn xs) (.bn ys):=fun F v hF r=>by
 simp only[aE] at r ⊢;obtain ⟨vs,h1,h2⟩:=r;exact ⟨vs,h1,h.rep hF h2⟩
theorem iA.trans {t:Tok} {es:List PV} {x y z:PV} (h:iA t es x y) (k:Wk y z):iA t es x z:=fun F v hF r=>k F v (h F v hF r)
theorem Shift.bK {t:Tok} {es:List PV} {x y:PV} {Γ Γ1:List aj} [hp:gP Γ (.row t es) Γ1] (h:iA t es x y):Shift x Γ y (.tok t::Γ1):=fun w0 F M w v hS hx=>by
 have hS':aP w0 F (.row t es::(Γ1++M)) w:=by simpa using hS.perm (hp.p.append_right M)
 obtain ⟨F',h1,h2,h3⟩:=hS'.bK;exact ⟨F',h1,h2,h F' v h3 (aE.mono h1 _ _ hx)⟩
theorem dg.bK {t:Tok} {es:List PV} {T T':List PV} {Γ Γ1:List aj} [hp:gP Γ (.row t es) Γ1] (h:jy t es T T'):dg T Γ T' (.tok t::Γ1):=fun w0 F M w vs hS hx=>by
 have hS':aP w0 F (.row t es::(Γ1++M)) w:=by simpa using hS.perm (hp.p.append_right M)
 obtain ⟨F',h1,h2,h3⟩:=hS'.bK;exact ⟨F',h1,h2,h.rep h3 (aB.mono h1 _ _ hx)⟩
theorem dg.trans {T T' T2:List PV} {Γ Γ' Γ2:List aj} (h:dg T Γ T' Γ') (k:dg T' Γ' T2 Γ2):dg T Γ T2 Γ2:=fun w0 F M w vs hS hT=>by
 obtain ⟨F1,a1,a2,a3⟩:=h w0 F M w vs hS hT;obtain ⟨F2,b1,b2,b3⟩:=k w0 F1 M w vs a2 a3;exact ⟨F2,Fz.le_trans a1 b1,b2,b3⟩
theorem au.bK {t:Tok} {es:List PV} {b:Nat} {cs cs':List PV} {Γ Γ1 Γ2:List aj} [hp:gP Γ (.row t es) Γ1] [hq:gP Γ1 (.box b cs) Γ2] (h:jy t es cs cs'):au Γ (.box b cs'::.tok t::Γ2):=fun w0 F M w hS=>by
 have hS':aP w0 F (.row t es::(Γ1++M)) w:=by simpa using hS.perm (hp.p.append_right M)
 obtain ⟨F',h1,h2,h3⟩:=hS'.bK
 have h4:aP w0 F' (.box b cs::(.tok t::(Γ2++M))) w:=by
  have hpp:(.tok t::(Γ1++M)).Perm (.box b cs::(.tok t::(Γ2++M))):=by
   have:=(hq.p.append_right M).cons (.tok t);exact this.trans (List.Perm.swap _ _ _)
  exact h2.perm hpp
 refine ⟨F',h1,⟨h4.below,h4.fz,fun x hx=>?_,?_⟩⟩
 ·rcases List.mem_cons.1 (by simpa using hx:x∈.box b cs'::(.tok t::(Γ2++M))) with rfl | hx
  ·obtain ⟨k1,⟨vs,el,k2,k3⟩,k4⟩:=h4.fE _ (List.mem_cons_self ..)
   exact ⟨k1,⟨vs,el,k2,h.qp h3 k3⟩,k4⟩
  ·exact h4.fE x (List.mem_cons_of_mem _ hx)
 ·have:=List.pairwise_cons.1 h4.sep
  exact List.pairwise_cons.2 ⟨this.1,this.2⟩
theorem af.shift {f:FuncId} {args:List PV} {Γ:List aj} {Q Q':PV→List aj→Prop} (h:af P f args Γ Q) (hq: ∀ y Γ',Q y Γ'→ ∃ y2 Γ2,Shift y Γ' y2 Γ2∧Q' y2 Γ2):af P f args Γ Q':=
 ⟨h.1,fun w0 F M w vs hS hT=>(h.2 w0 F M w vs hS hT).mono fun _ _ ⟨v,F',y,Γ',e1,e2,e3,e4,e5⟩=>by
  obtain ⟨y2,Γ2,k1,k2⟩:=hq y Γ' e5;obtain ⟨F2,m1,m2,m3⟩:=k1 w0 F' M _ v e3 e4
  exact ⟨v,F2,y2,Γ2,e1,Fz.le_trans e2 m1,m2,m3,k2⟩⟩
theorem Bh.at_ {b:Nat} {Γ Γ':List aj} {T:List PV} {vs:List Value} {K:List aj→Prop} [hp:gP Γ (.ob b kV T vs) Γ'] (hq:Γ=.ob b kV T vs::Γ') (k:K Γ'):Bh b Γ K:=
 ⟨T,vs, [],Γ',hq,k⟩
theorem eZ.mono {l:Nat} {args:List PV} {Γ:List aj} {Q Q':PV→List aj→Prop} (h:eZ P l args Γ Q) (hq: ∀ y Γ',Q y Γ'→Q' y Γ'):eZ P l args Γ Q':=(kQ.mono (K:=Q) (K':=Q') hq ⟨h⟩).h
theorem eZ.frame {l:Nat} {args:List PV} {Γ Γ1 Γ2:List aj} {Q:PV→List aj→Prop} (h:eZ P l args Γ1 Q) (hp:Γ.Perm (Γ1++Γ2)):eZ P l args Γ fun y Γ'=> ∃ Γ1',Γ'=Γ1'++Γ2∧Q y Γ1':=fun w0 F M w vs hS hT=>by
 have hS':aP w0 F (Γ1++(Γ2++M)) w:=by
  have:=hS.perm (hp.append_right M);simpa using this
 obtain ⟨fn,tmps,assign,body,h1,h2⟩:=h w0 F (Γ2++M) w vs hS' hT;refine ⟨fn,tmps,assign,body,h1,h2.mono ?_⟩;rintro _ _ ⟨v,F',y,Γ',e1,e2,e3,e4,e5⟩;exact ⟨v,F',y,Γ'++Γ2,e1,e2,by simpa using e3,e4,Γ',rfl,e5⟩
theorem eZ.wk {l:Nat} {args args':List PV} {Γ:List aj} {Q:PV→List aj→Prop} (h:eZ P l args' Γ Q) (hw:aX args args'):eZ P l args Γ Q:=fun w0 F M w vs hS hT=>h w0 F M w vs hS (hw.rep hT)
theorem PRange.go {f:FuncId} {cap:List PV} {ps:List Nat} {WA WB:List PV→List aj→Ds→QT→Prop} {T:List PV} {Γ Γi Γ1:List aj} {D:Ds} {Q:QT} {σ:Type} (xs:List (List PV)) (G:σ→List aj) (I:Nat→σ→Prop) (X:Exit→List aj→Prop) (s0:σ)
  (hit:EM P f cap Γi xs) (hI:I 0 s0) [hp:bC Γ (G s0++Γi) Γ1] (hl: ∀ ys∈xs,ys.length=ps.length)
  (round: ∀ k ys s,xs[k]?=some ys→I k s→sg T ps ys fun T0=>WA T0 (G s) [] (EV WB (Ep k (fun k Γ=> ∃ s,I k s∧Γ=G s) X)))
  (done: ∀ b s,I xs.length s→Q .normal T (.ob b kV [] []::G s) (.mark b::D)) (stop: ∀ b e Γ',X e Γ'→Q e T (.ob b kV [] []::Γ') (.mark b::D)):PRange P f cap ps WA WB true T Γ D Q:=by
 refine ⟨rfl,G s0,Γi,xs,fun k Γ=> ∃ s,I k s∧Γ=G s,X,⟨T,dg.of (aX.refl T) (au.drop hp.p)⟩,hit,⟨s0,hI,rfl⟩,hl,?_,?_,stop⟩
 ·rintro k ys _ h ⟨s,hs,rfl⟩
  exact round k ys s h hs
 ·rintro b _ ⟨s,hs,rfl⟩
  exact done b s hs
theorem wQ {σ:Type} {k:Nat} {G:σ→List aj} {I:Nat→σ→Prop} {X:Exit→List aj→Prop} {T:List PV} {Γ Γ1:List aj} (s:σ) (hI:I (k + 1) s) [hp:bC Γ (G s) Γ1]:Ep k (fun k Γ=> ∃ s,I k s∧Γ=G s) X .normal T Γ []:=
 ⟨rfl,T,G s,dg.of (aX.refl T) (au.drop hp.p),s,hI,rfl⟩
theorem av.OY {f:FuncId} {args args':List PV} {Γ Γ' Γ1 Γ2:List aj} {Q K:PV→List aj→Prop} (hg:au Γ Γ') (h:af P f args' Γ1 Q) (hw:aX args args') [hp:bC Γ' Γ1 Γ2]
  (k: ∀ y Γ1',Q y Γ1'→kS Γ1' Γ2 fun Γ'=>K y Γ'):av P f args Γ K:=
 av.ghost hg (((h.wk hw).frame hp.p).mono fun y Γ' ⟨Γ1',e,hq⟩=>by have:=k y Γ1' hq;rw[fC] at this;rw[e];exact this)
def vo (s:Nat):List PV→Bool
 | []=>true
 | y::ys=>match jU y.cellsOf s with
  | true=>match y.cC with
   | true=>vo s ys
   | false=>false
  | false=>false
theorem jO {s:Nat}: ∀ {ys:List PV},vo s ys=true→(∀ y∈ys,y.cellsOf.length=s)∧ ∀ y∈ys,y.cC=true
 | [],_=>by simp
 | y::ys,h=>by
  unfold vo at h
  split at h
  ·rename_i h1
   split at h
   ·rename_i h2
    have:=jO h;exact ⟨List.forall_mem_cons.2 ⟨eT h1,this.1⟩,List.forall_mem_cons.2 ⟨h2,this.2⟩⟩
   ·cases h
  ·cases h
theorem lq.lit {s:Nat} {ys:List PV} {e:TypeId} {K:PV→aj→Prop} (h:vo s ys=true) (k: ∀ t:Tok,t.e=e→K (.sl s ys (some t)) (.tok t)):lq s ys e K:=
 ⟨(jO h).1,(jO h).2,.inl k⟩
def E9 {q:Sort _}:List PV→(List PV→q)→q
 | [],k=>k []
 | y::ys,k=>E9 ys fun r=>vk y.cellsOf r k
theorem BS {q:Sort _}: ∀ (ys:List PV) (k:List PV→q),E9 ys k=k (flat ys)
 | [],_=>rfl
 | y::ys,k=>by simp only[E9,BS ys,gj];rfl
theorem Bg.lit {s:Nat} {ys:List PV} {K:List PV→Prop} (h:vo s ys=true) (k:E9 ys K):Bg s ys K:=
 ⟨(jO h).1,(jO h).2,by rw[BS] at k;exact k⟩
def aT (l:List Int) (v:Value):Option PV:=match v with
 | .int .i64 k=>if l.contains k then some .aY else none
 | _=>none
theorem fM.set {r:Nat} {l:List Int} {n:Int} {Γ:List aj} {aL:List (Int×Value)} {put:(Value→Option PV)→List (Int×Value)→List aj} [hp:de Γ r (.int .i64) (aT l) aL put] {K:PV→Bool→Prop} (h:K (.bool (l.contains n)) (l.contains n)):
  fM r (.int .i64) (some (.int .i64 n)) .bfalse Γ K:=
 fM.at_ (hp:=hp) (.bool (l.contains n)) (l.contains n) (by simp[oX,MapKept.IsKey]) (fun p hp=>by
  simp only[aT] at hp
  split at hp
  ·rename_i hc;cases hp;exact ⟨Wk.tt hc,hc⟩
  ·cases hp) (fun hn=>by
  simp only[aT] at hn
  split at hn
  ·cases hn
  ·rename_i hc;simp only[Bool.not_eq_true] at hc;exact ⟨Wk.ff hc,hc⟩) h
theorem nW (l:List Int) (n:Int):aT (n::l) (.int .i64 n)=some .aY:=by simp[aT]
theorem r9 (l:List Int) (n:Int) (k:Value) (h:k≠.int .i64 n):aT (n::l) k=aT l k:=by
 unfold aT
 split
 ·rename_i m
  have:m≠n:=fun e=>h (by rw[e]);simp[List.contains_cons,this]
 ·rfl
theorem qv {l m:List Int} (h: ∀ x,x∈l↔x∈m):aT l=aT m:=by
 funext v;unfold aT
 split
 ·rename_i k
  have:l.contains k=m.contains k:=by rw[Bool.eq_iff_iff];simp[h]
  rw[this]
 ·rfl
theorem gf.set {r:Nat} {l:List Int} {n:Int} {Γ:List aj} {aL:List (Int×Value)} {put:(Value→Option PV)→List (Int×Value)→List aj} [hp:de Γ r (.int .i64) (aT l) aL put] {K:List aj→Prop} (h:K (put (aT (n::l)) aL)) (hq:aT l (.int .i64 n)≠none∨ ∀ q∈aL,q.2≠.tuple #[]:=by right;simp):
  gf r (.int .i64) (some (.int .i64 n)) .aY Γ K:=
 gf.at_ (hp:=hp) (aT (n::l)) (by simp[oX,MapKept.IsKey]) (nW l n) (r9 l n) h hq
def yU (l:List Int) (n:Int) (z:PV) (v:Value):Option PV:=match v with
 | .int .i64 k=>if k=n then some z else aT l v
 | _=>none
theorem CR (l:List Int) (n:Int) (z:PV) (k:Value) (h:k≠.int .i64 n):yU l n z k=aT l k:=by
 unfold yU
 split
 ·rename_i m
  have:m≠n:=fun e=>h (by rw[e]);simp[this]
 ·rename_i hne
  unfold aT
  split
  ·rename_i m;exact absurd rfl (hne m)
  ·rfl
theorem ef.set {r:Nat} {l:List Int} {n:Int} {z:PV} {Γ:List aj} {aL:List (Int×Value)} {put:(Value→Option PV)→List (Int×Value)→List aj} [hp:de Γ r (.int .i64) (aT l) aL put] {K:PV→List aj→Prop} (hn:l.contains n=false)
  (h: ∀ j,K (.bn [z,.int .i64 j]) (put (yU l n z) ((j,.int .i64 n)::aL))) (hq:aT l (.int .i64 n)≠none∨ ∀ q∈aL,q.2≠.tuple #[]:=by right;simp):ef r (.int .i64) (some (.int .i64 n)) z Γ K:=by
 have hz:aT l (.int .i64 n)=none:=by simp only[aT,hn];rfl
 refine ef.at_ (hp:=hp) (yU l n z) (by simp[oX,MapKept.IsKey]) (by rw[hz];simp[yU]) (fun k hk=>CR l n z k hk) ?_ hq;intro j;rw[hz];exact h j
theorem cF.set {r:Nat} {l:List Int} {n j:Int} {z:PV} {Γ:List aj} {aL:List (Int×Value)} {put:(Value→Option PV)→List (Int×Value)→List aj} [hp:de Γ r (.int .i64) (yU l n z) ((j,.int .i64 n)::aL) put] {K:List aj→Prop}
  (h:K (put (aT (n::l)) ((j,.int .i64 n)::aL))):cF r j .aY Γ K:=
 cF.at_ (hp:=hp) (aT (n::l)) (nW l n) (fun k hk=>by rw[r9 l n k hk,CR l n z k hk]) h
theorem dZ.set {r:Nat} {l:List Int} {n:Int} {Γ:List aj} {aL:List (Int×Value)} {put:(Value→Option PV)→List (Int×Value)→List aj} [hp:de Γ r (.int .i64) (aT l) aL put] {K:List aj→Prop} (h:K (put (aT (l.filter (· !=n))) [])):
  dZ r (.int .i64) (some (.int .i64 n)) Γ K:=
 dZ.at_ (hp:=hp) (aT (l.filter (· !=n))) (by simp[oX,MapKept.IsKey]) (by simp[aT]) (fun k hk=>by
  unfold aT
  split
  ·rename_i m
   have hm:m≠n:=fun e=>hk (by rw[e]);have:(l.filter (· !=n)).contains m=l.contains m:=by rw[Bool.eq_iff_iff];simp[hm]
   rw[this]
  ·rfl) h
end
theorem au.aL {r:Nat} {d:TypeDesc} {m:Value→Option PV} {aL:List (Int×Value)} {Γ:List aj} {put:(Value→Option PV)→List (Int×Value)→List aj} [hp:de Γ r d m aL put]:au Γ (put m []):=fun w0 F M w hS=>by
 obtain ⟨Γ1,Γ2,e1,e2⟩:=hp.at_;rw[e1] at hS;rw[e2];have hS':aP w0 F (Γ1++.mp r d m aL::(Γ2++M)) w:=by simpa using hS
 have:=hS'.Kk (pend':= []) fun es clock _ hM=>⟨hM.st,hM.key,hM.get,hM.dom,by simp⟩
 exact ⟨F,Fz.le_refl F,by simpa using this⟩
theorem au.cN {Γ Γ':List aj} (r:Nat) {d:TypeDesc} {m:Value→Option PV} {aL:List (Int×Value)} {put:(Value→Option PV)→List (Int×Value)→List aj} [hp:de Γ r d m aL put] (h:Γ'=put m []:=by rfl):au Γ Γ':=h▸au.aL (hp:=hp)
theorem OA {p:Prop} (h:p:=by first | omega | (simp only[SS] at hg;omega)):p:=h
theorem gA {p:Prop} (h:p:=by first | exact hg | exact Nw hg | exact QX hg | exact Nw (Nw hg) | exact QX (Nw hg) | exact Nw (Nw (Nw hg)) | (simp_all;done)):p:=h
theorem nA {p:Prop} (h:p:=by first | exact Bool.or_not_self _ | exact Bool.not_or_self _):p:=h
theorem NA {p:Prop} (h:p:=by first | exact Bool.or_not_self _ | exact Bool.not_or_self _ | (rw[hg,Bool.true_and];first | exact Bool.or_not_self _ | exact Bool.not_or_self _) | (simp_all;done)):p:=h
theorem wA {p:Prop} (h:p:=by (repeat' (first|exact trivial|exact Wk.refl _|(refine And.intro ?_ ?_)|exact Wk.any _|exact Wk.eu rfl|exact Wk.tok _ _ _|exact Wk.ay _ _|exact Wk.tt rfl|exact Wk.ff rfl|exact Wk.int (by omega)|exact aX.nil|apply aX.cons|exact fR.nil|apply fR.cons|apply Wk.agg|apply Wk.bn))):p:=h
theorem cA {p:Prop} (h:p:=by (repeat' (first|exact aX.nil|apply aX.cons|exact Wk.refl _|exact Wk.int (by first|omega|(simp only[SS] at hg;omega))|exact Wk.tt rfl|exact Wk.ff rfl|exact Wk.eu rfl|exact Wk.tok _ _ _))):p:=h
theorem bA {p:Prop} (h:p:=by exact And.intro (Nat.le_of_ble_eq_true rfl) (Nat.le_of_ble_eq_true rfl)):p:=h
theorem IB.of {es:List PV} {K:Bool→Prop} (h: ∀ q,(q=true→es= [])→K q):IB es K:=⟨h⟩
theorem n0:type_of% @IB.of:= @IB.of
theorem zA:type_of% @fM.set:= @fM.set
theorem zB:type_of% @lq.none:= @lq.none
theorem zC:type_of% @IA.map:= @IA.map
theorem zD:type_of% @Dc.mk:= @Dc.mk
theorem zE:type_of% @gf.set:= @gf.set
theorem zF:type_of% @dZ.set:= @dZ.set
theorem zG:type_of% @me.go:= @me.go
theorem zH:type_of% @e7.box:= @e7.box
theorem zI:type_of% @iE.of:= @iE.of
theorem zJ:type_of% @lq.one:= @lq.one
theorem zK:type_of% @lq.lit:= @lq.lit
theorem zL:type_of% @e7.ep:= @e7.ep
theorem zM:type_of% @dA.lit:= @dA.lit
theorem zN:type_of% @bP.box:= @bP.box
theorem zO:type_of% @kz.ix:= @kz.ix
theorem zP:type_of% @dA.ix:= @dA.ix
theorem zQ:type_of% @ju.ok:= @ju.ok
theorem zR:type_of% @Gh.of:= @Gh.of
theorem zS:type_of% @eC.lo:= @eC.lo
theorem zT:type_of% @iS.lo:= @iS.lo
theorem zU:type_of% @eC.hi:= @eC.hi
theorem zV:type_of% @iS.hi:= @iS.hi
theorem zW:type_of% @Bi.of:= @Bi.of
theorem zX:type_of% @kj.ways:= @kj.ways
theorem zY:type_of% @e6.lazy:= @e6.lazy
theorem zZ:type_of% @oY.of:= @oY.of
theorem SY:((¬True)=False∧(¬False)=True∧(∀ a:Prop,(False∧a)=False)∧(∀ a:Prop,(a∧False)=False)∧(∀ a:Prop,(True∧a)=a)∧(∀ a:Prop,(a∧True)=a)∧(∀ a:Prop,(True∨a)=True)∧(∀ a:Prop,(a∨True)=True)∧(∀ a:Prop,(False∨a)=a)∧(∀ a:Prop,(a∨False)=a))∧
  ((∀ (p:Prop) [Decidable p],(decide p=true)=p)∧(∀ (p:Prop) [Decidable p],(decide p=false)= ¬ p)∧(∀ a b:Int,((a == b)=true)=(a=b))∧(∀ a b:Int,((a == b)=false)= ¬ (a=b))∧
  (∀ a b:List UInt8,((a == b)=true)=(a=b))∧(∀ a b:List UInt8,((a == b)=false)= ¬ (a=b))∧(∀ a b:Int,((a !=b)=true)= ¬ (a=b))∧(∀ a b:Int,((a !=b)=false)=(a=b))∧
  (∀ a b:Bool,((a && b)=true)=(a=true∧b=true))∧(∀ a b:Bool,((a && b)=false)=(a=false∨b=false))∧(∀ a b:Bool,((a || b)=true)=(a=true∨b=true))∧(∀ a b:Bool,((a || b)=false)=(a=false∧b=false))∧
  (∀ a:Bool,((!a)=true)=(a=false))∧(∀ a:Bool,((!a)=false)=(a=true))∧(∀ a b:Int,(¬ a < b)=(b≤a))∧(∀ a b:Int,(¬ a≤b)=(b < a))∧(∀ a b:Int,(a > b)=(b < a))∧(∀ a b:Int,(a≥b)=(b≤a))∧
  (∀ a:Prop,(¬ ¬ a)=a)∧(true=false)=False∧(false=true)=False):=⟨by simp,SS⟩
def mY:List Oper→Nat→List Nat→List Nat
 | [],_,_=> []
 | _::l,i,R=>match BO i R with
  | true=>mY l (i + 1) R
  | false=>i::mY l (i + 1) R
section
variable {P:Program} {tt:Nat→TI}
theorem aC.sP (d:Option Nat) {ops:Array Oper} (hd:vP ops=d) (R1 R2:List Nat) {T:List PV} {Γ:List aj} {K:List PV→List aj→Prop} (hk:TT.ok P tt) (hm:P.follows .mixedOrders=true)
  (h:gM P tt ops.toList (bM ops.toList (mY ops.toList 0 (R1++R2))) T Γ fun T'=>bU P tt ops.toList (bM ops.toList R1) T' [] [] fun T2 Γ1' _=>kS Γ1' Γ fun Γ'=>bU P tt ops.toList (bM ops.toList R2) T2 Γ' [] fun T' Γ' _=>K T' Γ')
  (hchk:nZ ops (y6 ops.toList []) (mY ops.toList 0 (R1++R2)) R1 R2=true:=by kernel_rfl):aC P ops T Γ K:=
 aC.split hk hm _ _ R1 R2 [] hchk h
theorem aC.sE {ops:Array Oper} (Γ1:List aj) (R1 R2:List Nat) {T:List PV} {Γ Γ2:List aj} {K:List PV→List aj→Prop} (hk:TT.ok P tt) (hm:P.follows .mixedOrders=true) [hp:bC Γ Γ1 Γ2]
  (h:gM P tt ops.toList (bM ops.toList (mY ops.toList 0 (R1++R2))) T Γ2 fun T'=>bU P tt ops.toList (bM ops.toList R1) T' Γ1 [] fun T2 Γ1' _=>kS Γ1' Γ2 fun Γ'=>bU P tt ops.toList (bM ops.toList R2) T2 Γ' [] fun T' Γ' _=>K T' Γ')
  (hchk:nZ ops (y6 ops.toList []) (mY ops.toList 0 (R1++R2)) R1 R2=true:=by kernel_rfl):aC P ops T Γ K:=
 aC.split hk hm _ _ R1 R2 Γ1 hchk h
theorem aC.sQ (d:Option Nat) {ops:Array Oper} (hd:vP ops=d) (R1 R2:List Nat) {T:List PV} {e:aj} {Γ2:List aj} {K:List PV→List aj→Prop} (hk:TT.ok P tt) (hm:P.follows .mixedOrders=true)
  (h:gM P tt ops.toList (bM ops.toList (mY ops.toList 0 (R1++R2))) T Γ2 fun T'=>bU P tt ops.toList (bM ops.toList R1) T' [e] [] fun T2 Γ1' _=>kS Γ1' Γ2 fun Γ'=>bU P tt ops.toList (bM ops.toList R2) T2 Γ' [] fun T' Γ' _=>K T' Γ')
  (hchk:nZ ops (y6 ops.toList []) (mY ops.toList 0 (R1++R2)) R1 R2=true:=by kernel_rfl):aC P ops T (e::Γ2) K:=
 aC.split hk hm _ _ R1 R2 [e] (hp:=⟨List.Perm.refl _⟩) hchk h
end
theorem pC:type_of% @av.pure:= @av.pure
theorem wR {T:List PV}:aX T T:=aX.refl _
theorem pS:type_of% @bJ.same:= @bJ.same
theorem pL:type_of% @bJ.lit:= @bJ.lit
theorem pE:type_of% @bJ.ep:= @bJ.ep
theorem Qh {p:Prop} (h:p:=by
 conv=>whnf
 repeat ((first|(refine zW ?_ ?_;exact gA)|refine zH rfl ?_|refine zA ?_|refine zI bA ?_|refine zI rfl ?_|refine zJ rfl rfl ?_|refine zB ?_|refine zK rfl ?_|refine zL rfl ?_|refine zC ?_|(refine zO ?_ ?_ ?_;exact OA;exact OA)|(refine zP ?_ ?_ ?_;exact OA;exact OA)|refine zM rfl ?_|(refine zQ ?_ ?_ ?_;exact OA;exact OA)|(refine zR ?_ ?_;exact OA)|(refine zI ?_ ?_;exact NA)|(refine zS ?_ ?_ ?_;exact OA;exact OA)|(refine zT ?_ ?_ ?_;exact OA;exact OA)|(refine zU ?_ ?_ ?_;exact OA;exact OA)|(refine zV ?_ ?_ ?_;exact OA;exact OA)|intro _);conv=>whnf)
 first | exact bJ.same | exact bJ.lit | exact bJ.ep):p:=h
structure Hd (q:Prop):Prop where
 h:q
theorem pZ {p:Prop} (h:p:=by first | exact bJ.same | exact bJ.lit | exact bJ.ep):p:=h
theorem aM {p q:Prop} (k:q) (h:Hd q→p:=by intro hq;(first | (refine zW ?_ ?_;exact gA) | refine zH rfl ?_ | refine zA ?_ | refine zI bA ?_ | refine zI rfl ?_ | refine zJ rfl rfl ?_ | refine zB ?_ | refine zK rfl ?_ | refine zL rfl ?_ | refine zC ?_ | (refine zO ?_ ?_ ?_;omega;omega) | (refine zP ?_ ?_ ?_;omega;omega) | refine zM rfl ?_ | (refine zQ ?_ ?_ ?_;omega;omega) | (refine zR ?_ ?_;omega) | (refine zI ?_ ?_;exact nA) | (refine zS ?_ ?_ ?_;omega;omega) | (refine zT ?_ ?_ ?_;omega;omega) | (refine zU ?_ ?_ ?_;omega;omega) | (refine zV ?_ ?_ ?_;omega;omega));exact hq.h):p:=h ⟨k⟩
theorem aG {p q:Prop} (k:q) (h:Hd q→p:=by intro hq;(first | (refine zW ?_ ?_;exact gA) | refine zA ?_ | refine zH rfl ?_ | refine zB ?_);exact hq.h):p:=h ⟨k⟩
theorem mj {p q:Prop} (k:q) (h:Hd q→p:=by intro hq;(conv=>whnf);(repeat1' ((first | ((first | (apply zY;intro hg) | apply zZ);exact Qh) | (refine zW ?_ ?_;exact gA) | refine zH rfl ?_ | refine zA ?_ | refine zI bA ?_ | refine zI rfl ?_ | refine zJ rfl rfl ?_ | refine zB ?_ | refine zK rfl ?_ | refine zL rfl ?_ | refine zC ?_ | (refine zO ?_ ?_ ?_;omega;omega) | (refine zP ?_ ?_ ?_;omega;omega) | refine zM rfl ?_ | (refine zQ ?_ ?_ ?_;omega;omega) | (refine zR ?_ ?_;omega) | (refine zI ?_ ?_;exact nA) | (refine zS ?_ ?_ ?_;omega;omega) | (refine zT ?_ ?_ ?_;omega;omega) | (refine zU ?_ ?_ ?_;omega;omega) | (refine zV ?_ ?_ ?_;omega;omega) | refine zN rfl rfl rfl ?_ | refine zD ?_ | refine zE ?_ | refine zF ?_);conv=>whnf));exact hq.h):p:=h ⟨k⟩
theorem dw {p q:Prop} (k:q) (h:Hd q→p:=by intro hq;(conv=>whnf);(repeat1' ((first | ((first | (apply zY;intro hg) | apply zZ);exact Qh) | (refine zW ?_ ?_;exact gA) | refine zH rfl ?_ | refine zA ?_ | refine zI bA ?_ | refine zI rfl ?_ | refine zJ rfl rfl ?_ | refine zB ?_ | refine zK rfl ?_ | refine zL rfl ?_ | refine zC ?_ | (refine zO ?_ ?_ ?_;omega;omega) | (refine zP ?_ ?_ ?_;omega;omega) | refine zM rfl ?_ | (refine zQ ?_ ?_ ?_;omega;omega) | (refine zR ?_ ?_;omega) | (refine zI ?_ ?_;exact nA) | (refine zS ?_ ?_ ?_;omega;omega) | (refine zT ?_ ?_ ?_;omega;omega) | (refine zU ?_ ?_ ?_;omega;omega) | (refine zV ?_ ?_ ?_;omega;omega) | refine zN rfl rfl rfl ?_ | refine zD ?_ | refine zE ?_ | refine zF ?_ | refine zG ?_);conv=>whnf));exact hq.h):p:=h ⟨k⟩
inductive Datum where
 | mk (kind n d:Int) (s:List UInt8) (l:List Datum)
def Datum.kind:Datum→Int | .mk k _ _ _ _=>k
def Datum.n:Datum→Int | .mk _ n _ _ _=>n
def Datum.d:Datum→Int | .mk _ _ d _ _=>d
def Datum.s:Datum→List UInt8 | .mk _ _ _ s _=>s
def Datum.l:Datum→List Datum | .mk _ _ _ _ l=>l
mutual
def Datum.pv:Datum→PV
 | .mk k n d s l=>.agg [.int .i64 k,.int .i64 n,.int .i64 d,.str s,.sl 5 (Datum.FU l) none]
def Datum.FU:List Datum→List PV
 | []=> []
 | x::xs=>Datum.pv x::Datum.FU xs
end
theorem Datum.nS: ∀ l:List Datum,Datum.FU l=l.map Datum.pv
 | []=>rfl
 | x::xs=>by simp only[Datum.FU,List.map_cons,Datum.nS xs]
def Datum.cells (x:Datum):List PV:= [.int .i64 x.kind,.int .i64 x.n,.int .i64 x.d,.str x.s,.sl 5 (x.l.map Datum.pv) none]
theorem Datum.gI (x:Datum):x.pv=.agg x.cells:=by
 cases x;simp only[Datum.pv,Datum.cells,Datum.nS,Datum.kind,Datum.n,Datum.d,Datum.s,Datum.l]
instance:cz Datum.pv Datum.cells:=⟨fun x=>by rw[Datum.gI];rfl⟩
mutual
theorem Datum.mu {p:Datum→Prop} (h: ∀ x:Datum,(∀ y∈x.l,p y)→p x): ∀ d,p d
 | .mk k n d s l=>h (.mk k n d s l) (Datum.jb h l)
theorem Datum.jb {p:Datum→Prop} (h: ∀ x:Datum,(∀ y∈x.l,p y)→p x): ∀ (l:List Datum), ∀ x∈l,p x
 | []=>by simp
 | y::ys=>List.forall_mem_cons.2 ⟨Datum.mu h y,Datum.jb h ys⟩
end
theorem Datum.ind {p:Datum→Prop} (h: ∀ x:Datum,(∀ y∈x.l,p y)→p x) (d:Datum):p d:=Datum.mu h d
inductive aa where
 | mk (op n:Int) (v:List Int) (t:List aa)
def aa.op:aa→Int | .mk o _ _ _=>o
def aa.n:aa→Int | .mk _ n _ _=>n
def aa.v:aa→List Int | .mk _ _ v _=>v
def aa.t:aa→List aa | .mk _ _ _ t=>t
mutual
def aa.pv:aa→PV
 | .mk o n v t=>.agg [.int .i64 o,.int .i64 n,.sl 1 (v.map (PV.int .i64)) none,.sl 4 (aa.FU t) none]
def aa.FU:List aa→List PV
 | []=> []
 | x::xs=>aa.pv x::aa.FU xs
end
theorem aa.nS: ∀ l:List aa,aa.FU l=l.map aa.pv
 | []=>rfl
 | x::xs=>by simp only[aa.FU,List.map_cons,aa.nS xs]
def aa.cells (x:aa):List PV:= [.int .i64 x.op,.int .i64 x.n,.sl 1 (x.v.map (PV.int .i64)) none,.sl 4 (x.t.map aa.pv) none]
theorem aa.gI (x:aa):x.pv=.agg x.cells:=by
 cases x;simp only[aa.pv,aa.cells,aa.nS,aa.op,aa.n,aa.v,aa.t]
instance:cz aa.pv aa.cells:=⟨fun x=>by rw[aa.gI];rfl⟩
mutual
theorem aa.mu {p:aa→Prop} (h: ∀ x:aa,(∀ y∈x.t,p y)→p x): ∀ d,p d
 | .mk o n v t=>h (.mk o n v t) (aa.jb h t)
theorem aa.jb {p:aa→Prop} (h: ∀ x:aa,(∀ y∈x.t,p y)→p x): ∀ (l:List aa), ∀ x∈l,p x
 | []=>by simp
 | y::ys=>List.forall_mem_cons.2 ⟨aa.mu h y,aa.jb h ys⟩
end
theorem aa.ind {p:aa→Prop} (h: ∀ x:aa,(∀ y∈x.t,p y)→p x) (d:aa):p d:=aa.mu h d
def mN (c:UInt8):Bool:=decide ((c.toNat:Int) < 32) || decide ((c.toNat:Int) > 126) || (c.toNat:Int) == 34 || (c.toNat:Int) == 92
theorem aI {α:Type} {l:List α} {i:Nat} (h:i < l.length):l.drop i=l[i]::l.drop (i + 1):=List.drop_eq_getElem_cons h
theorem dP {s:List UInt8} {i:Nat} (h:i < s.length):s.drop i=s.getD i 0::s.drop (i + 1):=by
 rw[aI h];simp[List.getD,h]
mutual
def Datum.sk:Datum→Int→Int
 | .mk _ _ _ _ l,left=>Datum.fh l (left - 1)
def Datum.fh:List Datum→Int→Int
 | [],left=>left
 | x::xs,left=>if 0≤left then Datum.fh xs (Datum.sk x left) else left
end
mutual
def aa.sk:aa→Int→Int
 | .mk _ _ _ l,left=>aa.fh l (left - 1)
def aa.fh:List aa→Int→Int
 | [],left=>left
 | x::xs,left=>if 0≤left then aa.fh xs (aa.sk x left) else left
end
theorem Datum.sC (x:Datum) (n:Int):x.sk n=Datum.fh x.l (n - 1):=by cases x;rfl
theorem aa.sC (x:aa) (n:Int):x.sk n=aa.fh x.t (n - 1):=by cases x;rfl
theorem Datum.Ad (d:Datum): ∀ left:Int,0≤left→ -1≤d.sk left∧d.sk left < left:=by
 induction d using Datum.ind with
 | h d ih=>
  intro left h0;rw[Datum.sC]
  have key: ∀ (l:List Datum),(∀ x∈l, ∀ left:Int,0≤left→ -1≤x.sk left∧x.sk left < left)→ ∀ left:Int, -1≤left→ -1≤Datum.fh l left∧Datum.fh l left≤left:=by
   intro l
   induction l with
   | nil=>intro _ left h;rw[Datum.fh];omega
   | cons x xs ihx=>
    intro hx left h;rw[Datum.fh]
    split
    ·have h1:=hx x (by simp) left (by omega)
     have h2:=ihx (fun y hy=>hx y (by simp[hy])) (x.sk left) (by omega);omega
    ·omega
  have:=key d.l ih (left - 1) (by omega);omega
theorem aa.Ad (d:aa): ∀ left:Int,0≤left→ -1≤d.sk left∧d.sk left < left:=by
 induction d using aa.ind with
 | h d ih=>
  intro left h0;rw[aa.sC]
  have key: ∀ (l:List aa),(∀ x∈l, ∀ left:Int,0≤left→ -1≤x.sk left∧x.sk left < left)→ ∀ left:Int, -1≤left→ -1≤aa.fh l left∧aa.fh l left≤left:=by
   intro l
   induction l with
   | nil=>intro _ left h;rw[aa.fh];omega
   | cons x xs ihx=>
    intro hx left h;rw[aa.fh]
    split
    ·have h1:=hx x (by simp) left (by omega)
     have h2:=ihx (fun y hy=>hx y (by simp[hy])) (x.sk left) (by omega);omega
    ·omega
  have:=key d.t ih (left - 1) (by omega);omega
mutual
def Datum.aQ:Datum→Nat
 | .mk _ _ _ s l=>1 + s.length + Datum.aD l
def Datum.aD:List Datum→Nat
 | []=>0
 | x::xs=>Datum.aQ x + Datum.aD xs
end
mutual
def aa.aQ:aa→Nat
 | .mk _ _ v l=>1 + v.length + aa.aD l
def aa.aD:List aa→Nat
 | []=>0
 | x::xs=>aa.aQ x + aa.aD xs
end
theorem Datum.bu (x:Datum):x.aQ=1 + x.s.length + Datum.aD x.l:=by cases x;rfl
theorem aa.bu (x:aa):x.aQ=1 + x.v.length + aa.aD x.t:=by cases x;rfl
theorem aa.bz {x:aa}: ∀ {l:List aa},x∈l→x.aQ≤aa.aD l
 | [],h=>by simp at h
 | y::l,h=>by
  rw[aa.aD];rcases List.mem_cons.1 h with rfl | h
  ·omega
  ·have:=aa.bz h;omega
theorem Datum.aU: ∀ l:List Datum,l.length≤Datum.aD l
 | []=>by simp
 | x::l=>by have:=Datum.aU l;have:=x.bu;rw[Datum.aD,List.length_cons];omega
theorem aa.aU: ∀ l:List aa,l.length≤aa.aD l
 | []=>by simp
 | x::l=>by have:=aa.aU l;have:=x.bu;rw[aa.aD,List.length_cons];omega
set_option maxHeartbeats 4000000
theorem Nb (a b:Nat) (ha:a < 18446744073709551616) (hb:b < 18446744073709551616):aA Tryz.prog 201 [.int .u64 a,.int .u64 b] (.int .u64 (Nat.gcd a b:Nat)):=by
 refine af.ah ai Tryz.func201 rfl rfl (n:=14) rfl rfl ?_
 conv=>whnf
 skip
 refine aq.kB (fun | ((a',b'):Nat×Nat)=> [(0,.int .u64 a'),(1,.int .u64 b')]) (fun _=> []) (fun | (a',b')=>Nat.gcd a' b'=Nat.gcd a b∧a' < 18446744073709551616∧b' < 18446744073709551616) (fun | (_,b')=>b') 14
  (a,b) ⟨rfl,ha,hb⟩ rfl wA ?_
 rintro ⟨a',b'⟩ ⟨hg,ha',hb'⟩
 conv=>whnf
 refine ⟨fun hc=>?_,fun hc=>?_⟩
 ·conv=>whnf
  simp only[SS] at hc;refine ⟨by omega,?_⟩
  conv=>whnf
  have hb0:0 < b':=by omega
  refine Ck (b',a' % b') ⟨?_,hb',Nat.lt_trans (Nat.mod_lt _ hb0) hb'⟩ (Nat.mod_lt _ hb0) rfl (And.intro (Wk.refl _) <| And.intro (Wk.int (Int.ofNat_tmod ..).symm) trivial);rw[←hg,Nat.gcd_comm a' b',Nat.gcd_rec b' a',Nat.gcd_comm]
 ·conv=>whnf
  simp only[SS] at hc;have hb0:b'=0:=by omega
  subst hb0;refine ak.pure (Wk.int ?_);rw[←hg,Nat.gcd_zero_right]
theorem Ey (n:Int) (h1: -9223372036854775808≤n) (h2:n≤9223372036854775807):aA Tryz.prog 202 [.int .i64 n] (.int .u64 n.natAbs):=by
 refine af.ah ai Tryz.func202 rfl rfl (n:=10) rfl rfl ?_
 conv=>whnf
 skip
 refine ⟨fun hc=>?_,fun hc=>?_⟩
 ·conv=>whnf
  simp only[SS] at hc;refine ju.u9 (by omega) hc ?_
  conv=>whnf
  refine ju.u9 (by omega) (by omega) ?_
  conv=>whnf
  refine ak.pure (Wk.int (by omega))
 ·conv=>whnf
  simp only[SS] at hc;refine ju.u64 hc (by omega) ?_
  conv=>whnf
  refine ak.pure (Wk.int (by omega))
theorem BA (a b:Nat) (ha:a < 18446744073709551616) (hb:b < 18446744073709551616):aA Tryz.prog 219 [.int .u64 a,.int .u64 b] (.int .u64 (Nat.gcd a b:Nat)):=by
 refine af.ah ai Tryz.func219 rfl rfl (n:=12) rfl rfl ?_
 conv=>whnf
 skip
 refine aq.kB (fun | ((a',b'):Nat×Nat)=> [(0,.int .u64 a'),(1,.int .u64 b')]) (fun _=> []) (fun | (a',b')=>Nat.gcd a' b'=Nat.gcd a b∧a' < 18446744073709551616∧b' < 18446744073709551616) (fun | (_,b')=>b') 12
  (a,b) ⟨rfl,ha,hb⟩ rfl wA ?_
 rintro ⟨a',b'⟩ ⟨hg,ha',hb'⟩
 conv=>whnf
 refine ⟨fun hc=>?_,fun hc=>?_⟩
 ·conv=>whnf
  simp only[SS] at hc;have hb0:b'=0:=by omega
  subst hb0;refine ak.pure (Wk.int ?_);rw[←hg,Nat.gcd_zero_right]
 ·conv=>whnf
  simp only[SS] at hc;have hb0:0 < b':=by omega
  refine aC.sE [] [] [] ai mixed ?_
  conv=>whnf
  apply oY.of
  ·conv=>whnf
   exact bJ.same
  conv=>whnf
  apply oY.of
  ·conv=>whnf
   exact bJ.same
  conv=>whnf
  apply oY.of
  ·conv=>whnf
   exact bJ.same
  conv=>whnf
  apply oY.of
  ·conv=>whnf
   refine ⟨by omega,?_⟩
   conv=>whnf
   exact bJ.same
  conv=>whnf
  apply oY.of
  ·conv=>whnf
   exact bJ.same
  conv=>whnf
  apply oY.of
  ·conv=>whnf
   exact bJ.same
  conv=>whnf
  refine Ck (b',a' % b') ⟨?_,hb',Nat.lt_trans (Nat.mod_lt _ hb0) hb'⟩ (Nat.mod_lt _ hb0) rfl (And.intro (Wk.refl _) <| And.intro (Wk.int (Int.ofNat_tmod ..).symm) trivial);rw[←hg,Nat.gcd_comm a' b',Nat.gcd_rec b' a',Nat.gcd_comm]
theorem vj (n:Int) (h1: -9223372036854775808≤n) (h2:n≤9223372036854775807):aA Tryz.prog 220 [.int .i64 n] (.int .u64 n.natAbs):=by
 refine af.ah ai Tryz.func220 rfl rfl (n:=10) rfl rfl ?_
 conv=>whnf
 skip
 refine ⟨fun hc=>?_,fun hc=>?_⟩
 ·conv=>whnf
  simp only[SS] at hc;refine ju.u9 (by omega) hc ?_
  conv=>whnf
  refine ju.u9 (by omega) (by omega) ?_
  conv=>whnf
  refine ak.pure (Wk.int (by omega))
 ·conv=>whnf
  simp only[SS] at hc;refine ju.u64 hc (by omega) ?_
  conv=>whnf
  refine ak.pure (Wk.int (by omega))
def cM (n d:Int):Bool:=decide (1≤d) && (decide (d≤2147483647) && (decide (-2147483647≤n) && (decide (n≤2147483647) && (Nat.gcd n.natAbs d.natAbs == 1))))
theorem Kl (n d:Int):aA Tryz.prog 162 [.int .i64 n,.int .i64 d] (.bool (cM n d)):=by
 refine af.ah ai Tryz.func162 rfl rfl (n:=27) rfl rfl ?_
 conv=>whnf
 repeat' (first|refine dw ?_|(((((apply zY;intro hg));(conv=>whnf);(repeat ((first|refine pC (Ey _ OA OA) wR ?_|refine pC (Nb n.natAbs d.natAbs OA OA) cA ?_|refine aG ?_);conv=>whnf));exact pZ));conv=>whnf)|(refine zX (fun hc=>?_) (fun hc=>?_)<;>(try simp only[SY] at hc)<;>omega))
 exact ak.pure (Wk.bool (by rw[Bool.eq_iff_iff];simp[cM];omega))
theorem Kn (n d:Int):aA Tryz.prog 174 [.int .i64 n,.int .i64 d] (.bool (cM n d)):=by
 refine af.ah ai Tryz.func174 rfl rfl (n:=27) rfl rfl ?_
 conv=>whnf
 repeat' (first|refine dw ?_|(((((apply zY;intro hg));(conv=>whnf);(repeat ((first|refine pC (vj _ OA OA) wR ?_|refine pC (BA n.natAbs d.natAbs OA OA) cA ?_|refine aG ?_);conv=>whnf));exact pZ));conv=>whnf)|(refine zX (fun hc=>?_) (fun hc=>?_)<;>(try simp only[SY] at hc)<;>omega))
 exact ak.pure (Wk.bool (by rw[Bool.eq_iff_iff];simp[cM];omega))
def ei (c:UInt8):Bool:=decide (48≤c.toNat) && decide (c.toNat≤57)
def eD (l:List UInt8):Nat:=l.foldl (fun n c=>10 * n + (c.toNat - 48)) 0
def iB:List UInt8→Nat
 | []=>0
 | c::s=>if ei c then iB s + 1 else 0
def bT (s:List UInt8):Nat×Nat:=if 10 < iB s then (0,0) else (eD (s.take (iB s)),iB s)
theorem tR (l:List UInt8) (c:UInt8):eD (l++ [c])=10 * eD l + (c.toNat - 48):=by simp[eD]
theorem oc (l:List UInt8) (h: ∀ c∈l,ei c=true):eD l < 10 ^ l.length:=by
 suffices ∀ (l:List UInt8) (m:Nat),(∀ c∈l,ei c=true)→l.foldl (fun n c=>10 * n + (c.toNat - 48)) m < (m + 1) * 10 ^ l.length by
  have:=this l 0 h;simpa[eD] using this
 intro l
 induction l with
 | nil=>intro m _;simp
 | cons c l ih=>
  intro m h;rw[List.foldl_cons];have h1:=h c (by simp);have h2:=ih (10 * m + (c.toNat - 48)) (fun c hc=>h c (by simp[hc]));simp only[ei,Bool.and_eq_true,decide_eq_true_eq] at h1;refine Nat.lt_of_lt_of_le h2 ?_;rw[List.length_cons,Nat.pow_succ,Nat.mul_comm (10 ^ l.length) 10, ←Nat.mul_assoc];exact Nat.mul_le_mul_right _ (by omega)
theorem EZ: ∀ (s:List UInt8) (k:Nat),(∀ c∈s.take k,ei c=true)→k≤s.length→(∀ c,s[k]?=some c→ei c=false)→iB s=k
 | [],k,_,h,_=>by simp at h;rw[iB,h]
 | c::s,0,_,_,h=>by simp[iB,h c (by simp)]
 | c::s,k + 1,h1,h2,h3=>by
  rw[iB,if_pos (h1 c (by simp)),EZ s k (fun c hc=>h1 c (by simp[hc])) (by simpa using h2) (fun c hc=>h3 c (by simpa using hc))]
theorem BJ: ∀ (s:List UInt8), ∀ c∈s.take (iB s),ei c=true
 | [],c,h=>by simp at h
 | d::s,c,h=>by
  rw[iB] at h
  split at h
  ·rename_i hd
   rw[List.take_succ_cons] at h;rcases List.mem_cons.1 h with rfl | h
   ·exact hd
   ·exact BJ s c h
  ·simp at h
theorem E0: ∀ (s:List UInt8),iB s≤s.length
 | []=>by simp[iB]
 | d::s=>by rw[iB];split<;>simp[E0 s]
theorem Of (s:List UInt8):aA Tryz.prog 199 [.str s] (.bn [.int .i64 (bT s).1,.int .i64 (bT s).2]):=by
 refine af.ah ai Tryz.func199 rfl rfl (n:=38) rfl rfl ?_
 conv=>whnf
 skip
 refine aq.keep [4,5,6,7,8,9,10,11,12,13,14,15,16,17,18,19,20,21,22,23,24,25,26,27,28,29,30,31,32,33] (fun k:Nat=> [(4,.int .i64 (eD ((s.take k).take 10))),(5,.int .i64 k)])
  (fun k=>k≤s.length∧ ∀ c∈s.take k,ei c=true) (fun k=>s.length - k) 0 ⟨by omega,by simp⟩ wA ?_
 rintro k ⟨hk,hd⟩;have hv:eD ((s.take k).take 10) < 10 ^ 10:=Nat.lt_of_lt_of_le (oc _ fun c hc=>hd c (List.mem_of_mem_take hc)) (Nat.pow_le_pow_right (by omega) (by simp;omega));have fG: ∀ c,s[k]?=some c→s.getD k 0=c:=fun c hc=>by rw[List.getD,hc];rfl
 conv=>whnf
 repeat' (first|refine dw ?_|((intro _);conv=>whnf)|(refine zX (fun hc=>?_) (fun hc=>?_)<;>(try simp only[SY] at hc)<;>(conv=>whnf)))
 ·have hlt:k < s.length:=by omega
  have htk:s.take (k + 1)=s.take k++ [s.getD k 0]:=by rw[List.take_add_one];simp[hlt]
  have e:10 * (eD ((s.take k).take 10):Int) + (((s.getD k 0).toNat:Int) - 48)=eD ((s.take (k + 1)).take 10):=by
   rw[List.take_take,List.take_take,Nat.min_eq_right (by omega),Nat.min_eq_right (by omega),htk,tR];omega
  refine an (k + 1) ⟨by omega,fun x hx=>?_⟩ (by show s.length - (k + 1) < s.length - k;omega) wA;rw[htk] at hx;rcases List.mem_append.1 hx with hx | hx
  ·exact hd x hx
  ·rw[List.mem_singleton.1 hx];simp only[ei,Bool.and_eq_true,decide_eq_true_eq];omega
 ·have hlt:k < s.length:=by omega
  have htk:s.take (k + 1)=s.take k++ [s.getD k 0]:=by rw[List.take_add_one];simp[hlt]
  have e:(eD ((s.take k).take 10):Int)=eD ((s.take (k + 1)).take 10):=by
   rw[List.take_take,List.take_take,Nat.min_eq_left (by omega),Nat.min_eq_left (by omega)]
  refine an (k + 1) ⟨by omega,fun x hx=>?_⟩ (by show s.length - (k + 1) < s.length - k;omega) wA;rw[htk] at hx;rcases List.mem_append.1 hx with hx | hx
  ·exact hd x hx
  ·rw[List.mem_singleton.1 hx];simp only[ei,Bool.and_eq_true,decide_eq_true_eq];omega
 all_goals
  have hdk:iB s=k:=EZ s k hd hk fun c hc1=>by
   have hlt:k < s.length:=(List.getElem?_eq_some_iff.1 hc1).1;rw[fG c hc1] at *;simp only[ei,Bool.and_eq_false_iff,decide_eq_false_iff_not];omega
  refine ak.pure (Wk.eq ?_)
 ·rw[bT,if_pos (by omega)]
  rfl
 ·rw[bT,if_neg (by omega),List.take_take,Nat.min_eq_right (by omega),hdk]
def kI (n d:Int):Int×Int×Int:=
 if d=0 then (0,0,4) else
 if 2147483647 < n.natAbs / Nat.gcd n.natAbs d.natAbs∨2147483647 < d.natAbs / Nat.gcd n.natAbs d.natAbs then (0,0,3) else
 if decide (n < 0)≠decide (d < 0) then (-((n.natAbs / Nat.gcd n.natAbs d.natAbs:Nat):Int),(d.natAbs / Nat.gcd n.natAbs d.natAbs:Nat),0) else
 ((n.natAbs / Nat.gcd n.natAbs d.natAbs:Nat),(d.natAbs / Nat.gcd n.natAbs d.natAbs:Nat),0)
def JN (n d:Int) (a b:Nat):Int×Int×Int:=
 if 2147483647 < a∨2147483647 < b then (0,0,3) else if decide (n < 0)≠decide (d < 0) then (-(a:Int),(b:Int),0) else ((a:Int),(b:Int),0)
theorem Cp (n d:Int) (h:d≠0):kI n d=JN n d (n.natAbs / Nat.gcd n.natAbs d.natAbs) (d.natAbs / Nat.gcd n.natAbs d.natAbs):=by rw[kI,if_neg h];rfl
def MS (x:Int×Int×Int):PV:=.bn [.int .i64 x.1,.int .i64 x.2.1,.int .i64 x.2.2]
theorem Md (n d:Int) (h1: -9223372036854775808≤n) (h2:n≤9223372036854775807) (h3: -9223372036854775808≤d) (h4:d≤9223372036854775807):
  aA Tryz.prog 200 [.int .i64 n,.int .i64 d] (MS (kI n d)):=by
 refine af.ah ai Tryz.func200 rfl rfl (n:=45) rfl rfl ?_
 conv=>whnf
 skip
 refine ⟨fun hc=>?_,fun hc=>?_⟩
 ·conv=>whnf
  skip
  simp only[SS] at hc;exact ak.pure (Wk.eq (by rw[kI,if_pos hc];rfl))
 conv=>whnf
 skip
 simp only[SS] at hc;have hd0:=hc;refine av.pure (Ey n h1 h2) (aX.refl _) ?_
 conv=>whnf
 skip
 refine av.pure (Ey d h3 h4) (aX.refl _) ?_
 conv=>whnf
 skip
 have ha:n.natAbs≤9223372036854775808:=by omega
 have hb:d.natAbs≤9223372036854775808:=by omega
 refine av.pure (Nb n.natAbs d.natAbs (by omega) (by omega)) (aX.refl _) ?_;have hg:0 < Nat.gcd n.natAbs d.natAbs:=Nat.gcd_pos_of_pos_right _ (by omega);have hm:=Cp n d hd0;generalize hgg:Nat.gcd n.natAbs d.natAbs=g at *;have qa:n.natAbs / g≤9223372036854775808:=Nat.le_trans (Nat.div_le_self _ _) ha;have qb:d.natAbs / g≤9223372036854775808:=Nat.le_trans (Nat.div_le_self _ _) hb;have ea:(n.natAbs:Int).tdiv (g:Int)=(n.natAbs / g:Nat):=(Int.ofNat_tdiv _ _).symm;have eb:(d.natAbs:Int).tdiv (g:Int)=(d.natAbs / g:Nat):=(Int.ofNat_tdiv _ _).symm;unfold JN at hm;generalize n.natAbs / g=a at *;generalize d.natAbs / g=b at *
 conv=>whnf
 repeat (refine mj ?_)
 rw[ea,eb]
 conv=>whnf
 repeat' (first|refine dw ?_|(refine zX (fun hc=>?_) (fun hc=>?_)<;>(try simp only[SY] at hc)<;>(conv=>whnf)))
 ·exact ak.pure (Wk.eq (by rw[hm,if_pos (by omega)];rfl))
 ·rw[if_neg (by omega)] at hm
  refine ak.pure (Wk.eq ?_);rw[hm,if_pos (by simpa using hc)];simp[MS]
 ·rw[if_neg (by omega)] at hm
  refine ak.pure (Wk.eq ?_);rw[hm,if_neg (by simpa using hc)];rfl
theorem Jc {p q:Prop} (k:q) (h:q→p:=by intro hq;first | exact aC.sP (some 19) rfl [] [] ai mixed hq):p:=h k
theorem Me (n d:Int) (h1: -9223372036854775808≤n) (h2:n≤9223372036854775807) (h3: -9223372036854775808≤d) (h4:d≤9223372036854775807):
  aA Tryz.prog 254 [.int .i64 n,.int .i64 d] (MS (kI n d)):=by
 refine af.ah ai Tryz.func254 rfl rfl (n:=45) rfl rfl ?_
 conv=>whnf
 skip
 refine ⟨fun hc=>?_,fun hc=>?_⟩
 ·conv=>whnf
  skip
  simp only[SS] at hc;exact ak.pure (Wk.eq (by rw[kI,if_pos hc];rfl))
 conv=>whnf
 skip
 simp only[SS] at hc;have hd0:=hc;refine av.pure (vj n h1 h2) (aX.refl _) ?_
 conv=>whnf
 skip
 refine av.pure (vj d h3 h4) (aX.refl _) ?_
 conv=>whnf
 skip
 have ha:n.natAbs≤9223372036854775808:=by omega
 have hb:d.natAbs≤9223372036854775808:=by omega
 refine av.pure (BA n.natAbs d.natAbs (by omega) (by omega)) (aX.refl _) ?_;have hg:0 < Nat.gcd n.natAbs d.natAbs:=Nat.gcd_pos_of_pos_right _ (by omega);have hm:=Cp n d hd0;generalize hgg:Nat.gcd n.natAbs d.natAbs=g at *;have qa:n.natAbs / g≤9223372036854775808:=Nat.le_trans (Nat.div_le_self _ _) ha;have qb:d.natAbs / g≤9223372036854775808:=Nat.le_trans (Nat.div_le_self _ _) hb;have ea:(n.natAbs:Int).tdiv (g:Int)=(n.natAbs / g:Nat):=(Int.ofNat_tdiv _ _).symm;have eb:(d.natAbs:Int).tdiv (g:Int)=(d.natAbs / g:Nat):=(Int.ofNat_tdiv _ _).symm;unfold JN at hm;generalize n.natAbs / g=a at *;generalize d.natAbs / g=b at *
 conv=>whnf
 repeat (first|refine mj ?_|((refine Jc ?_);conv=>whnf))
 rw[ea,eb]
 conv=>whnf
 repeat' (first|refine dw ?_|(refine zX (fun hc=>?_) (fun hc=>?_)<;>(try simp only[SY] at hc)<;>(conv=>whnf)))
 ·exact ak.pure (Wk.eq (by rw[hm,if_pos (by omega)];rfl))
 ·rw[if_neg (by omega)] at hm
  refine ak.pure (Wk.eq ?_);rw[hm,if_pos (by simpa using hc)];simp[MS]
 ·rw[if_neg (by omega)] at hm
  refine ak.pure (Wk.eq ?_);rw[hm,if_neg (by simpa using hc)];rfl
def mF (s:List UInt8):Bool:=s.head? == some 45
def iF (s:List UInt8):List UInt8:=if mF s then s.drop 1 else s
def jW (s:List UInt8) (k:Nat):Option Nat:=
 if k < s.length then
  if s[k]?=some 47∧(bT (s.drop (k + 1))).2≠0∧k + 1 + (bT (s.drop (k + 1))).2=s.length then some (bT (s.drop (k + 1))).1 else none
 else some 1
def jo (s:List UInt8):Int×Int×Bool:=
 if (bT (iF s)).2=0 then (0,0,false) else
 match jW (iF s) (bT (iF s)).2 with
 | none=>(0,0,false)
 | some d=>
  let x:=kI (if mF s then -((bT (iF s)).1:Int) else (bT (iF s)).1) d
  (x.1,x.2.1,x.2.2 == 0)
theorem yK (s:List UInt8):jo s=if (bT (iF s)).2=0 then (0,0,false) else
 match jW (iF s) (bT (iF s)).2 with
 | none=>(0,0,false)
 | some d=>
  let x:=kI (if mF s then -((bT (iF s)).1:Int) else (bT (iF s)).1) d
  (x.1,x.2.1,x.2.2 == 0):=rfl
def EI (x:Int×Int×Bool):PV:=.bn [.int .i64 x.1,.int .i64 x.2.1,.bool x.2.2]
theorem CA (s:List UInt8):(bT s).1 < 10000000000∧(bT s).2≤10∧(bT s).2≤s.length:=by
 unfold bT
 split
 ·simp
 ·rename_i h
  have h1:=oc (s.take (iB s)) (BJ s);have h2:=E0 s;refine ⟨Nat.lt_of_lt_of_le h1 ?_,by omega,h2⟩;have:10 ^ (s.take (iB s)).length≤10 ^ 10:=Nat.pow_le_pow_right (by omega) (by simp;omega);omega
theorem si:Wk (.bn [.int .i64 0,.int .i64 0,.bfalse]) (EI (0,0,false)):=Wk.bn (.cons (Wk.refl _) (.cons (Wk.refl _) (.cons (Wk.ff rfl) .nil)))
theorem EW (c d:UInt8):((c.toNat:Int) == (d.toNat:Int))=(c == d):=by
 rw[Bool.eq_iff_iff,beq_iff_eq,beq_iff_eq, ←UInt8.toNat_inj];omega
theorem HA (c:UInt8) (r:List UInt8):((c.toNat:Int) == 45)=mF (c::r):=by
 have:=EW c 45;rw[show ((45:UInt8).toNat:Int)=45 from rfl] at this;rw[this];rfl
theorem FG (s:List UInt8):(decide ((s.length:Int) > 0) && ((s.getD 0 0).toNat:Int) == 45)=mF s:=by
 cases s with
 | nil=>rfl
 | cons c r=>
  rw[show (decide (((c::r).length:Int) > 0))=true by simp,Bool.true_and];exact HA c r
theorem getD_eq {s:List UInt8} {k:Nat} (c:UInt8) (h:k < s.length):(s[k]?=some c↔((s.getD k 0).toNat:Int)=c.toNat):=by
 rw[List.getD,List.getElem?_eq_getElem h,Option.getD_some,Option.some.injEq, ←UInt8.toNat_inj];omega
theorem K5 (s:List UInt8):(iF s).length≤s.length:=by
 unfold iF
 split
 ·rw[List.length_drop];omega
 ·omega
theorem Cz (s:List UInt8):aA Tryz.prog 161 [.str s] (EI (jo s)):=by
 refine af.ah ai Tryz.func161 rfl rfl (n:=72) rfl rfl ?_
 conv=>whnf
 skip
 refine me.go ?_
 conv=>whnf
 repeat (first|refine mj ?_|((intro _);conv=>whnf))
 rename_i hlen;have hul:=K5 s;refine me.keep (fun _:Unit=> [(0,.str (iF s))]) (fun _=>True) ?_ ?_
 ·rw[FG]
  conv=>whnf
  repeat' ((refine zX (fun hc=>?_) (fun hc=>?_)<;>(try simp only[SY] at hc)<;>(conv=>whnf)))
  ·refine eC.lo (by omega) (by cases s<;>simp_all [mF];omega) ?_
   conv=>whnf
   exact fH () trivial (And.intro (Wk.str (by rw[iF,if_pos hc])) wA)
  ·exact fH () trivial (And.intro (Wk.str (by rw[iF,hc];rfl)) wA)
 ·rintro _ _
  rw[FG];have hP:=yK s;generalize mF s=neg at *;generalize iF s=u at *;have hb:=CA u;have hb2:=fun k=>CA (u.drop k);have hl:jW u (bT u).2=if (bT u).2 < u.length then if u[(bT u).2]?=some 47∧(bT (u.drop ((bT u).2 + 1))).2≠0∧(bT u).2 + 1 + (bT (u.drop ((bT u).2 + 1))).2=u.length then some (bT (u.drop ((bT u).2 + 1))).1 else none else some 1:=rfl
  have hb3:=hb2 ((bT u).2 + 1);clear hb2;have h47:=fun h=>getD_eq (s:=u) (k:=(bT u).2) 47 h;simp only[show ((47:UInt8).toNat:Int)=47 from rfl] at h47
  conv=>whnf
  repeat' (first|refine dw ?_|((first|refine pC (Of _) wR ?_|refine pC (Md _ _ OA OA OA OA) wR ?_|intro _);conv=>whnf)|(refine zX (fun hc=>?_) (fun hc=>?_)<;>(try simp only[SY] at hc)<;>(conv=>whnf)))
  all_goals rw[hP]
  ·rw[if_pos (by omega)]
   exact ak.pure si
  ·rw[if_neg (by omega),hl,if_pos (by omega),if_neg (by omega)]
   exact ak.pure si
  ·rw[if_neg (by omega),hl,if_pos (by omega),if_pos ⟨(h47 (by omega)).2 (by omega),by omega,by omega⟩,hc]
   exact ak.pure (Wk.eq (by simp only[EI,if_true,Int.zero_sub]))
  ·rw[if_neg (by omega),hl,if_pos (by omega),if_pos ⟨(h47 (by omega)).2 (by omega),by omega,by omega⟩,hc]
   exact ak.pure (Wk.refl _)
  ·rw[if_neg (by omega),hl,if_pos (by omega),if_neg (fun h=>by have:=(h47 (by omega)).1 h.1;omega)]
   exact ak.pure si
  ·rw[if_neg (by omega),hl,if_neg (by omega),hc]
   exact ak.pure (Wk.eq (by simp only[EI,if_true,Int.zero_sub];rfl))
  ·rw[if_neg (by omega),hl,if_neg (by omega),hc]
   exact ak.pure (Wk.refl _)
def sU:List UInt8:= [45,43,42,47,60,62,61,33,63,95,37]
def Bs (c:UInt8):Bool:=decide ((c.toNat:Int)≥97) && decide ((c.toNat:Int)≤122) || decide ((c.toNat:Int)≥48) && decide ((c.toNat:Int)≤57)
def nL (c:UInt8):Bool:=Bs c || sU.contains c
def oT (s:List UInt8):Bool:=decide (1≤s.length) && (decide (s.length≤40) && (s.all nL && !(jo s).2.2))
theorem Ja {p q:Prop} (k:q) (h:q→p:=by intro hq;first | exact aC.sP (some 52) rfl [] [] ai mixed hq):p:=h k
theorem Mf (s:List UInt8):aA Tryz.prog 163 [.str s] (.bool (oT s)):=by
 refine af.ah ai Tryz.func163 rfl rfl (n:=72) rfl rfl ?_
 conv=>whnf
 repeat' (first|refine dw ?_|((intro _);conv=>whnf)|(refine zX (fun hc=>?_) (fun hc=>?_)<;>(try simp only[SY] at hc)<;>(conv=>whnf)))
 ·exact ak.pure (Wk.ff (by simp[oT];omega))
 rename_i hlen;have e: [45,43,42,47,60,62,61,33,63,95,37]=sU:=rfl;have em:sU.length=11:=rfl;have hmm: ∀ c,(Bs c || sU.contains c)=nL c:=fun _=>rfl;rw[e];generalize sU=m at *;refine aq.keep [2,4,5,6,18,19,20,21,22,23,24,25,26,27,28,29,30,31,32,33,34,35,36,37,38,39,40,41,42,43,44,45,46,47,48,49,50,51,52,53,54,55,56,57,58,59,60,61,62,63] (fun i:Nat=> [(4,.int .i64 i)]) (fun i=>i≤s.length∧(s.drop i).all nL=s.all nL) (fun i=>s.length - i) 0 ⟨by omega,rfl⟩ wA ?_;rintro i ⟨hi,hm⟩
 conv=>whnf
 repeat' (first|refine dw ?_|((first|refine pC (Cz s) wR ?_|intro _);conv=>whnf)|(refine zX (fun hc=>?_) (fun hc=>?_)<;>(try simp only[SY] at hc)<;>(conv=>whnf)))
 ·refine aq.keep [5,6,46,47,48,49,50,51,52,53,54,55,56,57,58,59,60,61] (fun (x:Nat×Bool)=> [(5,.bool x.2),(6,.int .i64 x.1)]) (fun x=>x.1≤11∧(x.2 || (m.drop x.1).contains (s.getD i 0))=nL (s.getD i 0)) (fun x=>11 - x.1) (0,Bs (s.getD i 0)) ⟨by omega,hmm _⟩ wA ?_
  rintro ⟨k,b⟩ ⟨hk,hb⟩
  conv=>whnf
  repeat' (first|refine dw ?_|((first|refine Ja ?_|intro _);conv=>whnf)|(refine zX (fun hc=>?_) (fun hc=>?_)<;>(try simp only[SY] at hc)<;>(conv=>whnf)))
  ·refine an (k + 1,b || ((s.getD i 0).toNat:Int) == (m.getD k 0).toNat) ⟨by simp only at hk ⊢; omega,?_⟩ (by show 11 - (k + 1) < 11 - k;simp only at hk;omega) wA
   rw[←hb,dP (show k < m.length by omega),List.contains_cons,EW,Bool.or_assoc]
  all_goals
   simp only at hk hb;rw[hc,List.drop_of_length_le (by omega)] at hb;rw[dP (show i < s.length by omega),List.all_cons, ←hb] at hm
  ·refine ak.pure (Wk.ff ?_)
   simp only[List.contains_nil,Bool.or_false,Bool.false_and] at hm;simp[oT, ←hm]
  ·exact an (i + 1) ⟨by omega,by rw[←hm];simp⟩ (by show s.length - (i + 1) < s.length - i;omega) wA
 ·rw[List.drop_of_length_le (by omega)] at hm
  refine ak.pure (Wk.bool ?_);have h1:1≤s.length:=by omega
  have h2:s.length≤40:=by omega
  simp[oT, ←hm,h1,h2]
def gT (d:Datum) (deep:Int):Bool:=
 (decide (deep > 200) || decide (d.kind < 0) || decide (d.kind > 7)) || ((d.kind == 0 && !cM d.n d.d) || (d.kind !=0 && d.d !=0)) ||
 ((d.kind == 1 && d.n !=0 && d.n !=1) || (d.kind !=0 && d.kind !=1 && d.n !=0)) || ((d.kind == 2 && !oT d.s) || (d.kind !=2 && d.kind !=3 && !(d.s == []))) || d.s.any mN ||
 ((d.kind == 6 && (d.l.length:Int) !=2) || (d.kind !=6 && d.kind !=7 && decide ((d.l.length:Int) > 0)))
mutual
def Datum.bS:Datum→Int→Bool
 | .mk k n d s l,deep=>!gT (.mk k n d s l) deep && Datum.eH l (deep + 1)
def Datum.eH:List Datum→Int→Bool
 | [],_=>true
 | x::xs,deep=>Datum.bS x deep && Datum.eH xs deep
end
theorem Datum.lS (x:Datum) (deep:Int):x.bS deep=(!gT x deep && Datum.eH x.l (deep + 1)):=by cases x;rfl
theorem Km (d:Datum): ∀ deep:Int,0≤deep→deep≤1000→aA Tryz.prog 106 [.agg d.cells,.int .i64 deep] (.bool (d.bS deep)):=by
 induction d using Datum.ind with
 | h d ih=>
  intro deep h0 h1;refine af.ah ai Tryz.func106 rfl rfl (n:=166) rfl rfl ?_
  conv=>whnf
  repeat' (first|refine dw ?_|((first|(((apply zY;intro hg));(conv=>whnf);(repeat ((first|refine pC (Kl _ _) wR ?_|refine pC (Mf _) wR ?_|refine aG ?_);conv=>whnf));exact pZ)|intro _);conv=>whnf)|(refine zX (fun hc=>?_) (fun hc=>?_)<;>(try simp only[SY] at hc)<;>(conv=>whnf)))
  all_goals rw[Datum.lS]
  iterate 4 exact ak.pure (Wk.ff (by simp only[gT,SS, *, true_or,or_true,Bool.not_true,Bool.false_and]))
  rename_i k1 k2 k3 k4;refine aq.keep [4,5,92,93,94,95,96,97,98,99,100,101,102,103,104,105,106,107,108,109,110,111,112,113,114,115,116,117,118,119,120,121,122,123,124] (fun i:Nat=> [(5,.int .i64 i)]) (fun i=>i≤d.s.length∧(d.s.drop i).any mN=d.s.any mN) (fun i=>d.s.length - i) 0 ⟨by omega,rfl⟩ wA ?_;rintro i ⟨hi,hm⟩
  conv=>whnf
  repeat' (first|refine dw ?_|((intro _);conv=>whnf)|(refine zX (fun hc=>?_) (fun hc=>?_)<;>(try simp only[SY] at hc)<;>(conv=>whnf)))
  ·rename_i k5
   rw[dP (show i < d.s.length by omega),List.any_cons,show mN (d.s.getD i 0)=true by simp only[mN,SS,hc]] at hm;exact ak.pure (Wk.ff (by simp only[gT, ←hm,Bool.true_or,Bool.or_true,Bool.not_true,Bool.false_and]))
  ·rename_i k5
   rw[dP (show i < d.s.length by omega),List.any_cons,show mN (d.s.getD i 0)=false by simp only[mN,SS,hc,not_false_eq_true,and_self]] at hm;exact an (i + 1) ⟨by omega,hm⟩ (by show d.s.length - (i + 1) < d.s.length - i;omega) wA
  ·exact ak.pure (Wk.ff (by simp only[gT,SS, *, true_or,or_true,Bool.not_true,Bool.false_and]))
  ·rename_i k5
   rw[List.drop_of_length_le (by omega),List.any_nil] at hm;replace hm:=hm.symm
   have hbad:gT d deep=false:=by
    simp only[gT,SS, *, and_self]
   simp only[hbad,Bool.not_false,Bool.true_and];refine aq.keep [4,6,150,151,152,153,154,155,156,157,158,159,160,161,162,163,164,165] (fun i:Nat=> [(6,.int .i64 i)]) (fun i=>i≤d.l.length∧Datum.eH (d.l.drop i) (deep + 1)=Datum.eH d.l (deep + 1)) (fun i=>d.l.length - i) 0 ⟨by omega,rfl⟩ wA ?_;rintro j ⟨hj,hr⟩
   conv=>whnf
   repeat' (first|refine dw ?_|((first|refine pC (ih _ (List.getElem_mem _) _ OA OA) wR ?_|intro _);conv=>whnf)|(refine zX (fun hc=>?_) (fun hc=>?_)<;>(try simp only[SY] at hc)<;>(conv=>whnf)))
   ·rw[aI (show j < d.l.length by omega),Datum.eH,hc,Bool.false_and] at hr
    exact ak.pure (Wk.ff hr.symm)
   ·rw[aI (show j < d.l.length by omega),Datum.eH,hc,Bool.true_and] at hr
    exact an (j + 1) ⟨by omega,hr⟩ (by show d.l.length - (j + 1) < d.l.length - j;omega) wA
   ·rw[List.drop_of_length_le (by omega),Datum.eH] at hr
    exact ak.pure (Wk.tt hr.symm)
abbrev aK:Datum:=.mk 4 0 0 [] []
abbrev xB (s:List UInt8):Datum:=.mk 2 0 0 s []
abbrev lQ (a b:Datum):Datum:=.mk 6 0 0 [] [a,b]
def ic (l:List Datum):Datum:=l.foldr lQ aK
def mE:List UInt8:= [45,43,42,47,60,62,61,33,63,95]
def jY (b:UInt8):Bool:=mE.contains b || Bs b
def oD (s:List UInt8) (k:Nat):Nat:=k + ((s.drop k).takeWhile fun c=>c !=10).length
def zu (c:UInt8):Bool:=c == 32 || c == 10 || c == 9
def mV (s:List UInt8):Nat→Nat→Nat
 | 0,k=>k
 | n + 1,k=>if k < s.length then (if s.getD k 0=59 then mV s n (oD s k) else if zu (s.getD k 0)=true then mV s n (k + 1) else k) else k
abbrev c9 (s:List UInt8) (k:Nat):Nat:=mV s (s.length + 1) k
def c5 (s:List UInt8) (k:Nat):UInt8:=if k < s.length then s.getD k 0 else 0
def jh (s:List UInt8) (k:Nat):Nat:=k + ((s.drop k).takeWhile jY).length
abbrev OT:=Datum×Nat×Int
def l6 (s:List UInt8) (k:Nat):OT:=
 let t:=(s.take (jh s k)).drop k
 if (jo t).2.2=true then (.mk 0 (jo t).1 (jo t).2.1 [] [],jh s k, -1)
 else if t.length > 40 then (aK,jh s k,k) else (xB t,jh s k, -1)
def Gl (c:UInt8):Bool:=decide ((c.toNat:Int) < 32) || decide ((c.toNat:Int) > 126) || (c.toNat:Int) == 92
def lV (s:List UInt8) (k:Nat):Nat:=k + ((s.drop k).takeWhile fun c=>c !=34 && !Gl c).length
def lW (s:List UInt8) (k:Nat):OT:=
 let j:=lV s (k + 1)
 if j < s.length∧s.getD j 0=34 then (.mk 3 0 0 ((s.take j).drop (k + 1)) [],j + 1, -1) else (aK,j,j)
def RF (s:List UInt8):Nat→(Nat→OT)×(Bool→Nat→List Datum→Datum→(List Datum×Datum)×Nat×Int)
 | 0=>(fun k=>(aK,k,k),fun _ k l e=>((l,e),k,k))
 | n + 1=>
  let dat:=(RF s n).1
  let dts:=(RF s n).2
  (fun k0=>
   let k:=c9 s k0
   if k=s.length then (aK,k,k) else
   if jY (c5 s k)=true then l6 s k else
   if c5 s k=34 then lW s k else
   if c5 s k=39 then let r:=dat (k + 1);(ic [xB [113,117,111,116,101],r.1],r.2) else
   if c5 s k=35 then
    if k + 1=s.length then (aK,k + 1,k + 1) else
    let c:=s.getD (k + 1) 0
    if c=116 then (.mk 1 1 0 [] [],k + 2, -1) else
    if c=102 then (.mk 1 0 0 [] [],k + 2, -1) else
    if c=118 then (.mk 5 0 0 [] [],k + 2, -1) else
    if c=40 then let r:=dts false (k + 2) [] aK;(.mk 7 0 0 [] r.1.1,r.2) else (aK,k + 2,(k + 1:Nat)) else
   if c5 s k=40 then let r:=dts true (k + 1) [] aK;(r.1.1.foldr lQ r.1.2,r.2) else
   (aK,k,k),
  fun pair k0 l e=>
   let k:=c9 s k0
   if c5 s k=41 then ((l,e),k + 1, -1) else
   if c5 s k=46∧pair=true∧l≠ [] then
    let r:=dat (k + 1)
    if r.2.2 < 0 then
     let k2:=c9 s r.2.1
     if c5 s k2=41 then dts pair k2 l r.1 else ((l,r.1),k2,k2)
    else ((l,r.1),r.2)
   else
    let r:=dat k
    if r.2.2 < 0 then dts pair r.2.1 (l++ [r.1]) e else ((l++ [r.1],e),r.2))
abbrev Qg (s:List UInt8):Nat:=2 * s.length + 4
def K1 (s:List UInt8):Nat→Nat→List Datum→List Datum×Int×Int
 | 0,k,_=>([],k,2)
 | n + 1,k0,out=>
  let k:=c9 s k0
  if k=s.length then (out,s.length,0) else
  let r:=(RF s (Qg s)).1 k
  if r.2.2 < 0 then (if r.1.bS 0=true then K1 s n r.2.1 (out++ [r.1]) else ([],k,2)) else ([],r.2.2,2)
def oU (s:List UInt8):List Datum×Int×Int:=if s.length > 65536 then ([],65536,2) else K1 s (s.length + 1) 0 []
def wK (s:List UInt8):PV:=.bn [.sl 5 ((oU s).1.map Datum.pv) none,.int .i64 (oU s).2.1,.int .i64 (oU s).2.2]
theorem qY {s:List UInt8} {k:Nat} (h:k≤s.length):k≤oD s k∧oD s k≤s.length:=by
 have:=(List.takeWhile_sublist (fun c:UInt8=>c !=10) (l:=s.drop k)).length_le;rw[List.length_drop] at this;unfold oD;omega
theorem uS {s:List UInt8} {k:Nat} (h:k < s.length):oD s k=if s.getD k 0=10 then k else oD s (k + 1):=by
 unfold oD;rw[dP h,List.takeWhile_cons];by_cases e:s.getD k 0=10
 ·rw[if_pos e,e];rfl
 ·rw[if_neg e,if_pos (by simpa using e),List.length_cons];omega
theorem Ji {s:List UInt8} {k:Nat} (h: ¬k < s.length):oD s k=k:=by
 unfold oD;rw[List.drop_of_length_le (by omega)];rfl
theorem ij (s:List UInt8): ∀ (n k:Nat),k≤s.length→k≤mV s n k∧mV s n k≤s.length
 | 0,k,h=>by rw[mV];omega
 | n + 1,k,h=>by
  rw[mV]
  split
  ·rename_i hk
   split
   ·have h1:=qY h
    have h2:=ij s n (oD s k) h1.2;omega
   ·split
    ·have h2:=ij s n (k + 1) (by omega)
     omega
    ·omega
  ·omega
theorem mG (s:List UInt8): ∀ (n m k:Nat),k≤s.length→s.length - k < n→s.length - k < m→mV s n k=mV s m k
 | 0,_,_,_,h,_=>by omega
 | _ + 1,0,_,_,_,h=>by omega
 | n + 1,m + 1,k,hk,h1,h2=>by
  rw[mV,mV]
  split
  ·rename_i hl
   split
   ·rename_i h59
    have h3:=qY hk
    have h4:k + 1≤oD s k:=by
     rw[uS hl,if_neg (by rw[h59];decide)];exact (qY (by omega)).1
    exact mG s n m _ h3.2 (by omega) (by omega)
   ·split
    ·exact mG s n m _ (by omega) (by omega) (by omega)
    ·rfl
  ·rfl
theorem Ml {s:List UInt8} {k:Nat} (h:k≤s.length):c9 s k=if k < s.length then (if s.getD k 0=59 then c9 s (oD s k) else if zu (s.getD k 0)=true then c9 s (k + 1) else k) else k:=by
 unfold c9;rw[mV]
 split
 ·rename_i hl
  split
  ·rename_i h59
   have h3:=qY h
   have h4:k + 1≤oD s k:=by
    rw[uS hl,if_neg (by rw[h59];decide)];exact (qY (by omega)).1
   exact mG s _ _ _ h3.2 (by omega) (by omega)
  ·split
   ·exact mG s _ _ _ (by omega) (by omega) (by omega)
   ·rfl
 ·rfl
theorem La {s:List UInt8} {k:Nat} (h:k≤s.length):k≤jh s k∧jh s k≤s.length:=by
 have:=(List.takeWhile_sublist jY (l:=s.drop k)).length_le;rw[List.length_drop] at this;unfold jh;omega
theorem xk {s:List UInt8} {k:Nat} (h:k < s.length):jh s k=if jY (s.getD k 0)=true then jh s (k + 1) else k:=by
 unfold jh;rw[dP h,List.takeWhile_cons];by_cases e:jY (s.getD k 0)=true
 ·rw[if_pos e,if_pos e,List.length_cons];omega
 ·rw[if_neg e,if_neg e];rfl
theorem y8 {s:List UInt8} {k:Nat} (h: ¬k < s.length):jh s k=k:=by
 unfold jh;rw[List.drop_of_length_le (by omega)];rfl
theorem KW {s:List UInt8} {k:Nat} (h:k≤s.length):k≤lV s k∧lV s k≤s.length:=by
 have:=(List.takeWhile_sublist (fun c:UInt8=>c !=34 && !Gl c) (l:=s.drop k)).length_le;rw[List.length_drop] at this;unfold lV;omega
theorem xe {s:List UInt8} {k:Nat} (h:k < s.length):lV s k=if s.getD k 0=34∨Gl (s.getD k 0)=true then k else lV s (k + 1):=by
 unfold lV;rw[dP h,List.takeWhile_cons];by_cases e:s.getD k 0=34∨Gl (s.getD k 0)=true
 ·rw[if_pos e,if_neg];rfl
  rcases e with e | e
  ·rw[e];simp
  ·rw[e];simp
 ·rw[if_neg e,if_pos (by simp at e ⊢; exact e),List.length_cons];omega
theorem Ic {s:List UInt8} {k:Nat} (h: ¬k < s.length):lV s k=k:=by
 unfold lV;rw[List.drop_of_length_le (by omega)];rfl
def Ix (s:List UInt8) (k:Nat) (r:Nat×Int):Prop:=r.1≤s.length∧((r.2= -1∧k < r.1)∨0≤r.2)
theorem Ix.mono {s:List UInt8} {k j:Nat} {r:Nat×Int} (h:Ix s j r) (hk:k≤j):Ix s k r:=⟨h.1,h.2.imp (fun h=>⟨h.1,by omega⟩) id⟩
theorem Ix.fail {s:List UInt8} {k j i:Nat} (h:j≤s.length):Ix s k (j,(i:Int)):=⟨h,.inr (Int.natCast_nonneg _)⟩
theorem Ix.ok {s:List UInt8} {k j:Nat} (h:j≤s.length) (h2:k < j):Ix s k (j, -1):=⟨h,.inl ⟨rfl,h2⟩⟩
theorem Lb {s:List UInt8} {k:Nat} (h:k < s.length) (hm:jY (s.getD k 0)=true):Ix s k (l6 s k).2:=by
 have h1:=La (s:=s) (k:=k + 1) (by omega);have h2:jh s k=jh s (k + 1):=by rw[xk h,if_pos hm]
 unfold l6;dsimp only
 split
 ·exact .ok (by omega) (by omega)
 ·split
  ·exact .fail (by omega)
  ·exact .ok (by omega) (by omega)
theorem KX {s:List UInt8} {k:Nat} (h:k < s.length):Ix s k (lW s k).2:=by
 have h1:=KW (s:=s) (k:=k + 1) (by omega);unfold lW;dsimp only
 split
 ·exact .ok (by omega) (by omega)
 ·exact .fail (by omega)
theorem zg (s:List UInt8): ∀ n,(∀ k,k≤s.length→Ix s k ((RF s n).1 k).2)∧ ∀ pair k l e,k≤s.length→Ix s k ((RF s n).2 pair k l e).2
 | 0=>⟨fun k h=>.fail h,fun pair k l e h=>.fail h⟩
 | n + 1=>by
  obtain ⟨h1,h2⟩:=zg s n;constructor
  ·intro k hk
   rw[RF];dsimp only;have hn:k≤c9 s k∧c9 s k≤s.length:=ij s (s.length + 1) k hk;generalize c9 s k=k' at *
   split
   ·exact .fail hn.2
   have hl:k' < s.length:=by omega
   have hb:c5 s k'=s.getD k' 0:=if_pos hl;rw[hb]
   split
   ·rename_i hm;exact (Lb hl hm).mono hn.1
   split
   ·exact (KX hl).mono hn.1
   split
   ·exact (h1 (k' + 1) (by omega)).mono (by omega)
   split
   ·split
    ·exact .fail (by omega)
    split
    ·exact .ok (by omega) (by omega)
    split
    ·exact .ok (by omega) (by omega)
    split
    ·exact .ok (by omega) (by omega)
    split
    ·exact (h2 false (k' + 2) [] aK (by omega)).mono (by omega)
    ·exact .fail (by omega)
   split
   ·exact (h2 true (k' + 1) [] aK (by omega)).mono (by omega)
   ·exact .fail (by omega)
  ·intro pair k l e hk
   rw[RF];dsimp only;have hn:k≤c9 s k∧c9 s k≤s.length:=ij s (s.length + 1) k hk;generalize c9 s k=k' at *
   have hb:c5 s k'≠0→k' < s.length:=fun h=>by
    unfold c5 at h
    split at h
    ·assumption
    ·exact absurd rfl h
   split
   ·rename_i h
    have:=hb (by rw[h];decide);exact .ok (by omega) (by omega)
   split
   ·rename_i h
    have:=hb (by rw[h.1];decide);have h3:=h1 (k' + 1) (by omega)
    split
    ·rename_i h4
     have h5:((RF s n).1 (k' + 1)).2.1≤c9 s ((RF s n).1 (k' + 1)).2.1∧c9 s ((RF s n).1 (k' + 1)).2.1≤s.length:=ij s (s.length + 1) _ h3.1
     have h6:k' + 1 < ((RF s n).1 (k' + 1)).2.1:=by
      rcases h3.2 with h6 | h6
      ·exact h6.2
      ·omega
     split
     ·exact (h2 pair _ _ _ h5.2).mono (by omega)
     ·exact .fail h5.2
    ·exact h3.mono (by omega)
   ·have h3:=h1 k' hn.2
    split
    ·rename_i h4
     have h6:k' < ((RF s n).1 k').2.1:=by
      rcases h3.2 with h6 | h6
      ·exact h6.2
      ·omega
     exact (h2 pair _ _ _ h3.1).mono (by omega)
    ·exact h3.mono (by omega)
open Go.RowKit (Below)
section
variable {P:Program} {tt:Nat→TI}
structure iH (ops:Array Oper) (bH:List Nat) (A R1 R2:List Nat):Prop where
 pa:A.Pairwise fun j i=>ja bH i j=true∨br ops j i=true
 par: ∀ j∈A, ∀ i∈R1,ja bH i j=true∨br ops j i=true
 r1:R1.Pairwise fun j i=>ja bH i j=true
 tl: ∀ j∈A++R1, ∀ i∈R2,ja bH i j=true
 ug: ∀ i∈R1, ∀ o,ops[i]?=some o→o.guard=none
 nd: ∀ i∈R1, ∀ o,ops[i]?=some o→lP o.op=true
theorem iH.E1 {ops:Array Oper} {bH A1 A2 R1 R2:List Nat} {i:Nat} (h:iH ops bH (A1++i::A2) R1 R2):iH ops bH (A1++A2) R1 R2:=by
 have hs:List.Sublist (A1++A2) (A1++i::A2):=List.Sublist.append (List.Sublist.refl _) (List.sublist_cons_self _ _);refine ⟨h.pa.sublist hs,fun j hj=>h.par j (hs.subset hj),h.r1,fun j hj=>h.tl j ?_,h.ug,h.nd⟩
 ·exact (List.Sublist.append hs (List.Sublist.refl R1)).subset hj
theorem iH.E2 {ops:Array Oper} {bH A R1 R2:List Nat} {i:Nat} (h:iH ops bH A (i::R1) R2):iH ops bH A R1 R2:=by
 have hs:List.Sublist (A++R1) (A++i::R1):=List.Sublist.append (List.Sublist.refl _) (List.sublist_cons_self _ _);exact ⟨h.pa,fun j hj i hi=>h.par j hj i (by simp[hi]),(List.pairwise_cons.1 h.r1).2,fun j hj=>h.tl j (hs.subset hj),fun j hj=>h.ug j (by simp[hj]),fun j hj=>h.nd j (by simp[hj])⟩
theorem PB (hk:TT.ok P tt) (rd:Option Nat) (nn:Nat) {ops:Array Oper} {bH R2:List Nat} (hc:gz ops bH=true) {w0:World} {M Γ2:List aj} {F0:Fz} {ds:List Deferred} {Q':Exit→Act→World→Prop}
  {Tl:List PV→List aj→Prop} (hTl: ∀ (fuel:Nat) (listed:Array Bool) (T:List PV) (Γ:List aj) (F:Fz) (a:Act) (w:World),R2.length≤fuel→Down ops listed→gL ops listed R2→F0.le F→aP w0 F (Γ++M) w→aB F T a.tmps.toList→a.defers=ds→
   Tl T Γ→wpAnyIn (cX rd) nn P .any ops Q' fuel listed a w):
  ∀ (n:Nat) (A R1:List Nat) (fuel:Nat) (listed:Array Bool) (T:List PV) (Γ1:List aj) (F:Fz) (a:Act) (w:World),A.length + R1.length=n→n + R2.length≤fuel→
   Down ops listed→gL ops listed (A++(R1++R2))→iH ops bH A R1 R2→F0.le F→aP w0 F (Γ1++(Γ2++M)) w→aB F T a.tmps.toList→a.defers=ds→
   (gM P tt ops.toList (A.filterMap (ops[·]?)) T Γ2 fun T'=>bU P tt ops.toList (R1.filterMap (ops[·]?)) T' Γ1 [] fun T2 Γ1' _=>Tl T2 (Γ1'++Γ2))→
   wpAnyIn (cX rd) nn P .any ops Q' fuel listed a w:=by
 intro n
 induction n with
 | zero=>
  intro A R1 fuel listed T Γ1 F a w hn hf hd hp hsp hle hS hT hds h;obtain rfl:A= []:=List.eq_nil_of_length_eq_zero (by omega);obtain rfl:R1= []:=List.eq_nil_of_length_eq_zero (by omega);exact hTl fuel listed T (Γ1++Γ2) F a w (by simp at hn;omega) hd (by simpa using hp) hle (by simpa using hS) hT hds h
 | succ n ih=>
  intro A R1 fuel listed T Γ1 F a w hn hf hd hp hsp hle hS hT hds h
  cases fuel with
  | zero=>omega
  | succ fuel=>
  refine ⟨fun hnil=>?_,fun i hi=>?_⟩
  ·exfalso
   cases hAR:A++(R1++R2) with
   | nil=>simp at hAR;rw[hAR.1,hAR.2.1] at hn;simp at hn
   | cons x xs=>
    rw[hAR] at hp;obtain ⟨k,hk'⟩:=fI hc hp;rw[hnil] at hk';cases hk'
  ·obtain ⟨o,ho⟩:=hp.2.2 i (hp.ready hi)
   have un: ∀ {j:Nat},j∈A++(R1++R2)→ja bH i j=true→False:=fun {j} hj ha=>blocked hc hd i ho ha ((hp.2.1 j).2 hj) hi
   have free: ∀ {j:Nat} {x:Oper},j∈A++(R1++R2)→ops[j]?=some x→(ja bH i j=true∨br ops j i=true)→x.apart ops o=true:=by
    intro j x hj hx h;rcases h with h | h
    ·exact (un hj h).elim
    ·simpa[br,hx,ho] using h
   have hmem:=hp.ready hi;rw[List.mem_append,List.mem_append] at hmem;rcases hmem with hm | hm | hm
   ·
    obtain ⟨A1,A2,rfl⟩:=List.append_of_mem hm;rw[gl ho] at h
    have hap: ∀ x∈A1.filterMap (ops[·]?),x.apart ops o=true:=by
     intro x hx;obtain ⟨j,hj,hx⟩:=List.mem_filterMap.1 hx;exact free (by simp[hj]) hx ((List.pairwise_append.1 hsp.pa).2.2 j hj i (by simp))
    obtain ⟨v,h1,h2⟩:=lz _ T hap h
    have hS2:aP w0 F (Γ2++(Γ1++M)) w:=hS.perm (by
     rw[←List.append_assoc, ←List.append_assoc]
     exact List.perm_append_comm.append_right M)
    unfold wpOpIn;simp only[ho];have key:=mg hk (rd:=rd) (nn:=nn) (Q:=Q') (next:=fun a w=>wpAnyIn (cX rd) nn P .any ops Q' fuel (listed.setIfInBounds i true) a w) hS2 hT h1 ?_
    ·split at key<;>rename_i hw
     ·rw[if_pos hw];exact key
     ·rw[if_neg hw];exact ⟨fun _ _=>trivial,key⟩
    intro F' u w' hle' hS' hx
    refine ih (A1++A2) R1 fuel _ (fP T o.dst v) Γ1 F' _ w' (by simp at hn ⊢; omega) (by omega) (hd.set hi) ?_ hsp.E1 (Fz.le_trans hle hle') ?_ (eW (aB.mono hle' _ _ hT) hx o.dst)
     ((put_defers a o.dst u).trans hds) ?_
    ·have:=gL.set (l1:=A1) (l2:=A2++(R1++R2)) (i:=i) (by simpa using hp)
     rwa [List.append_assoc]
    ·exact hS'.perm (by
      rw[←List.append_assoc, ←List.append_assoc]
      exact List.perm_append_comm.append_right M)
    ·rw[List.filterMap_append];exact h2
   ·
    cases R1 with
    | nil=>cases hm
    | cons r R1=>
     rcases List.mem_cons.1 hm with hir | hir
     ·subst hir
      have hg:o.guard=none:=hsp.ug i (by simp) o ho;have e1:(i::R1).filterMap (ops[·]?)=o::R1.filterMap (ops[·]?):=by rw[List.filterMap_cons,ho]
      rw[e1] at h
      have hap: ∀ x∈A.filterMap (ops[·]?),x.apart ops o=true:=by
       intro x hx;obtain ⟨j,hj,hx⟩:=List.mem_filterMap.1 hx;exact free (by simp[hj]) hx (hsp.par j hj i (by simp))
      have h2:=m8 (kk:=fun T' Γ1'=>bU P tt ops.toList (R1.filterMap (ops[·]?)) T' Γ1' [] fun T2 Γ1' _=>Tl T2 (Γ1'++Γ2)) _ T hap (by
       have hnd:=hsp.nd i (by simp) o ho
       simpa only[bU,hg,jL hnd,AN] using h)
      unfold wpOpIn;simp only[ho];rw[if_pos (by simp[Region.wanted,hg])];refine gD hk (M:=Γ2++M) hS hT h2 ?_;rintro F' x Γ' v' w' hle' hS' hx hK
      refine ih A R1 fuel _ (fP T o.dst x) Γ' F' _ w' (by simp at hn ⊢; omega) (by omega) (hd.set hi) ?_ hsp.E2 (Fz.le_trans hle hle') hS' (eW (aB.mono hle' _ _ hT) hx o.dst)
       ((put_defers a o.dst v').trans hds) hK
      have:=gL.set (l1:=A) (l2:=R1++R2) (i:=i) (by simpa using hp);simpa using this
     ·exact (un (j:=r) (by simp) ((List.pairwise_cons.1 hsp.r1).1 i hir)).elim
   ·
    exfalso
    cases A with
    | cons j A=>exact un (j:=j) (by simp) (hsp.tl j (by simp) i hm)
    | nil=>
     cases R1 with
     | cons j R1=>exact un (j:=j) (by simp) (hsp.tl j (by simp) i hm)
     | nil=>simp at hn
def AW (ops:Array Oper) (bH A R1 B R2:List Nat):Bool:=
 gz ops bH &&
 gH (fun j i=>ja bH i j || br ops j i) A && A.all (fun j=>R1.all fun i=>ja bH i j || br ops j i) &&
 gH (fun j i=>ja bH i j) R1 && (A++R1).all (fun j=>(B++R2).all fun i=>ja bH i j) &&
 R1.all (fun i=>match ops[i]? with | some o=>o.guard.isNone | none=>false) && (R1++R2).all (fun i=>match ops[i]? with | some o=>lP o.op | none=>false) &&
 gH (fun j i=>ja bH i j || br ops j i) B && gH (fun j i=>ja bH i j) R2 && B.all (fun j=>R2.all fun i=>ja bH i j) &&
 gH (fun j i=>!(Nat.beq j i)) (A++(R1++(B++R2))) && (List.range ops.size).all (fun i=>(A++(R1++(B++R2))).contains i) && (A++(R1++(B++R2))).all (fun i=>Nat.blt i ops.size)
theorem iH.of {ops:Array Oper} {bH A R1 B R2:List Nat} (h:AW ops bH A R1 B R2=true):
  gz ops bH=true∧iH ops bH A R1 (B++R2)∧Split ops bH B [] R2∧gL ops (Array.replicate ops.size false) (A++(R1++(B++R2))):=by
 simp only[AW,Bool.and_eq_true] at h;obtain ⟨⟨⟨⟨⟨⟨⟨⟨⟨⟨⟨⟨h0,h1⟩,h2⟩,h3⟩,h5⟩,h6⟩,h6'⟩,b1⟩,b2⟩,b3⟩,h7⟩,h8⟩,h9⟩:=h
 have hlt: ∀ i∈A++(R1++(B++R2)),i < ops.size:=fun i hi=>by
  have:=List.all_eq_true.1 h9 i hi;simpa[Nat.blt,Nat.succ_le_iff] using this
 have hnd: ∀ i∈R1++R2, ∀ o,ops[i]?=some o→lP o.op=true:=by
  intro i hi o ho;have:=List.all_eq_true.1 h6' i hi;rw[ho] at this;exact this
 refine ⟨h0,⟨?_,?_,bV h3,?_,?_,fun i hi=>hnd i (by simp[hi])⟩,⟨?_,fun _ _ _ h=>(by cases h),List.Pairwise.nil,bV b2,?_,fun _ h=>(by cases h),fun i hi=>hnd i (by simpa using .inr (by simpa using hi))⟩,?_,?_,?_⟩
 ·exact (bV h1).imp fun h=>by simpa using h
 ·intro j hj i hi
  have:=List.all_eq_true.1 (List.all_eq_true.1 h2 j hj) i hi;simpa using this
 ·intro j hj i hi
  exact List.all_eq_true.1 (List.all_eq_true.1 h5 j hj) i hi
 ·intro i hi o ho
  have:=List.all_eq_true.1 h6 i hi;rw[ho] at this;simpa using this
 ·exact (bV b1).imp fun h=>by simpa using h
 ·intro j hj i hi
  exact List.all_eq_true.1 (List.all_eq_true.1 b3 j (by simpa using hj)) i hi
 ·exact (bV h7).imp fun h=>by
   intro e;subst e;simp at h
 ·intro i
  constructor
  ·intro hi
   rcases Nat.lt_or_ge i ops.size with h' | h'
   ·have:=List.all_eq_true.1 h8 i (List.mem_range.2 h')
    simpa only[List.contains_iff_mem] using this
   ·simp[Array.getElem?_eq_none,h'] at hi
  ·intro hi
   simp[hlt i hi]
 ·intro i hi
  exact ⟨_,Array.getElem?_eq_getElem (hlt i hi)⟩
theorem aC.KJ (hk:TT.ok P tt) (hm:P.follows .mixedOrders=true) {ops:Array Oper} {T:List PV} {Γ Γ2:List aj} {K:List PV→List aj→Prop} (bH A R1 B R2:List Nat) (Γ1:List aj)
  (hchk:AW ops bH A R1 B R2=true) [hp:bC Γ Γ1 Γ2]
  (h:gM P tt ops.toList (bM ops.toList A) T Γ2 fun T'=>bU P tt ops.toList (bM ops.toList R1) T' Γ1 [] fun T2 Γ1' _=>kS Γ1' Γ2 fun Γ'=>
   gM P tt ops.toList (bM ops.toList B) T2 Γ' fun T3=>bU P tt ops.toList (bM ops.toList R2) T3 Γ' [] fun T' Γ' _=>K T' Γ'):aC P ops T Γ K:=by
 refine ⟨fun rd nn id w0 F M w a Q' hS hT hQ=>wpIn_region_any hm ?_⟩;obtain ⟨hc,hsp,hsp2,hpend⟩:=iH.of hchk
 have hlen:A.length + R1.length + (B++R2).length≤ops.size:=by
  have hsub:(A++(R1++(B++R2))) ⊆ List.range ops.size:=fun i hi=>by
   obtain ⟨o,ho⟩:=hpend.2.2 i hi;exact List.mem_range.2 (Array.getElem?_eq_some_iff.1 ho).1
  have:=hpend.1.length_le_of_subset hsub;simpa[Nat.add_assoc] using this
 have hS':aP w0 F (Γ1++(Γ2++M)) { w with drawn:=w.drawn + 1 }:=by
  have:=(hS.perm (hp.p.append_right M)).of_heap (w':={ w with drawn:=w.drawn + 1 }) rfl rfl rfl rfl;simpa using this
 refine PB hk rd nn hc (R2:=B++R2) (F0:=F) (ds:=a.defers) (Tl:=fun T2 Γ'=>gM P tt ops.toList (bM ops.toList B) T2 Γ' fun T3=>bU P tt ops.toList (bM ops.toList R2) T3 Γ' [] fun T' Γ' _=>K T' Γ') ?_ _ A R1 ops.size _ T Γ1 F a _ rfl hlen ?_ hpend hsp (Fz.le_refl F) hS' hT rfl ?_
 ·intro fuel listed T2 Γ' F' a' w' hf hd hpd hle hS2 hT2 hds ht
  refine NU hk rd nn hc (R2:=R2) (F0:=F) (ds:=a.defers) hQ _ B [] fuel listed T2 [] F' a' w' rfl (by simpa using hf) hd (by simpa using hpd) hsp2 hle (Γ2:=Γ') (by simpa using hS2) hT2 hds ?_;simpa only[jf,Array.getElem?_toList,List.filterMap_nil,bU,List.nil_append] using ht
 ·intro k o hk'
  rcases Nat.lt_or_ge k ops.size with h' | h'
  ·simp[h'] at hk'
  ·intro ho
   have:=(Array.getElem?_eq_some_iff.1 ho).1;omega
 ·simpa only[jf,Array.getElem?_toList,fC] using h
theorem kP.go {f:FuncId} {args args':List PV} {Γ Γ1 Γ2:List aj} {Q K:PV→List aj→Prop} (h:m7 P f args' Γ1 Q) (hw:aX args args') [hp:bC Γ Γ1 Γ2]
  (k: ∀ y Γ1',Q y Γ1'→kS Γ1' Γ2 fun Γ'=>K y Γ'):kP P f args Γ K:=kP.gen h hw (hp:=hp) fun y Γ1' hq=>by have:=k y Γ1' hq;rwa [fC] at this
theorem qB.hi {sz:Nat} {Γ:List aj} {t:Tok} {es:List PV} {put:Tok→List PV→List aj} [hp:dD Γ t es put] {k:IntKind} {n:Int} {i:Nat} [x:eU n i] {K:PV→List aj→Prop} (hs:t.s=sz) (h0:0≤n) (hl:n≤es.length)
  (hk: ∀ t':Tok,t'.e=t.e→t'.s=t.s→K (.ms t') (put t' (es.take i))):qC sz t none (some (.int k n)) Γ K:=by
 obtain ⟨Γ1,Γ2,h1,h2⟩:=hp.at_;have e:=x.eq h0;exact ⟨.inl ⟨es,Γ1,Γ2,i,h1,hs,rfl,e,by omega,fun t' a b=>by rw[←h2];exact hk t' a b⟩⟩
theorem qC.tail {sz:Nat} {Γ:List aj} {t:Tok} {es:List PV} {put:Tok→List PV→List aj} [hp:dD Γ t es put] {k:IntKind} {n:Int} {i:Nat} [x:eU n i] {K:PV→List aj→Prop} (hs:t.s=sz) (h0:0≤n) (hl:n≤es.length)
  (hk: ∀ v,xd t i v→K (.sc v) Γ):qC sz t (some (.int k n)) none Γ K:=by
 obtain ⟨Γ1,Γ2,h1,h2⟩:=hp.at_;have e:=x.eq h0;exact ⟨.inr ⟨rfl,es,i,by rw[h1];simp,hs,e,by omega,hk⟩⟩
theorem ze.at_ {Γ:List aj} {t:Tok} {es:List PV} {put:Tok→List PV→List aj} [hp:dD Γ t es put] {k:IntKind} {n:Int} {l:Nat} {v:Value} {K:List aj→Prop} (hv:xd t l v) (hs:t.s=1) (hl:l≤es.length)
  (hk:K (put t (es.take l++List.replicate (es.length - l) (.int k n)))):ze (.int k n) v Γ K:=by
 obtain ⟨Γ1,Γ2,h1,h2⟩:=hp.at_;rw[h2] at hk;exact ⟨k,n,rfl,t,es,l,Γ1,Γ2,hv,h1,hs,hl,hk⟩
end
section
variable {P:Program} {tt:Nat→TI}
theorem eZ.DU {l:Nat} {args:List PV} {Γ Γ1 Γ2:List aj} {Q:PV→List aj→Prop} (h:eZ P l args Γ1 Q) (hp:Γ.Perm (Γ2++Γ1)):eZ P l args Γ fun y Γ'=> ∃ Γ1',Γ'=Γ2++Γ1'∧Q y Γ1':=fun w0 F M w vs hS hT=>by
 have hS':aP w0 F (Γ1++(Γ2++M)) w:=hS.perm (by
  rw[←List.append_assoc]
  exact (hp.trans List.perm_append_comm).append_right M)
 obtain ⟨fn,tmps,assign,body,h1,h2⟩:=h w0 F (Γ2++M) w vs hS' hT;refine ⟨fn,tmps,assign,body,h1,h2.mono ?_⟩;rintro _ _ ⟨v,F',y,Γ',e1,e2,e3,e4,e5⟩
 exact ⟨v,F',y,Γ2++Γ',e1,e2,e3.perm (by
  rw[←List.append_assoc]
  exact List.perm_append_comm.append_right M),e4,Γ',rfl,e5⟩
theorem af.DU {f:FuncId} {args:List PV} {Γ Γ1 Γ2:List aj} {Q:PV→List aj→Prop} (h:af P f args Γ1 Q) (hp:Γ.Perm (Γ2++Γ1)):af P f args Γ fun y Γ'=> ∃ Γ1',Γ'=Γ2++Γ1'∧Q y Γ1':=
 ⟨h.1,fun w0 F M w vs hS hT=>by
  have hS':aP w0 F (Γ1++(Γ2++M)) w:=hS.perm (by
   rw[←List.append_assoc]
   exact (hp.trans List.perm_append_comm).append_right M)
  refine (h.2 w0 F (Γ2++M) w vs hS' hT).mono ?_;rintro _ _ ⟨v,F',y,Γ',e1,e2,e3,e4,e5⟩
  exact ⟨v,F',y,Γ2++Γ',e1,e2,e3.perm (by
   rw[←List.append_assoc]
   exact List.perm_append_comm.append_right M),e4,Γ',rfl,e5⟩⟩
theorem kQ.LX {l:Nat} {args args':List PV} {Γ Γ1:List aj} (Γ2:List aj) {Q K:PV→List aj→Prop} (h:eZ P l args' Γ1 Q) (hw:aX args args') (hp:Γ.Perm (Γ2++Γ1)) (k: ∀ y Γ1',Q y Γ1'→kS Γ2 Γ1' fun Γ'=>K y Γ'):kQ P l args Γ K:=
 ⟨((h.wk hw).DU hp).mono fun y Γ' ⟨Γ1',e,hq⟩=>by have:=k y Γ1' hq;rw[fC] at this;rw[e];exact this⟩
theorem av.LX {f:FuncId} {args args':List PV} {Γ Γ1:List aj} (Γ2:List aj) {Q K:PV→List aj→Prop} (h:af P f args' Γ1 Q) (hw:aX args args') (hp:Γ.Perm (Γ2++Γ1)) (k: ∀ y Γ1',Q y Γ1'→kS Γ2 Γ1' fun Γ'=>K y Γ'):av P f args Γ K:=
 av.same ((h.wk hw).DU hp) (aX.refl _) fun y Γ' ⟨Γ1',e,hq⟩=>by have:=k y Γ1' hq;rw[fC] at this;rw[e];exact this
end
section
variable {P:Program} {tt:Nat→TI}
def vN (tt:Nat→TI):Op→Option (Nat→PV×aj)
 | .alloc t=>match (tt t).cw with
  | .other=>none
  | _=>some fun b=>(.ptr b 0,.box b ((tt t).zero.map ZK.pv))
 | .makeMap t none=>match (tt t).cw with
  | .mp kt _=>match pq tt (tt kt).cw with
   | some d=>some fun r=>(.mp r,.mp r d (fun _=>none) [])
   | none=>none
  | _=>none
 | _=>none
theorem yc {op:Op} {f:Nat→PV×aj} (h:vN tt op=some f) {T:List PV} {Γ:List aj} {K:PV→List aj→Prop}:qz P tt op T Γ K↔ ∀ b,K (f b).1 ((f b).2::Γ):=by
 unfold vN at h
 split at h
 ·split at h
  ·cases h
  ·rename_i hne
   cases h;simp only[qz,cu]
 ·split at h
  ·rename_i hu
   split at h
   ·rename_i hd
    cases h;simp only[qz,hu,hd]
   ·cases h
  ·cases h
 ·cases h
theorem BU {op:Op} {f:Nat→PV×aj} (h:vN tt op=some f):lP op=true:=by
 cases op<;>first | rfl | cases h
def lH (ops:Array Oper) (i:Nat):Option Tmp:=(ops[i]?).bind (·.dst)
abbrev FE:=Nat→Option (PV×aj)
def gy (ops:Array Oper) (e:FE):List Nat→List PV→List PV
 | [],T=>T
 | i::l,T=>gy ops e l (match e i with
  | some x=>fP T (lH ops i) x.1
  | none=>T)
theorem BW {β:Type} {f g:Nat→Option β}: ∀ {l:List Nat},(∀ x∈l,f x=g x)→l.filterMap f=l.filterMap g
 | [],_=>rfl
 | x::l,h=>by
  rw[List.forall_mem_cons] at h;rw[List.filterMap_cons,List.filterMap_cons,h.1,BW h.2]
theorem Dh {i j:Nat} (h:j≠i):Nat.beq j i=false:=by
 cases hb:Nat.beq j i
 ·rfl
 ·exact (h (Nat.eq_of_beq_eq_true hb)).elim
def jz (e:FE) (l:List Nat):List aj:=l.filterMap fun i=>(e i).map (·.2)
def tF (e:FE) (i:Nat) (x:PV×aj):FE:=fun j=>if j=i then some x else e j
def cN (e:FE) (l:List Nat):List Nat:=l.filter fun i=>(e i).isNone
theorem GV {e:FE} {l:List Nat} (h: ∀ i∈l,e i=none):jz e l= []:=by
 unfold jz;rw[List.filterMap_eq_nil_iff];intro i hi;rw[h i hi];rfl
theorem yM {ops:Array Oper} {e:FE}: ∀ {l:List Nat} {T:List PV},(∀ i∈l,e i=none)→gy ops e l T=T
 | [],_,_=>rfl
 | i::l,T,h=>by
  rw[List.forall_mem_cons] at h;rw[gy,h.1];exact yM h.2
theorem oB {e:FE} {i j:Nat} {x:PV×aj} (h:j≠i):tF e i x j=e j:=by simp[tF,h]
theorem lZ {e:FE} {i:Nat} {x:PV×aj}:tF e i x i=some x:=by simp[tF]
theorem BP {e:FE} {i:Nat} {x:PV×aj} (he:e i=none): ∀ {l:List Nat},i∈l→l.Nodup→(jz (tF e i x) l).Perm (x.2::jz e l)
 | [],h,_=>by cases h
 | j::l,h,hn=>by
  rw[List.nodup_cons] at hn;rcases List.mem_cons.1 h with rfl | h
  ·have h1:jz (tF e i x) l=jz e l:=by
    unfold jz;refine BW fun j hj=>?_;rw[oB (j:=j) (i:=i) fun e=>hn.1 (e▸hj)]
   unfold jz at h1 ⊢;rw[List.filterMap_cons,List.filterMap_cons,lZ,he,h1];exact List.Perm.refl _
  ·have hne:j≠i:=fun e=>hn.1 (e▸h)
   have ih:=BP (x:=x) he h hn.2;unfold jz at ih ⊢;rw[List.filterMap_cons,List.filterMap_cons,oB hne]
   cases hj:e j with
   | none=>simpa using ih
   | some y=>
    simp only[Option.map_some];exact (ih.cons _).trans (List.Perm.swap _ _ _)
theorem nP {ops:Array Oper} {e:FE} {d:Option Tmp} {v:PV}: ∀ {l:List Nat} {T:List PV},(∀ i∈l, ∀ k,d=some k→lH ops i≠some k)→gy ops e l (fP T d v)=fP (gy ops e l T) d v
 | [],_,_=>rfl
 | i::l,T,h=>by
  rw[List.forall_mem_cons] at h;rw[gy,gy]
  cases he:e i with
  | none=>exact nP h.2
  | some x=>
   simp only;rw[s8 T h.1];exact nP h.2
theorem wI {ops:Array Oper} {e e':FE}: ∀ {l:List Nat} {T:List PV},(∀ i∈l,e i=e' i)→gy ops e l T=gy ops e' l T
 | [],_,_=>rfl
 | i::l,T,h=>by
  rw[List.forall_mem_cons] at h;rw[gy,gy,h.1];exact wI h.2
theorem CD {ops:Array Oper} {e:FE} {i:Nat} {x:PV×aj} (he:e i=none): ∀ {l:List Nat} {T:List PV},i∈l→l.Nodup→(∀ j∈l,j≠i→ ∀ k,lH ops i=some k→lH ops j≠some k)→
  gy ops (tF e i x) l T=fP (gy ops e l T) (lH ops i) x.1
 | [],_,h,_,_=>by cases h
 | j::l,T,h,hn,hd=>by
  rw[List.nodup_cons] at hn;rw[List.forall_mem_cons] at hd;rcases List.mem_cons.1 h with rfl | h
  ·rw[gy,gy,lZ,he]
   simp only;rw[wI (e:=tF e i x) (e':=e) fun j hj=>oB fun e=>hn.1 (e▸hj)];exact nP fun j hj=>hd.2 j hj fun e=>hn.1 (e▸hj)
  ·have hne:j≠i:=fun e=>hn.1 (e▸h)
   rw[gy,gy,oB hne];exact CD he h hn.2 hd.2
theorem yL {e:FE} {i:Nat} {x:PV×aj} {l l1 l2:List Nat} (hn:l.Nodup) (h:cN e l=l1++i::l2):cN (tF e i x) l=l1++l2:=by
 have h1:cN (tF e i x) l=(cN e l).filter fun j=>!(Nat.beq j i):=by
  unfold cN;rw[List.filter_filter];refine List.filter_congr fun j _=>?_;by_cases hj:j=i
  ·subst hj;rw[lZ];simp
  ·rw[oB hj]
   simp[Dh hj]
 have hn2:(l1++i::l2).Nodup:=h▸hn.sublist List.filter_sublist;rw[h1,h,List.filter_append,List.filter_cons];have hni:=(List.perm_middle (a:=i) (l₁:=l1) (l₂:=l2)).nodup_iff.1 hn2;rw[List.nodup_cons,List.mem_append,not_or] at hni
 have hf: ∀ m:List Nat,i∉m→m.filter (fun j=>!(Nat.beq j i))=m:=fun m hm=>List.filter_eq_self.2 fun j hj=>by
  rw[Dh (j:=j) (i:=i) fun e=>hm (e▸hj)];rfl
 rw[hf l1 hni.1.1,hf l2 hni.1.2];simp
theorem ot {e:FE} {l:List Nat} {i:Nat}:i∈cN e l↔i∈l∧e i=none:=by
 unfold cN;rw[List.mem_filter,Option.isNone_iff_eq_none]
theorem E7 {ops:Array Oper} {e:FE} {o:Oper}: ∀ {l:List Nat} {T:List PV},(∀ i∈l, ∀ k,lH ops i=some k→k∉o.looksAt ops)→ ∀ y∈o.op.operands.toList,ev (gy ops e l T) y=ev T y
 | [],_,_=>fun _ _=>rfl
 | i::l,T,h=>fun y hy=>by
  rw[List.forall_mem_cons] at h;rw[gy,E7 h.2 y hy]
  cases e i with
  | none=>rfl
  | some x=>exact jV h.1 y hy
theorem xF {ops:Array Oper} {e:FE} {o:Oper} {Γ:List aj} {v:PV}: ∀ {l:List Nat} {T:List PV},(∀ i∈l, ∀ k,lH ops i=some k→k∉o.looksAt ops)→(SVal P tt ops.toList o (gy ops e l T) Γ v↔SVal P tt ops.toList o T Γ v)
 | [],_,_=>Iff.rfl
 | i::l,T,h=>by
  rw[List.forall_mem_cons] at h;rw[gy,xF h.2]
  cases e i with
  | none=>exact Iff.rfl
  | some x=>exact qD h.1
def O8 (tt:Nat→TI) (ops:Array Oper) (e:FE) (l:List Nat):Prop:= ∀ i∈l,e i=none∨ ∃ o f b,ops[i]?=some o∧vN tt o.op=some f∧e i=some (f b)
structure Gf (tt:Nat→TI) (ops:Array Oper) (l:List Nat):Prop where
 fl: ∀ i∈l, ∃ o f,ops[i]?=some o∧o.guard=none∧vN tt o.op=some f
 ff:l.Pairwise fun j i=>br ops j i=true
 nd:l.Nodup
theorem sv {ops:Array Oper} {j i:Nat} (h:br ops j i=true): ∀ k,lH ops i=some k→lH ops j≠some k:=by
 intro k hk hj;unfold br at h;unfold lH at hk hj
 cases hx:ops[j]? with
 | none=>rw[hx] at hj;cases hj
 | some x=>
  cases hy:ops[i]? with
  | none=>rw[hy] at hk;cases hk
  | some y=>
   rw[hx,hy] at h;rw[hx] at hj;rw[hy] at hk;obtain ⟨a1,a2,a3⟩:=Oper.apart_spec h;simp only[Option.bind_some] at hk hj;exact a2 k hj hk
theorem Gf.dst {ops:Array Oper} {l:List Nat} (h:Gf tt ops l): ∀ i∈l, ∀ j∈l,j≠i→ ∀ k,lH ops i=some k→lH ops j≠some k:=by
 intro i hi j hj hne k hk hjk
 have key: ∀ {l:List Nat},l.Pairwise (fun j i=>br ops j i=true)→i∈l→j∈l→br ops i j=true∨br ops j i=true:=by
  intro l hp hi hj
  induction l with
  | nil=>cases hi
  | cons x l ih=>
   rw[List.pairwise_cons] at hp;rcases List.mem_cons.1 hi with e1 | h1
   ·rcases List.mem_cons.1 hj with e2 | h2
    ·exact (hne (e2.trans e1.symm)).elim
    ·subst e1;exact .inl (hp.1 j h2)
   ·rcases List.mem_cons.1 hj with e2 | h2
    ·subst e2;exact .inr (hp.1 i h1)
    ·exact ih hp.2 h1 h2
 rcases key h.ff hi hj with h | h
 ·exact sv h k hjk hk
 ·exact sv h k hk hjk
theorem BV (hk:TT.ok P tt) {rd:Option Nat} {nn:Nat} {ops:Array Oper} {l:List Nat} (hF:Gf tt ops l) {e:FE} {i:Nat} {o:Oper} (hi:i∈l) (he:e i=none) (ho:ops[i]?=some o) (hE:O8 tt ops e l)
  {w0:World} {F:Fz} {Γ M:List aj} {w:World} {T:List PV} {a:Act} {next:Act→World→Prop} {Q:Exit→Act→World→Prop} (hS:aP w0 F (Γ++(jz e l++M)) w) (hT:aB F (gy ops e l T) a.tmps.toList)
  (hn: ∀ e' F' u w',O8 tt ops e' l→e'=tF e i ((e' i).getD (.any,.tok (ay 0 0)))→F.le F'→aP w0 F' (Γ++(jz e' l++M)) w'→aB F' (gy ops e' l T) (a.put o.dst u).tmps.toList→next (a.put o.dst u) w'):
  wpOpIn (cX rd) nn P ops Q i next a w:=by
 obtain ⟨o',f,ho',hg,hf⟩:=hF.fl i hi;rw[ho] at ho';cases ho';unfold wpOpIn;simp only[ho];rw[if_pos (by simp[Region.wanted,hg])]
 have hW:qz P tt o.op (gy ops e l T) [] fun x Γ'=> ∃ b,x=(f b).1∧Γ'= [(f b).2]:=(yc hf).2 fun b=>⟨b,rfl,rfl⟩
 refine gD hk (Γ:= []) (M:=Γ++(jz e l++M)) hS hT hW ?_;rintro F' x Γ' u w' hle hS' hx ⟨b,rfl,rfl⟩;have hp:=BP (x:=f b) he hi hF.nd;have hd:lH ops i=o.dst:=by simp[lH,ho]
 refine hn (tF e i (f b)) F' u w' ?_ (by rw[lZ];rfl) hle ?_ ?_
 ·intro j hj
  by_cases hji:j=i
  ·subst hji;rw[lZ];exact .inr ⟨o,f,b,ho,hf,rfl⟩
  ·rw[oB hji];exact hE j hj
 ·refine hS'.perm ?_
  have h1:((f b).2::(Γ++(jz e l++M))).Perm (Γ++((f b).2::(jz e l++M))):=List.perm_middle.symm;refine h1.trans ?_
  have h2:((f b).2::(jz e l++M)).Perm (jz (tF e i (f b)) l++M):=(hp.symm.append_right M)
  exact h2.append_left Γ
 ·rw[CD he hi hF.nd (hF.dst i hi),hd]
  exact eW (aB.mono hle _ _ hT) hx o.dst
theorem yd {ops:Array Oper} {e:FE} {K:List PV→List aj→Ds→Prop}: ∀ (l:List Nat) (T:List PV) (Γ:List aj),(∀ i∈l, ∃ o f b,ops[i]?=some o∧o.guard=none∧vN tt o.op=some f∧e i=some (f b))→
  bU P tt ops.toList (l.filterMap (ops[·]?)) T Γ [] K→ ∃ Γ4,K (gy ops e l T) Γ4 []∧Γ4.Perm (jz e l++Γ)
 | [],T,Γ,_,h=>⟨Γ,h,List.Perm.refl _⟩
 | i::l,T,Γ,hl,h=>by
  rw[List.forall_mem_cons] at hl;obtain ⟨o,f,b,ho,hg,hf,he⟩:=hl.1;rw[List.filterMap_cons,ho] at h;simp only[bU,hg,jL (BU hf),AN] at h;have h2:=(yc hf).1 h b;obtain ⟨Γ4,h3,h4⟩:=yd l _ _ hl.2 h2;refine ⟨Γ4,?_,h4.trans ?_⟩
  ·rw[gy,he]
   have hd:lH ops i=o.dst:=by simp[lH,ho]
   rw[hd];exact h3
  ·unfold jz
   rw[List.filterMap_cons,he];exact List.perm_middle
theorem Na (hk:TT.ok P tt) (rd:Option Nat) (nn:Nat) {ops:Array Oper} {bH Fl R2:List Nat} (hF:Gf tt ops Fl) (hc:gz ops bH=true) {w0:World} {M Γ2:List aj} {F0:Fz} {ds:List Deferred} {Q':Exit→Act→World→Prop}
  {Tl:List PV→List aj→Prop} (hTl: ∀ (fuel:Nat) (listed:Array Bool) (T:List PV) (Γ:List aj) (e:FE) (F:Fz) (a:Act) (w:World),(cN e Fl).length + R2.length≤fuel→Down ops listed→gL ops listed (cN e Fl++R2)→O8 tt ops e Fl→F0.le F→
   aP w0 F (Γ++(jz e Fl++M)) w→aB F (gy ops e Fl T) a.tmps.toList→a.defers=ds→Tl T Γ→wpAnyIn (cX rd) nn P .any ops Q' fuel listed a w):
  ∀ (n:Nat) (A R1:List Nat) (e:FE) (fuel:Nat) (listed:Array Bool) (T:List PV) (Γ1:List aj) (F:Fz) (a:Act) (w:World),A.length + R1.length + (cN e Fl).length=n→n + R2.length≤fuel→
   Down ops listed→gL ops listed (A++(R1++(cN e Fl++R2)))→iH ops bH A R1 R2→(∀ j∈A++R1, ∀ i∈Fl,br ops j i=true)→O8 tt ops e Fl→F0.le F→aP w0 F (Γ1++(Γ2++(jz e Fl++M))) w→aB F (gy ops e Fl T) a.tmps.toList→a.defers=ds→
   (gM P tt ops.toList (A.filterMap (ops[·]?)) T Γ2 fun T'=>bU P tt ops.toList (R1.filterMap (ops[·]?)) T' Γ1 [] fun T2 Γ1' _=>Tl T2 (Γ1'++Γ2))→
   wpAnyIn (cX rd) nn P .any ops Q' fuel listed a w:=by
 intro n
 induction n with
 | zero=>
  intro A R1 e fuel listed T Γ1 F a w hn hf hd hp hsp hfx hE hle hS hT hds h;obtain rfl:A= []:=List.eq_nil_of_length_eq_zero (by omega);obtain rfl:R1= []:=List.eq_nil_of_length_eq_zero (by omega);exact hTl fuel listed T (Γ1++Γ2) e F a w (by simp at hn;rw[hn];simpa using hf) hd (by simpa using hp) hE hle (by simpa using hS) hT hds h
 | succ n ih=>
  intro A R1 e fuel listed T Γ1 F a w hn hf hd hp hsp hfx hE hle hS hT hds h;by_cases hAR0:A= []∧R1= []
  ·obtain ⟨rfl,rfl⟩:=hAR0
   exact hTl fuel listed T (Γ1++Γ2) e F a w (by simp at hn;omega) hd (by simpa using hp) hE hle (by simpa using hS) hT hds h
  cases fuel with
  | zero=>omega
  | succ fuel=>
  refine ⟨fun hnil=>?_,fun i hi=>?_⟩
  ·exfalso
   cases hAR:A++(R1++(cN e Fl++R2)) with
   | nil=>simp at hAR;exact hAR0 ⟨hAR.1,hAR.2.1⟩
   | cons x xs=>
    rw[hAR] at hp;obtain ⟨k,hk'⟩:=fI hc hp;rw[hnil] at hk';cases hk'
  ·obtain ⟨o,ho⟩:=hp.2.2 i (hp.ready hi)
   have un: ∀ {j:Nat},j∈A++(R1++(cN e Fl++R2))→ja bH i j=true→False:=fun {j} hj ha=>blocked hc hd i ho ha ((hp.2.1 j).2 hj) hi
   have free: ∀ {j:Nat} {x:Oper},j∈A++(R1++(cN e Fl++R2))→ops[j]?=some x→(ja bH i j=true∨br ops j i=true)→x.apart ops o=true:=by
    intro j x hj hx h;rcases h with h | h
    ·exact (un hj h).elim
    ·simpa[br,hx,ho] using h
   have looks:i∈A++R1→ ∀ f∈Fl, ∀ k,lH ops f=some k→k∉o.looksAt ops:=by
    intro hiA f hf k hk;have:=hfx i hiA f hf;obtain ⟨of,_,hof,_,_⟩:=hF.fl f hf;simp only[br,ho,hof] at this;obtain ⟨a1,a2,a3⟩:=Oper.apart_spec this;exact a3 k (by simpa[lH,hof] using hk)
   have dsts:i∈A++R1→ ∀ f∈Fl, ∀ k,o.dst=some k→lH ops f≠some k:=by
    intro hiA f hf k hk hfk;exact sv (hfx i hiA f hf) k hfk (by simp[lH,ho,hk])
   have hmem:=hp.ready hi;rw[List.mem_append,List.mem_append,List.mem_append] at hmem;rcases hmem with hm | hm | hm | hm
   ·
    obtain ⟨A1,A2,rfl⟩:=List.append_of_mem hm;rw[gl ho] at h
    have hap: ∀ x∈A1.filterMap (ops[·]?),x.apart ops o=true:=by
     intro x hx;obtain ⟨j,hj,hx⟩:=List.mem_filterMap.1 hx;exact free (by simp[hj]) hx ((List.pairwise_append.1 hsp.pa).2.2 j hj i (by simp))
    obtain ⟨v,h1,h2⟩:=lz _ T hap h;have h1':=(xF (e:=e) (looks (by simp))).2 h1
    have hS2:aP w0 F (Γ2++(Γ1++(jz e Fl++M))) w:=hS.perm (by
     rw[←List.append_assoc, ←List.append_assoc Γ2]
     exact List.perm_append_comm.append_right _)
    unfold wpOpIn;simp only[ho];have key:=mg hk (rd:=rd) (nn:=nn) (Q:=Q') (next:=fun a w=>wpAnyIn (cX rd) nn P .any ops Q' fuel (listed.setIfInBounds i true) a w) hS2 hT h1' ?_
    ·split at key<;>rename_i hw
     ·rw[if_pos hw];exact key
     ·rw[if_neg hw];exact ⟨fun _ _=>trivial,key⟩
    intro F' u w' hle' hS' hx
    refine ih (A1++A2) R1 e fuel _ (fP T o.dst v) Γ1 F' _ w' (by simp at hn ⊢; omega) (by omega) (hd.set hi) ?_ hsp.E1 (fun j hj=>hfx j ?_) hE (Fz.le_trans hle hle') ?_ ?_
     ((put_defers a o.dst u).trans hds) ?_
    ·have:=gL.set (l1:=A1) (l2:=A2++(R1++(cN e Fl++R2))) (i:=i) (by simpa using hp)
     rwa [List.append_assoc]
    ·simp only[List.mem_append,List.mem_cons] at hj⊢
     rcases hj with (h | h) | h
     ·exact .inl (.inl h)
     ·exact .inl (.inr (.inr h))
     ·exact .inr h
    ·exact hS'.perm (by
      rw[←List.append_assoc, ←List.append_assoc Γ1]
      exact List.perm_append_comm.append_right _)
    ·rw[nP (dsts (by simp))]
     exact eW (aB.mono hle' _ _ hT) hx o.dst
    ·rw[List.filterMap_append];exact h2
   ·
    cases R1 with
    | nil=>cases hm
    | cons r R1=>
     rcases List.mem_cons.1 hm with hir | hir
     ·subst hir
      have hg:o.guard=none:=hsp.ug i (by simp) o ho;have e1:(i::R1).filterMap (ops[·]?)=o::R1.filterMap (ops[·]?):=by rw[List.filterMap_cons,ho]
      rw[e1] at h
      have hap: ∀ x∈A.filterMap (ops[·]?),x.apart ops o=true:=by
       intro x hx;obtain ⟨j,hj,hx⟩:=List.mem_filterMap.1 hx;exact free (by simp[hj]) hx (hsp.par j hj i (by simp))
      have h2:=m8 (kk:=fun T' Γ1'=>bU P tt ops.toList (R1.filterMap (ops[·]?)) T' Γ1' [] fun T2 Γ1' _=>Tl T2 (Γ1'++Γ2)) _ T hap (by
       have hnd:=hsp.nd i (by simp) o ho
       simpa only[bU,hg,jL hnd,AN] using h)
      have h3:=iI (T':=gy ops e Fl T) (fun y hy=>(E7 (looks (by simp)) y hy).symm) h2;unfold wpOpIn;simp only[ho];rw[if_pos (by simp[Region.wanted,hg])];refine gD hk (M:=Γ2++(jz e Fl++M)) hS hT h3 ?_;rintro F' x Γ' v' w' hle' hS' hx hK
      refine ih A R1 e fuel _ (fP T o.dst x) Γ' F' _ w' (by simp at hn ⊢; omega) (by omega) (hd.set hi) ?_ hsp.E2 (fun j hj=>hfx j ?_) hE (Fz.le_trans hle hle') hS' ?_
       ((put_defers a o.dst v').trans hds) hK
      ·have:=gL.set (l1:=A) (l2:=R1++(cN e Fl++R2)) (i:=i) (by simpa using hp)
       simpa using this
      ·simp only[List.mem_append,List.mem_cons] at hj⊢
       rcases hj with h | h
       ·exact .inl h
       ·exact .inr (.inr h)
      ·rw[nP (dsts (by simp))]
       exact eW (aB.mono hle' _ _ hT) hx o.dst
     ·exact (un (j:=r) (by simp) ((List.pairwise_cons.1 hsp.r1).1 i hir)).elim
   ·
    obtain ⟨hiF,hie⟩:=ot.1 hm;obtain ⟨l1,l2,hl⟩:=List.append_of_mem hm;have hS2:aP w0 F ((Γ1++Γ2)++(jz e Fl++M)) w:=by simpa using hS
    refine BV hk hF hiF hie ho hE hS2 hT ?_;intro e' F' u w' hE' he' hle' hS' hT';have hpe:cN e' Fl=l1++l2:=by rw[he'];exact yL hF.nd hl
    have hlen:(cN e Fl).length=l1.length + l2.length + 1:=by rw[hl];simp;omega
    refine ih A R1 e' fuel _ T Γ1 F' _ w' (by rw[hpe];simp;omega) (by omega) (hd.set hi) ?_ hsp hfx hE' (Fz.le_trans hle hle') (by simpa using hS') hT' ((put_defers a o.dst u).trans hds) h;rw[hpe];have:=gL.set (l1:=A++(R1++l1)) (l2:=l2++R2) (i:=i) (by rw[hl] at hp;simpa using hp);simpa using this
   ·
    exfalso
    cases A with
    | cons j A=>exact un (j:=j) (by simp) (hsp.tl j (by simp) i hm)
    | nil=>
     cases R1 with
     | cons j R1=>exact un (j:=j) (by simp) (hsp.tl j (by simp) i hm)
     | nil=>exact hAR0 ⟨rfl,rfl⟩
theorem NV (hk:TT.ok P tt) (rd:Option Nat) (nn:Nat) {ops:Array Oper} {bH Fl R2:List Nat} (hF:Gf tt ops Fl) (hc:gz ops bH=true) (hr2:R2.Pairwise fun j i=>ja bH i j=true) (hfr: ∀ j∈Fl, ∀ i∈R2,ja bH i j=true)
  (hnd: ∀ i∈R2, ∀ o,ops[i]?=some o→lP o.op=true) {w0:World} {M:List aj} {F0:Fz} {ds:List Deferred} {Q':Exit→Act→World→Prop}
  {K:List PV→List aj→Prop} (hQ: ∀ F' T' Γ' a' w',F0.le F'→aP w0 F' (Γ'++M) w'→aB F' T' a'.tmps.toList→a'.defers=ds→K T' Γ'→Q' .normal a' w'):
  ∀ (n:Nat) (e:FE) (fuel:Nat) (listed:Array Bool) (T:List PV) (Γ:List aj) (F:Fz) (a:Act) (w:World),(cN e Fl).length=n→n + R2.length≤fuel→
   Down ops listed→gL ops listed (cN e Fl++R2)→O8 tt ops e Fl→F0.le F→aP w0 F (Γ++(jz e Fl++M)) w→aB F (gy ops e Fl T) a.tmps.toList→a.defers=ds→
   (bU P tt ops.toList (Fl.filterMap (ops[·]?)) T Γ [] fun T4 Γ4 _=>bU P tt ops.toList (R2.filterMap (ops[·]?)) T4 Γ4 [] fun T' Γ' _=>K T' Γ')→
   wpAnyIn (cX rd) nn P .any ops Q' fuel listed a w:=by
 intro n
 induction n with
 | zero=>
  intro e fuel listed T Γ F a w hn hf hd hp hE hle hS hT hds h;have hnil:cN e Fl= []:=List.eq_nil_of_length_eq_zero hn
  obtain ⟨Γ4,h4,hpm⟩:=yd (e:=e) Fl T Γ (fun i hi=>by
   rcases hE i hi with h0 | ⟨o,f,b,ho,hf,he⟩
   ·have:i∈cN e Fl:=ot.2 ⟨hi,h0⟩
    rw[hnil] at this;cases this
   ·obtain ⟨o',f',ho',hg,_⟩:=hF.fl i hi
    rw[ho] at ho';cases ho'
    exact ⟨o,f,b,ho,hg,hf,he⟩) h
  have hS4:aP w0 F (Γ4++M) w:=hS.perm (by
   rw[←List.append_assoc]
   exact (List.perm_append_comm.trans hpm.symm).append_right M)
  refine n8 hc R2 fuel listed a w (by omega) hd (by simpa[hnil] using hp) hr2 (iy (fun _=>trivial) ops _ _ a w ?_)
  refine mh hk rd nn ops (ds:=ds) (K:=fun T' Γ' D'=>D'= []∧K T' Γ') ?_ _ (.inr (quiet_of fun o ho=>by
   obtain ⟨j,hj,ho⟩:=List.mem_filterMap.1 ho
   exact hnd j hj o ho)) _ Γ4 [] F a w hle hS4 hT (by rw[hds];exact kf.nil F ds) (sr _ _ _ _ _ ?_ h4)
  ·rintro F' T' Γ' D' a' w' k1 k2 k3 ⟨new,k4,k5⟩ ⟨rfl,k6⟩
   have:new= []:=by cases new with
    | nil=>rfl
    | cons d l=>exact k5.elim
   subst this;exact hQ F' T' Γ' a' w' k1 k2 k3 k4 k6
  ·intro o ho
   obtain ⟨j,hj,ho⟩:=List.mem_filterMap.1 ho;exact hnd j hj o ho
 | succ n ih=>
  intro e fuel listed T Γ F a w hn hf hd hp hE hle hS hT hds h
  cases fuel with
  | zero=>omega
  | succ fuel=>
  have hpos: ∃ j,j∈cN e Fl:=by
   cases hpe:cN e Fl with
   | nil=>rw[hpe] at hn;cases hn
   | cons j l=>exact ⟨j,by simp⟩
  obtain ⟨j0,hj0⟩:=hpos;refine ⟨fun hnil=>?_,fun i hi=>?_⟩
  ·exfalso
   cases hAR:cN e Fl++R2 with
   | nil=>simp at hAR;rw[hAR.1] at hn;cases hn
   | cons x xs=>
    rw[hAR] at hp;obtain ⟨k,hk'⟩:=fI hc hp;rw[hnil] at hk';cases hk'
  ·obtain ⟨o,ho⟩:=hp.2.2 i (hp.ready hi)
   rcases List.mem_append.1 (hp.ready hi) with hm | hm
   ·obtain ⟨hiF,hie⟩:=ot.1 hm
    obtain ⟨l1,l2,hl⟩:=List.append_of_mem hm;refine BV hk hF hiF hie ho hE hS hT ?_;intro e' F' u w' hE' he' hle' hS' hT';have hpe:cN e' Fl=l1++l2:=by rw[he'];exact yL hF.nd hl
    have hlen:(cN e Fl).length=l1.length + l2.length + 1:=by rw[hl];simp;omega
    refine ih e' fuel _ T Γ F' _ w' (by rw[hpe];simp;omega) (by omega) (hd.set hi) ?_ hE' (Fz.le_trans hle hle') hS' hT' ((put_defers a o.dst u).trans hds) h;rw[hpe];have:=gL.set (l1:=l1) (l2:=l2++R2) (i:=i) (by rw[hl] at hp;simpa using hp);simpa using this
   ·exact (blocked hc hd i ho (hfr j0 (ot.1 hj0).1 i hm) ((hp.2.1 j0).2 (by simp[hj0])) hi).elim
def AX (tt:Nat→TI) (ops:Array Oper) (bH A R1 B Fl R2:List Nat):Bool:=
 gz ops bH &&
 gH (fun j i=>ja bH i j || br ops j i) A && A.all (fun j=>R1.all fun i=>ja bH i j || br ops j i) &&
 gH (fun j i=>ja bH i j) R1 && (A++R1).all (fun j=>(B++R2).all fun i=>ja bH i j) &&
 R1.all (fun i=>match ops[i]? with | some o=>o.guard.isNone | none=>false) && (R1++R2).all (fun i=>match ops[i]? with | some o=>lP o.op | none=>false) &&
 gH (fun j i=>ja bH i j || br ops j i) B && gH (fun j i=>ja bH i j) R2 && B.all (fun j=>R2.all fun i=>ja bH i j) &&
 Fl.all (fun i=>match ops[i]? with | some o=>o.guard.isNone && (vN tt o.op).isSome | none=>false) && gH (fun j i=>br ops j i) Fl && (A++(R1++B)).all (fun j=>Fl.all fun i=>br ops j i) && Fl.all (fun j=>R2.all fun i=>ja bH i j) &&
 gH (fun j i=>!(Nat.beq j i)) (A++(R1++(B++(Fl++R2)))) && (List.range ops.size).all (fun i=>(A++(R1++(B++(Fl++R2)))).contains i) && (A++(R1++(B++(Fl++R2)))).all (fun i=>Nat.blt i ops.size)
theorem aC.OD (hk:TT.ok P tt) (hm:P.follows .mixedOrders=true) {ops:Array Oper} {T:List PV} {Γ Γ2:List aj} {K:List PV→List aj→Prop} (bH A R1 B Fl R2:List Nat) (Γ1:List aj)
  (hchk:AX tt ops bH A R1 B Fl R2=true) [hp:bC Γ Γ1 Γ2]
  (h:gM P tt ops.toList (bM ops.toList A) T Γ2 fun T'=>bU P tt ops.toList (bM ops.toList R1) T' Γ1 [] fun T2 Γ1' _=>kS Γ1' Γ2 fun Γ'=>
   gM P tt ops.toList (bM ops.toList B) T2 Γ' fun T3=>bU P tt ops.toList (bM ops.toList Fl) T3 Γ' [] fun T4 Γ4 _=>bU P tt ops.toList (bM ops.toList R2) T4 Γ4 [] fun T' Γ' _=>K T' Γ'):aC P ops T Γ K:=by
 refine ⟨fun rd nn id w0 F M w a Q' hS hT hQ=>wpIn_region_any hm ?_⟩;simp only[AX,Bool.and_eq_true] at hchk;obtain ⟨⟨⟨⟨⟨⟨⟨⟨⟨⟨⟨⟨⟨⟨⟨⟨h0,h1⟩,h2⟩,h3⟩,h5⟩,h6⟩,h6'⟩,b1⟩,b2⟩,b3⟩,f1⟩,f2⟩,f3⟩,f4⟩,h7⟩,h8⟩,h9⟩:=hchk
 have hlt: ∀ i∈A++(R1++(B++(Fl++R2))),i < ops.size:=fun i hi=>by
  have:=List.all_eq_true.1 h9 i hi;simpa[Nat.blt,Nat.succ_le_iff] using this
 have hnd: ∀ i∈R1++R2, ∀ o,ops[i]?=some o→lP o.op=true:=by
  intro i hi o ho;have:=List.all_eq_true.1 h6' i hi;rw[ho] at this;exact this
 have hnodup:(A++(R1++(B++(Fl++R2)))).Nodup:=(bV h7).imp fun h=>by
  intro e;subst e;simp at h
 have hpend:gL ops (Array.replicate ops.size false) (A++(R1++(B++(Fl++R2)))):=by
  refine ⟨hnodup,?_,fun i hi=>⟨_,Array.getElem?_eq_getElem (hlt i hi)⟩⟩;intro i;constructor
  ·intro hi
   rcases Nat.lt_or_ge i ops.size with h' | h'
   ·have:=List.all_eq_true.1 h8 i (List.mem_range.2 h')
    simpa only[List.contains_iff_mem] using this
   ·simp[Array.getElem?_eq_none,h'] at hi
  ·intro hi
   simp[hlt i hi]
 have hF:Gf tt ops Fl:=by
  refine ⟨fun i hi=>?_,bV f2,?_⟩
  ·have:=List.all_eq_true.1 f1 i hi
   cases ho:ops[i]? with
   | none=>rw[ho] at this;cases this
   | some o=>
    rw[ho] at this;simp only[Bool.and_eq_true,Option.isNone_iff_eq_none,Option.isSome_iff_exists] at this;obtain ⟨g,f,hf⟩:=this;exact ⟨o,f,rfl,g,hf⟩
  ·exact hnodup.sublist (((List.sublist_append_left Fl R2).trans (List.sublist_append_right B _)).trans ((List.sublist_append_right R1 _).trans (List.sublist_append_right A _)))
 have hs1:iH ops bH A R1 (B++R2):=by
  refine ⟨(bV h1).imp fun h=>by simpa using h,fun j hj i hi=>?_,bV h3,fun j hj i hi=>?_,fun i hi o ho=>?_,fun i hi=>hnd i (by simp[hi])⟩
  ·have:=List.all_eq_true.1 (List.all_eq_true.1 h2 j hj) i hi
   simpa using this
  ·exact List.all_eq_true.1 (List.all_eq_true.1 h5 j hj) i hi
  ·have:=List.all_eq_true.1 h6 i hi
   rw[ho] at this;simpa using this
 have hs2:iH ops bH B [] R2:=by
  refine ⟨(bV b1).imp fun h=>by simpa using h,fun _ _ _ h=>(by cases h),List.Pairwise.nil,fun j hj i hi=>?_,fun _ h=>(by cases h),fun _ h=>(by cases h)⟩;exact List.all_eq_true.1 (List.all_eq_true.1 b3 j (by simpa using hj)) i hi
 have hfx: ∀ j∈A++(R1++B), ∀ i∈Fl,br ops j i=true:=fun j hj i hi=>List.all_eq_true.1 (List.all_eq_true.1 f3 j hj) i hi;have hfr: ∀ j∈Fl, ∀ i∈R2,ja bH i j=true:=fun j hj i hi=>List.all_eq_true.1 (List.all_eq_true.1 f4 j hj) i hi
 have hlen:A.length + R1.length + (B.length + (Fl.length + R2.length))≤ops.size:=by
  have hsub:(A++(R1++(B++(Fl++R2)))) ⊆ List.range ops.size:=fun i hi=>List.mem_range.2 (hlt i hi);have:=hpend.1.length_le_of_subset hsub;simpa[Nat.add_assoc] using this
 have hS':aP w0 F (Γ1++(Γ2++M)) { w with drawn:=w.drawn + 1 }:=by
  have:=(hS.perm (hp.p.append_right M)).of_heap (w':={ w with drawn:=w.drawn + 1 }) rfl rfl rfl rfl;simpa using this
 have e0: ∀ i∈Fl,(fun _=>none:FE) i=none:=fun _ _=>rfl;have p0:cN (fun _=>none) Fl=Fl:=List.filter_eq_self.2 fun _ _=>rfl
 refine Na hk rd nn hF h0 (w0:=w0) (bH:=bH) (R2:=B++R2) (Γ2:=Γ2) (M:=M) (F0:=F) (ds:=a.defers) (Tl:=fun T2 Γ'=>gM P tt ops.toList (bM ops.toList B) T2 Γ' fun T3=>bU P tt ops.toList (bM ops.toList Fl) T3 Γ' [] fun T4 Γ4 _=>bU P tt ops.toList (bM ops.toList R2) T4 Γ4 [] fun T' Γ' _=>K T' Γ') ?_
  _ A R1 (fun _=>none) ops.size _ T Γ1 F a _ rfl ?_ ?_ ?_ hs1 (fun j hj i hi=>hfx j (by simp only[List.mem_append] at hj ⊢; rcases hj with h | h;exact .inl h;exact .inr (.inl h)) i hi) (fun i hi=>.inl rfl) (Fz.le_refl F) ?_ ?_ rfl ?_
 ·intro fuel listed T2 Γ' e F' a' w' hf hd hpd hE hle hS2 hT2 hds ht
  refine Na hk rd nn hF h0 (w0:=w0) (bH:=bH) (R2:=R2) (Γ2:=Γ') (M:=M) (F0:=F) (ds:=a.defers) (Tl:=fun T3 Γ'=>bU P tt ops.toList (bM ops.toList Fl) T3 Γ' [] fun T4 Γ4 _=>bU P tt ops.toList (bM ops.toList R2) T4 Γ4 [] fun T' Γ' _=>K T' Γ') ?_
   _ B [] e fuel listed T2 [] F' a' w' rfl (by simp at hf ⊢; omega) hd ?_ hs2 (fun j hj i hi=>hfx j (by simp at hj ⊢; exact .inr (.inr hj)) i hi) hE hle (by simpa using hS2) hT2 hds ?_
  ·intro fuel3 listed3 T3 Γ3 e3 F3 a3 w3 hf3 hd3 hpd3 hE3 hle3 hS3 hT3 hds3 ht3
   refine NV hk rd nn hF h0 (bV b2) hfr (fun i hi=>hnd i (by simp[hi])) (F0:=F) (ds:=a.defers) hQ _ e3 fuel3 listed3 T3 Γ3 F3 a3 w3 rfl hf3 hd3 hpd3 hE3 hle3 hS3 hT3 hds3 ?_;simpa only[jf,Array.getElem?_toList] using ht3
  ·simp only[List.nil_append]
   refine ⟨?_,fun i=>?_,fun i hi=>hpd.2.2 i ?_⟩
   ·have hperm:(cN e Fl++(B++R2)).Perm (B++(cN e Fl++R2)):=by
     rw[←List.append_assoc, ←List.append_assoc];exact List.perm_append_comm.append_right R2
    exact hperm.nodup_iff.1 hpd.1
   ·rw[hpd.2.1 i]
    simp only[List.mem_append];constructor
    ·rintro (h | h | h)
     ·exact .inr (.inl h)
     ·exact .inl h
     ·exact .inr (.inr h)
    ·rintro (h | h | h)
     ·exact .inr (.inl h)
     ·exact .inl h
     ·exact .inr (.inr h)
   ·simp only[List.mem_append] at hi⊢
    rcases hi with h | h | h
    ·exact .inr (.inl h)
    ·exact .inl h
    ·exact .inr (.inr h)
  ·simpa only[jf,Array.getElem?_toList,List.filterMap_nil,bU,List.nil_append] using ht
 ·rw[p0];simp;omega
 ·intro k o hk'
  rcases Nat.lt_or_ge k ops.size with h' | h'
  ·simp[h'] at hk'
  ·intro ho
   have:=(Array.getElem?_eq_some_iff.1 ho).1;omega
 ·rw[p0]
  refine ⟨?_,fun i=>?_,fun i hi=>hpend.2.2 i ?_⟩
  ·have hperm:(A++(R1++(B++(Fl++R2)))).Perm (A++(R1++(Fl++(B++R2)))):=by
    refine List.Perm.append_left A (List.Perm.append_left R1 ?_);rw[←List.append_assoc, ←List.append_assoc];exact List.perm_append_comm.append_right R2
   exact hperm.nodup_iff.1 hpend.1
  ·rw[hpend.2.1 i]
   simp only[List.mem_append];constructor
   ·rintro (h | h | h | h | h)
    ·exact .inl h
    ·exact .inr (.inl h)
    ·exact .inr (.inr (.inr (.inl h)))
    ·exact .inr (.inr (.inl h))
    ·exact .inr (.inr (.inr (.inr h)))
   ·rintro (h | h | h | h | h)
    ·exact .inl h
    ·exact .inr (.inl h)
    ·exact .inr (.inr (.inr (.inl h)))
    ·exact .inr (.inr (.inl h))
    ·exact .inr (.inr (.inr (.inr h)))
  ·simp only[List.mem_append] at hi⊢
   rcases hi with h | h | h | h | h
   ·exact .inl h
   ·exact .inr (.inl h)
   ·exact .inr (.inr (.inr (.inl h)))
   ·exact .inr (.inr (.inl h))
   ·exact .inr (.inr (.inr (.inr h)))
 ·rw[GV e0];simpa using hS'
 ·rw[yM e0];exact hT
 ·simpa only[jf,Array.getElem?_toList,fC] using h
theorem aC.sF (d:Option Nat) {ops:Array Oper} (hd:vP ops=d) (Γ1:List aj) (R1 B Fl R2:List Nat) (hk:TT.ok P tt) (hm:P.follows .mixedOrders=true) {T:List PV} {Γ Γ2:List aj} {K:List PV→List aj→Prop} [hp:bC Γ Γ1 Γ2]
  (h:gM P tt ops.toList (bM ops.toList (mY ops.toList 0 (R1++(B++(Fl++R2))))) T Γ2 fun T'=>bU P tt ops.toList (bM ops.toList R1) T' Γ1 [] fun T2 Γ1' _=>kS Γ1' Γ2 fun Γ'=>
   gM P tt ops.toList (bM ops.toList B) T2 Γ' fun T3=>bU P tt ops.toList (bM ops.toList Fl) T3 Γ' [] fun T4 Γ4 _=>bU P tt ops.toList (bM ops.toList R2) T4 Γ4 [] fun T' Γ' _=>K T' Γ')
  (hchk:AX tt ops (y6 ops.toList []) (mY ops.toList 0 (R1++(B++(Fl++R2)))) R1 B Fl R2=true:=by kernel_rfl):aC P ops T Γ K:=
 aC.OD hk hm _ _ R1 B Fl R2 Γ1 hchk h
end
theorem dA.RJ {α:Type} {f:α→PV} {g:α→List PV} [c:cz f g] {sz:Nat} {l:List α} {tk:Option Tok} {k:IntKind} {n:Int} {i:Nat} [x:eU n i] {K:PV→Prop} (d:α) (h0:0≤n) (h:n < l.length)
  (hk:K (.ep (g (l.getD i d)))):dA sz (.sl sz (l.map f) tk) (.int k n) K:=by
 have hi:=eU.lt h0 h;refine dA.ix h0 h ?_;have e:l.getD i d=l[i]:=by simp[List.getD,hi]
 rwa [e] at hk
class xD (α:Type) where
 d:α
instance:xD Int:=⟨0⟩
instance:xD UInt8:=⟨0⟩
instance:xD aa:=⟨.mk 0 0 [] []⟩
instance:xD Datum:=⟨.mk 0 0 0 [] []⟩
theorem RS {α:Type} {f:α→PV} {g:α→List PV} [c:cz f g] {sz:Nat} {l:List α} {tk:Option Tok} {k:IntKind} {n:Int} {i:Nat} [x:eU n i] {K:PV→Prop} [q:xD α] (h0:0≤n) (h:n < l.length)
  (hk:K (.ep (g (l.getD i q.d)))):dA sz (.sl sz (l.map f) tk) (.int k n) K:=dA.RJ q.d h0 h hk
theorem Rc {p:Prop} (h:p:=by
 conv=>whnf
 repeat ((first|(refine zW ?_ ?_;exact gA)|refine zH rfl ?_|refine zA ?_|refine zI bA ?_|refine zI rfl ?_|refine zJ rfl rfl ?_|refine zB ?_|refine zK rfl ?_|refine zL rfl ?_|refine zC ?_|(refine zO ?_ ?_ ?_;exact OA;exact OA)|(refine RS ?_ ?_ ?_;exact OA;exact OA)|refine zM rfl ?_|(refine zQ ?_ ?_ ?_;exact OA;exact OA)|(refine zR ?_ ?_;exact OA)|(refine zI ?_ ?_;exact NA)|(refine zS ?_ ?_ ?_;exact OA;exact OA)|(refine zT ?_ ?_ ?_;exact OA;exact OA)|(refine zU ?_ ?_ ?_;exact OA;exact OA)|(refine zV ?_ ?_ ?_;exact OA;exact OA)|intro _);conv=>whnf)
 first | exact bJ.same | exact bJ.lit | exact bJ.ep):p:=h
class cn {α:Type} (f:α→PV) (x:PV) (v:outParam α):Prop where
 wk:Wk x (f v)
 wl:fR x.cellsOf (f v).cellsOf
class oL {α:Type} (f:α→PV) (es:List PV) (l:outParam (List α)):Prop where
 h:qA es (l.map f)
class uD {α:Type} (f:α→PV) (s:Nat) (x:PV) (l:outParam (List α)):Prop where
 wk:Wk x (.sl s (l.map f) none)
instance (priority:=high) oL.map {α:Type} (f:α→PV) (l:List α):oL f (l.map f) l:=⟨qA.refl _⟩
instance oL.nil {α:Type} (f:α→PV):oL f [] []:=⟨.nil⟩
instance oL.cons {α:Type} (f:α→PV) (x:PV) (es:List PV) (v:α) (l:List α) [h:cn f x v] [k:oL f es l]:oL f (x::es) (v::l):=⟨.cons h.wl k.h⟩
instance uD.nil {α:Type} (f:α→PV) (s:Nat):uD f s .nil []:=⟨Wk.eu rfl⟩
instance uD.sl {α:Type} (f:α→PV) (s:Nat) (es:List PV) (l:List α) (tk:Option Tok) [h:oL f es l]:uD f s (.sl s es tk) l:=⟨Wk.trans (Wk.tok _ _ _) (Wk.row h.h)⟩
instance (k:IntKind) (n:Int):cn (PV.int k) (.int k n) n:=⟨Wk.refl _,fR.refl _⟩
instance (b:Bool):cn PV.bool (.bool b) b:=⟨Wk.refl _,fR.refl _⟩
instance (s:List UInt8):cn PV.str (.str s) s:=⟨Wk.refl _,fR.refl _⟩
instance (priority:=high) cn.same (t:aa):cn aa.pv (aa.pv t) t:=⟨Wk.refl _,fR.refl _⟩
instance (priority:=high) cn.cells (t:aa):cn aa.pv (.agg t.cells) t:=⟨by rw[aa.gI];exact Wk.refl _,by rw[aa.gI];exact fR.refl _⟩
theorem cn.Q6 {x:List PV} {t:aa} (h:fR x t.cells):cn aa.pv (.agg x) t:=⟨by rw[aa.gI];exact Wk.agg h,by rw[aa.gI];exact h⟩
instance (priority:=high) cn.parts (t:aa) (tk1 tk2:Option Tok):cn aa.pv (.agg [.int .i64 (aa.op t),.int .i64 (aa.n t),.sl 1 ((aa.v t).map (PV.int .i64)) tk1,.sl 4 ((aa.t t).map aa.pv) tk2]) t:=
 cn.Q6 (.cons (Wk.refl _) (.cons (Wk.refl _) (.cons (Wk.tok _ _ _) (.cons (Wk.tok _ _ _) .nil))))
instance cn.mk' (a b:Int) (x y:PV) (v:List Int) (t:List aa) [h:uD (PV.int .i64) 1 x v] [k:uD aa.pv 4 y t]:cn aa.pv (.agg [.int .i64 a,.int .i64 b,x,y]) (.mk a b v t):=
 cn.Q6 (.cons (Wk.refl _) (.cons (Wk.refl _) (.cons h.wk (.cons k.wk .nil))))
theorem cZ.wk {x:PV} {t:aa} [h:cn aa.pv x t]:Wk x (.agg t.cells):=by rw[←aa.gI];exact h.wk
instance (priority:=high) cn.QZ (t:Datum):cn Datum.pv (Datum.pv t) t:=⟨Wk.refl _,fR.refl _⟩
instance (priority:=high) cn.Qo (t:Datum):cn Datum.pv (.agg t.cells) t:=⟨by rw[Datum.gI];exact Wk.refl _,by rw[Datum.gI];exact fR.refl _⟩
theorem cn.Q5 {x:List PV} {t:Datum} (h:fR x t.cells):cn Datum.pv (.agg x) t:=⟨by rw[Datum.gI];exact Wk.agg h,by rw[Datum.gI];exact h⟩
instance (priority:=high) cn.Qs (t:Datum) (tk:Option Tok):cn Datum.pv (.agg [.int .i64 (Datum.kind t),.int .i64 (Datum.n t),.int .i64 (Datum.d t),.str (Datum.s t),.sl 5 ((Datum.l t).map Datum.pv) tk]) t:=
 cn.Q5 (.cons (Wk.refl _) (.cons (Wk.refl _) (.cons (Wk.refl _) (.cons (Wk.refl _) (.cons (Wk.tok _ _ _) .nil)))))
instance cn.RV (a b c:Int) (s:List UInt8) (x:PV) (l:List Datum) [h:uD Datum.pv 5 x l]:cn Datum.pv (.agg [.int .i64 a,.int .i64 b,.int .i64 c,.str s,x]) (.mk a b c s l):=
 cn.Q5 (.cons (Wk.refl _) (.cons (Wk.refl _) (.cons (Wk.refl _) (.cons (Wk.refl _) (.cons h.wk .nil)))))
section
theorem qK {n kB:Nat} (hb:Nat.ble kB 4096=true) (h:n≤34359738368):n * kB≤140737488355328:=
 Nat.le_trans (Nat.mul_le_mul h (Nat.le_of_ble_eq_true hb)) (by decide)
theorem aZ.more {α:Type} {f:α→PV} {l m:List α} {es:List PV} {s kB:Nat} {e:TypeId} {tk:Option Tok} {t:Tok} {Γ:List aj} {put:Tok→List aj} [hp:jx Γ t put] [hm:oL f es m] {K:PV→List aj→Prop} (he:t.e=e)
  (hb:Nat.ble kB 4096=true) (h1:l.length + m.length≤34359738368)
  (k: ∀ t':Tok,t'.e=e→K (.sl s ((l++m).map f) (some t')) (put t')):aZ s kB e (.sl s (l.map f) (some t)) (.sl s es tk) Γ K:=by
 obtain ⟨Γ1,Γ2,e1,e2⟩:=hp.at_;refine ⟨l.map f,m.map f,.inl ⟨tk,Wk.row hm.h⟩,by simp;omega,by simpa using qK hb h1,.inr (.inl ⟨t,Γ1,Γ2,rfl,e1,he,fun t' ht=>?_⟩)⟩;have:=k t' ht;rw[List.map_append,e2] at this;exact this
theorem aZ.empty {ys:List PV} {s kB:Nat} {e:TypeId} {tk:Option Tok} {t:Tok} {Γ:List aj} {put:Tok→List aj} [hp:jx Γ t put] {K:PV→List aj→Prop} (he:t.e=e)
  (hb:Nat.ble kB 4096=true) (h1:ys.length≤34359738368)
  (k: ∀ t':Tok,t'.e=e→K (.sl s ys (some t')) (put t')):aZ s kB e (.sl s [] (some t)) (.sl s ys tk) Γ K:=by
 obtain ⟨Γ1,Γ2,e1,e2⟩:=hp.at_;refine ⟨[],ys,.inl ⟨tk,Wk.refl _⟩,by simp;omega,by simpa using qK hb h1,.inr (.inl ⟨t,Γ1,Γ2,rfl,e1,he,fun t' ht=>?_⟩)⟩;have:=k t' ht;rw[e2] at this;exact this
theorem aZ.Ng {ys:List PV} {s kB:Nat} {e:TypeId} {tk:Option Tok} {Γ:List aj} {K:PV→List aj→Prop}
  (hb:Nat.ble kB 4096=true) (h1:ys.length≤34359738368)
  (k: ∀ t:Tok,t.e=e→K (.sl s ys (some t)) (.tok t::Γ)):aZ s kB e .nil (.sl s ys tk) Γ K:=
 ⟨[],ys,.inl ⟨tk,Wk.refl _⟩,by simp;omega,by simpa using qK hb h1,.inl ⟨rfl,rfl,.inl k⟩⟩
end
class zh (Γ:List aj) (Γ1 Γ2:outParam (List aj)):Prop where
 p:Γ.Perm (Γ1++Γ2)
instance zh.nil:zh [] [] []:=⟨List.Perm.refl _⟩
instance (priority:=high) zh.tok (t:Tok) (Γ Γ1 Γ2:List aj) [h:zh Γ Γ1 Γ2]:zh (.tok t::Γ) (.tok t::Γ1) Γ2:=⟨h.p.cons _⟩
instance zh.other (e:aj) (Γ Γ1 Γ2:List aj) [h:zh Γ Γ1 Γ2]:zh (e::Γ) Γ1 (e::Γ2):=⟨(h.p.cons e).trans List.perm_middle.symm⟩
section
variable {P:Program} {tt:Nat→TI}
theorem aC.sT (d:Option Nat) {ops:Array Oper} (hd:vP ops=d) (R1 R2:List Nat) {T:List PV} {Γ Γ1 Γ2:List aj} {K:List PV→List aj→Prop} (hk:TT.ok P tt) (hm:P.follows .mixedOrders=true) [hp:zh Γ Γ1 Γ2]
  (h:gM P tt ops.toList (bM ops.toList (mY ops.toList 0 (R1++R2))) T Γ2 fun T'=>bU P tt ops.toList (bM ops.toList R1) T' Γ1 [] fun T2 Γ1' _=>kS Γ1' Γ2 fun Γ'=>bU P tt ops.toList (bM ops.toList R2) T2 Γ' [] fun T' Γ' _=>K T' Γ')
  (hchk:nZ ops (y6 ops.toList []) (mY ops.toList 0 (R1++R2)) R1 R2=true:=by kernel_rfl):aC P ops T Γ K:=
 aC.split hk hm _ _ R1 R2 Γ1 (hp:=⟨hp.p⟩) hchk h
end
theorem yA:type_of% @aZ.more:= @aZ.more
theorem yB:type_of% @aZ.empty:= @aZ.empty
theorem yC:type_of% @aZ.Ng:= @aZ.Ng
theorem lA {p:Prop} (h:p:=by first | omega | (simp only[List.length_cons,List.length_nil,List.length_map,List.length_append,List.length_take,List.length_drop];omega)):p:=h
theorem sE {p q:Prop} (k:q) (h:q→p:=by intro hq;first | exact yA (by clear hq;assumption) rfl lA hq | exact yB (by clear hq;assumption) rfl lA hq | exact yC rfl lA hq):p:=h k
theorem tB {p:Prop} (h:p:=by first | exact Qh | exact Rc):p:=h
theorem Qc {p q:Prop} (k:q) (h:Hd q→p:=by intro hq;(conv=>whnf);(repeat1' ((first | ((first | (apply zY;intro hg) | apply zZ);exact tB) | (refine zW ?_ ?_;exact gA) | refine zH rfl ?_ | refine zA ?_ | refine zI bA ?_ | refine zI rfl ?_ | refine zJ rfl rfl ?_ | refine zB ?_ | refine zK rfl ?_ | refine zL rfl ?_ | refine zC ?_ | (refine zO ?_ ?_ ?_;omega;omega) | (refine zP ?_ ?_ ?_;omega;omega) | refine zM rfl ?_ | (refine zQ ?_ ?_ ?_;omega;omega) | (refine zR ?_ ?_;omega) | (refine zI ?_ ?_;exact nA) | (refine zS ?_ ?_ ?_;omega;omega) | (refine zT ?_ ?_ ?_;omega;omega) | (refine zU ?_ ?_ ?_;omega;omega) | (refine zV ?_ ?_ ?_;omega;omega) | (refine yA ?_ rfl lA ?_;assumption) | (refine yB ?_ rfl lA ?_;assumption) | refine yC rfl lA ?_ | refine n0 ?_ | refine zN rfl rfl rfl ?_ | refine zD ?_ | refine zE ?_ | refine zF ?_);conv=>whnf));exact hq.h):p:=h ⟨k⟩
theorem l9 {p q:Prop} (k:q) (h:Hd q→p:=by intro hq;(conv=>whnf);(repeat1' ((first | ((first | (apply zY;intro hg) | apply zZ);exact tB) | (refine zW ?_ ?_;exact gA) | refine zH rfl ?_ | refine zA ?_ | refine zI bA ?_ | refine zI rfl ?_ | refine zJ rfl rfl ?_ | refine zB ?_ | refine zK rfl ?_ | refine zL rfl ?_ | refine zC ?_ | (refine zO ?_ ?_ ?_;omega;omega) | (refine zP ?_ ?_ ?_;omega;omega) | refine zM rfl ?_ | (refine zQ ?_ ?_ ?_;omega;omega) | (refine zR ?_ ?_;omega) | (refine zI ?_ ?_;exact nA) | (refine zS ?_ ?_ ?_;omega;omega) | (refine zT ?_ ?_ ?_;omega;omega) | (refine zU ?_ ?_ ?_;omega;omega) | (refine zV ?_ ?_ ?_;omega;omega) | (refine yA ?_ rfl lA ?_;assumption) | (refine yB ?_ rfl lA ?_;assumption) | refine yC rfl lA ?_ | refine n0 ?_ | refine zN rfl rfl rfl ?_ | refine zD ?_ | refine zE ?_ | refine zF ?_ | refine zG ?_);conv=>whnf));exact hq.h):p:=h ⟨k⟩
theorem tJ.wk {x:PV} {t:Datum} [h:cn Datum.pv x t]:Wk x (.agg t.cells):=by rw[←Datum.gI];exact h.wk
theorem MW:Wk (.agg [.int .i64 4,.int .i64 0,.int .i64 0,.str [],.nil]) (.agg aK.cells):=Wk.agg (.cons (Wk.refl _) (.cons (Wk.refl _) (.cons (Wk.refl _) (.cons (Wk.refl _) (.cons (Wk.eu rfl) .nil)))))
theorem jK.gh {σ:Type} {ds:List Nat} {R:σ→List (Nat×PV)} {G:σ→List aj} {I:σ→Prop} {μ:σ→Nat} {T0:List PV} {s:σ} {T:List PV} {Γ:List aj} {D:Ds} (s':σ) (hI:I s') (hμ:μ s' < μ s)
  (hw:cg 0 T T0 ds (R s')) (hg:au Γ (G s')):jK ds R G I μ T0 s D T Γ D:=⟨rfl,s',hI,hμ,dg.of (cg.wk 0 T T0 ds (R s') hw) hg⟩
abbrev CJ (b:Nat):aj:=.box b [.int .i64 0,.int .i64 0,.int .i64 0,.str [],.nil]
abbrev m4 (b:Nat) (s:List UInt8) (k:Nat) (bad:Int):aj:=.box b [.str s,.int .i64 k,.int .i64 bad]
theorem gY (b:Nat) (s:List UInt8) (k:Nat) (at_:Int):af Tryz.prog 58 [.ptr b 0,.int .i64 at_] [m4 b s k (-1)] (fun y Γ'=>y=.agg aK.cells∧Γ'= [m4 b s k at_]):=by
 refine af.ah ai Tryz.func58 rfl rfl (n:=15) rfl rfl ?_
 conv=>whnf
 repeat' (first|refine l9 ?_|((intro _);conv=>whnf)|(refine zX (fun hc=>?_) (fun hc=>?_)<;>(try simp only[SY] at hc)<;>first|omega|(conv=>whnf)))
 ·exact ak.gen (y:=.agg aK.cells) MW ⟨rfl,rfl⟩
theorem Cq (c:UInt8):aA Tryz.prog 100 [.int .u8 c.toNat] (.bool (jY c)):=by
 refine af.ah ai Tryz.func100 rfl rfl (n:=30) rfl rfl ?_
 conv=>whnf
 skip
 refine aq.keep [2,4,5,6,7,8,9,10,11,12,13,14,15] (fun i:Nat=> [(4,.int .i64 i)]) (fun i=>i≤10∧mE.contains c=(mE.drop i).contains c) (fun i=>10 - i) 0 ⟨Nat.zero_le _,rfl⟩ wA ?_;rintro i ⟨hi,he⟩
 conv=>whnf
 repeat' (first|refine l9 ?_|((intro _);conv=>whnf)|(refine zX (fun hc=>?_) (fun hc=>?_)<;>(try simp only[SY] at hc)<;>(conv=>whnf)))
 ·simp only[List.length_cons,List.length_nil] at *
  have hcc:c=mE.getD i 0:=UInt8.toNat_inj.1 (by show c.toNat=(mE.getD i 0).toNat;exact Int.ofNat.inj hc);have hil:i < mE.length:=by show i < 10;omega
  rw[dP hil,List.contains_cons, ←hcc,beq_self_eq_true,Bool.true_or] at he;exact ak.pure (Wk.tt (by unfold jY;rw[he];rfl))
 ·simp only[List.length_cons,List.length_nil] at *
  have hcc: ¬c=mE.getD i 0:=fun e=>hc (by show (c.toNat:Int)=((mE.getD i 0).toNat:Int);rw[←e]);have hil:i < mE.length:=by show i < 10;omega
  rw[dP hil,List.contains_cons,beq_eq_false_iff_ne.2 hcc,Bool.false_or] at he;exact an (i + 1) ⟨by omega,he⟩ (by omega) wA
 ·simp only[List.length_cons,List.length_nil] at *
  rw[List.drop_of_length_le (by show 10≤i;omega)] at he;exact ak.pure (Wk.bool (by unfold jY;rw[he];rfl))
theorem jg {c n:UInt8}:(c.toNat:Int)=(n.toNat:Int)↔c=n:=⟨fun h=>UInt8.toNat_inj.1 (Int.ofNat.inj h),fun h=>by rw[h]⟩
theorem BK {p q:Prop} (k:q) (h:q→p:=by intro hq;first | exact aC.sP (some 4) rfl [] [] ai mixed hq | exact aC.sP (some 14) rfl [] [] ai mixed hq | exact aC.sP (some 25) rfl [] [] ai mixed hq):p:=h k
theorem rR (b:Nat) (s:List UInt8) (k:Nat) (bad:Int) (hs:s.length≤1000000) (hk:k≤s.length):af Tryz.prog 55 [.ptr b 0] [m4 b s k bad] (fun y Γ'=>y=.int .u8 (c5 s (c9 s k)).toNat∧Γ'= [m4 b s (c9 s k) bad]):=by
 refine af.ah ai Tryz.func55 rfl rfl (n:=72) rfl rfl ?_
 conv=>whnf
 skip
 refine aq.over [2,3,4,5,6,7,8,9,10,11,12,13,14,15,16,17,18,19,20,21,22,23,24,25,26,27,28,29,30,31,32,33,34,35,36,37,38,39,40,41,42,43,44,45,46,47,48,49,50,51,52,53,54,55,56,57,58,59,60,61,62,63,64,65,66,67,68,69,70,71] (fun _:Nat=> []) (fun j=> [m4 b s j bad]) (fun j=>j≤s.length∧c9 s j=c9 s k) (fun j=>s.length - j) k ⟨hk,rfl⟩ wA ?_;rintro j ⟨hj,he⟩;rw[Ml hj] at he
 conv=>whnf
 repeat' (first|refine l9 ?_|((refine BK ?_);conv=>whnf)|(refine zX (fun hc=>?_) (fun hc=>?_)<;>(try simp only[SY] at hc)<;>(conv=>whnf)))
 ·have h59:s.getD j 0=59:=jg.1 hc
  rw[if_pos (by omega),if_pos h59] at he;refine aq.over [25,26,27,28,29,30,31,32,33,34,35,36,37,38,39,40,41,42,43,44,45,46,47,48,49,50,51,52,53] (fun _:Nat=> []) (fun i=> [m4 b s i bad]) (fun i=>j≤i∧i≤s.length∧oD s i=oD s j) (fun i=>s.length - i) j ⟨Nat.le_refl _,hj,rfl⟩ wA ?_;rintro i ⟨hji,hi,hei⟩
  conv=>whnf
  repeat' (first|refine l9 ?_|((refine BK ?_);conv=>whnf)|(refine zX (fun hc=>?_) (fun hc=>?_)<;>(try simp only[SY] at hc)<;>(conv=>whnf)))
  ·have hin: ¬s.getD i 0=10:=fun e=>hc.2 (by rw[e];rfl)
   rw[uS (by omega),if_neg hin] at hei;rw[show (i:Int) + 1=((i + 1:Nat):Int) from rfl];exact an (i + 1) ⟨by omega,by omega,hei⟩ (by omega) wA
  ·have hei2:oD s i=i:=by
    by_cases hl:i < s.length
    ·have h10:((s.getD i 0).toNat:Int)=10:=by omega
     rw[uS hl,if_pos (jg.1 h10)]
    ·exact Ji hl
   have hji2:i≠j:=fun e=>by
    rw[e,h59] at hc;have hc2:((59:UInt8).toNat:Int)=59:=rfl;omega
   rw[←hei,hei2] at he;exact an i ⟨by omega,he⟩ (by omega) wA
 ·rw[if_pos (by omega),if_neg (fun e=>by have h2:= ‹¬((s.getD j 0).toNat:Int)=59›; rw[e] at h2;exact h2 rfl),if_neg (fun e=>by unfold zu at e;simp only[Bool.or_eq_true,beq_iff_eq] at e;rcases e with (e | e) | e<;>(rw[e] at hc;simp at hc))] at he
  subst he;exact ak.gen (Wk.eq (by unfold c5;rw[if_pos (by omega)])) ⟨rfl,rfl⟩
 ·rw[if_pos (by omega),if_neg (fun e=>by have h2:= ‹¬((s.getD j 0).toNat:Int)=59›; rw[e] at h2;exact h2 rfl),if_pos (by unfold zu;simp only[Bool.or_eq_true,beq_iff_eq];rcases hc with (e | e) | e;exact .inl (.inl (jg.1 e));exact .inl (.inr (jg.1 e));exact .inr (jg.1 e))] at he
  rw[show (j:Int) + 1=((j + 1:Nat):Int) from rfl];exact an (j + 1) ⟨by omega,he⟩ (by omega) wA
 ·rw[if_neg (by omega)] at he
  subst he;exact ak.gen (Wk.eq (by unfold c5;rw[if_neg (by omega)];rfl)) ⟨rfl,rfl⟩
theorem Jf {p q:Prop} (k:q) (h:q→p:=by intro hq;first | exact aC.sP (some 12) rfl [] [] ai mixed hq | exact aC.sP (some 41) rfl [] [] ai mixed hq):p:=h k
theorem K9 (b:Nat) (s:List UInt8) (k:Nat) (hs:s.length≤1000000) (hk:k≤s.length):af Tryz.prog 101 [.ptr b 0] [m4 b s k (-1)] (fun y Γ'=>y=.agg (l6 s k).1.cells∧Γ'= [m4 b s (l6 s k).2.1 (l6 s k).2.2]):=by
 refine af.ah ai Tryz.func101 rfl rfl (n:=69) rfl rfl ?_
 conv=>whnf
 repeat' (first|refine l9 ?_|((intro _);conv=>whnf)|(refine zX (fun hc=>?_) (fun hc=>?_)<;>(try simp only[SY] at hc)<;>omega))
 rename_i b2;refine aq.over [12,13,14,15,16,17,18,19,20,21,22,23,24,25,26,27,28,29,30,31,32,33,34,35,36,37,38,39,40] (fun _:Nat=> []) (fun j=> [CJ b2,m4 b s j (-1)]) (fun j=>k≤j∧j≤s.length∧jh s j=jh s k) (fun j=>s.length - j) k ⟨Nat.le_refl _,hk,rfl⟩ wA ?_;rintro j ⟨hkj,hj,he⟩
 conv=>whnf
 repeat' (first|refine l9 ?_|((first|((first|(apply zY;intro hg)|apply zZ);(conv=>whnf);(repeat ((first|refine pC (Cq _) wR ?_|refine aG ?_);conv=>whnf));exact pZ)|refine Jf ?_);conv=>whnf)|(refine zX (fun hc=>?_) (fun hc=>?_)<;>(try simp only[SY] at hc)<;>(conv=>whnf)))
 ·have hl:j < s.length:=by omega
  rw[xk hl,if_pos hc.2] at he;rw[show (j:Int) + 1=((j + 1:Nat):Int) from rfl];exact an (j + 1) ⟨by omega,by omega,he⟩ (by omega) wA
 ·have hje:j=jh s k:=by
   rw[←he];rcases hc with hc | hc
   ·rw[y8 (by omega)]
   ·by_cases hl:j < s.length
    ·rw[xk hl,if_neg (by rw[hc];simp)]
    ·rw[y8 hl]
  have hF:l6 s k=l6 s k:=rfl
  conv at hF=>rhs;unfold l6;dsimp only;rw[←hje]
  obtain ⟨w,hw⟩: ∃ w,w=(s.take j).drop k:=⟨_,rfl⟩
  rw[←hw] at hF;refine oY.of (.str w) ?_ ?_
  ·conv=>whnf
   refine eC.both (by omega) (by omega) (by omega) ?_;rw[hw];exact pS
  clear hw
  conv=>whnf
  repeat' (first|refine l9 ?_|((first|refine pC (Cz _) wR ?_|intro _);conv=>whnf)|(refine zX (fun hc=>?_) (fun hc=>?_)<;>(try simp only[SY] at hc)<;>(conv=>whnf)))
  ·rw[if_pos hc] at hF
   rw[hF];exact ak.gen (y:=.agg (Datum.mk 0 (jo w).1 (jo w).2.1 [] []).cells) (Γ':= [m4 b s j (-1)]) tJ.wk (And.intro rfl rfl)
  ·rw[if_neg (by rw[‹(jo w).2.2=false›];simp),if_pos (by omega)] at hF
   refine av.go (gY b s j k) (aX.refl _) ?_;rintro _ _ ⟨rfl,rfl⟩
   conv=>whnf
   repeat' (first|refine l9 ?_|(refine zX (fun hc=>?_) (fun hc=>?_)<;>(try simp only[SY] at hc)<;>omega))
   rw[hF];exact ak.gen (y:=.agg aK.cells) (Γ':= [m4 b s j k]) (Wk.refl _) (And.intro rfl rfl)
  ·rw[if_neg (by rw[‹(jo w).2.2=false›];simp),if_neg (by omega)] at hF
   rw[hF];exact ak.gen (y:=.agg (xB w).cells) (Γ':= [m4 b s j (-1)]) tJ.wk (And.intro rfl rfl)
theorem Bq (c:UInt8):Gl c=true↔((c.toNat:Int) < 32∨(c.toNat:Int) > 126)∨(c.toNat:Int)=92:=by
 unfold Gl;simp only[Bool.or_eq_true,decide_eq_true_eq,beq_iff_eq]
theorem Jg {p q:Prop} (k:q) (h:q→p:=by intro hq;first | exact aC.sP (some 15) rfl [] [] ai mixed hq | exact aC.sP (some 37) rfl [] [] ai mixed hq | exact aC.sP (some 84) rfl [] [] ai mixed hq | exact aC.sP (some 107) rfl [] [12] ai mixed hq):p:=h k
theorem KV (b:Nat) (s:List UInt8) (k:Nat) (hs:s.length≤1000000) (hk:k < s.length):af Tryz.prog 102 [.ptr b 0] [m4 b s k (-1)] (fun y Γ'=>y=.agg (lW s k).1.cells∧Γ'= [m4 b s (lW s k).2.1 (lW s k).2.2]):=by
 refine af.ah ai Tryz.func102 rfl rfl (n:=119) rfl rfl ?_
 conv=>whnf
 repeat' (first|refine l9 ?_|((intro _);conv=>whnf)|(refine zX (fun hc=>?_) (fun hc=>?_)<;>(try simp only[SY] at hc)<;>omega))
 rw[show (k:Int) + 1=((k + 1:Nat):Int) from rfl];rename_i b2;refine aq.over [15,16,17,18,19,20,21,22,23,24,25,26,27,28,29,30,31,32,33,34,35,36,37,38,39,40,41,42,43,44,45,46,47,48,49,50,51,52,53,54,55,56,57,58,59,60,61,62,63,64,65,66,67,68,69,70,71,72,73,74,75,76,77,78,79,80,81,82,83] (fun _:Nat=> []) (fun j=> [CJ b2,m4 b s j (-1)]) (fun j=>k + 1≤j∧j≤s.length∧lV s j=lV s (k + 1)) (fun j=>s.length - j) (k + 1) ⟨Nat.le_refl _,hk,rfl⟩ wA ?_;rintro j ⟨hkj,hj,he⟩;have hF:lW s k=lW s k:=rfl
 conv at hF=>rhs;unfold lW;dsimp only;rw[←he]
 conv=>whnf
 repeat' (first|refine l9 ?_|((refine Jg ?_);conv=>whnf)|(refine zX (fun hc=>?_) (fun hc=>?_)<;>(try simp only[SY] at hc)<;>(conv=>whnf)))
 ·have hl:j < s.length:=by omega
  have hT:lV s j=j:=by rw[xe hl,if_pos (.inr ((Bq _).2 (by omega)))]
  rw[hT,if_neg (fun h=>by have:= ‹_∧ ¬((s.getD j 0).toNat:Int)=34›.2;rw[h.2] at this;exact this rfl)] at hF;refine av.go (gY b s j j) (aX.refl _) ?_;rintro _ _ ⟨rfl,rfl⟩
  conv=>whnf
  repeat' (first|refine l9 ?_|(refine zX (fun hc=>?_) (fun hc=>?_)<;>(try simp only[SY] at hc)<;>omega))
  rw[hF];exact ak.gen (y:=.agg aK.cells) (Γ':= [m4 b s j j]) (Wk.refl _) (And.intro rfl rfl)
 ·have hl:j < s.length:=by omega
  rw[xe hl,if_neg (fun h=>by
   rcases h with h | h
   ·have:= ‹_∧ ¬((s.getD j 0).toNat:Int)=34›.2;rw[h] at this;exact this rfl
   ·have:=(Bq _).1 h;omega)] at he
  rw[show (j:Int) + 1=((j + 1:Nat):Int) from rfl];exact an (j + 1) ⟨by omega,by omega,he⟩ (by omega) wA
 ·have hl: ¬j < s.length:=by omega
  rw[Ic hl,if_neg (by omega)] at hF;refine av.go (gY b s j j) (aX.refl _) ?_;rintro _ _ ⟨rfl,rfl⟩
  conv=>whnf
  repeat' (first|refine l9 ?_|(refine zX (fun hc=>?_) (fun hc=>?_)<;>(try simp only[SY] at hc)<;>omega))
  rw[hF];exact ak.gen (y:=.agg aK.cells) (Γ':= [m4 b s j j]) (Wk.refl _) (And.intro rfl rfl)
 ·have hl:j < s.length:=by omega
  have h34:s.getD j 0=34:=jg.1 (by show _=(34:Int);omega);have hT:lV s j=j:=by rw[xe hl,if_pos (.inl h34)]
  rw[hT,if_pos ⟨hl,h34⟩] at hF;rw[hF];refine oY.of (.str ((s.take j).drop (k + 1))) ?_ ?_
  ·conv=>whnf
   refine eC.both (j:=j) (y:=⟨fun _=>by omega⟩) (by omega) (by omega) (by omega) ?_;exact pS
  conv=>whnf
  repeat' (first|refine l9 ?_|(refine zX (fun hc=>?_) (fun hc=>?_)<;>(try simp only[SY] at hc)<;>omega))
  exact ak.gen (y:=.agg (Datum.mk 3 0 0 ((s.take j).drop (k + 1)) []).cells) (Γ':= [.box b [.str s,.int .i64 ((j:Int) + 1),.int .i64 (-1)]]) tJ.wk (And.intro rfl rfl)
end Go.Cb


