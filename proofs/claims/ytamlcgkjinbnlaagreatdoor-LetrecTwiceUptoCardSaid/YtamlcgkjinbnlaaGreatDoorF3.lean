/-
 The types of this seat: a table made by a program, checked by the kernel.
 More rules: integers of other kinds, stable operations, maps.
 Rules for the automatic walk: guarded operations, indices, loops over what they change.
 The data of the program as Lean types, and how they lie in values.
 Contracts: numbers.
 Contracts: numbers from texts.
 Contracts: a number by another one.
 Contracts: the document's reading of a number.
 Contracts: data, the document's.
 Plain law: the document's reading of texts, as a function.
 Plain law: the document's reading goes on, and needs no more fuel than there are bytes.
 Drawn regions in two stages: stable operations, a chain, stable operations, a chain.
 Calls among entries that end in entries unknown.
 Drawn regions with allocations that may come at any time.
 Indices within bounds by a condition.
 More for the walk: elements within bounds on a condition; what values are as data; appends.
 Contracts: the document's reader: blanks, marks, failure.
-/
import Derived.Test.YtamlcgkjinbnlaaGreatDoorProg
import Derived.Test.YtamlcgkjinbnlaaGreatDoorF2
set_option linter.unusedSimpArgs false
set_option linter.unusedVariables false
namespace Go.Cb
open Go.Proofs
set_option maxRecDepth 100000
def tl:List TI:= [
 TI.none,
 ⟨.fn,1,8, [.fn]⟩,
 ⟨.int .i64,1,8, [.int .i64]⟩,
 ⟨.int .i64,1,8, [.int .i64]⟩,
 ⟨.bool,1,1, [.bool]⟩,
 ⟨.int .u8,1,1, [.int .u8]⟩,
 ⟨.int .u8,1,1, [.int .u8]⟩,
 ⟨.st [(0,1,false),(1,1,false),(2,1,false),(3,1,false)],4,24, [.int .i64,.int .i64,.bool,.int .u8]⟩,
 ⟨.st [(0,1,false),(1,1,false),(2,1,false),(3,1,false)],4,24, [.int .i64,.int .i64,.bool,.int .u8]⟩,
 ⟨.str,1,16, [.str]⟩,
 ⟨.str,1,16, [.str]⟩,
 ⟨.str,1,16, [.str]⟩,
 ⟨.int .u64,1,8, [.int .u64]⟩,
 ⟨.st [(0,1,false),(1,1,false)],2,24, [.str,.int .u64]⟩,
 ⟨.st [(0,1,false),(1,1,false)],2,24, [.str,.int .u64]⟩,
 ⟨.ptr 361,1,8, [.ptr]⟩,
 ⟨.ptr 364,1,8, [.ptr]⟩,
 ⟨.ptr 372,1,8, [.ptr]⟩,
 ⟨.st [(0,1,false)],1,8, [.ptr]⟩,
 ⟨.st [(0,1,false)],1,8, [.ptr]⟩,
 ⟨.ri,1,16, [.ri]⟩,
 ⟨.int .i32,1,4, [.int .i32]⟩,
 ⟨.sl 55,1,24, [.sl]⟩,
 ⟨.sl 3,1,24, [.sl]⟩,
 ⟨.sl 26,1,24, [.sl]⟩,
 ⟨.st [(0,1,false),(1,1,false),(2,1,false),(3,1,false)],4,64, [.int .i64,.int .i64,.sl,.sl]⟩,
 ⟨.st [(0,1,false),(1,1,false),(2,1,false),(3,1,false)],4,64, [.int .i64,.int .i64,.sl,.sl]⟩,
 ⟨.st [(0,1,false),(1,4,true)],5,88, [.sl,.int .i64,.int .i64,.sl,.sl]⟩,
 ⟨.st [(0,1,false),(1,4,true)],5,88, [.sl,.int .i64,.int .i64,.sl,.sl]⟩,
 ⟨.fn,1,8, [.fn]⟩,
 ⟨.fn,1,8, [.fn]⟩,
 ⟨.fn,1,8, [.fn]⟩,
 ⟨.int .i64,1,8, [.int .i64]⟩,
 TI.none,
 ⟨.fn,1,8, [.fn]⟩,
 ⟨.fn,1,8, [.fn]⟩,
 ⟨.fn,1,8, [.fn]⟩,
 TI.none,
 ⟨.fn,1,8, [.fn]⟩,
 ⟨.fn,1,8, [.fn]⟩,
 ⟨.fn,1,8, [.fn]⟩,
 ⟨.fn,1,8, [.fn]⟩,
 ⟨.fn,1,8, [.fn]⟩,
 ⟨.fn,1,8, [.fn]⟩,
 ⟨.fn,1,8, [.fn]⟩,
 ⟨.fn,1,8, [.fn]⟩,
 ⟨.fn,1,8, [.fn]⟩,
 ⟨.fn,1,8, [.fn]⟩,
 ⟨.fn,1,8, [.fn]⟩,
 ⟨.fn,1,8, [.fn]⟩,
 ⟨.st [(0,1,false),(1,1,false),(2,1,false)],3,40, [.str,.int .i64,.str]⟩,
 ⟨.st [(0,1,false),(1,1,false),(2,1,false)],3,40, [.str,.int .i64,.str]⟩,
 ⟨.fn,1,8, [.fn]⟩,
 ⟨.fn,1,8, [.fn]⟩,
 ⟨.st [(0,1,false),(1,1,false),(2,1,false),(3,1,false),(4,1,false)],5,64, [.int .i64,.int .i64,.int .i64,.str,.sl]⟩,
 ⟨.st [(0,1,false),(1,1,false),(2,1,false),(3,1,false),(4,1,false)],5,64, [.int .i64,.int .i64,.int .i64,.str,.sl]⟩,
 ⟨.ptr 59,1,8, [.ptr]⟩,
 ⟨.mp 3 4,1,8, [.mp]⟩,
 ⟨.st [(0,1,false),(1,1,false)],2,16, [.mp,.int .i64]⟩,
 ⟨.st [(0,1,false),(1,1,false)],2,16, [.mp,.int .i64]⟩,
 ⟨.fn,1,8, [.fn]⟩,
 ⟨.fn,1,8, [.fn]⟩,
 ⟨.fn,1,8, [.fn]⟩,
 ⟨.ptr 65,1,8, [.ptr]⟩,
 ⟨.st [(0,4,true),(4,1,false)],5,72, [.int .i64,.int .i64,.sl,.sl,.int .i64]⟩,
 ⟨.st [(0,4,true),(4,1,false)],5,72, [.int .i64,.int .i64,.sl,.sl,.int .i64]⟩,
 ⟨.fn,1,8, [.fn]⟩,
 TI.none,
 ⟨.fn,1,8, [.fn]⟩,
 TI.none,
 ⟨.fn,1,8, [.fn]⟩,
 ⟨.fn,1,8, [.fn]⟩,
 ⟨.ptr 75,1,8, [.ptr]⟩,
 ⟨.fn,1,8, [.fn]⟩,
 ⟨.st [(0,1,false),(1,1,false),(2,1,false),(3,1,false),(4,1,false),(5,1,false),(6,1,false)],7,72, [.int .i64,.int .i64,.int .i64,.bool,.int .i64,.sl,.bool]⟩,
 ⟨.st [(0,1,false),(1,1,false),(2,1,false),(3,1,false),(4,1,false),(5,1,false),(6,1,false)],7,72, [.int .i64,.int .i64,.int .i64,.bool,.int .i64,.sl,.bool]⟩,
 ⟨.fn,1,8, [.fn]⟩,
 TI.none,
 ⟨.fn,1,8, [.fn]⟩,
 ⟨.fn,1,8, [.fn]⟩,
 ⟨.fn,1,8, [.fn]⟩,
 ⟨.ptr 83,1,8, [.ptr]⟩,
 ⟨.st [(0,1,false),(1,1,false),(2,1,false),(3,1,false),(4,1,false),(5,1,false)],6,48, [.int .i64,.int .i64,.int .i64,.bool,.int .i64,.mp]⟩,
 ⟨.st [(0,1,false),(1,1,false),(2,1,false),(3,1,false),(4,1,false),(5,1,false)],6,48, [.int .i64,.int .i64,.int .i64,.bool,.int .i64,.mp]⟩,
 ⟨.fn,1,8, [.fn]⟩,
 ⟨.fn,1,8, [.fn]⟩,
 ⟨.fn,1,8, [.fn]⟩,
 ⟨.fn,1,8, [.fn]⟩,
 ⟨.st [(0,4,true),(4,1,false)],5,88, [.int .i64,.int .i64,.sl,.sl,.sl]⟩,
 ⟨.st [(0,4,true),(4,1,false)],5,88, [.int .i64,.int .i64,.sl,.sl,.sl]⟩,
 ⟨.fn,1,8, [.fn]⟩,
 ⟨.fn,1,8, [.fn]⟩,
 ⟨.fn,1,8, [.fn]⟩,
 ⟨.ptr 95,1,8, [.ptr]⟩,
 ⟨.st [(0,1,false),(1,1,false),(2,1,false)],3,32, [.str,.int .i64,.int .i64]⟩,
 ⟨.st [(0,1,false),(1,1,false),(2,1,false)],3,32, [.str,.int .i64,.int .i64]⟩,
 ⟨.fn,1,8, [.fn]⟩,
 ⟨.fn,1,8, [.fn]⟩,
 ⟨.fn,1,8, [.fn]⟩,
 ⟨.ptr 101,1,8, [.ptr]⟩,
 ⟨.st [(0,1,false),(1,1,false)],2,16, [.int .i64,.bool]⟩,
 ⟨.st [(0,1,false),(1,1,false)],2,16, [.int .i64,.bool]⟩,
 ⟨.fn,1,8, [.fn]⟩,
 ⟨.ptr 105,1,8, [.ptr]⟩,
 ⟨.st [(0,1,false),(1,1,false),(2,1,false)],3,40, [.sl,.int .i64,.bool]⟩,
 ⟨.st [(0,1,false),(1,1,false),(2,1,false)],3,40, [.sl,.int .i64,.bool]⟩,
 ⟨.fn,1,8, [.fn]⟩,
 ⟨.sl 9,1,24, [.sl]⟩,
 ⟨.st [(0,1,false),(1,1,false)],2,48, [.sl,.sl]⟩,
 ⟨.st [(0,1,false),(1,1,false)],2,48, [.sl,.sl]⟩,
 ⟨.fn,1,8, [.fn]⟩,
 ⟨.fn,1,8, [.fn]⟩,
 ⟨.fn,1,8, [.fn]⟩,
 ⟨.fn,1,8, [.fn]⟩,
 ⟨.fn,1,8, [.fn]⟩,
 ⟨.sl 230,1,24, [.sl]⟩,
 ⟨.ptr 124,1,8, [.ptr]⟩,
 ⟨.sl 122,1,24, [.sl]⟩,
 ⟨.sl 4,1,24, [.sl]⟩,
 ⟨.ptr 185,1,8, [.ptr]⟩,
 ⟨.ptr 183,1,8, [.ptr]⟩,
 ⟨.st [(0,1,false),(1,1,false),(2,1,false),(3,1,false),(4,1,false),(5,1,false),(6,1,false)],7,80, [.int .i64,.int .i64,.int .i64,.str,.sl,.ptr,.ptr]⟩,
 ⟨.st [(0,1,false),(1,1,false),(2,1,false),(3,1,false),(4,1,false),(5,1,false),(6,1,false)],7,80, [.int .i64,.int .i64,.int .i64,.str,.sl,.ptr,.ptr]⟩,
 ⟨.st [(0,1,false),(1,1,false),(2,1,false),(3,1,false),(4,1,false),(5,1,false),(6,7,true)],13,184, [.sl,.sl,.int .i64,.str,.sl,.int .i64,.int .i64,.int .i64,.int .i64,.str,.sl,.ptr,.ptr]⟩,
 ⟨.st [(0,1,false),(1,1,false),(2,1,false),(3,1,false),(4,1,false),(5,1,false),(6,7,true)],13,184, [.sl,.sl,.int .i64,.str,.sl,.int .i64,.int .i64,.int .i64,.int .i64,.str,.sl,.ptr,.ptr]⟩,
 ⟨.fn,1,8, [.fn]⟩,
 TI.none,
 ⟨.fn,1,8, [.fn]⟩,
 ⟨.fn,1,8, [.fn]⟩,
 ⟨.fn,1,8, [.fn]⟩,
 ⟨.st [(0,1,false),(1,1,false),(2,1,false),(3,1,false),(4,1,false)],5,32, [.int .i64,.int .i64,.int .i64,.bool,.bool]⟩,
 ⟨.st [(0,1,false),(1,1,false),(2,1,false),(3,1,false),(4,1,false)],5,32, [.int .i64,.int .i64,.int .i64,.bool,.bool]⟩,
 TI.none,
 ⟨.fn,1,8, [.fn]⟩,
 ⟨.fn,1,8, [.fn]⟩,
 ⟨.fn,1,8, [.fn]⟩,
 ⟨.fn,1,8, [.fn]⟩,
 ⟨.fn,1,8, [.fn]⟩,
 ⟨.fn,1,8, [.fn]⟩,
 ⟨.fn,1,8, [.fn]⟩,
 ⟨.fn,1,8, [.fn]⟩,
 ⟨.sl 144,1,24, [.sl]⟩,
 ⟨.fn,1,8, [.fn]⟩,
 ⟨.st [(0,1,false),(1,4,true),(5,1,false),(6,1,false),(7,1,false)],8,104, [.int .i64,.int .i64,.int .i64,.sl,.sl,.bool,.bool,.sl]⟩,
 ⟨.st [(0,1,false),(1,4,true),(5,1,false),(6,1,false),(7,1,false)],8,104, [.int .i64,.int .i64,.int .i64,.sl,.sl,.bool,.bool,.sl]⟩,
 ⟨.fn,1,8, [.fn]⟩,
 ⟨.sl 26,1,24, [.sl]⟩,
 ⟨.fn,1,8, [.fn]⟩,
 ⟨.fn,1,8, [.fn]⟩,
 ⟨.ptr 146,1,8, [.ptr]⟩,
 ⟨.sl 23,1,24, [.sl]⟩,
 ⟨.st [(0,1,false),(1,1,false),(2,1,false),(3,1,false)],4,80, [.int .i64,.sl,.sl,.sl]⟩,
 ⟨.st [(0,1,false),(1,1,false),(2,1,false),(3,1,false)],4,80, [.int .i64,.sl,.sl,.sl]⟩,
 ⟨.fn,1,8, [.fn]⟩,
 ⟨.ptr 156,1,8, [.ptr]⟩,
 ⟨.st [(0,4,true),(4,4,true),(8,1,false),(9,1,false),(10,1,false),(11,1,false)],12,240, [.int .i64,.int .i64,.sl,.sl,.int .i64,.sl,.sl,.sl,.sl,.sl,.sl,.sl]⟩,
 ⟨.st [(0,4,true),(4,4,true),(8,1,false),(9,1,false),(10,1,false),(11,1,false)],12,240, [.int .i64,.int .i64,.sl,.sl,.int .i64,.sl,.sl,.sl,.sl,.sl,.sl,.sl]⟩,
 TI.none,
 ⟨.fn,1,8, [.fn]⟩,
 ⟨.fn,1,8, [.fn]⟩,
 ⟨.fn,1,8, [.fn]⟩,
 ⟨.fn,1,8, [.fn]⟩,
 ⟨.fn,1,8, [.fn]⟩,
 TI.none,
 ⟨.fn,1,8, [.fn]⟩,
 ⟨.fn,1,8, [.fn]⟩,
 TI.none,
 ⟨.fn,1,8, [.fn]⟩,
 ⟨.fn,1,8, [.fn]⟩,
 ⟨.fn,1,8, [.fn]⟩,
 ⟨.fn,1,8, [.fn]⟩,
 ⟨.fn,1,8, [.fn]⟩,
 TI.none,
 ⟨.fn,1,8, [.fn]⟩,
 ⟨.fn,1,8, [.fn]⟩,
 ⟨.fn,1,8, [.fn]⟩,
 TI.none,
 ⟨.fn,1,8, [.fn]⟩,
 ⟨.fn,1,8, [.fn]⟩,
 ⟨.fn,1,8, [.fn]⟩,
 ⟨.ptr 228,1,8, [.ptr]⟩,
 ⟨.fn,1,8, [.fn]⟩,
 ⟨.st [(0,7,true),(7,1,false)],8,88, [.int .i64,.int .i64,.int .i64,.str,.sl,.ptr,.ptr,.bool]⟩,
 ⟨.st [(0,7,true),(7,1,false)],8,88, [.int .i64,.int .i64,.int .i64,.str,.sl,.ptr,.ptr,.bool]⟩,
 ⟨.st [(0,1,false),(1,1,false),(2,4,true),(6,1,false),(7,1,false),(8,1,false)],9,136, [.sl,.bool,.int .i64,.int .i64,.sl,.sl,.ptr,.int .i64,.sl]⟩,
 ⟨.st [(0,1,false),(1,1,false),(2,4,true),(6,1,false),(7,1,false),(8,1,false)],9,136, [.sl,.bool,.int .i64,.int .i64,.sl,.sl,.ptr,.int .i64,.sl]⟩,
 ⟨.fn,1,8, [.fn]⟩,
 TI.none,
 ⟨.fn,1,8, [.fn]⟩,
 ⟨.fn,1,8, [.fn]⟩,
 ⟨.fn,1,8, [.fn]⟩,
 ⟨.ptr 9,1,8, [.ptr]⟩,
 ⟨.fn,1,8, [.fn]⟩,
 TI.none,
 ⟨.fn,1,8, [.fn]⟩,
 ⟨.st [(0,1,false),(1,1,false),(2,1,false),(3,1,false),(4,1,false)],5,40, [.str,.int .i64,.int .i64,.bool,.bool]⟩,
 ⟨.st [(0,1,false),(1,1,false),(2,1,false),(3,1,false),(4,1,false)],5,40, [.str,.int .i64,.int .i64,.bool,.bool]⟩,
 TI.none,
 ⟨.fn,1,8, [.fn]⟩,
 ⟨.fn,1,8, [.fn]⟩,
 ⟨.fn,1,8, [.fn]⟩,
 ⟨.fn,1,8, [.fn]⟩,
 ⟨.int .u64,1,8, [.int .u64]⟩,
 ⟨.fn,1,8, [.fn]⟩,
 ⟨.fn,1,8, [.fn]⟩,
 TI.none,
 ⟨.fn,1,8, [.fn]⟩,
 ⟨.sl 252,1,24, [.sl]⟩,
 ⟨.fn,1,8, [.fn]⟩,
 ⟨.fn,1,8, [.fn]⟩,
 ⟨.fn,1,8, [.fn]⟩,
 ⟨.fn,1,8, [.fn]⟩,
 ⟨.fn,1,8, [.fn]⟩,
 ⟨.fn,1,8, [.fn]⟩,
 ⟨.fn,1,8, [.fn]⟩,
 TI.none,
 ⟨.fn,1,8, [.fn]⟩,
 ⟨.fn,1,8, [.fn]⟩,
 ⟨.fn,1,8, [.fn]⟩,
 TI.none,
 ⟨.fn,1,8, [.fn]⟩,
 ⟨.fn,1,8, [.fn]⟩,
 TI.none,
 ⟨.fn,1,8, [.fn]⟩,
 ⟨.st [(0,1,false),(1,1,false),(2,1,false),(3,1,false),(4,1,false)],5,40, [.str,.int .i64,.int .i64,.bool,.bool]⟩,
 TI.none,
 ⟨.fn,1,8, [.fn]⟩,
 ⟨.st [(0,1,false),(1,1,false),(2,1,false)],3,24, [.int .i64,.ptr,.ptr]⟩,
 ⟨.st [(0,1,false),(1,1,false),(2,1,false)],3,24, [.int .i64,.ptr,.ptr]⟩,
 ⟨.st [(0,1,false),(1,1,false),(2,4,true)],6,96, [.sl,.bool,.int .i64,.int .i64,.sl,.sl]⟩,
 ⟨.st [(0,1,false),(1,1,false),(2,4,true)],6,96, [.sl,.bool,.int .i64,.int .i64,.sl,.sl]⟩,
 ⟨.fn,1,8, [.fn]⟩,
 ⟨.fn,1,8, [.fn]⟩,
 ⟨.fn,1,8, [.fn]⟩,
 ⟨.fn,1,8, [.fn]⟩,
 ⟨.arr 31 196,155,1240,(List.replicate 31 [.str,.int .i64,.int .i64,.bool,.bool]).flatten⟩,
 ⟨.fn,1,8, [.fn]⟩,
 ⟨.fn,1,8, [.fn]⟩,
 ⟨.int .i64,1,8, [.int .i64]⟩,
 TI.none,
 ⟨.fn,1,8, [.fn]⟩,
 ⟨.fn,1,8, [.fn]⟩,
 ⟨.fn,1,8, [.fn]⟩,
 ⟨.fn,1,8, [.fn]⟩,
 ⟨.fn,1,8, [.fn]⟩,
 ⟨.int .u32,1,4, [.int .u32]⟩,
 ⟨.fn,1,8, [.fn]⟩,
 ⟨.int .u64,1,8, [.int .u64]⟩,
 ⟨.fn,1,8, [.fn]⟩,
 ⟨.fn,1,8, [.fn]⟩,
 ⟨.fn,1,8, [.fn]⟩,
 ⟨.st [(0,1,false),(1,4,true)],5,72, [.int .i64,.int .i64,.int .i64,.sl,.sl]⟩,
 ⟨.st [(0,1,false),(1,4,true)],5,72, [.int .i64,.int .i64,.int .i64,.sl,.sl]⟩,
 ⟨.fn,1,8, [.fn]⟩,
 ⟨.fn,1,8, [.fn]⟩,
 ⟨.fn,1,8, [.fn]⟩,
 ⟨.fn,1,8, [.fn]⟩,
 ⟨.sl 118,1,24, [.sl]⟩,
 ⟨.fn,1,8, [.fn]⟩,
 TI.none,
 ⟨.fn,1,8, [.fn]⟩,
 ⟨.fn,1,8, [.fn]⟩,
 ⟨.fn,1,8, [.fn]⟩,
 ⟨.fn,1,8, [.fn]⟩,
 ⟨.fn,1,8, [.fn]⟩,
 ⟨.fn,1,8, [.fn]⟩,
 TI.none,
 ⟨.fn,1,8, [.fn]⟩,
 ⟨.fn,1,8, [.fn]⟩,
 ⟨.fn,1,8, [.fn]⟩,
 ⟨.fn,1,8, [.fn]⟩,
 ⟨.fn,1,8, [.fn]⟩,
 ⟨.fn,1,8, [.fn]⟩,
 ⟨.sl 5,1,24, [.sl]⟩,
 ⟨.int .u64,1,8, [.int .u64]⟩,
 ⟨.fn,1,8, [.fn]⟩,
 ⟨.fn,1,8, [.fn]⟩,
 ⟨.fn,1,8, [.fn]⟩,
 ⟨.ptr 3,1,8, [.ptr]⟩,
 ⟨.fn,1,8, [.fn]⟩,
 ⟨.fn,1,8, [.fn]⟩,
 ⟨.fn,1,8, [.fn]⟩,
 ⟨.fn,1,8, [.fn]⟩,
 ⟨.fn,1,8, [.fn]⟩,
 ⟨.sl 57,1,24, [.sl]⟩,
 ⟨.fn,1,8, [.fn]⟩,
 ⟨.fn,1,8, [.fn]⟩,
 ⟨.fn,1,8, [.fn]⟩,
 ⟨.fn,1,8, [.fn]⟩,
 ⟨.fn,1,8, [.fn]⟩,
 TI.none,
 ⟨.fn,1,8, [.fn]⟩,
 ⟨.fn,1,8, [.fn]⟩,
 ⟨.arr 256 4,256,256,(List.replicate 256 (.bool))⟩,
 ⟨.arr 256 4,256,256,(List.replicate 256 (.bool))⟩,
 TI.none,
 ⟨.fn,1,8, [.fn]⟩,
 ⟨.fn,1,8, [.fn]⟩,
 ⟨.ptr 294,1,8, [.ptr]⟩,
 ⟨.fn,1,8, [.fn]⟩,
 TI.none,
 ⟨.fn,1,8, [.fn]⟩,
 TI.none,
 ⟨.fn,1,8, [.fn]⟩,
 ⟨.ptr 274,1,8, [.ptr]⟩,
 ⟨.fn,1,8, [.fn]⟩,
 ⟨.fn,1,8, [.fn]⟩,
 ⟨.fn,1,8, [.fn]⟩,
 TI.none,
 ⟨.fn,1,8, [.fn]⟩,
 TI.none,
 ⟨.fn,1,8, [.fn]⟩,
 ⟨.fn,1,8, [.fn]⟩,
 ⟨.ri,1,16, [.ri]⟩,
 ⟨.ri,1,16, [.ri]⟩,
 TI.none,
 ⟨.fn,1,8, [.fn]⟩,
 ⟨.fn,1,8, [.fn]⟩,
 ⟨.fn,1,8, [.fn]⟩,
 ⟨.fn,1,8, [.fn]⟩,
 ⟨.fn,1,8, [.fn]⟩,
 ⟨.fn,1,8, [.fn]⟩,
 ⟨.fn,1,8, [.fn]⟩,
 ⟨.fn,1,8, [.fn]⟩,
 ⟨.fn,1,8, [.fn]⟩,
 ⟨.arr 256 5,256,256,(List.replicate 256 (.int .u8))⟩,
 ⟨.st [(0,1,false),(1,1,false)],2,2, [.int .u8,.int .u8]⟩,
 ⟨.st [(0,1,false),(1,1,false)],2,2, [.int .u8,.int .u8]⟩,
 ⟨.arr 16 327,32,32,(List.replicate 32 (.int .u8))⟩,
 ⟨.fn,1,8, [.fn]⟩,
 ⟨.int .i64,1,8, [.int .i64]⟩,
 TI.none,
 ⟨.fn,1,8, [.fn]⟩,
 ⟨.ptr 342,1,8, [.ptr]⟩,
 ⟨.fn,1,8, [.fn]⟩,
 ⟨.fn,1,8, [.fn]⟩,
 TI.none,
 ⟨.fn,1,8, [.fn]⟩,
 TI.none,
 ⟨.fn,1,8, [.fn]⟩,
 ⟨.fn,1,8, [.fn]⟩,
 ⟨.st [(0,1,false),(1,1,false),(2,1,false)],3,48, [.str,.str,.ri]⟩,
 ⟨.st [(0,1,false),(1,1,false),(2,1,false)],3,48, [.str,.str,.ri]⟩,
 ⟨.fn,1,8, [.fn]⟩,
 ⟨.fn,1,8, [.fn]⟩,
 ⟨.ptr 5,1,8, [.ptr]⟩,
 ⟨.ptr 348,1,8, [.ptr]⟩,
 ⟨.st [(0,1,false)],1,16, [.str]⟩,
 ⟨.st [(0,1,false)],1,16, [.str]⟩,
 ⟨.fn,1,8, [.fn]⟩,
 ⟨.arr 24 5,24,24,(List.replicate 24 (.int .u8))⟩,
 ⟨.fn,1,8, [.fn]⟩,
 TI.none,
 ⟨.fn,1,8, [.fn]⟩,
 ⟨.fn,1,8, [.fn]⟩,
 ⟨.arr 20 247,20,160,(List.replicate 20 (.int .u64))⟩,
 ⟨.arr 65 5,65,65,(List.replicate 65 (.int .u8))⟩,
 ⟨.arr 32 5,32,32,(List.replicate 32 (.int .u8))⟩,
 ⟨.arr 64 5,64,64,(List.replicate 64 (.int .u8))⟩,
 ⟨.fn,1,8, [.fn]⟩,
 ⟨.st [(0,1,false),(1,1,false),(2,1,false),(3,1,false)],4,40, [.ptr,.ptr,.ptr,.str]⟩,
 ⟨.st [(0,1,false),(1,1,false),(2,1,false),(3,1,false)],4,40, [.ptr,.ptr,.ptr,.str]⟩,
 TI.none,
 TI.none,
 TI.none,
 ⟨.fn,1,8, [.fn]⟩,
 ⟨.int .u8,1,1, [.int .u8]⟩,
 ⟨.int .u8,1,1, [.int .u8]⟩,
 ⟨.fn,1,8, [.fn]⟩,
 ⟨.int .i32,1,4, [.int .i32]⟩,
 ⟨.int .i32,1,4, [.int .i32]⟩,
 ⟨.st [(0,1,false),(1,1,false),(2,1,false),(3,1,false),(4,1,false),(5,1,false),(6,1,false),(7,1,false),(8,1,false),(9,1,false),(10,1,false)],11,48, [.int .u64,.int .u64,.int .u32,.int .u8,.int .u8,.int .u8,.int .u8,.fn,.ptr,.int .i32,.int .i32]⟩,
 ⟨.st [(0,1,false),(1,1,false),(2,1,false),(3,1,false),(4,1,false),(5,1,false),(6,1,false),(7,1,false),(8,1,false),(9,1,false),(10,1,false)],11,48, [.int .u64,.int .u64,.int .u32,.int .u8,.int .u8,.int .u8,.int .u8,.fn,.ptr,.int .i32,.int .i32]⟩,
 TI.none]
def tt:Nat→TI:=bE tl
theorem ai:TT.ok Tryz.prog tt:=On (l:=tl) (by kernel_rfl)
theorem mixed:Tryz.prog.follows .mixedOrders=true:=rfl
theorem oe.of {B:(PV→List aj→Prop)→Prop} {Γ:List aj} {k:PV→Prop} (v:PV) (h1:B (fun p Γ'=>bB p Γ' v Γ)) (h2:k v):oe B Γ k:=⟨v,h1,h2⟩
theorem AF {k:IntKind} {v u:Int} (h:k.wrap v=u) {K:Int→Prop} (hk:K u):ij k v K:=⟨h▸hk⟩
theorem wrap_u64 {v:Int} (h1:0≤v) (h2:v < 18446744073709551616):IntKind.u64.wrap v=v:=by
 simp only[IntKind.wrap,IntKind.bits,IntKind.signed];simp;omega
theorem ij.u64 {v:Int} {K:Int→Prop} (h1:0≤v) (h2:v < 18446744073709551616) (k:K v):ij .u64 v K:=AF (wrap_u64 h1 h2) k
theorem AG {v:Int} (h1: -18446744073709551616≤v) (h2:v < 0):IntKind.u64.wrap v=v + 18446744073709551616:=by
 simp only[IntKind.wrap,IntKind.bits,IntKind.signed];simp;omega
theorem ij.uD {v:Int} {K:Int→Prop} (h1: -18446744073709551616≤v) (h2:v < 0) (k:K (v + 18446744073709551616)):ij .u64 v K:=AF (AG h1 h2) k
theorem wrap_u8 {v:Int} (h1:0≤v) (h2:v < 256):IntKind.u8.wrap v=v:=by
 simp only[IntKind.wrap,IntKind.bits,IntKind.signed];simp;omega
class c6 (Γ:List aj) (r:Nat) (d:outParam TypeDesc) (m:outParam (Value→Option PV)) (aK:outParam (List (Int×Value))) (put:outParam ((Value→Option PV)→List (Int×Value)→List aj)):Prop where
 at_: ∃ Γ1 Γ2,Γ=Γ1++.mp r d m aK::Γ2∧ ∀ m' p',put m' p'=Γ1++.mp r d m' p'::Γ2
instance (priority:=high) c6.head (Γ:List aj) (r:Nat) (d:TypeDesc) (m:Value→Option PV) (aK:List (Int×Value)):c6 (.mp r d m aK::Γ) r d m aK (fun m' p'=>.mp r d m' p'::Γ):=⟨[],Γ,rfl,fun _ _=>rfl⟩
instance c6.tail (e:aj) (Γ:List aj) (r:Nat) (d:TypeDesc) (m:Value→Option PV) (aK:List (Int×Value)) (put:(Value→Option PV)→List (Int×Value)→List aj) [h:c6 Γ r d m aK put]:c6 (e::Γ) r d m aK (fun m' p'=>e::put m' p'):=by
 obtain ⟨Γ1,Γ2,h1,h2⟩:=h.at_;exact ⟨e::Γ1,Γ2,by rw[h1];rfl,fun m' p'=>by rw[h2];rfl⟩
theorem fy.at_ {r:Nat} {d:TypeDesc} {k:Value} {z:PV} {Γ:List aj} {m:Value→Option PV} {aK:List (Int×Value)} {put:(Value→Option PV)→List (Int×Value)→List aj} [hp:c6 Γ r d m aK put] {K:PV→Bool→Prop} (y:PV) (b:Bool)
  (hk:oK d k) (h1: ∀ p,m k=some p→Wk p y∧b=true) (h2:m k=none→Wk z y∧b=false) (h:K y b):fy r d (some k) z Γ K:=by
 obtain ⟨Γ1,Γ2,e1,_⟩:=hp.at_;exact ⟨k,m,aK,y,b,rfl,hk,by rw[e1];simp,h1,h2,h⟩
theorem fP.at_ {r:Nat} {d:TypeDesc} {k:Value} {p:PV} {Γ:List aj} {m:Value→Option PV} {aK:List (Int×Value)} {put:(Value→Option PV)→List (Int×Value)→List aj} [hp:c6 Γ r d m aK put] {K:List aj→Prop} (m':Value→Option PV)
  (hk:oK d k) (h1:m' k=some p) (h2: ∀ k',k'≠k→m' k'=m k') (h:K (put m' aK)) (hq:m k≠none∨ ∀ q∈aK,q.2≠.tuple #[]:=by right;simp):fP r d (some k) p Γ K:=by
 obtain ⟨Γ1,Γ2,e1,e2⟩:=hp.at_;exact ⟨k,m,m',aK,Γ1,Γ2,rfl,hk,e1,h1,h2,hq,by rw[←e2];exact h⟩
theorem dP.at_ {r:Nat} {d:TypeDesc} {k:Value} {z:PV} {Γ:List aj} {m:Value→Option PV} {aK:List (Int×Value)} {put:(Value→Option PV)→List (Int×Value)→List aj} [hp:c6 Γ r d m aK put] {K:PV→List aj→Prop} (m':Value→Option PV)
  (hk:oK d k) (h1:m' k=some ((m k).getD z)) (h2: ∀ k',k'≠k→m' k'=m k') (h: ∀ n,K (.bp [(m k).getD z,.int .i64 n]) (put m' ((n,k)::aK))) (hq:m k≠none∨ ∀ q∈aK,q.2≠.tuple #[]:=by right;simp):dP r d (some k) z Γ K:=by
 obtain ⟨Γ1,Γ2,e1,e2⟩:=hp.at_;exact ⟨k,m,m',aK,Γ1,Γ2,rfl,hk,e1,h1,h2,hq,fun n=>by rw[←e2];exact h n⟩
theorem cF.at_ {r:Nat} {d:TypeDesc} {n:Int} {k:Value} {p:PV} {Γ:List aj} {m:Value→Option PV} {aK:List (Int×Value)} {put:(Value→Option PV)→List (Int×Value)→List aj} [hp:c6 Γ r d m ((n,k)::aK) put] {K:List aj→Prop} (m':Value→Option PV)
  (h1:m' k=some p) (h2: ∀ k',k'≠k→m' k'=m k') (h:K (put m' ((n,k)::aK))) (hq:k≠.tuple #[]:=by simp):cF r n p Γ K:=by
 obtain ⟨Γ1,Γ2,e1,e2⟩:=hp.at_;exact ⟨d,k,m,m',(n,k)::aK,Γ1,Γ2,by simp,hq,e1,h1,h2,by rw[←e2];exact h⟩
theorem dN.at_ {r:Nat} {d:TypeDesc} {k:Value} {Γ:List aj} {m:Value→Option PV} {aK:List (Int×Value)} {put:(Value→Option PV)→List (Int×Value)→List aj} [hp:c6 Γ r d m aK put] {K:List aj→Prop} (m':Value→Option PV)
  (hk:oK d k) (h1:m' k=none) (h2: ∀ k',k'≠k→m' k'=m k') (h:K (put m' [])):dN r d (some k) Γ K:=by
 obtain ⟨Γ1,Γ2,e1,e2⟩:=hp.at_;exact ⟨k,m,m',aK,Γ1,Γ2,rfl,hk,e1,h1,h2,by rw[←e2];exact h⟩
section
variable {P:Program} {tt:Nat→TI}
theorem od.go {ds:List Nat} {a b:Code} {T:List PV} {Γ:List aj} {D:Ds} {Q:QT} (h:W P tt a T Γ D (PJ (W P tt b) Q)):od ds (W P tt a) (W P tt b) T Γ D Q:=by
 refine ⟨fun _ _=>False,oN _ _ _ _ _ _ ?_ h,fun _ _ h=>h.elim⟩;intro e T' Γ' D' h;cases e<;>first | exact h | exact .inl h
def ES:Nat→List (Nat×PV)→Option PV
 | _, []=>none
 | i,(j,x)::r=>match Nat.beq i j with
  | true=>some x
  | false=>ES i r
def Bl:Nat→List Nat→Bool
 | _, []=>false
 | i,j::r=>match Nat.beq i j with
  | true=>true
  | false=>Bl i r
def kz:Nat→List PV→List Nat→List (Nat×PV)→List PV
 | _, [],_,_=> []
 | i,x::T,ds,ps=>(match ES i ps with
  | some v=>v
  | none=>match Bl i ds with
   | true=>.any
   | false=>x)::kz (i + 1) T ds ps
def mG {q:Sort _}:Nat→List PV→List Nat→List (Nat×PV)→(List PV→q)→q
 | _, [],_,_,k=>k []
 | i,x::T,ds,ps,k=>match ES i ps with
  | some v=>mG (i + 1) T ds ps fun r=>k (v::r)
  | none=>match Bl i ds with
   | true=>mG (i + 1) T ds ps fun r=>k (.any::r)
   | false=>mG (i + 1) T ds ps fun r=>k (x::r)
theorem jS {q:Sort _}: ∀ (i:Nat) (T:List PV) (ds:List Nat) (ps:List (Nat×PV)) (k:List PV→q),mG i T ds ps k=k (kz i T ds ps)
 | _, [],_,_,_=>rfl
 | i,x::T,ds,ps,k=>by
  simp only[mG,kz]
  split
  ·exact jS (i + 1) T ds ps _
  ·split<;>exact jS (i + 1) T ds ps _
def vK {q:Sort _}:Nat→Nat→List (Nat×PV)→(List PV→q)→q
 | _,0,_,k=>k []
 | i,n + 1, [],k=>vK (i + 1) n [] fun r=>k (.any::r)
 | i,n + 1,(j,x)::ps,k=>match Nat.beq i j with
  | true=>vK (i + 1) n ps fun r=>k (x::r)
  | false=>vK (i + 1) n ((j,x)::ps) fun r=>k (.any::r)
theorem qw {q:Sort _}: ∀ (i n:Nat) (ps:List (Nat×PV)) (k:List PV→q),vK i n ps k=k (jQ i n ps)
 | _,0,_,_=>rfl
 | i,n + 1, [],k=>by simp only[vK,jQ];exact qw (i + 1) n [] _
 | i,n + 1,(j,x)::ps,k=>by
  simp only[vK,jQ];cases Nat.beq i j
  ·exact qw (i + 1) n ((j,x)::ps) _
  ·exact qw (i + 1) n ps _
def bY:Nat→List PV→List PV→List Nat→List (Nat×PV)→Prop
 | _, [], [],_,_=>True
 | i,x'::T',x::T,ds,ps=>match ES i ps with
  | some v=>Wk x' v∧bY (i + 1) T' T ds ps
  | none=>match Bl i ds with
   | true=>bY (i + 1) T' T ds ps
   | false=>Wk x' x∧bY (i + 1) T' T ds ps
 | _,_,_,_,_=>False
theorem bY.wk: ∀ (i:Nat) (T' T:List PV) (ds:List Nat) (ps:List (Nat×PV)),bY i T' T ds ps→aX T' (kz i T ds ps)
 | _, [], [],_,_,_=>.nil
 | _, [],_::_,_,_,h=>by simp[bY] at h
 | _,_::_, [],_,_,h=>by simp[bY] at h
 | i,x'::T',x::T,ds,ps,h=>by
  simp only[bY] at h;simp only[kz]
  split at h
  ·rename_i hv
   exact .cons h.1 (bY.wk (i + 1) T' T ds ps h.2)
  ·split at h
   ·exact .cons (Wk.any _) (bY.wk (i + 1) T' T ds ps h)
   ·exact .cons h.1 (bY.wk (i + 1) T' T ds ps h.2)
structure tY {τ:Type} (ds:List Nat) (ps:τ→List (Nat×PV)) (G:τ→List aj) (J:τ→Prop) (T:List PV) (D0:Ds) (T':List PV) (Γ:List aj) (D:Ds):Prop where
 h:D=D0∧ ∃ t,J t∧dh T' Γ (kz 0 T ds (ps t)) (G t)
theorem jo {τ:Type} {ds:List Nat} {ps:τ→List (Nat×PV)} {G:τ→List aj} {J:τ→Prop} {T T':List PV} {Γ Γ1:List aj} {D:Ds} (t:τ) (hJ:J t) (hw:bY 0 T' T ds (ps t)) [hp:bz Γ (G t) Γ1]:tY ds ps G J T D T' Γ D:=
 ⟨rfl,t,hJ,dh.of (bY.wk 0 T' T ds (ps t) hw) (au.drop hp.p)⟩
theorem od.join {τ:Type} {ds:List Nat} {a b:Code} {T:List PV} {Γ:List aj} {D:Ds} {Q:QT} (ps:τ→List (Nat×PV)) (G:τ→List aj) (J:τ→Prop)
  (h:W P tt a T Γ D (Cv (tY ds ps G J T D) Q)) (h2: ∀ t,J t→mG 0 T ds (ps t) fun T0=>W P tt b T0 (G t) D Q):od ds (W P tt a) (W P tt b) T Γ D Q:=by
 refine ⟨fun T0 Γ0=> ∃ t,J t∧T0=kz 0 T ds (ps t)∧Γ0=G t,oN _ _ _ _ _ _ ?_ h,?_⟩
 ·intro e T' Γ' D' h
  cases e<;>first | exact h | skip
  obtain ⟨h1,t,h3,h4⟩:=h.h;exact .inr ⟨h1,_,_,h4,t,h3,rfl,rfl⟩
 ·rintro _ _ ⟨t,h1,rfl,rfl⟩
  have:=h2 t h1;rwa [jS] at this
structure Eg {σ:Type} (R:σ→List (Nat×PV)) (G:σ→List aj) (I:σ→Prop) (μ:σ→Nat) (len:Nat) (s:σ) (D0:Ds) (T:List PV) (Γ:List aj) (D:Ds):Prop where
 h:D=D0∧ ∃ s',I s'∧μ s' < μ s∧dh T Γ (jQ 0 len (R s')) (G s')
theorem ax.j7 {σ:Type} {c:Code} {T:List PV} {Γ Γ1:List aj} {D:Ds} {Q:QT} (R:σ→List (Nat×PV)) (G:σ→List aj) (I:σ→Prop) (μ:σ→Nat) (len:Nat) (s0:σ)
  (hI:I s0) (hl:jL T len=true) (hw:fC T 0 (R s0)) [hp:bz Γ (G s0) Γ1]
  (round: ∀ s,I s→vK 0 len (R s) fun T0=>W P tt c T0 (G s) D (Cv (Eg R G I μ len s D) Q)):ax (W P tt c) T Γ D Q:=by
 refine ⟨fun n T Γ=> ∃ s,I s∧n=μ s∧T=jQ 0 len (R s)∧Γ=G s,fun _ _ _=>False,⟨μ s0,_,_,dh.mask (R s0) hl hw (hp:=hp),s0,hI,rfl,rfl,rfl⟩,?_,fun _ _ _ h=>h.elim⟩;rintro n _ _ ⟨s,hs,rfl,rfl,rfl⟩;have hr:=round s hs;rw[qw] at hr;refine oN _ _ _ _ _ _ ?_ hr;intro e T Γ D' h;cases e<;>first | exact h | exact .inl h | skip
 obtain ⟨h1,s',h2,h3,h4⟩:=h.h;exact ⟨h1,μ s',_,_,h3,h4,s',h2,rfl,rfl,rfl⟩
structure OT {τ:Type} (R2:τ→List (Nat×PV)) (G2:τ→List aj) (J:τ→Prop) (len:Nat) (D0:Ds) (T:List PV) (Γ:List aj) (D:Ds):Prop where
 h:D=D0∧ ∃ t,J t∧dh T Γ (jQ 0 len (R2 t)) (G2 t)
theorem BN {σ:Type} {R:σ→List (Nat×PV)} {G:σ→List aj} {I:σ→Prop} {μ:σ→Nat} {len:Nat} {s:σ} {T:List PV} {Γ Γ1:List aj} {D:Ds} (s':σ) (hI:I s') (hμ:μ s' < μ s) (hl:jL T len=true) (hw:fC T 0 (R s')) [hp:bz Γ (G s') Γ1]:
  Eg R G I μ len s D T Γ D:=⟨rfl,s',hI,hμ,dh.mask (R s') hl hw⟩
end
theorem eO.lazy {g:Bool} {E:PV→Prop} {A B:Prop} {L:PV→Prop} {x:PV} (h1:g=true→E x) (h2:L (.opt g x)):eO g E A B L:=⟨.inr ⟨x,h1,h2⟩⟩
theorem eO.ways {g:Bool} {E:PV→Prop} {A B:Prop} {L:PV→Prop} (h1:g=true→A) (h2:g=false→B):eO g E A B L:=⟨.inl ⟨h1,h2⟩⟩
theorem AN.of {q:Bool} {K:Prop} (h:q=true) (k:K):AN q K:=⟨h,k⟩
theorem kR.ways {p:Bool} {A B:Prop} (h1:p=true→A) (h2:p=false→B):kR p A B:=⟨h1,h2⟩
theorem kR.no {p:Bool} {A B:Prop} (h:p=false) (k:B):kR p A B:=⟨fun e=>(by rw[h] at e;cases e),fun _=>k⟩
theorem ia.of {p K:Prop} (h:p) (k:K):ia p K:=⟨h,k⟩
theorem FC.of {k:IntKind} {a b:Int} {K:Prop} (h:b≠0) (k':K):FC k a b K:=⟨h,k'⟩
theorem SS:(∀ (p:Prop) [Decidable p],(decide p=true)=p)∧(∀ (p:Prop) [Decidable p],(decide p=false)= ¬ p)∧(∀ a b:Int,((a == b)=true)=(a=b))∧(∀ a b:Int,((a == b)=false)= ¬ (a=b))∧
  (∀ a b:List UInt8,((a == b)=true)=(a=b))∧(∀ a b:List UInt8,((a == b)=false)= ¬ (a=b))∧(∀ a b:Int,((a !=b)=true)= ¬ (a=b))∧(∀ a b:Int,((a !=b)=false)=(a=b))∧
  (∀ a b:Bool,((a && b)=true)=(a=true∧b=true))∧(∀ a b:Bool,((a && b)=false)=(a=false∨b=false))∧(∀ a b:Bool,((a || b)=true)=(a=true∨b=true))∧(∀ a b:Bool,((a || b)=false)=(a=false∧b=false))∧
  (∀ a:Bool,((!a)=true)=(a=false))∧(∀ a:Bool,((!a)=false)=(a=true))∧(∀ a b:Int,(¬ a < b)=(b≤a))∧(∀ a b:Int,(¬ a≤b)=(b < a))∧(∀ a b:Int,(a > b)=(b < a))∧(∀ a b:Int,(a≥b)=(b≤a))∧
  (∀ a:Prop,(¬ ¬ a)=a)∧(true=false)=False∧(false=true)=False:=by
 refine ⟨fun p _=>by simp,fun p _=>by simp,fun a b=>by simp,fun a b=>by simp,fun a b=>by simp,fun a b=>by simp,fun a b=>by simp,fun a b=>by simp,fun a b=>by simp,fun a b=>by cases a<;>cases b<;>simp,
  fun a b=>by simp,fun a b=>by simp,fun a=>by simp,fun a=>by simp,fun a b=>by simp,fun a b=>by simp,fun a b=>rfl,fun a b=>rfl,fun a=>by simp,by simp,by simp⟩
theorem M6 {a b:Bool} (h:(a && b)=true):a=true:=by simp at h;exact h.1
theorem QE {a b:Bool} (h:(a && b)=true):b=true:=by simp at h;exact h.2
class fV (n:Int) (i:outParam Nat):Prop where eq:n=(i:Int)
instance (i:Nat):fV (i:Int) i:=⟨rfl⟩
instance:fV 0 0:=⟨rfl⟩
instance:fV 1 1:=⟨rfl⟩
instance:fV 2 2:=⟨rfl⟩
instance:fV 3 3:=⟨rfl⟩
instance (a b:Int) (i j:Nat) [h:fV a i] [k:fV b j]:fV (a + b) (i + j):=⟨by rw[h.eq,k.eq];simp⟩
class eD (n:Int) (i:outParam Nat):Prop where eq:0≤n→n=(i:Int)
instance (priority:=low) (n:Int):eD n n.toNat:=⟨fun h=>by omega⟩
instance (n:Int) (i:Nat) [h:fV n i]:eD n i:=⟨fun _=>h.eq⟩
instance (a b:Int) (i j:Nat) [h:fV a i] [k:fV b j]:eD (a - b) (i - j):=⟨fun e=>by rw[h.eq,k.eq] at *; omega⟩
theorem eD.lt {n:Int} {i:Nat} [x:eD n i] {k:Nat} (h0:0≤n) (h1:n < (k:Int)):i < k:=by have:=x.eq h0;omega
theorem j5.ix {s:List UInt8} {k:IntKind} {n:Int} {i:Nat} [x:eD n i] {K:PV→Prop} (h0:0≤n) (h1:n < s.length) (hk:K (.int .u8 (s.getD i 0).toNat)):j5 s (.int k n) K:=by
 have hi:=eD.lt h0 h1;have:=x.eq h0;refine ⟨k,n,s.getD i 0,rfl,h0,?_,hk⟩;rw[this];simp[List.getD,hi]
class cz {α:Type} (f:α→PV) (g:outParam (α→List PV)):Prop where
 eq: ∀ x,(f x).cellsOf=g x
instance (k:IntKind):cz (PV.int k) (fun n=> [.int k n]):=⟨fun _=>rfl⟩
instance:cz PV.str (fun s=> [.str s]):=⟨fun _=>rfl⟩
instance:cz PV.bool (fun s=> [.bool s]):=⟨fun _=>rfl⟩
theorem dr.ix {α:Type} {f:α→PV} {g:α→List PV} [c:cz f g] {sz:Nat} {l:List α} {tk:Option Tok} {k:IntKind} {n:Int} {i:Nat} [x:eD n i] {K:PV→Prop} (h0:0≤n) (h:n < l.length)
  (hk:K (.ep (g (l[i]'(eD.lt h0 h))))):dr sz (.sl sz (l.map f) tk) (.int k n) K:=by
 have hi:=eD.lt h0 h;have e:=x.eq h0;refine ⟨sz,_,tk,k,_,f l[i],rfl,rfl,h0,?_,rfl,by rw[c.eq];exact hk⟩;rw[e];simp[hi]
theorem dr.lit {sz:Nat} {es:List PV} {tk:Option Tok} {k:IntKind} {n:Int} {i:Nat} {e:PV} [x:fV n i] {K:PV→Prop} (h:DB es i=some e) (hk:K (.ep e.cellsOf)):dr sz (.sl sz es tk) (.int k n) K:=by
 have e1:=x.eq;refine ⟨sz,_,tk,k,_,e,rfl,rfl,by omega,?_,rfl,hk⟩;rw[e1, ←h,Ah];rfl
theorem HG.map {α:Type} {f:α→PV} {l:List α} {K:Nat→Prop} (h:l.length≤9223372036854775807→K l.length):HG (l.map f) K:=⟨by rw[List.length_map];exact h⟩
theorem ec.lo {s:List UInt8} {k:IntKind} {n:Int} {i:Nat} [x:eD n i] {K:PV→Prop} (h0:0≤n) (h:n≤s.length) (hk:K (.str (s.drop i))):ec s (some (.int k n)) none K:=
 ⟨i,s.length,rfl,x.eq h0,by have:=x.eq h0;omega,Nat.le_refl _,by rw[List.take_length];exact hk⟩
theorem ec.hi {s:List UInt8} {k:IntKind} {n:Int} {i:Nat} [x:eD n i] {K:PV→Prop} (h0:0≤n) (h:n≤s.length) (hk:K (.str (s.take i))):ec s none (some (.int k n)) K:=
 ⟨0,i,x.eq h0,rfl,by omega,by have:=x.eq h0;omega,hk⟩
theorem ec.both {s:List UInt8} {k k':IntKind} {n m:Int} {i j:Nat} [x:eD n i] [y:eD m j] {K:PV→Prop} (h0:0≤n) (h1:n≤m) (h:m≤s.length) (hk:K (.str ((s.take j).drop i))):ec s (some (.int k n)) (some (.int k' m)) K:=
 ⟨i,j,y.eq (by omega),x.eq h0,by have:=x.eq h0;have:=y.eq (by omega);omega,by have:=y.eq (by omega);omega,hk⟩
theorem iF.lo {s:Nat} {α:Type} {f:α→PV} {es:List α} {k:IntKind} {n:Int} {i:Nat} [x:eD n i] {K:PV→Prop} (h0:0≤n) (h:n≤es.length) (hk:K (.sl s ((es.drop i).map f) none)):iF s (es.map f) (some (.int k n)) none K:=
 ⟨i,_,rfl,x.eq h0,by have:=x.eq h0;simp;omega,Nat.le_refl _,by rw[List.take_length, ←List.map_drop];exact hk⟩
theorem iF.hi {s:Nat} {α:Type} {f:α→PV} {es:List α} {k:IntKind} {n:Int} {i:Nat} [x:eD n i] {K:PV→Prop} (h0:0≤n) (h:n≤es.length) (hk:K (.sl s ((es.take i).map f) none)):iF s (es.map f) none (some (.int k n)) K:=
 ⟨0,i,x.eq h0,rfl,by omega,by have:=x.eq h0;simp;omega,by rw[List.drop_zero, ←List.map_take];exact hk⟩
class yJ (k:IntKind) (lo hi:outParam Int):Prop where eq: ∀ v,lo≤v→v≤hi→k.wrap v=v
instance:yJ .i64 (-9223372036854775808) 9223372036854775807:=⟨fun v h1 h2=>by rw[IntKind.wrap_i64];omega⟩
instance:yJ .u64 0 18446744073709551615:=⟨fun v h1 h2=>wrap_u64 h1 (by omega)⟩
instance:yJ .u8 0 255:=⟨fun v h1 h2=>wrap_u8 h1 (by omega)⟩
theorem ij.ok {k:IntKind} {lo hi v:Int} [x:yJ k lo hi] {K:Int→Prop} (h1:lo≤v) (h2:v≤hi) (hk:K v):ij k v K:=AF (x.eq v h1 h2) hk
section
variable {P:Program} {tt:Nat→TI}
structure jz {σ:Type} (ds:List Nat) (R:σ→List (Nat×PV)) (G:σ→List aj) (I:σ→Prop) (μ:σ→Nat) (T0:List PV) (s:σ) (D0:Ds) (T:List PV) (Γ:List aj) (D:Ds):Prop where
 h:D=D0∧ ∃ s',I s'∧μ s' < μ s∧dh T Γ (kz 0 T0 ds (R s')) (G s')
theorem ax.over {σ:Type} {c:Code} {T:List PV} {Γ Γ1:List aj} {D:Ds} {Q:QT} (ds:List Nat) (R:σ→List (Nat×PV)) (G:σ→List aj) (I:σ→Prop) (μ:σ→Nat) (s0:σ)
  (hI:I s0) (hw:bY 0 T T ds (R s0)) [hp:bz Γ (G s0) Γ1]
  (round: ∀ s,I s→mG 0 T ds (R s) fun T0=>W P tt c T0 (G s) D (Cv (jz ds R G I μ T s D) Q)):ax (W P tt c) T Γ D Q:=by
 refine ⟨fun n T' Γ=> ∃ s,I s∧n=μ s∧T'=kz 0 T ds (R s)∧Γ=G s,fun _ _ _=>False,⟨μ s0,_,_,dh.of (bY.wk 0 T T ds (R s0) hw) (au.drop hp.p),s0,hI,rfl,rfl,rfl⟩,?_,fun _ _ _ h=>h.elim⟩;rintro n _ _ ⟨s,hs,rfl,rfl,rfl⟩;have hr:=round s hs;rw[jS] at hr;refine oN _ _ _ _ _ _ ?_ hr;intro e T' Γ D' h;cases e<;>first | exact h | exact .inl h | skip
 obtain ⟨h1,s',h2,h3,h4⟩:=h.h;exact ⟨h1,μ s',_,_,h3,h4,s',h2,rfl,rfl,rfl⟩
theorem av {σ:Type} {ds:List Nat} {R:σ→List (Nat×PV)} {G:σ→List aj} {I:σ→Prop} {μ:σ→Nat} {T0:List PV} {s:σ} {T:List PV} {Γ Γ1:List aj} {D:Ds} (s':σ) (hI:I s') (hμ:μ s' < μ s)
  (hw:bY 0 T T0 ds (R s')) [hp:bz Γ (G s') Γ1]:jz ds R G I μ T0 s D T Γ D:=⟨rfl,s',hI,hμ,dh.of (bY.wk 0 T T0 ds (R s') hw) (au.drop hp.p)⟩
theorem ax.keep {σ:Type} {c:Code} {T:List PV} {Γ:List aj} {D:Ds} {Q:QT} (ds:List Nat) (R:σ→List (Nat×PV)) (I:σ→Prop) (μ:σ→Nat) (s0:σ)
  (hI:I s0) (hw:bY 0 T T ds (R s0))
  (round: ∀ s,I s→mG 0 T ds (R s) fun T0=>W P tt c T0 Γ D (Cv (jz ds R (fun _=>Γ) I μ T s D) Q)):ax (W P tt c) T Γ D Q:=
 ax.over (hp:=⟨by rw[List.append_nil]⟩) (Γ1:= []) ds R (fun _=>Γ) I μ s0 hI hw round
structure Eh {τ:Type} (ds:List Nat) (R2:τ→List (Nat×PV)) (G2:τ→List aj) (J:τ→Prop) (T0:List PV) (D0:Ds) (T:List PV) (Γ:List aj) (D:Ds):Prop where
 h:D=D0∧ ∃ t,J t∧dh T Γ (kz 0 T0 ds (R2 t)) (G2 t)
theorem Ls {τ:Type} {ds:List Nat} {R2:τ→List (Nat×PV)} {G2:τ→List aj} {J:τ→Prop} {T0:List PV} {T:List PV} {Γ Γ1:List aj} {D:Ds} (t:τ) (hJ:J t) (hw:bY 0 T T0 ds (R2 t)) [hp:bz Γ (G2 t) Γ1]:
  Eh ds R2 G2 J T0 D T Γ D:=⟨rfl,t,hJ,dh.of (bY.wk 0 T T0 ds (R2 t) hw) (au.drop hp.p)⟩
theorem ax.Pw {σ τ:Type} {c:Code} {T:List PV} {Γ Γ1:List aj} {D:Ds} {Q:QT} (j0:Nat) (ds:List Nat) (R:σ→List (Nat×PV)) (G:σ→List aj) (I:σ→Prop) (μ:σ→Nat) (s0:σ)
  (R2:τ→List (Nat×PV)) (G2:τ→List aj) (J:τ→Prop) (hI:I s0) (hw:bY 0 T T ds (R s0)) [hp:bz Γ (G s0) Γ1]
  (round: ∀ s,I s→mG 0 T ds (R s) fun T0=>W P tt c T0 (G s) D (MW (jz ds R G I μ T s D) j0 (Eh ds R2 G2 J T D) Q)) (after: ∀ t,J t→mG 0 T ds (R2 t) fun T0=>Q (.exit j0) T0 (G2 t) D):ax (W P tt c) T Γ D Q:=by
 refine ⟨fun n T' Γ=> ∃ s,I s∧n=μ s∧T'=kz 0 T ds (R s)∧Γ=G s,fun j T' Γ=>j=j0∧ ∃ t,J t∧T'=kz 0 T ds (R2 t)∧Γ=G2 t,⟨μ s0,_,_,dh.of (bY.wk 0 T T ds (R s0) hw) (au.drop hp.p),s0,hI,rfl,rfl,rfl⟩,?_,?_⟩
 ·rintro n _ _ ⟨s,hs,rfl,rfl,rfl⟩
  have hr:=round s hs;rw[jS] at hr;refine oN _ _ _ _ _ _ ?_ hr;intro e T' Γ D' h;cases e<;>first | exact h | skip
  ·obtain ⟨h1,s',h2,h3,h4⟩:=h.h
   exact ⟨h1,μ s',_,_,h3,h4,s',h2,rfl,rfl,rfl⟩
  ·simp only[MW] at h⊢
   split at h
   ·rename_i hb
    obtain ⟨h1,t,h2,h3⟩:=h.h;exact .inr ⟨h1,_,_,h3,Nat.eq_of_beq_eq_true hb,t,h2,rfl,rfl⟩
   ·exact .inl h
 ·rintro j _ _ ⟨rfl,t,h1,rfl,rfl⟩
  have:=after t h1;rwa [jS] at this
theorem od.keep {τ:Type} {ds:List Nat} {a b:Code} {T:List PV} {Γ:List aj} {D:Ds} {Q:QT} (ps:τ→List (Nat×PV)) (J:τ→Prop)
  (h:W P tt a T Γ D (Cv (tY ds ps (fun _=>Γ) J T D) Q)) (h2: ∀ t,J t→mG 0 T ds (ps t) fun T0=>W P tt b T0 Γ D Q):od ds (W P tt a) (W P tt b) T Γ D Q:=
 od.join ps (fun _=>Γ) J h h2
theorem ek.all {Γ:List aj} {b:Nat} {all:List PV} {put:List PV→List aj} [hp:fQ Γ b all put] {n:Nat} {K:PV→Prop} (hl:all.length=n) (k:K (.agg all)):ek true n (.ptr b 0) Γ K:=by
 obtain ⟨Γ1,Γ2,h1,_⟩:=hp.at_;exact ⟨all,⟨all,by rw[h1];simp,by omega,by rw[List.drop_zero, ←hl,List.take_length]⟩,k⟩
theorem ek.cell {Γ:List aj} {b o:Nat} {all:List PV} {put:List PV→List aj} [hp:fQ Γ b all put] {K:PV→Prop} (c:PV) (hl:all[o]?=some c) (k:K c):ek false 1 (.ptr b o) Γ K:=by
 obtain ⟨Γ1,Γ2,h1,_⟩:=hp.at_;have ho:o < all.length:=(List.getElem?_eq_some_iff.1 hl).1;refine ⟨[c],⟨all,by rw[h1];simp,by omega,?_⟩,k⟩;rw[List.drop_eq_getElem_cons ho];have:=(List.getElem?_eq_some_iff.1 hl).2;simp[this]
theorem cr.cell {Γ:List aj} {b o:Nat} {all:List PV} {put:List PV→List aj} [hp:fQ Γ b all put] {x:PV} {K:List aj→Prop} (ho:o < all.length) (hx:x.cellsOf= [x]) (hc:x.cB=true) (k:K (put (all.set o x))):cr 1 (.ptr b o) x Γ K:=by
 obtain ⟨Γ1,Γ2,h1,h2⟩:=hp.at_;refine ⟨by rw[hx];rfl,hc, [x],fun F vs h=>by rwa [hx] at h,rfl,.inl ⟨b,o,all,Γ1,Γ2,rfl,h1,by omega,?_⟩⟩;rw[h2] at k;rw[List.set_eq_take_append_cons_drop,if_pos ho] at k;simpa using k
theorem cr.all {Γ:List aj} {b n:Nat} {all:List PV} {put:List PV→List aj} [hp:fQ Γ b all put] {xs:List PV} {K:List aj→Prop} (hl:all.length=n) (hx:xs.length=n) (k:K (put xs)):cr n (.ptr b 0) (.agg xs) Γ K:=by
 obtain ⟨Γ1,Γ2,h1,h2⟩:=hp.at_;refine ⟨hx,rfl,xs,fun F vs h=>h,hx,.inl ⟨b,0,all,Γ1,Γ2,rfl,h1,by omega,?_⟩⟩;rw[h2] at k;rw[List.drop_of_length_le (by omega)];simpa[PV.cellsOf] using k
def vf (ops:Array Oper):Option Nat:=match ops.toList with
 | []=>none
 | o::_=>o.dst
theorem aE.at_ {ops:Array Oper} {T:List PV} {Γ Γ2:List aj} {K:List PV→List aj→Prop} (d:Option Nat) (hd:vf ops=d) (hk:TT.ok P tt) (hm:P.follows .mixedOrders=true) (bE A R1 R2:List Nat) (Γ1:List aj)
  (hchk:nH ops bE A R1 R2=true) [hp:bz Γ Γ1 Γ2]
  (h:gw P tt ops.toList (bG ops.toList A) T Γ2 fun T'=>bN P tt ops.toList (bG ops.toList R1) T' Γ1 [] fun T2 Γ1' _=>kI Γ1' Γ2 fun Γ'=>bN P tt ops.toList (bG ops.toList R2) T2 Γ' [] fun T' Γ' _=>K T' Γ'):aE P ops T Γ K:=
 aE.split hk hm bE A R1 R2 Γ1 hchk h
theorem aq.same {f:FuncId} {args args':List PV} {Γ:List aj} {Q K:PV→List aj→Prop} (h:af P f args' Γ Q) (hw:aX args args') (k: ∀ y Γ',Q y Γ'→K y Γ'):aq P f args Γ K:=⟨.inl ((h.wk hw).mono k)⟩
theorem aq.go {f:FuncId} {args args':List PV} {Γ Γ1 Γ2:List aj} {Q K:PV→List aj→Prop} (h:af P f args' Γ1 Q) (hw:aX args args') [hp:bz Γ Γ1 Γ2]
  (k: ∀ y Γ1',Q y Γ1'→kI Γ1' Γ2 fun Γ'=>K y Γ'):aq P f args Γ K:=aq.gen h hw (hp:=hp) fun y Γ1' hq=>by have:=k y Γ1' hq;rwa [e9] at this
theorem aq.read {f:FuncId} {args args':List PV} {v:PV} {Γ Γ1 Γ2:List aj} {K:PV→List aj→Prop} (h:af P f args' Γ1 fun y Γ'=>y=v∧Γ'=Γ1) (hw:aX args args') [hp:bz Γ Γ1 Γ2] (k:K v Γ):aq P f args Γ K:=by
 refine ⟨.inl ⟨h.1,fun w0 F M w vs hS hT=>?_⟩⟩
 have hS':aP w0 F (Γ1++(Γ2++M)) w:=by
  have:=hS.perm (hp.p.append_right M);simpa using this
 refine (h.2 w0 F (Γ2++M) w vs hS' (hw.rep hT)).mono ?_;rintro e w' ⟨v',F',y,Γ',e1,e2,e3,e4,hv,hg⟩;subst hv;rw[hg] at e3;refine ⟨v',F',_,Γ,e1,e2,?_,e4,k⟩;have h2:aP w0 F' ((Γ1++Γ2)++M) w':=by simpa using e3
 exact h2.perm (hp.p.symm.append_right M)
theorem j4.ix {n sz b o:Nat} {k:IntKind} {m:Int} {i:Nat} [x:eD m i] {K:PV→Prop} (hs:sz=1) (h0:0≤m) (hm:m < n) (hk:K (.ptr b (o + i))):j4 n sz (.ptr b o) (.int k m) K:=by
 have:=x.eq h0;refine ⟨b,o,k,m,rfl,rfl,h0,hm,?_⟩;subst hs this;simpa using hk
instance:cz (fun b:UInt8=>PV.int .u8 (b.toNat:Int)) (fun b=> [.int .u8 (b.toNat:Int)]):=⟨fun _=>rfl⟩
instance bz.self (Γ:List aj):bz Γ Γ []:=⟨by rw[List.append_nil]⟩
theorem au.nil (s:Nat) (e:TypeId) (Γ:List aj):au Γ (.tok (aB s e)::Γ):=fun w0 F M w hS=>⟨F,Fz.le_refl F,hS.aB s e⟩
theorem au.cK (s:Nat) (e:TypeId) (Γ:List aj):au Γ (.row (aB s e) []::Γ):=fun w0 F M w hS=>⟨F,Fz.le_refl F,hS.cK s e⟩
theorem Wk.cK (s:Nat) (e:TypeId):Wk .nil (.ms (aB s e)):=fun F v r=>by
 simp only[aC] at r ⊢;exact ⟨r,rfl⟩
theorem Wk.aB (s:Nat) (e:TypeId):Wk .nil (.sl s [] (some (aB s e))):=fun F v r=>by
 simp only[aC] at r ⊢;exact ⟨fun t ht=>by cases ht;exact ⟨r,rfl,rfl⟩,.inl ⟨r,trivial⟩⟩
theorem au.refl (Γ:List aj):au Γ Γ:=fun w0 F M w hS=>⟨F,Fz.le_refl F,hS⟩
theorem au.trans {Γ Γ' Γ2:List aj} (h:au Γ Γ') (k:au Γ' Γ2):au Γ Γ2:=fun w0 F M w hS=>by
 obtain ⟨F1,a1,a2⟩:=h w0 F M w hS;obtain ⟨F2,b1,b2⟩:=k w0 F1 M w a2;exact ⟨F2,Fz.le_trans a1 b1,b2⟩
theorem au.pick {Γ Γ' Γ1:List aj} [hp:bz Γ Γ' Γ1]:au Γ Γ':=au.drop hp.p
theorem au.box {Γ Γ1:List aj} {b:Nat} {cs cs':List PV} [hp:iN Γ (.box b cs) Γ1] (h:gx cs cs'):au Γ (.box b cs'::Γ1):=fun w0 F M w hS=>by
 have hS':=hS.perm (hp.p.append_right M);have hS':aP w0 F (.box b cs::(Γ1++M)) w:=by simpa using hS'
 refine ⟨F,Fz.le_refl F,⟨hS'.below,hS'.fz,fun x hx=>?_,?_⟩⟩
 ·rcases List.mem_cons.1 hx with rfl | hx
  ·obtain ⟨h1,⟨vs,el,h2,h3⟩,h4⟩:=hS'.fe _ (List.mem_cons_self ..)
   exact ⟨h1,⟨vs,el,h2,h.rep h3⟩,h4⟩
  ·exact hS'.fe x (List.mem_cons_of_mem _ hx)
 ·have:=List.pairwise_cons.1 hS'.sep
  exact List.pairwise_cons.2 ⟨this.1,this.2⟩
theorem af.ghost {f:FuncId} {args:List PV} {Γ Γ':List aj} {Q:PV→List aj→Prop} (hg:au Γ Γ') (h:af P f args Γ' Q):af P f args Γ Q:=
 ⟨h.1,fun w0 F M w vs hS hT=>by
  obtain ⟨F1,a1,a2⟩:=hg w0 F M w hS;refine (h.2 w0 F1 M w vs a2 (aA.mono a1 _ _ hT)).mono ?_;rintro e w' ⟨v,F',y,Γ2,e1,e2,e3⟩
  exact ⟨v,F',y,Γ2,e1,Fz.le_trans a1 e2,e3⟩⟩
theorem aq.ghost {f:FuncId} {args:List PV} {Γ Γ':List aj} {K:PV→List aj→Prop} (hg:au Γ Γ') (h:af P f args Γ' K):aq P f args Γ K:=⟨.inl (af.ghost hg h)⟩
theorem aW.one {α:Type} {f:α→PV} {l:List α} {s j7:Nat} {e:TypeId} {y:PV} {t:Tok} {Γ:List aj} {put:Tok→List aj} [hp:jk Γ t put] {K:PV→List aj→Prop} (v:α) (he:t.e=e) (hy:Wk y (.sl s [f v] none))
  (h1:l.length + 1≤281474976710655) (h2:(l.length + 1) * j7≤140737488355328)
  (k: ∀ t':Tok,t'.e=e→K (.sl s ((l++ [v]).map f) (some t')) (put t')):aW s j7 e (.sl s (l.map f) (some t)) y Γ K:=by
 obtain ⟨Γ1,Γ2,e1,e2⟩:=hp.at_;refine ⟨l.map f, [f v],.inl ⟨none,hy⟩,by simpa using h1,by simpa using h2,.inr (.inl ⟨t,Γ1,Γ2,rfl,e1,he,fun t' ht=>?_⟩)⟩;have:=k t' ht;rw[List.map_append,e2] at this;exact this
theorem aW.list {α:Type} {f:α→PV} {l m:List α} {s j7:Nat} {e:TypeId} {tk:Option Tok} {t:Tok} {Γ:List aj} {put:Tok→List aj} [hp:jk Γ t put] {K:PV→List aj→Prop} (he:t.e=e)
  (h1:l.length + m.length≤281474976710655) (h2:(l.length + m.length) * j7≤140737488355328)
  (k: ∀ t':Tok,t'.e=e→K (.sl s ((l++m).map f) (some t')) (put t')):aW s j7 e (.sl s (l.map f) (some t)) (.sl s (m.map f) tk) Γ K:=by
 obtain ⟨Γ1,Γ2,e1,e2⟩:=hp.at_;refine ⟨l.map f,m.map f,.inl ⟨tk,Wk.refl _⟩,by simpa using h1,by simpa using h2,.inr (.inl ⟨t,Γ1,Γ2,rfl,e1,he,fun t' ht=>?_⟩)⟩;have:=k t' ht;rw[List.map_append,e2] at this;exact this
class dw (Γ:List aj) (t:Tok) (es:outParam (List PV)) (put:outParam (Tok→List PV→List aj)):Prop where
 at_: ∃ Γ1 Γ2,Γ=Γ1++.row t es::Γ2∧ ∀ t' es',put t' es'=Γ1++.row t' es'::Γ2
instance (priority:=high) dw.head (Γ:List aj) (t:Tok) (es:List PV):dw (.row t es::Γ) t es (fun t' es'=>.row t' es'::Γ):=⟨[],Γ,rfl,fun _ _=>rfl⟩
instance dw.tail (e:aj) (Γ:List aj) (t:Tok) (es:List PV) (put:Tok→List PV→List aj) [h:dw Γ t es put]:dw (e::Γ) t es (fun t' es'=>e::put t' es'):=by
 obtain ⟨Γ1,Γ2,h1,h2⟩:=h.at_;exact ⟨e::Γ1,Γ2,by rw[h1];rfl,fun t' es'=>by rw[h2];rfl⟩
theorem eP.at_ {Γ:List aj} {t:Tok} {es:List PV} {put:Tok→List PV→List aj} [hp:dw Γ t es put] {K:Nat→Prop} (k:es.length≤9223372036854775807→K es.length):eP t Γ K:=by
 obtain ⟨Γ1,Γ2,h1,_⟩:=hp.at_;exact ⟨es,by rw[h1];simp,k⟩
theorem eP.map {α:Type} {f:α→PV} {l:List α} {Γ:List aj} {t:Tok} {put:Tok→List PV→List aj} [hp:dw Γ t (l.map f) put] {K:Nat→Prop} (k:l.length≤9223372036854775807→K l.length):eP t Γ K:=
 eP.at_ (hp:=hp) (by simpa using k)
theorem e8.at_ {sz:Nat} {Γ:List aj} {t:Tok} {es:List PV} {put:Tok→List PV→List aj} [hp:dw Γ t es put] {k:IntKind} {n:Int} {i:Nat} [x:eD n i] {K:PV→Prop} (hs:t.s=sz) (h0:0≤n) (hl:i < es.length) (hk:K (.rp t i 0)):e8 sz t (.int k n) Γ K:=by
 obtain ⟨Γ1,Γ2,h1,_⟩:=hp.at_;have e:=x.eq h0;refine ⟨es,k,n,rfl,by rw[h1];simp,h0,by omega,hs,?_⟩;rw[e];exact hk
theorem ek.row {α:Type} {f:α→PV} {c:α→List PV} [hc:cz f c] {l:List α} {Γ:List aj} {t:Tok} {put:Tok→List PV→List aj} [hp:dw Γ t (l.map f) put] {agg:Bool} {i o n:Nat} {K:PV→Prop} (hi:i < l.length)
  (hl:Nat.ble (o + n) (c l[i]).length=true) (k:mE (c l[i]) o fun r=>nK r n fun cs=>mK agg cs K):ek agg n (.rp t i o) Γ K:=by
 obtain ⟨Γ1,Γ2,h1,_⟩:=hp.at_;simp only[dQ,fO] at k;have hce:(f l[i]).cellsOf=c l[i]:=hc.eq _;exact ⟨_,⟨l.map f,f l[i],by rw[h1];simp,by simp[hi],by rw[hce];exact Nat.le_of_ble_eq_true hl,rfl⟩,by rw[hce];exact k⟩
theorem cr.row {α:Type} {f:α→PV} {c:α→List PV} [hc:cz f c] {l:List α} {Γ:List aj} {t:Tok} {put:Tok→List PV→List aj} [hp:dw Γ t (l.map f) put] {i o n:Nat} {x:PV} {K:List aj→Prop} (v:α) (hi:i < l.length)
  (hl:Nat.ble (o + n) (c l[i]).length=true) (hx:jL x.cellsOf n=true) (hcl:x.cB=true) {xs:List PV} (hw:gx x.cellsOf xs) (hv:c v=(c l[i]).take o++xs++(c l[i]).drop (o + n))
  (k:K (put t ((l.set i v).map f))):cr n (.rp t i o) x Γ K:=by
 obtain ⟨Γ1,Γ2,h1,h2⟩:=hp.at_;have hce: ∀ y,(f y).cellsOf=c y:=hc.eq;rw[h2] at k;refine ⟨eA hx,hcl,xs,fun F vs h=>hw.rep h,by rw[←hw.length];exact eA hx,.inr ⟨t,i,o,l.map f,f l[i],f v,Γ1,Γ2,rfl,h1,by simp[hi],by rw[hce];exact Nat.le_of_ble_eq_true hl,by rw[hce,hce];exact hv,?_⟩⟩;rw[List.map_set] at k;exact k
theorem aW.N4 {α:Type} {f:α→PV} {l:List α} {s j7:Nat} {e:TypeId} {y:PV} {t:Tok} {Γ:List aj} {put:Tok→List PV→List aj} [hp:dw Γ t (l.map f) put] {K:PV→List aj→Prop} (v:α) (he:t.e=e) (hs:t.s=s) (hy:Wk y (.sl s [f v] none))
  (h1:l.length + 1≤281474976710655) (h2:(l.length + 1) * j7≤140737488355328)
  (k: ∀ t':Tok,t'.e=e→t'.s=s→K (.ms t') (put t' ((l++ [v]).map f))):aW s j7 e (.ms t) y Γ K:=by
 obtain ⟨Γ1,Γ2,e1,e2⟩:=hp.at_;refine ⟨l.map f, [f v],.inl ⟨none,hy⟩,by simpa using h1,by simpa using h2,.inr (.inr ⟨t,Γ1,Γ2,rfl,e1,he,hs,fun t' ht hs'=>?_⟩)⟩;have:=k t' ht hs';rw[List.map_append,e2] at this;exact this
theorem aW.Fh {α:Type} {f:α→PV} {l m:List α} {s j7:Nat} {e:TypeId} {y:PV} {t:Tok} {Γ:List aj} {put:Tok→List PV→List aj} [hp:dw Γ t (l.map f) put] {K:PV→List aj→Prop} (he:t.e=e) (hs:t.s=s) (hy:Wk y (.sl s (m.map f) none))
  (h1:l.length + m.length≤281474976710655) (h2:(l.length + m.length) * j7≤140737488355328)
  (k: ∀ t':Tok,t'.e=e→t'.s=s→K (.ms t') (put t' ((l++m).map f))):aW s j7 e (.ms t) y Γ K:=by
 obtain ⟨Γ1,Γ2,e1,e2⟩:=hp.at_;refine ⟨l.map f,m.map f,.inl ⟨none,hy⟩,by simpa using h1,by simpa using h2,.inr (.inr ⟨t,Γ1,Γ2,rfl,e1,he,hs,fun t' ht hs'=>?_⟩)⟩;have:=k t' ht hs';rw[List.map_append,e2] at this;exact this
theorem aW.cK {α:Type} {f:α→PV} {m:List α} {s j7:Nat} {e:TypeId} {y:PV} {Γ:List aj} {K:PV→List aj→Prop} (hy:Wk y (.sl s (m.map f) none))
  (h1:m.length≤281474976710655) (h2:m.length * j7≤140737488355328)
  (k: ∀ t:Tok,t.e=e→t.s=s→K (.ms t) (.row t (m.map f)::Γ)):aW s j7 e .nil y Γ K:=
 ⟨[],m.map f,.inl ⟨none,hy⟩,by simpa using h1,by simpa using h2,.inl ⟨rfl,rfl,.inr k⟩⟩
theorem kS.row {s j7:Nat} {e:TypeId} {z:PV} {k k':IntKind} {m p:Int} {K:PV→aj→Prop} (h1:0≤m) (h2:m≤p) (h3:p≤140737488355328) (h4:p * j7≤140737488355328) (h5:jL z.cellsOf s=true)
  (h: ∀ t:Tok,t.e=e→t.s=s→K (.ms t) (.row t (List.replicate m.toNat z))):kS s j7 e z (.int k m) (.int k' p) K:=
 ⟨k,k',m,p,rfl,rfl,h1,h2,h3,h4,eA h5,.inr h⟩
def qP (t:Tok) (es:List PV) (x y:PV):Prop:= ∀ F v,aC F (.sl t.s es (some t)) t.v→aC F x v→aC F y v
inductive pT (t:Tok) (es:List PV):List PV→List PV→Prop
 | nil:pT t es [] []
 | cons {x y:PV} {xs ys:List PV}:qP t es x y→pT t es xs ys→pT t es (x::xs) (y::ys)
theorem qP.of {t:Tok} {es:List PV} {x y:PV} (h:Wk x y):qP t es x y:=fun F v _ r=>h F v r
theorem qP.ms' {t:Tok} {es:List PV} {s:Nat} (hs:t.s=s):qP t es (.ms t) (.sl s es none):=fun F v h r=>by
 simp only[aC] at r;rw[r.1, ←hs];exact (Wk.tok _ _ _) F _ h
theorem pT.rep {t:Tok} {es:List PV} {F:Fz} (hF:aC F (.sl t.s es (some t)) t.v): ∀ {xs ys:List PV} {vs:List Value},pT t es xs ys→aA F xs vs→aA F ys vs
 | _,_, [],.nil,h=>h
 | _,_,_::_,.nil,h=>h
 | _,_, [],.cons _ _,h=>by simp only[aA] at h
 | _,_,v::vs,.cons h1 h2,h=>by
  simp only[aA] at h ⊢;exact ⟨h1 _ _ hF h.1,pT.rep hF h2 h.2⟩
theorem pT.o9 {t:Tok} {es:List PV} {F:Fz} (hF:aC F (.sl t.s es (some t)) t.v): ∀ {xs ys:List PV} {vs:List Value},pT t es xs ys→aQ F xs vs→aQ F ys vs
 | _,_, [],.nil,h=>h
 | _,_,_::_,.nil,h=>h
 | _,_, [],.cons _ _,h=>by simp only[aQ] at h
 | _,_,v::vs,.cons h1 h2,h=>by
  simp only[aQ] at h ⊢;exact ⟨⟨h.1.1,h1 _ _ hF h.1.2⟩,pT.o9 hF h2 h.2⟩
theorem qP.agg {t:Tok} {es xs ys:List PV} (h:pT t es xs ys):qP t es (.agg xs) (.agg ys):=fun F v hF r=>by
 simp only[aC] at r ⊢;obtain ⟨vs,h1,h2⟩:=r;exact ⟨vs,h1,h.o9 hF h2⟩
theorem qP.bp {t:Tok} {es xs ys:List PV} (h:pT t es xs ys):qP t es (.bp xs) (.bp ys):=fun F v hF r=>by
 simp only[aC] at r ⊢;obtain ⟨vs,h1,h2⟩:=r;exact ⟨vs,h1,h.rep hF h2⟩
theorem qP.trans {t:Tok} {es:List PV} {x y z:PV} (h:qP t es x y) (k:Wk y z):qP t es x z:=fun F v hF r=>k F v (h F v hF r)
theorem Shift.cE {t:Tok} {es:List PV} {x y:PV} {Γ Γ1:List aj} [hp:iN Γ (.row t es) Γ1] (h:qP t es x y):Shift x Γ y (.tok t::Γ1):=fun w0 F M w v hS hx=>by
 have hS':aP w0 F (.row t es::(Γ1++M)) w:=by simpa using hS.perm (hp.p.append_right M)
 obtain ⟨F',h1,h2,h3⟩:=hS'.cE;exact ⟨F',h1,h2,h F' v h3 (aC.mono h1 _ _ hx)⟩
theorem dh.cE {t:Tok} {es:List PV} {T T':List PV} {Γ Γ1:List aj} [hp:iN Γ (.row t es) Γ1] (h:pT t es T T'):dh T Γ T' (.tok t::Γ1):=fun w0 F M w vs hS hx=>by
 have hS':aP w0 F (.row t es::(Γ1++M)) w:=by simpa using hS.perm (hp.p.append_right M)
 obtain ⟨F',h1,h2,h3⟩:=hS'.cE;exact ⟨F',h1,h2,h.rep h3 (aA.mono h1 _ _ hx)⟩
theorem dh.trans {T T' T2:List PV} {Γ Γ' Γ2:List aj} (h:dh T Γ T' Γ') (k:dh T' Γ' T2 Γ2):dh T Γ T2 Γ2:=fun w0 F M w vs hS hT=>by
 obtain ⟨F1,a1,a2,a3⟩:=h w0 F M w vs hS hT;obtain ⟨F2,b1,b2,b3⟩:=k w0 F1 M w vs a2 a3;exact ⟨F2,Fz.le_trans a1 b1,b2,b3⟩
theorem au.cE {t:Tok} {es:List PV} {b:Nat} {cs cs':List PV} {Γ Γ1 Γ2:List aj} [hp:iN Γ (.row t es) Γ1] [hq:iN Γ1 (.box b cs) Γ2] (h:pT t es cs cs'):au Γ (.box b cs'::.tok t::Γ2):=fun w0 F M w hS=>by
 have hS':aP w0 F (.row t es::(Γ1++M)) w:=by simpa using hS.perm (hp.p.append_right M)
 obtain ⟨F',h1,h2,h3⟩:=hS'.cE
 have h4:aP w0 F' (.box b cs::(.tok t::(Γ2++M))) w:=by
  have hpp:(.tok t::(Γ1++M)).Perm (.box b cs::(.tok t::(Γ2++M))):=by
   have:=(hq.p.append_right M).cons (.tok t);exact this.trans (List.Perm.swap _ _ _)
  exact h2.perm hpp
 refine ⟨F',h1,⟨h4.below,h4.fz,fun x hx=>?_,?_⟩⟩
 ·rcases List.mem_cons.1 (by simpa using hx:x∈.box b cs'::(.tok t::(Γ2++M))) with rfl | hx
  ·obtain ⟨k1,⟨vs,el,k2,k3⟩,k4⟩:=h4.fe _ (List.mem_cons_self ..)
   exact ⟨k1,⟨vs,el,k2,h.o9 h3 k3⟩,k4⟩
  ·exact h4.fe x (List.mem_cons_of_mem _ hx)
 ·have:=List.pairwise_cons.1 h4.sep
  exact List.pairwise_cons.2 ⟨this.1,this.2⟩
theorem af.shift {f:FuncId} {args:List PV} {Γ:List aj} {Q Q':PV→List aj→Prop} (h:af P f args Γ Q) (hq: ∀ y Γ',Q y Γ'→ ∃ y2 Γ2,Shift y Γ' y2 Γ2∧Q' y2 Γ2):af P f args Γ Q':=
 ⟨h.1,fun w0 F M w vs hS hT=>(h.2 w0 F M w vs hS hT).mono fun _ _ ⟨v,F',y,Γ',e1,e2,e3,e4,e5⟩=>by
  obtain ⟨y2,Γ2,k1,k2⟩:=hq y Γ' e5;obtain ⟨F2,m1,m2,m3⟩:=k1 w0 F' M _ v e3 e4
  exact ⟨v,F2,y2,Γ2,e1,Fz.le_trans e2 m1,m2,m3,k2⟩⟩
theorem AM.at_ {b:Nat} {Γ Γ':List aj} {T:List PV} {vs:List Value} {K:List aj→Prop} [hp:iN Γ (.ob b kK T vs) Γ'] (hq:Γ=.ob b kK T vs::Γ') (k:K Γ'):AM b Γ K:=
 ⟨T,vs, [],Γ',hq,k⟩
theorem eM.mono {l:Nat} {args:List PV} {Γ:List aj} {Q Q':PV→List aj→Prop} (h:eM P l args Γ Q) (hq: ∀ y Γ',Q y Γ'→Q' y Γ'):eM P l args Γ Q':=(kF.mono (K:=Q) (K':=Q') hq ⟨h⟩).h
theorem eM.frame {l:Nat} {args:List PV} {Γ Γ1 Γ2:List aj} {Q:PV→List aj→Prop} (h:eM P l args Γ1 Q) (hp:Γ.Perm (Γ1++Γ2)):eM P l args Γ fun y Γ'=> ∃ Γ1',Γ'=Γ1'++Γ2∧Q y Γ1':=fun w0 F M w vs hS hT=>by
 have hS':aP w0 F (Γ1++(Γ2++M)) w:=by
  have:=hS.perm (hp.append_right M);simpa using this
 obtain ⟨fn,tmps,assign,body,h1,h2⟩:=h w0 F (Γ2++M) w vs hS' hT;refine ⟨fn,tmps,assign,body,h1,h2.mono ?_⟩;rintro _ _ ⟨v,F',y,Γ',e1,e2,e3,e4,e5⟩;exact ⟨v,F',y,Γ'++Γ2,e1,e2,by simpa using e3,e4,Γ',rfl,e5⟩
theorem eM.wk {l:Nat} {args args':List PV} {Γ:List aj} {Q:PV→List aj→Prop} (h:eM P l args' Γ Q) (hw:aX args args'):eM P l args Γ Q:=fun w0 F M w vs hS hT=>h w0 F M w vs hS (hw.rep hT)
theorem PRange.go {f:FuncId} {cap:List PV} {ps:List Nat} {WA WB:List PV→List aj→Ds→QT→Prop} {T:List PV} {Γ Γi Γ1:List aj} {D:Ds} {Q:QT} {σ:Type} (xs:List (List PV)) (G:σ→List aj) (I:Nat→σ→Prop) (X:Exit→List aj→Prop) (s0:σ)
  (hit:Ee P f cap Γi xs) (hI:I 0 s0) [hp:bz Γ (G s0++Γi) Γ1] (hl: ∀ ys∈xs,ys.length=ps.length)
  (round: ∀ k ys s,xs[k]?=some ys→I k s→qI T ps ys fun T0=>WA T0 (G s) [] (En WB (DQ k (fun k Γ=> ∃ s,I k s∧Γ=G s) X)))
  (done: ∀ b s,I xs.length s→Q .normal T (.ob b kK [] []::G s) (.mark b::D)) (stop: ∀ b e Γ',X e Γ'→Q e T (.ob b kK [] []::Γ') (.mark b::D)):PRange P f cap ps WA WB true T Γ D Q:=by
 refine ⟨rfl,G s0,Γi,xs,fun k Γ=> ∃ s,I k s∧Γ=G s,X,⟨T,dh.of (aX.refl T) (au.drop hp.p)⟩,hit,⟨s0,hI,rfl⟩,hl,?_,?_,stop⟩
 ·rintro k ys _ h ⟨s,hs,rfl⟩
  exact round k ys s h hs
 ·rintro b _ ⟨s,hs,rfl⟩
  exact done b s hs
theorem we {σ:Type} {k:Nat} {G:σ→List aj} {I:Nat→σ→Prop} {X:Exit→List aj→Prop} {T:List PV} {Γ Γ1:List aj} (s:σ) (hI:I (k + 1) s) [hp:bz Γ (G s) Γ1]:DQ k (fun k Γ=> ∃ s,I k s∧Γ=G s) X .normal T Γ []:=
 ⟨rfl,T,G s,dh.of (aX.refl T) (au.drop hp.p),s,hI,rfl⟩
theorem aq.OG {f:FuncId} {args args':List PV} {Γ Γ' Γ1 Γ2:List aj} {Q K:PV→List aj→Prop} (hg:au Γ Γ') (h:af P f args' Γ1 Q) (hw:aX args args') [hp:bz Γ' Γ1 Γ2]
  (k: ∀ y Γ1',Q y Γ1'→kI Γ1' Γ2 fun Γ'=>K y Γ'):aq P f args Γ K:=
 aq.ghost hg (((h.wk hw).frame hp.p).mono fun y Γ' ⟨Γ1',e,hq⟩=>by have:=k y Γ1' hq;rw[e9] at this;rw[e];exact this)
def uN (s:Nat):List PV→Bool
 | []=>true
 | y::ys=>match jL y.cellsOf s with
  | true=>match y.cB with
   | true=>uN s ys
   | false=>false
  | false=>false
theorem jE {s:Nat}: ∀ {ys:List PV},uN s ys=true→(∀ y∈ys,y.cellsOf.length=s)∧ ∀ y∈ys,y.cB=true
 | [],_=>by simp
 | y::ys,h=>by
  unfold uN at h
  split at h
  ·rename_i h1
   split at h
   ·rename_i h2
    have:=jE h;exact ⟨List.forall_mem_cons.2 ⟨eA h1,this.1⟩,List.forall_mem_cons.2 ⟨h2,this.2⟩⟩
   ·cases h
  ·cases h
theorem kT.lit {s:Nat} {ys:List PV} {e:TypeId} {K:PV→aj→Prop} (h:uN s ys=true) (k: ∀ t:Tok,t.e=e→K (.sl s ys (some t)) (.tok t)):kT s ys e K:=
 ⟨(jE h).1,(jE h).2,.inl k⟩
def EE {q:Sort _}:List PV→(List PV→q)→q
 | [],k=>k []
 | y::ys,k=>EE ys fun r=>uK y.cellsOf r k
theorem Bp {q:Sort _}: ∀ (ys:List PV) (k:List PV→q),EE ys k=k (flat ys)
 | [],_=>rfl
 | y::ys,k=>by simp only[EE,Bp ys,fR];rfl
theorem AL.lit {s:Nat} {ys:List PV} {K:List PV→Prop} (h:uN s ys=true) (k:EE ys K):AL s ys K:=
 ⟨(jE h).1,(jE h).2,by rw[Bp] at k;exact k⟩
def aS (l:List Int) (v:Value):Option PV:=match v with
 | .int .i64 k=>if l.contains k then some .aV else none
 | _=>none
theorem fy.set {r:Nat} {l:List Int} {n:Int} {Γ:List aj} {aK:List (Int×Value)} {put:(Value→Option PV)→List (Int×Value)→List aj} [hp:c6 Γ r (.int .i64) (aS l) aK put] {K:PV→Bool→Prop} (h:K (.bool (l.contains n)) (l.contains n)):
  fy r (.int .i64) (some (.int .i64 n)) .bfalse Γ K:=
 fy.at_ (hp:=hp) (.bool (l.contains n)) (l.contains n) (by simp[oK,MapKept.IsKey]) (fun p hp=>by
  simp only[aS] at hp
  split at hp
  ·rename_i hc;cases hp;exact ⟨Wk.tt hc,hc⟩
  ·cases hp) (fun hn=>by
  simp only[aS] at hn
  split at hn
  ·cases hn
  ·rename_i hc;simp only[Bool.not_eq_true] at hc;exact ⟨Wk.ff hc,hc⟩) h
theorem nE (l:List Int) (n:Int):aS (n::l) (.int .i64 n)=some .aV:=by simp[aS]
theorem qH (l:List Int) (n:Int) (k:Value) (h:k≠.int .i64 n):aS (n::l) k=aS l k:=by
 unfold aS
 split
 ·rename_i m
  have:m≠n:=fun e=>h (by rw[e]);simp[List.contains_cons,this]
 ·rfl
theorem pF {l m:List Int} (h: ∀ x,x∈l↔x∈m):aS l=aS m:=by
 funext v;unfold aS
 split
 ·rename_i k
  have:l.contains k=m.contains k:=by rw[Bool.eq_iff_iff];simp[h]
  rw[this]
 ·rfl
theorem fP.set {r:Nat} {l:List Int} {n:Int} {Γ:List aj} {aK:List (Int×Value)} {put:(Value→Option PV)→List (Int×Value)→List aj} [hp:c6 Γ r (.int .i64) (aS l) aK put] {K:List aj→Prop} (h:K (put (aS (n::l)) aK)) (hq:aS l (.int .i64 n)≠none∨ ∀ q∈aK,q.2≠.tuple #[]:=by right;simp):
  fP r (.int .i64) (some (.int .i64 n)) .aV Γ K:=
 fP.at_ (hp:=hp) (aS (n::l)) (by simp[oK,MapKept.IsKey]) (nE l n) (qH l n) h hq
def yj (l:List Int) (n:Int) (z:PV) (v:Value):Option PV:=match v with
 | .int .i64 k=>if k=n then some z else aS l v
 | _=>none
theorem Cl (l:List Int) (n:Int) (z:PV) (k:Value) (h:k≠.int .i64 n):yj l n z k=aS l k:=by
 unfold yj
 split
 ·rename_i m
  have:m≠n:=fun e=>h (by rw[e]);simp[this]
 ·rename_i hne
  unfold aS
  split
  ·rename_i m;exact absurd rfl (hne m)
  ·rfl
theorem dP.set {r:Nat} {l:List Int} {n:Int} {z:PV} {Γ:List aj} {aK:List (Int×Value)} {put:(Value→Option PV)→List (Int×Value)→List aj} [hp:c6 Γ r (.int .i64) (aS l) aK put] {K:PV→List aj→Prop} (hn:l.contains n=false)
  (h: ∀ j,K (.bp [z,.int .i64 j]) (put (yj l n z) ((j,.int .i64 n)::aK))) (hq:aS l (.int .i64 n)≠none∨ ∀ q∈aK,q.2≠.tuple #[]:=by right;simp):dP r (.int .i64) (some (.int .i64 n)) z Γ K:=by
 have hz:aS l (.int .i64 n)=none:=by simp only[aS,hn];rfl
 refine dP.at_ (hp:=hp) (yj l n z) (by simp[oK,MapKept.IsKey]) (by rw[hz];simp[yj]) (fun k hk=>Cl l n z k hk) ?_ hq;intro j;rw[hz];exact h j
theorem cF.set {r:Nat} {l:List Int} {n j:Int} {z:PV} {Γ:List aj} {aK:List (Int×Value)} {put:(Value→Option PV)→List (Int×Value)→List aj} [hp:c6 Γ r (.int .i64) (yj l n z) ((j,.int .i64 n)::aK) put] {K:List aj→Prop}
  (h:K (put (aS (n::l)) ((j,.int .i64 n)::aK))):cF r j .aV Γ K:=
 cF.at_ (hp:=hp) (aS (n::l)) (nE l n) (fun k hk=>by rw[qH l n k hk,Cl l n z k hk]) h
theorem dN.set {r:Nat} {l:List Int} {n:Int} {Γ:List aj} {aK:List (Int×Value)} {put:(Value→Option PV)→List (Int×Value)→List aj} [hp:c6 Γ r (.int .i64) (aS l) aK put] {K:List aj→Prop} (h:K (put (aS (l.filter (· !=n))) [])):
  dN r (.int .i64) (some (.int .i64 n)) Γ K:=
 dN.at_ (hp:=hp) (aS (l.filter (· !=n))) (by simp[oK,MapKept.IsKey]) (by simp[aS]) (fun k hk=>by
  unfold aS
  split
  ·rename_i m
   have hm:m≠n:=fun e=>hk (by rw[e]);have:(l.filter (· !=n)).contains m=l.contains m:=by rw[Bool.eq_iff_iff];simp[hm]
   rw[this]
  ·rfl) h
end
theorem au.aK {r:Nat} {d:TypeDesc} {m:Value→Option PV} {aK:List (Int×Value)} {Γ:List aj} {put:(Value→Option PV)→List (Int×Value)→List aj} [hp:c6 Γ r d m aK put]:au Γ (put m []):=fun w0 F M w hS=>by
 obtain ⟨Γ1,Γ2,e1,e2⟩:=hp.at_;rw[e1] at hS;rw[e2];have hS':aP w0 F (Γ1++.mp r d m aK::(Γ2++M)) w:=by simpa using hS
 have:=hS'.JG (pend':= []) fun es clock _ hM=>⟨hM.st,hM.key,hM.get,hM.dom,by simp⟩
 exact ⟨F,Fz.le_refl F,by simpa using this⟩
theorem au.cN {Γ Γ':List aj} (r:Nat) {d:TypeDesc} {m:Value→Option PV} {aK:List (Int×Value)} {put:(Value→Option PV)→List (Int×Value)→List aj} [hp:c6 Γ r d m aK put] (h:Γ'=put m []:=by rfl):au Γ Γ':=h▸au.aK (hp:=hp)
theorem OA {p:Prop} (h:p:=by first | omega | (simp only[SS] at hg;omega)):p:=h
theorem gA {p:Prop} (h:p:=by first | exact hg | exact M6 hg | exact QE hg | exact M6 (M6 hg) | exact QE (M6 hg) | exact M6 (M6 (M6 hg)) | (simp_all;done)):p:=h
theorem nA {p:Prop} (h:p:=by first | exact Bool.or_not_self _ | exact Bool.not_or_self _):p:=h
theorem NA {p:Prop} (h:p:=by first | exact Bool.or_not_self _ | exact Bool.not_or_self _ | (rw[hg,Bool.true_and];first | exact Bool.or_not_self _ | exact Bool.not_or_self _) | (simp_all;done)):p:=h
theorem wA {p:Prop} (h:p:=by (repeat' (first|exact trivial|exact Wk.refl _|(refine And.intro ?_ ?_)|exact Wk.any _|exact Wk.dM rfl|exact Wk.tok _ _ _|exact Wk.aB _ _|exact Wk.tt rfl|exact Wk.ff rfl|exact Wk.int (by omega)|exact aX.nil|apply aX.cons|exact gx.nil|apply gx.cons|apply Wk.agg|apply Wk.bp))):p:=h
theorem cA {p:Prop} (h:p:=by (repeat' (first|exact aX.nil|apply aX.cons|exact Wk.refl _|exact Wk.int (by first|omega|(simp only[SS] at hg;omega))|exact Wk.tt rfl|exact Wk.ff rfl|exact Wk.dM rfl|exact Wk.tok _ _ _))):p:=h
theorem bA {p:Prop} (h:p:=by exact And.intro (Nat.le_of_ble_eq_true rfl) (Nat.le_of_ble_eq_true rfl)):p:=h
theorem HH.of {es:List PV} {K:Bool→Prop} (h: ∀ q,(q=true→es= [])→K q):HH es K:=⟨h⟩
theorem n0:type_of% @HH.of:= @HH.of
theorem zA:type_of% @fy.set:= @fy.set
theorem zB:type_of% @kT.none:= @kT.none
theorem zC:type_of% @HG.map:= @HG.map
theorem zD:type_of% @CI.mk:= @CI.mk
theorem zE:type_of% @fP.set:= @fP.set
theorem zF:type_of% @dN.set:= @dN.set
theorem zG:type_of% @od.go:= @od.go
theorem zH:type_of% @ek.box:= @ek.box
theorem zI:type_of% @ia.of:= @ia.of
theorem zJ:type_of% @kT.one:= @kT.one
theorem zK:type_of% @kT.lit:= @kT.lit
theorem zL:type_of% @ek.ep:= @ek.ep
theorem zM:type_of% @dr.lit:= @dr.lit
theorem zN:type_of% @cr.box:= @cr.box
theorem zO:type_of% @j5.ix:= @j5.ix
theorem zP:type_of% @dr.ix:= @dr.ix
theorem zQ:type_of% @ij.ok:= @ij.ok
theorem zR:type_of% @FC.of:= @FC.of
theorem zS:type_of% @ec.lo:= @ec.lo
theorem zT:type_of% @iF.lo:= @iF.lo
theorem zU:type_of% @ec.hi:= @ec.hi
theorem zV:type_of% @iF.hi:= @iF.hi
theorem zW:type_of% @AN.of:= @AN.of
theorem zX:type_of% @kR.ways:= @kR.ways
theorem zY:type_of% @eO.lazy:= @eO.lazy
theorem zZ:type_of% @oe.of:= @oe.of
theorem SY:((¬True)=False∧(¬False)=True∧(∀ a:Prop,(False∧a)=False)∧(∀ a:Prop,(a∧False)=False)∧(∀ a:Prop,(True∧a)=a)∧(∀ a:Prop,(a∧True)=a)∧(∀ a:Prop,(True∨a)=True)∧(∀ a:Prop,(a∨True)=True)∧(∀ a:Prop,(False∨a)=a)∧(∀ a:Prop,(a∨False)=a))∧
  ((∀ (p:Prop) [Decidable p],(decide p=true)=p)∧(∀ (p:Prop) [Decidable p],(decide p=false)= ¬ p)∧(∀ a b:Int,((a == b)=true)=(a=b))∧(∀ a b:Int,((a == b)=false)= ¬ (a=b))∧
  (∀ a b:List UInt8,((a == b)=true)=(a=b))∧(∀ a b:List UInt8,((a == b)=false)= ¬ (a=b))∧(∀ a b:Int,((a !=b)=true)= ¬ (a=b))∧(∀ a b:Int,((a !=b)=false)=(a=b))∧
  (∀ a b:Bool,((a && b)=true)=(a=true∧b=true))∧(∀ a b:Bool,((a && b)=false)=(a=false∨b=false))∧(∀ a b:Bool,((a || b)=true)=(a=true∨b=true))∧(∀ a b:Bool,((a || b)=false)=(a=false∧b=false))∧
  (∀ a:Bool,((!a)=true)=(a=false))∧(∀ a:Bool,((!a)=false)=(a=true))∧(∀ a b:Int,(¬ a < b)=(b≤a))∧(∀ a b:Int,(¬ a≤b)=(b < a))∧(∀ a b:Int,(a > b)=(b < a))∧(∀ a b:Int,(a≥b)=(b≤a))∧
  (∀ a:Prop,(¬ ¬ a)=a)∧(true=false)=False∧(false=true)=False):=⟨by simp,SS⟩
def mH:List Oper→Nat→List Nat→List Nat
 | [],_,_=> []
 | _::l,i,R=>match Bl i R with
  | true=>mH l (i + 1) R
  | false=>i::mH l (i + 1) R
section
variable {P:Program} {tt:Nat→TI}
theorem aE.sP (d:Option Nat) {ops:Array Oper} (hd:vf ops=d) (R1 R2:List Nat) {T:List PV} {Γ:List aj} {K:List PV→List aj→Prop} (hk:TT.ok P tt) (hm:P.follows .mixedOrders=true)
  (h:gw P tt ops.toList (bG ops.toList (mH ops.toList 0 (R1++R2))) T Γ fun T'=>bN P tt ops.toList (bG ops.toList R1) T' [] [] fun T2 Γ1' _=>kI Γ1' Γ fun Γ'=>bN P tt ops.toList (bG ops.toList R2) T2 Γ' [] fun T' Γ' _=>K T' Γ')
  (hchk:nH ops (yu ops.toList []) (mH ops.toList 0 (R1++R2)) R1 R2=true:=by kernel_rfl):aE P ops T Γ K:=
 aE.split hk hm _ _ R1 R2 [] hchk h
theorem aE.sE {ops:Array Oper} (Γ1:List aj) (R1 R2:List Nat) {T:List PV} {Γ Γ2:List aj} {K:List PV→List aj→Prop} (hk:TT.ok P tt) (hm:P.follows .mixedOrders=true) [hp:bz Γ Γ1 Γ2]
  (h:gw P tt ops.toList (bG ops.toList (mH ops.toList 0 (R1++R2))) T Γ2 fun T'=>bN P tt ops.toList (bG ops.toList R1) T' Γ1 [] fun T2 Γ1' _=>kI Γ1' Γ2 fun Γ'=>bN P tt ops.toList (bG ops.toList R2) T2 Γ' [] fun T' Γ' _=>K T' Γ')
  (hchk:nH ops (yu ops.toList []) (mH ops.toList 0 (R1++R2)) R1 R2=true:=by kernel_rfl):aE P ops T Γ K:=
 aE.split hk hm _ _ R1 R2 Γ1 hchk h
theorem aE.sQ (d:Option Nat) {ops:Array Oper} (hd:vf ops=d) (R1 R2:List Nat) {T:List PV} {e:aj} {Γ2:List aj} {K:List PV→List aj→Prop} (hk:TT.ok P tt) (hm:P.follows .mixedOrders=true)
  (h:gw P tt ops.toList (bG ops.toList (mH ops.toList 0 (R1++R2))) T Γ2 fun T'=>bN P tt ops.toList (bG ops.toList R1) T' [e] [] fun T2 Γ1' _=>kI Γ1' Γ2 fun Γ'=>bN P tt ops.toList (bG ops.toList R2) T2 Γ' [] fun T' Γ' _=>K T' Γ')
  (hchk:nH ops (yu ops.toList []) (mH ops.toList 0 (R1++R2)) R1 R2=true:=by kernel_rfl):aE P ops T (e::Γ2) K:=
 aE.split hk hm _ _ R1 R2 [e] (hp:=⟨List.Perm.refl _⟩) hchk h
end
theorem pC:type_of% @aq.pure:= @aq.pure
theorem wR {T:List PV}:aX T T:=aX.refl _
theorem pS:type_of% @bB.same:= @bB.same
theorem pL:type_of% @bB.lit:= @bB.lit
theorem pE:type_of% @bB.ep:= @bB.ep
theorem PZ {p:Prop} (h:p:=by
 conv=>whnf
 repeat ((first|(refine zW ?_ ?_;exact gA)|refine zH rfl ?_|refine zA ?_|refine zI bA ?_|refine zI rfl ?_|refine zJ rfl rfl ?_|refine zB ?_|refine zK rfl ?_|refine zL rfl ?_|refine zC ?_|(refine zO ?_ ?_ ?_;exact OA;exact OA)|(refine zP ?_ ?_ ?_;exact OA;exact OA)|refine zM rfl ?_|(refine zQ ?_ ?_ ?_;exact OA;exact OA)|(refine zR ?_ ?_;exact OA)|(refine zI ?_ ?_;exact NA)|(refine zS ?_ ?_ ?_;exact OA;exact OA)|(refine zT ?_ ?_ ?_;exact OA;exact OA)|(refine zU ?_ ?_ ?_;exact OA;exact OA)|(refine zV ?_ ?_ ?_;exact OA;exact OA)|intro _);conv=>whnf)
 first | exact bB.same | exact bB.lit | exact bB.ep):p:=h
structure Hd (q:Prop):Prop where
 h:q
theorem pZ {p:Prop} (h:p:=by first | exact bB.same | exact bB.lit | exact bB.ep):p:=h
theorem aM {p q:Prop} (k:q) (h:Hd q→p:=by intro hq;(first | (refine zW ?_ ?_;exact gA) | refine zH rfl ?_ | refine zA ?_ | refine zI bA ?_ | refine zI rfl ?_ | refine zJ rfl rfl ?_ | refine zB ?_ | refine zK rfl ?_ | refine zL rfl ?_ | refine zC ?_ | (refine zO ?_ ?_ ?_;omega;omega) | (refine zP ?_ ?_ ?_;omega;omega) | refine zM rfl ?_ | (refine zQ ?_ ?_ ?_;omega;omega) | (refine zR ?_ ?_;omega) | (refine zI ?_ ?_;exact nA) | (refine zS ?_ ?_ ?_;omega;omega) | (refine zT ?_ ?_ ?_;omega;omega) | (refine zU ?_ ?_ ?_;omega;omega) | (refine zV ?_ ?_ ?_;omega;omega));exact hq.h):p:=h ⟨k⟩
theorem aG {p q:Prop} (k:q) (h:Hd q→p:=by intro hq;(first | (refine zW ?_ ?_;exact gA) | refine zA ?_ | refine zH rfl ?_ | refine zB ?_);exact hq.h):p:=h ⟨k⟩
theorem lM {p q:Prop} (k:q) (h:Hd q→p:=by intro hq;(conv=>whnf);(repeat1' ((first | ((first | (apply zY;intro hg) | apply zZ);exact PZ) | (refine zW ?_ ?_;exact gA) | refine zH rfl ?_ | refine zA ?_ | refine zI bA ?_ | refine zI rfl ?_ | refine zJ rfl rfl ?_ | refine zB ?_ | refine zK rfl ?_ | refine zL rfl ?_ | refine zC ?_ | (refine zO ?_ ?_ ?_;omega;omega) | (refine zP ?_ ?_ ?_;omega;omega) | refine zM rfl ?_ | (refine zQ ?_ ?_ ?_;omega;omega) | (refine zR ?_ ?_;omega) | (refine zI ?_ ?_;exact nA) | (refine zS ?_ ?_ ?_;omega;omega) | (refine zT ?_ ?_ ?_;omega;omega) | (refine zU ?_ ?_ ?_;omega;omega) | (refine zV ?_ ?_ ?_;omega;omega) | refine zN rfl rfl rfl ?_ | refine zD ?_ | refine zE ?_ | refine zF ?_);conv=>whnf));exact hq.h):p:=h ⟨k⟩
theorem di {p q:Prop} (k:q) (h:Hd q→p:=by intro hq;(conv=>whnf);(repeat1' ((first | ((first | (apply zY;intro hg) | apply zZ);exact PZ) | (refine zW ?_ ?_;exact gA) | refine zH rfl ?_ | refine zA ?_ | refine zI bA ?_ | refine zI rfl ?_ | refine zJ rfl rfl ?_ | refine zB ?_ | refine zK rfl ?_ | refine zL rfl ?_ | refine zC ?_ | (refine zO ?_ ?_ ?_;omega;omega) | (refine zP ?_ ?_ ?_;omega;omega) | refine zM rfl ?_ | (refine zQ ?_ ?_ ?_;omega;omega) | (refine zR ?_ ?_;omega) | (refine zI ?_ ?_;exact nA) | (refine zS ?_ ?_ ?_;omega;omega) | (refine zT ?_ ?_ ?_;omega;omega) | (refine zU ?_ ?_ ?_;omega;omega) | (refine zV ?_ ?_ ?_;omega;omega) | refine zN rfl rfl rfl ?_ | refine zD ?_ | refine zE ?_ | refine zF ?_ | refine zG ?_);conv=>whnf));exact hq.h):p:=h ⟨k⟩
inductive Datum where
 | mk (kind n d:Int) (s:List UInt8) (l:List Datum)
def Datum.kind:Datum→Int | .mk k _ _ _ _=>k
def Datum.n:Datum→Int | .mk _ n _ _ _=>n
def Datum.d:Datum→Int | .mk _ _ d _ _=>d
def Datum.s:Datum→List UInt8 | .mk _ _ _ s _=>s
def Datum.l:Datum→List Datum | .mk _ _ _ _ l=>l
mutual
def Datum.pv:Datum→PV
 | .mk k n d s l=>.agg [.int .i64 k,.int .i64 n,.int .i64 d,.str s,.sl 5 (Datum.Fe l) none]
def Datum.Fe:List Datum→List PV
 | []=> []
 | x::xs=>Datum.pv x::Datum.Fe xs
end
theorem Datum.nt: ∀ l:List Datum,Datum.Fe l=l.map Datum.pv
 | []=>rfl
 | x::xs=>by simp only[Datum.Fe,List.map_cons,Datum.nt xs]
def Datum.cells (x:Datum):List PV:= [.int .i64 x.kind,.int .i64 x.n,.int .i64 x.d,.str x.s,.sl 5 (x.l.map Datum.pv) none]
theorem Datum.fB (x:Datum):x.pv=.agg x.cells:=by
 cases x;simp only[Datum.pv,Datum.cells,Datum.nt,Datum.kind,Datum.n,Datum.d,Datum.s,Datum.l]
instance:cz Datum.pv Datum.cells:=⟨fun x=>by rw[Datum.fB];rfl⟩
mutual
theorem Datum.lY {p:Datum→Prop} (h: ∀ x:Datum,(∀ y∈x.l,p y)→p x): ∀ d,p d
 | .mk k n d s l=>h (.mk k n d s l) (Datum.iR h l)
theorem Datum.iR {p:Datum→Prop} (h: ∀ x:Datum,(∀ y∈x.l,p y)→p x): ∀ (l:List Datum), ∀ x∈l,p x
 | []=>by simp
 | y::ys=>List.forall_mem_cons.2 ⟨Datum.lY h y,Datum.iR h ys⟩
end
theorem Datum.ind {p:Datum→Prop} (h: ∀ x:Datum,(∀ y∈x.l,p y)→p x) (d:Datum):p d:=Datum.lY h d
inductive aa where
 | mk (op n:Int) (v:List Int) (t:List aa)
def aa.op:aa→Int | .mk o _ _ _=>o
def aa.n:aa→Int | .mk _ n _ _=>n
def aa.v:aa→List Int | .mk _ _ v _=>v
def aa.t:aa→List aa | .mk _ _ _ t=>t
mutual
def aa.pv:aa→PV
 | .mk o n v t=>.agg [.int .i64 o,.int .i64 n,.sl 1 (v.map (PV.int .i64)) none,.sl 4 (aa.Fe t) none]
def aa.Fe:List aa→List PV
 | []=> []
 | x::xs=>aa.pv x::aa.Fe xs
end
theorem aa.nt: ∀ l:List aa,aa.Fe l=l.map aa.pv
 | []=>rfl
 | x::xs=>by simp only[aa.Fe,List.map_cons,aa.nt xs]
def aa.cells (x:aa):List PV:= [.int .i64 x.op,.int .i64 x.n,.sl 1 (x.v.map (PV.int .i64)) none,.sl 4 (x.t.map aa.pv) none]
theorem aa.fB (x:aa):x.pv=.agg x.cells:=by
 cases x;simp only[aa.pv,aa.cells,aa.nt,aa.op,aa.n,aa.v,aa.t]
instance:cz aa.pv aa.cells:=⟨fun x=>by rw[aa.fB];rfl⟩
mutual
theorem aa.lY {p:aa→Prop} (h: ∀ x:aa,(∀ y∈x.t,p y)→p x): ∀ d,p d
 | .mk o n v t=>h (.mk o n v t) (aa.iR h t)
theorem aa.iR {p:aa→Prop} (h: ∀ x:aa,(∀ y∈x.t,p y)→p x): ∀ (l:List aa), ∀ x∈l,p x
 | []=>by simp
 | y::ys=>List.forall_mem_cons.2 ⟨aa.lY h y,aa.iR h ys⟩
end
theorem aa.ind {p:aa→Prop} (h: ∀ x:aa,(∀ y∈x.t,p y)→p x) (d:aa):p d:=aa.lY h d
def mu (c:UInt8):Bool:=decide ((c.toNat:Int) < 32) || decide ((c.toNat:Int) > 126) || (c.toNat:Int) == 34 || (c.toNat:Int) == 92
theorem aO {α:Type} {l:List α} {i:Nat} (h:i < l.length):l.drop i=l[i]::l.drop (i + 1):=List.drop_eq_getElem_cons h
theorem dG {s:List UInt8} {i:Nat} (h:i < s.length):s.drop i=s.getD i 0::s.drop (i + 1):=by
 rw[aO h];simp[List.getD,h]
mutual
def Datum.qX:Datum→Int→Int
 | .mk _ _ _ _ l,left=>Datum.eW l (left - 1)
def Datum.eW:List Datum→Int→Int
 | [],left=>left
 | x::xs,left=>if 0≤left then Datum.eW xs (Datum.qX x left) else left
end
mutual
def aa.qX:aa→Int→Int
 | .mk _ _ _ l,left=>aa.eW l (left - 1)
def aa.eW:List aa→Int→Int
 | [],left=>left
 | x::xs,left=>if 0≤left then aa.eW xs (aa.qX x left) else left
end
theorem Datum.qY (x:Datum) (n:Int):x.qX n=Datum.eW x.l (n - 1):=by cases x;rfl
theorem aa.qY (x:aa) (n:Int):x.qX n=aa.eW x.t (n - 1):=by cases x;rfl
theorem Datum.zc (d:Datum): ∀ left:Int,0≤left→ -1≤d.qX left∧d.qX left < left:=by
 induction d using Datum.ind with
 | h d ih=>
  intro left h0;rw[Datum.qY]
  have key: ∀ (l:List Datum),(∀ x∈l, ∀ left:Int,0≤left→ -1≤x.qX left∧x.qX left < left)→ ∀ left:Int, -1≤left→ -1≤Datum.eW l left∧Datum.eW l left≤left:=by
   intro l
   induction l with
   | nil=>intro _ left h;rw[Datum.eW];omega
   | cons x xs ihx=>
    intro hx left h;rw[Datum.eW]
    split
    ·have h1:=hx x (by simp) left (by omega)
     have h2:=ihx (fun y hy=>hx y (by simp[hy])) (x.qX left) (by omega);omega
    ·omega
  have:=key d.l ih (left - 1) (by omega);omega
theorem aa.zc (d:aa): ∀ left:Int,0≤left→ -1≤d.qX left∧d.qX left < left:=by
 induction d using aa.ind with
 | h d ih=>
  intro left h0;rw[aa.qY]
  have key: ∀ (l:List aa),(∀ x∈l, ∀ left:Int,0≤left→ -1≤x.qX left∧x.qX left < left)→ ∀ left:Int, -1≤left→ -1≤aa.eW l left∧aa.eW l left≤left:=by
   intro l
   induction l with
   | nil=>intro _ left h;rw[aa.eW];omega
   | cons x xs ihx=>
    intro hx left h;rw[aa.eW]
    split
    ·have h1:=hx x (by simp) left (by omega)
     have h2:=ihx (fun y hy=>hx y (by simp[hy])) (x.qX left) (by omega);omega
    ·omega
  have:=key d.t ih (left - 1) (by omega);omega
mutual
def Datum.aR:Datum→Nat
 | .mk _ _ _ s l=>1 + s.length + Datum.aD l
def Datum.aD:List Datum→Nat
 | []=>0
 | x::xs=>Datum.aR x + Datum.aD xs
end
mutual
def aa.aR:aa→Nat
 | .mk _ _ v l=>1 + v.length + aa.aD l
def aa.aD:List aa→Nat
 | []=>0
 | x::xs=>aa.aR x + aa.aD xs
end
theorem Datum.bu (x:Datum):x.aR=1 + x.s.length + Datum.aD x.l:=by cases x;rfl
theorem aa.bu (x:aa):x.aR=1 + x.v.length + aa.aD x.t:=by cases x;rfl
theorem aa.cu {x:aa}: ∀ {l:List aa},x∈l→x.aR≤aa.aD l
 | [],h=>by simp at h
 | y::l,h=>by
  rw[aa.aD];rcases List.mem_cons.1 h with rfl | h
  ·omega
  ·have:=aa.cu h;omega
theorem Datum.bn: ∀ l:List Datum,l.length≤Datum.aD l
 | []=>by simp
 | x::l=>by have:=Datum.bn l;have:=x.bu;rw[Datum.aD,List.length_cons];omega
theorem aa.bn: ∀ l:List aa,l.length≤aa.aD l
 | []=>by simp
 | x::l=>by have:=aa.bn l;have:=x.bu;rw[aa.aD,List.length_cons];omega
set_option maxHeartbeats 4000000
theorem MJ (a b:Nat) (ha:a < 18446744073709551616) (hb:b < 18446744073709551616):ay Tryz.prog 201 [.int .u64 a,.int .u64 b] (.int .u64 (Nat.gcd a b:Nat)):=by
 refine af.ah ai Tryz.func201 rfl rfl (n:=14) rfl rfl ?_
 conv=>whnf
 skip
 refine ax.j7 (fun | ((a',b'):Nat×Nat)=> [(0,.int .u64 a'),(1,.int .u64 b')]) (fun _=> []) (fun | (a',b')=>Nat.gcd a' b'=Nat.gcd a b∧a' < 18446744073709551616∧b' < 18446744073709551616) (fun | (_,b')=>b') 14
  (a,b) ⟨rfl,ha,hb⟩ rfl wA ?_
 rintro ⟨a',b'⟩ ⟨hg,ha',hb'⟩
 conv=>whnf
 refine ⟨fun hc=>?_,fun hc=>?_⟩
 ·conv=>whnf
  simp only[SS] at hc;refine ⟨by omega,?_⟩
  conv=>whnf
  have hb0:0 < b':=by omega
  refine BN (b',a' % b') ⟨?_,hb',Nat.lt_trans (Nat.mod_lt _ hb0) hb'⟩ (Nat.mod_lt _ hb0) rfl (And.intro (Wk.refl _) <| And.intro (Wk.int (Int.ofNat_tmod ..).symm) trivial);rw[←hg,Nat.gcd_comm a' b',Nat.gcd_rec b' a',Nat.gcd_comm]
 ·conv=>whnf
  simp only[SS] at hc;have hb0:b'=0:=by omega
  subst hb0;refine ak.pure (Wk.int ?_);rw[←hg,Nat.gcd_zero_right]
theorem DZ (n:Int) (h1: -9223372036854775808≤n) (h2:n≤9223372036854775807):ay Tryz.prog 202 [.int .i64 n] (.int .u64 n.natAbs):=by
 refine af.ah ai Tryz.func202 rfl rfl (n:=10) rfl rfl ?_
 conv=>whnf
 skip
 refine ⟨fun hc=>?_,fun hc=>?_⟩
 ·conv=>whnf
  simp only[SS] at hc;refine ij.uD (by omega) hc ?_
  conv=>whnf
  refine ij.uD (by omega) (by omega) ?_
  conv=>whnf
  refine ak.pure (Wk.int (by omega))
 ·conv=>whnf
  simp only[SS] at hc;refine ij.u64 hc (by omega) ?_
  conv=>whnf
  refine ak.pure (Wk.int (by omega))
theorem A9 (a b:Nat) (ha:a < 18446744073709551616) (hb:b < 18446744073709551616):ay Tryz.prog 219 [.int .u64 a,.int .u64 b] (.int .u64 (Nat.gcd a b:Nat)):=by
 refine af.ah ai Tryz.func219 rfl rfl (n:=12) rfl rfl ?_
 conv=>whnf
 skip
 refine ax.j7 (fun | ((a',b'):Nat×Nat)=> [(0,.int .u64 a'),(1,.int .u64 b')]) (fun _=> []) (fun | (a',b')=>Nat.gcd a' b'=Nat.gcd a b∧a' < 18446744073709551616∧b' < 18446744073709551616) (fun | (_,b')=>b') 12
  (a,b) ⟨rfl,ha,hb⟩ rfl wA ?_
 rintro ⟨a',b'⟩ ⟨hg,ha',hb'⟩
 conv=>whnf
 refine ⟨fun hc=>?_,fun hc=>?_⟩
 ·conv=>whnf
  simp only[SS] at hc;have hb0:b'=0:=by omega
  subst hb0;refine ak.pure (Wk.int ?_);rw[←hg,Nat.gcd_zero_right]
 ·conv=>whnf
  simp only[SS] at hc;have hb0:0 < b':=by omega
  refine aE.sE [] [] [] ai mixed ?_
  conv=>whnf
  apply oe.of
  ·conv=>whnf
   exact bB.same
  conv=>whnf
  apply oe.of
  ·conv=>whnf
   exact bB.same
  conv=>whnf
  apply oe.of
  ·conv=>whnf
   exact bB.same
  conv=>whnf
  apply oe.of
  ·conv=>whnf
   refine ⟨by omega,?_⟩
   conv=>whnf
   exact bB.same
  conv=>whnf
  apply oe.of
  ·conv=>whnf
   exact bB.same
  conv=>whnf
  apply oe.of
  ·conv=>whnf
   exact bB.same
  conv=>whnf
  refine BN (b',a' % b') ⟨?_,hb',Nat.lt_trans (Nat.mod_lt _ hb0) hb'⟩ (Nat.mod_lt _ hb0) rfl (And.intro (Wk.refl _) <| And.intro (Wk.int (Int.ofNat_tmod ..).symm) trivial);rw[←hg,Nat.gcd_comm a' b',Nat.gcd_rec b' a',Nat.gcd_comm]
theorem uJ (n:Int) (h1: -9223372036854775808≤n) (h2:n≤9223372036854775807):ay Tryz.prog 220 [.int .i64 n] (.int .u64 n.natAbs):=by
 refine af.ah ai Tryz.func220 rfl rfl (n:=10) rfl rfl ?_
 conv=>whnf
 skip
 refine ⟨fun hc=>?_,fun hc=>?_⟩
 ·conv=>whnf
  simp only[SS] at hc;refine ij.uD (by omega) hc ?_
  conv=>whnf
  refine ij.uD (by omega) (by omega) ?_
  conv=>whnf
  refine ak.pure (Wk.int (by omega))
 ·conv=>whnf
  simp only[SS] at hc;refine ij.u64 hc (by omega) ?_
  conv=>whnf
  refine ak.pure (Wk.int (by omega))
def cM (n d:Int):Bool:=decide (1≤d) && (decide (d≤2147483647) && (decide (-2147483647≤n) && (decide (n≤2147483647) && (Nat.gcd n.natAbs d.natAbs == 1))))
theorem JH (n d:Int):ay Tryz.prog 162 [.int .i64 n,.int .i64 d] (.bool (cM n d)):=by
 refine af.ah ai Tryz.func162 rfl rfl (n:=27) rfl rfl ?_
 conv=>whnf
 repeat' (first|refine di ?_|(((((apply zY;intro hg));(conv=>whnf);(repeat ((first|refine pC (DZ _ OA OA) wR ?_|refine pC (MJ n.natAbs d.natAbs OA OA) cA ?_|refine aG ?_);conv=>whnf));exact pZ));conv=>whnf)|(refine zX (fun hc=>?_) (fun hc=>?_)<;>(try simp only[SY] at hc)<;>omega))
 exact ak.pure (Wk.bool (by rw[Bool.eq_iff_iff];simp[cM];omega))
theorem JJ (n d:Int):ay Tryz.prog 174 [.int .i64 n,.int .i64 d] (.bool (cM n d)):=by
 refine af.ah ai Tryz.func174 rfl rfl (n:=27) rfl rfl ?_
 conv=>whnf
 repeat' (first|refine di ?_|(((((apply zY;intro hg));(conv=>whnf);(repeat ((first|refine pC (uJ _ OA OA) wR ?_|refine pC (A9 n.natAbs d.natAbs OA OA) cA ?_|refine aG ?_);conv=>whnf));exact pZ));conv=>whnf)|(refine zX (fun hc=>?_) (fun hc=>?_)<;>(try simp only[SY] at hc)<;>omega))
 exact ak.pure (Wk.bool (by rw[Bool.eq_iff_iff];simp[cM];omega))
def dR (c:UInt8):Bool:=decide (48≤c.toNat) && decide (c.toNat≤57)
def ef (l:List UInt8):Nat:=l.foldl (fun n c=>10 * n + (c.toNat - 48)) 0
def hU:List UInt8→Nat
 | []=>0
 | c::s=>if dR c then hU s + 1 else 0
def bM (s:List UInt8):Nat×Nat:=if 10 < hU s then (0,0) else (ef (s.take (hU s)),hU s)
theorem sk (l:List UInt8) (c:UInt8):ef (l++ [c])=10 * ef l + (c.toNat - 48):=by simp[ef]
theorem nR (l:List UInt8) (h: ∀ c∈l,dR c=true):ef l < 10 ^ l.length:=by
 suffices ∀ (l:List UInt8) (m:Nat),(∀ c∈l,dR c=true)→l.foldl (fun n c=>10 * n + (c.toNat - 48)) m < (m + 1) * 10 ^ l.length by
  have:=this l 0 h;simpa[ef] using this
 intro l
 induction l with
 | nil=>intro m _;simp
 | cons c l ih=>
  intro m h;rw[List.foldl_cons];have h1:=h c (by simp);have h2:=ih (10 * m + (c.toNat - 48)) (fun c hc=>h c (by simp[hc]));simp only[dR,Bool.and_eq_true,decide_eq_true_eq] at h1;refine Nat.lt_of_lt_of_le h2 ?_;rw[List.length_cons,Nat.pow_succ,Nat.mul_comm (10 ^ l.length) 10, ←Nat.mul_assoc];exact Nat.mul_le_mul_right _ (by omega)
theorem Et: ∀ (s:List UInt8) (k:Nat),(∀ c∈s.take k,dR c=true)→k≤s.length→(∀ c,s[k]?=some c→dR c=false)→hU s=k
 | [],k,_,h,_=>by simp at h;rw[hU,h]
 | c::s,0,_,_,h=>by simp[hU,h c (by simp)]
 | c::s,k + 1,h1,h2,h3=>by
  rw[hU,if_pos (h1 c (by simp)),Et s k (fun c hc=>h1 c (by simp[hc])) (by simpa using h2) (fun c hc=>h3 c (by simpa using hc))]
theorem Bj: ∀ (s:List UInt8), ∀ c∈s.take (hU s),dR c=true
 | [],c,h=>by simp at h
 | d::s,c,h=>by
  rw[hU] at h
  split at h
  ·rename_i hd
   rw[List.take_succ_cons] at h;rcases List.mem_cons.1 h with rfl | h
   ·exact hd
   ·exact Bj s c h
  ·simp at h
theorem Eu: ∀ (s:List UInt8),hU s≤s.length
 | []=>by simp[hU]
 | d::s=>by rw[hU];split<;>simp[Eu s]
theorem NV (s:List UInt8):ay Tryz.prog 199 [.str s] (.bp [.int .i64 (bM s).1,.int .i64 (bM s).2]):=by
 refine af.ah ai Tryz.func199 rfl rfl (n:=38) rfl rfl ?_
 conv=>whnf
 skip
 refine ax.keep [4,5,6,7,8,9,10,11,12,13,14,15,16,17,18,19,20,21,22,23,24,25,26,27,28,29,30,31,32,33] (fun k:Nat=> [(4,.int .i64 (ef ((s.take k).take 10))),(5,.int .i64 k)])
  (fun k=>k≤s.length∧ ∀ c∈s.take k,dR c=true) (fun k=>s.length - k) 0 ⟨by omega,by simp⟩ wA ?_
 rintro k ⟨hk,hd⟩;have hv:ef ((s.take k).take 10) < 10 ^ 10:=Nat.lt_of_lt_of_le (nR _ fun c hc=>hd c (List.mem_of_mem_take hc)) (Nat.pow_le_pow_right (by omega) (by simp;omega));have fk: ∀ c,s[k]?=some c→s.getD k 0=c:=fun c hc=>by rw[List.getD,hc];rfl
 conv=>whnf
 repeat' (first|refine di ?_|((intro _);conv=>whnf)|(refine zX (fun hc=>?_) (fun hc=>?_)<;>(try simp only[SY] at hc)<;>(conv=>whnf)))
 ·have hlt:k < s.length:=by omega
  have htk:s.take (k + 1)=s.take k++ [s.getD k 0]:=by rw[List.take_add_one];simp[hlt]
  have e:10 * (ef ((s.take k).take 10):Int) + (((s.getD k 0).toNat:Int) - 48)=ef ((s.take (k + 1)).take 10):=by
   rw[List.take_take,List.take_take,Nat.min_eq_right (by omega),Nat.min_eq_right (by omega),htk,sk];omega
  refine av (k + 1) ⟨by omega,fun x hx=>?_⟩ (by show s.length - (k + 1) < s.length - k;omega) wA;rw[htk] at hx;rcases List.mem_append.1 hx with hx | hx
  ·exact hd x hx
  ·rw[List.mem_singleton.1 hx];simp only[dR,Bool.and_eq_true,decide_eq_true_eq];omega
 ·have hlt:k < s.length:=by omega
  have htk:s.take (k + 1)=s.take k++ [s.getD k 0]:=by rw[List.take_add_one];simp[hlt]
  have e:(ef ((s.take k).take 10):Int)=ef ((s.take (k + 1)).take 10):=by
   rw[List.take_take,List.take_take,Nat.min_eq_left (by omega),Nat.min_eq_left (by omega)]
  refine av (k + 1) ⟨by omega,fun x hx=>?_⟩ (by show s.length - (k + 1) < s.length - k;omega) wA;rw[htk] at hx;rcases List.mem_append.1 hx with hx | hx
  ·exact hd x hx
  ·rw[List.mem_singleton.1 hx];simp only[dR,Bool.and_eq_true,decide_eq_true_eq];omega
 all_goals
  have hdk:hU s=k:=Et s k hd hk fun c hc1=>by
   have hlt:k < s.length:=(List.getElem?_eq_some_iff.1 hc1).1;rw[fk c hc1] at *;simp only[dR,Bool.and_eq_false_iff,decide_eq_false_iff_not];omega
  refine ak.pure (Wk.eq ?_)
 ·rw[bM,if_pos (by omega)]
  rfl
 ·rw[bM,if_neg (by omega),List.take_take,Nat.min_eq_right (by omega),hdk]
def ko (n d:Int):Int×Int×Int:=
 if d=0 then (0,0,4) else
 if 2147483647 < n.natAbs / Nat.gcd n.natAbs d.natAbs∨2147483647 < d.natAbs / Nat.gcd n.natAbs d.natAbs then (0,0,3) else
 if decide (n < 0)≠decide (d < 0) then (-((n.natAbs / Nat.gcd n.natAbs d.natAbs:Nat):Int),(d.natAbs / Nat.gcd n.natAbs d.natAbs:Nat),0) else
 ((n.natAbs / Nat.gcd n.natAbs d.natAbs:Nat),(d.natAbs / Nat.gcd n.natAbs d.natAbs:Nat),0)
def I7 (n d:Int) (a b:Nat):Int×Int×Int:=
 if 2147483647 < a∨2147483647 < b then (0,0,3) else if decide (n < 0)≠decide (d < 0) then (-(a:Int),(b:Int),0) else ((a:Int),(b:Int),0)
theorem BS (n d:Int) (h:d≠0):ko n d=I7 n d (n.natAbs / Nat.gcd n.natAbs d.natAbs) (d.natAbs / Nat.gcd n.natAbs d.natAbs):=by rw[ko,if_neg h];rfl
def Ms (x:Int×Int×Int):PV:=.bp [.int .i64 x.1,.int .i64 x.2.1,.int .i64 x.2.2]
theorem Lw (n d:Int) (h1: -9223372036854775808≤n) (h2:n≤9223372036854775807) (h3: -9223372036854775808≤d) (h4:d≤9223372036854775807):
  ay Tryz.prog 200 [.int .i64 n,.int .i64 d] (Ms (ko n d)):=by
 refine af.ah ai Tryz.func200 rfl rfl (n:=45) rfl rfl ?_
 conv=>whnf
 skip
 refine ⟨fun hc=>?_,fun hc=>?_⟩
 ·conv=>whnf
  skip
  simp only[SS] at hc;exact ak.pure (Wk.eq (by rw[ko,if_pos hc];rfl))
 conv=>whnf
 skip
 simp only[SS] at hc;have hd0:=hc;refine aq.pure (DZ n h1 h2) (aX.refl _) ?_
 conv=>whnf
 skip
 refine aq.pure (DZ d h3 h4) (aX.refl _) ?_
 conv=>whnf
 skip
 have ha:n.natAbs≤9223372036854775808:=by omega
 have hb:d.natAbs≤9223372036854775808:=by omega
 refine aq.pure (MJ n.natAbs d.natAbs (by omega) (by omega)) (aX.refl _) ?_;have hg:0 < Nat.gcd n.natAbs d.natAbs:=Nat.gcd_pos_of_pos_right _ (by omega);have hm:=BS n d hd0;generalize hgg:Nat.gcd n.natAbs d.natAbs=g at *;have qa:n.natAbs / g≤9223372036854775808:=Nat.le_trans (Nat.div_le_self _ _) ha;have qb:d.natAbs / g≤9223372036854775808:=Nat.le_trans (Nat.div_le_self _ _) hb;have ea:(n.natAbs:Int).tdiv (g:Int)=(n.natAbs / g:Nat):=(Int.ofNat_tdiv _ _).symm;have eb:(d.natAbs:Int).tdiv (g:Int)=(d.natAbs / g:Nat):=(Int.ofNat_tdiv _ _).symm;unfold I7 at hm;generalize n.natAbs / g=a at *;generalize d.natAbs / g=b at *
 conv=>whnf
 repeat (refine lM ?_)
 rw[ea,eb]
 conv=>whnf
 repeat' (first|refine di ?_|(refine zX (fun hc=>?_) (fun hc=>?_)<;>(try simp only[SY] at hc)<;>(conv=>whnf)))
 ·exact ak.pure (Wk.eq (by rw[hm,if_pos (by omega)];rfl))
 ·rw[if_neg (by omega)] at hm
  refine ak.pure (Wk.eq ?_);rw[hm,if_pos (by simpa using hc)];simp[Ms]
 ·rw[if_neg (by omega)] at hm
  refine ak.pure (Wk.eq ?_);rw[hm,if_neg (by simpa using hc)];rfl
theorem Ip {p q:Prop} (k:q) (h:q→p:=by intro hq;first | exact aE.sP (some 19) rfl [] [] ai mixed hq):p:=h k
theorem Lx (n d:Int) (h1: -9223372036854775808≤n) (h2:n≤9223372036854775807) (h3: -9223372036854775808≤d) (h4:d≤9223372036854775807):
  ay Tryz.prog 254 [.int .i64 n,.int .i64 d] (Ms (ko n d)):=by
 refine af.ah ai Tryz.func254 rfl rfl (n:=45) rfl rfl ?_
 conv=>whnf
 skip
 refine ⟨fun hc=>?_,fun hc=>?_⟩
 ·conv=>whnf
  skip
  simp only[SS] at hc;exact ak.pure (Wk.eq (by rw[ko,if_pos hc];rfl))
 conv=>whnf
 skip
 simp only[SS] at hc;have hd0:=hc;refine aq.pure (uJ n h1 h2) (aX.refl _) ?_
 conv=>whnf
 skip
 refine aq.pure (uJ d h3 h4) (aX.refl _) ?_
 conv=>whnf
 skip
 have ha:n.natAbs≤9223372036854775808:=by omega
 have hb:d.natAbs≤9223372036854775808:=by omega
 refine aq.pure (A9 n.natAbs d.natAbs (by omega) (by omega)) (aX.refl _) ?_;have hg:0 < Nat.gcd n.natAbs d.natAbs:=Nat.gcd_pos_of_pos_right _ (by omega);have hm:=BS n d hd0;generalize hgg:Nat.gcd n.natAbs d.natAbs=g at *;have qa:n.natAbs / g≤9223372036854775808:=Nat.le_trans (Nat.div_le_self _ _) ha;have qb:d.natAbs / g≤9223372036854775808:=Nat.le_trans (Nat.div_le_self _ _) hb;have ea:(n.natAbs:Int).tdiv (g:Int)=(n.natAbs / g:Nat):=(Int.ofNat_tdiv _ _).symm;have eb:(d.natAbs:Int).tdiv (g:Int)=(d.natAbs / g:Nat):=(Int.ofNat_tdiv _ _).symm;unfold I7 at hm;generalize n.natAbs / g=a at *;generalize d.natAbs / g=b at *
 conv=>whnf
 repeat (first|refine lM ?_|((refine Ip ?_);conv=>whnf))
 rw[ea,eb]
 conv=>whnf
 repeat' (first|refine di ?_|(refine zX (fun hc=>?_) (fun hc=>?_)<;>(try simp only[SY] at hc)<;>(conv=>whnf)))
 ·exact ak.pure (Wk.eq (by rw[hm,if_pos (by omega)];rfl))
 ·rw[if_neg (by omega)] at hm
  refine ak.pure (Wk.eq ?_);rw[hm,if_pos (by simpa using hc)];simp[Ms]
 ·rw[if_neg (by omega)] at hm
  refine ak.pure (Wk.eq ?_);rw[hm,if_neg (by simpa using hc)];rfl
def mc (s:List UInt8):Bool:=s.head? == some 45
def ic (s:List UInt8):List UInt8:=if mc s then s.drop 1 else s
def jN (s:List UInt8) (k:Nat):Option Nat:=
 if k < s.length then
  if s[k]?=some 47∧(bM (s.drop (k + 1))).2≠0∧k + 1 + (bM (s.drop (k + 1))).2=s.length then some (bM (s.drop (k + 1))).1 else none
 else some 1
def jb (s:List UInt8):Int×Int×Bool:=
 if (bM (ic s)).2=0 then (0,0,false) else
 match jN (ic s) (bM (ic s)).2 with
 | none=>(0,0,false)
 | some d=>
  let x:=ko (if mc s then -((bM (ic s)).1:Int) else (bM (ic s)).1) d
  (x.1,x.2.1,x.2.2 == 0)
theorem x6 (s:List UInt8):jb s=if (bM (ic s)).2=0 then (0,0,false) else
 match jN (ic s) (bM (ic s)).2 with
 | none=>(0,0,false)
 | some d=>
  let x:=ko (if mc s then -((bM (ic s)).1:Int) else (bM (ic s)).1) d
  (x.1,x.2.1,x.2.2 == 0):=rfl
def Ea (x:Int×Int×Bool):PV:=.bp [.int .i64 x.1,.int .i64 x.2.1,.bool x.2.2]
theorem B2 (s:List UInt8):(bM s).1 < 10000000000∧(bM s).2≤10∧(bM s).2≤s.length:=by
 unfold bM
 split
 ·simp
 ·rename_i h
  have h1:=nR (s.take (hU s)) (Bj s);have h2:=Eu s;refine ⟨Nat.lt_of_lt_of_le h1 ?_,by omega,h2⟩;have:10 ^ (s.take (hU s)).length≤10 ^ 10:=Nat.pow_le_pow_right (by omega) (by simp;omega);omega
theorem qJ:Wk (.bp [.int .i64 0,.int .i64 0,.bfalse]) (Ea (0,0,false)):=Wk.bp (.cons (Wk.refl _) (.cons (Wk.refl _) (.cons (Wk.ff rfl) .nil)))
theorem Eo (c d:UInt8):((c.toNat:Int) == (d.toNat:Int))=(c == d):=by
 rw[Bool.eq_iff_iff,beq_iff_eq,beq_iff_eq, ←UInt8.toNat_inj];omega
theorem GI (c:UInt8) (r:List UInt8):((c.toNat:Int) == 45)=mc (c::r):=by
 have:=Eo c 45;rw[show ((45:UInt8).toNat:Int)=45 from rfl] at this;rw[this];rfl
theorem EZ (s:List UInt8):(decide ((s.length:Int) > 0) && ((s.getD 0 0).toNat:Int) == 45)=mc s:=by
 cases s with
 | nil=>rfl
 | cons c r=>
  rw[show (decide (((c::r).length:Int) > 0))=true by simp,Bool.true_and];exact GI c r
theorem getD_eq {s:List UInt8} {k:Nat} (c:UInt8) (h:k < s.length):(s[k]?=some c↔((s.getD k 0).toNat:Int)=c.toNat):=by
 rw[List.getD,List.getElem?_eq_getElem h,Option.getD_some,Option.some.injEq, ←UInt8.toNat_inj];omega
theorem Ky (s:List UInt8):(ic s).length≤s.length:=by
 unfold ic
 split
 ·rw[List.length_drop];omega
 ·omega
theorem B1 (s:List UInt8):ay Tryz.prog 161 [.str s] (Ea (jb s)):=by
 refine af.ah ai Tryz.func161 rfl rfl (n:=72) rfl rfl ?_
 conv=>whnf
 skip
 refine od.go ?_
 conv=>whnf
 repeat (first|refine lM ?_|((intro _);conv=>whnf))
 rename_i hlen;have hul:=Ky s;refine od.keep (fun _:Unit=> [(0,.str (ic s))]) (fun _=>True) ?_ ?_
 ·rw[EZ]
  conv=>whnf
  repeat' ((refine zX (fun hc=>?_) (fun hc=>?_)<;>(try simp only[SY] at hc)<;>(conv=>whnf)))
  ·refine ec.lo (by omega) (by cases s<;>simp_all [mc];omega) ?_
   conv=>whnf
   exact jo () trivial (And.intro (Wk.str (by rw[ic,if_pos hc])) wA)
  ·exact jo () trivial (And.intro (Wk.str (by rw[ic,hc];rfl)) wA)
 ·rintro _ _
  rw[EZ];have hP:=x6 s;generalize mc s=neg at *;generalize ic s=u at *;have hb:=B2 u;have hb2:=fun k=>B2 (u.drop k);have hl:jN u (bM u).2=if (bM u).2 < u.length then if u[(bM u).2]?=some 47∧(bM (u.drop ((bM u).2 + 1))).2≠0∧(bM u).2 + 1 + (bM (u.drop ((bM u).2 + 1))).2=u.length then some (bM (u.drop ((bM u).2 + 1))).1 else none else some 1:=rfl
  have hb3:=hb2 ((bM u).2 + 1);clear hb2;have h47:=fun h=>getD_eq (s:=u) (k:=(bM u).2) 47 h;simp only[show ((47:UInt8).toNat:Int)=47 from rfl] at h47
  conv=>whnf
  repeat' (first|refine di ?_|((first|refine pC (NV _) wR ?_|refine pC (Lw _ _ OA OA OA OA) wR ?_|intro _);conv=>whnf)|(refine zX (fun hc=>?_) (fun hc=>?_)<;>(try simp only[SY] at hc)<;>(conv=>whnf)))
  all_goals rw[hP]
  ·rw[if_pos (by omega)]
   exact ak.pure qJ
  ·rw[if_neg (by omega),hl,if_pos (by omega),if_neg (by omega)]
   exact ak.pure qJ
  ·rw[if_neg (by omega),hl,if_pos (by omega),if_pos ⟨(h47 (by omega)).2 (by omega),by omega,by omega⟩,hc]
   exact ak.pure (Wk.eq (by simp only[Ea,if_true,Int.zero_sub]))
  ·rw[if_neg (by omega),hl,if_pos (by omega),if_pos ⟨(h47 (by omega)).2 (by omega),by omega,by omega⟩,hc]
   exact ak.pure (Wk.refl _)
  ·rw[if_neg (by omega),hl,if_pos (by omega),if_neg (fun h=>by have:=(h47 (by omega)).1 h.1;omega)]
   exact ak.pure qJ
  ·rw[if_neg (by omega),hl,if_neg (by omega),hc]
   exact ak.pure (Wk.eq (by simp only[Ea,if_true,Int.zero_sub];rfl))
  ·rw[if_neg (by omega),hl,if_neg (by omega),hc]
   exact ak.pure (Wk.refl _)
def rG:List UInt8:= [45,43,42,47,60,62,61,33,63,95,37]
def AX (c:UInt8):Bool:=decide ((c.toNat:Int)≥97) && decide ((c.toNat:Int)≤122) || decide ((c.toNat:Int)≥48) && decide ((c.toNat:Int)≤57)
def nh (c:UInt8):Bool:=AX c || rG.contains c
def oG (s:List UInt8):Bool:=decide (1≤s.length) && (decide (s.length≤40) && (s.all nh && !(jb s).2.2))
theorem Im {p q:Prop} (k:q) (h:q→p:=by intro hq;first | exact aE.sP (some 52) rfl [] [] ai mixed hq):p:=h k
theorem LB (s:List UInt8):ay Tryz.prog 163 [.str s] (.bool (oG s)):=by
 refine af.ah ai Tryz.func163 rfl rfl (n:=72) rfl rfl ?_
 conv=>whnf
 repeat' (first|refine di ?_|((intro _);conv=>whnf)|(refine zX (fun hc=>?_) (fun hc=>?_)<;>(try simp only[SY] at hc)<;>(conv=>whnf)))
 ·exact ak.pure (Wk.ff (by simp[oG];omega))
 rename_i hlen;have e: [45,43,42,47,60,62,61,33,63,95,37]=rG:=rfl;have em:rG.length=11:=rfl;have hmm: ∀ c,(AX c || rG.contains c)=nh c:=fun _=>rfl;rw[e];generalize rG=m at *;refine ax.keep [2,4,5,6,18,19,20,21,22,23,24,25,26,27,28,29,30,31,32,33,34,35,36,37,38,39,40,41,42,43,44,45,46,47,48,49,50,51,52,53,54,55,56,57,58,59,60,61,62,63] (fun i:Nat=> [(4,.int .i64 i)]) (fun i=>i≤s.length∧(s.drop i).all nh=s.all nh) (fun i=>s.length - i) 0 ⟨by omega,rfl⟩ wA ?_;rintro i ⟨hi,hm⟩
 conv=>whnf
 repeat' (first|refine di ?_|((first|refine pC (B1 s) wR ?_|intro _);conv=>whnf)|(refine zX (fun hc=>?_) (fun hc=>?_)<;>(try simp only[SY] at hc)<;>(conv=>whnf)))
 ·refine ax.keep [5,6,46,47,48,49,50,51,52,53,54,55,56,57,58,59,60,61] (fun (x:Nat×Bool)=> [(5,.bool x.2),(6,.int .i64 x.1)]) (fun x=>x.1≤11∧(x.2 || (m.drop x.1).contains (s.getD i 0))=nh (s.getD i 0)) (fun x=>11 - x.1) (0,AX (s.getD i 0)) ⟨by omega,hmm _⟩ wA ?_
  rintro ⟨k,b⟩ ⟨hk,hb⟩
  conv=>whnf
  repeat' (first|refine di ?_|((first|refine Im ?_|intro _);conv=>whnf)|(refine zX (fun hc=>?_) (fun hc=>?_)<;>(try simp only[SY] at hc)<;>(conv=>whnf)))
  ·refine av (k + 1,b || ((s.getD i 0).toNat:Int) == (m.getD k 0).toNat) ⟨by simp only at hk ⊢; omega,?_⟩ (by show 11 - (k + 1) < 11 - k;simp only at hk;omega) wA
   rw[←hb,dG (show k < m.length by omega),List.contains_cons,Eo,Bool.or_assoc]
  all_goals
   simp only at hk hb;rw[hc,List.drop_of_length_le (by omega)] at hb;rw[dG (show i < s.length by omega),List.all_cons, ←hb] at hm
  ·refine ak.pure (Wk.ff ?_)
   simp only[List.contains_nil,Bool.or_false,Bool.false_and] at hm;simp[oG, ←hm]
  ·exact av (i + 1) ⟨by omega,by rw[←hm];simp⟩ (by show s.length - (i + 1) < s.length - i;omega) wA
 ·rw[List.drop_of_length_le (by omega)] at hm
  refine ak.pure (Wk.bool ?_);have h1:1≤s.length:=by omega
  have h2:s.length≤40:=by omega
  simp[oG, ←hm,h1,h2]
def gG (d:Datum) (deep:Int):Bool:=
 (decide (deep > 200) || decide (d.kind < 0) || decide (d.kind > 7)) || ((d.kind == 0 && !cM d.n d.d) || (d.kind !=0 && d.d !=0)) ||
 ((d.kind == 1 && d.n !=0 && d.n !=1) || (d.kind !=0 && d.kind !=1 && d.n !=0)) || ((d.kind == 2 && !oG d.s) || (d.kind !=2 && d.kind !=3 && !(d.s == []))) || d.s.any mu ||
 ((d.kind == 6 && (d.l.length:Int) !=2) || (d.kind !=6 && d.kind !=7 && decide ((d.l.length:Int) > 0)))
mutual
def Datum.bL:Datum→Int→Bool
 | .mk k n d s l,deep=>!gG (.mk k n d s l) deep && Datum.ei l (deep + 1)
def Datum.ei:List Datum→Int→Bool
 | [],_=>true
 | x::xs,deep=>Datum.bL x deep && Datum.ei xs deep
end
theorem Datum.lC (x:Datum) (deep:Int):x.bL deep=(!gG x deep && Datum.ei x.l (deep + 1)):=by cases x;rfl
theorem JI (d:Datum): ∀ deep:Int,0≤deep→deep≤1000→ay Tryz.prog 106 [.agg d.cells,.int .i64 deep] (.bool (d.bL deep)):=by
 induction d using Datum.ind with
 | h d ih=>
  intro deep h0 h1;refine af.ah ai Tryz.func106 rfl rfl (n:=166) rfl rfl ?_
  conv=>whnf
  repeat' (first|refine di ?_|((first|(((apply zY;intro hg));(conv=>whnf);(repeat ((first|refine pC (JH _ _) wR ?_|refine pC (LB _) wR ?_|refine aG ?_);conv=>whnf));exact pZ)|intro _);conv=>whnf)|(refine zX (fun hc=>?_) (fun hc=>?_)<;>(try simp only[SY] at hc)<;>(conv=>whnf)))
  all_goals rw[Datum.lC]
  iterate 4 exact ak.pure (Wk.ff (by simp only[gG,SS, *, true_or,or_true,Bool.not_true,Bool.false_and]))
  rename_i k1 k2 k3 k4;refine ax.keep [4,5,92,93,94,95,96,97,98,99,100,101,102,103,104,105,106,107,108,109,110,111,112,113,114,115,116,117,118,119,120,121,122,123,124] (fun i:Nat=> [(5,.int .i64 i)]) (fun i=>i≤d.s.length∧(d.s.drop i).any mu=d.s.any mu) (fun i=>d.s.length - i) 0 ⟨by omega,rfl⟩ wA ?_;rintro i ⟨hi,hm⟩
  conv=>whnf
  repeat' (first|refine di ?_|((intro _);conv=>whnf)|(refine zX (fun hc=>?_) (fun hc=>?_)<;>(try simp only[SY] at hc)<;>(conv=>whnf)))
  ·rename_i k5
   rw[dG (show i < d.s.length by omega),List.any_cons,show mu (d.s.getD i 0)=true by simp only[mu,SS,hc]] at hm;exact ak.pure (Wk.ff (by simp only[gG, ←hm,Bool.true_or,Bool.or_true,Bool.not_true,Bool.false_and]))
  ·rename_i k5
   rw[dG (show i < d.s.length by omega),List.any_cons,show mu (d.s.getD i 0)=false by simp only[mu,SS,hc,not_false_eq_true,and_self]] at hm;exact av (i + 1) ⟨by omega,hm⟩ (by show d.s.length - (i + 1) < d.s.length - i;omega) wA
  ·exact ak.pure (Wk.ff (by simp only[gG,SS, *, true_or,or_true,Bool.not_true,Bool.false_and]))
  ·rename_i k5
   rw[List.drop_of_length_le (by omega),List.any_nil] at hm;replace hm:=hm.symm
   have hbad:gG d deep=false:=by
    simp only[gG,SS, *, and_self]
   simp only[hbad,Bool.not_false,Bool.true_and];refine ax.keep [4,6,150,151,152,153,154,155,156,157,158,159,160,161,162,163,164,165] (fun i:Nat=> [(6,.int .i64 i)]) (fun i=>i≤d.l.length∧Datum.ei (d.l.drop i) (deep + 1)=Datum.ei d.l (deep + 1)) (fun i=>d.l.length - i) 0 ⟨by omega,rfl⟩ wA ?_;rintro j ⟨hj,hr⟩
   conv=>whnf
   repeat' (first|refine di ?_|((first|refine pC (ih _ (List.getElem_mem _) _ OA OA) wR ?_|intro _);conv=>whnf)|(refine zX (fun hc=>?_) (fun hc=>?_)<;>(try simp only[SY] at hc)<;>(conv=>whnf)))
   ·rw[aO (show j < d.l.length by omega),Datum.ei,hc,Bool.false_and] at hr
    exact ak.pure (Wk.ff hr.symm)
   ·rw[aO (show j < d.l.length by omega),Datum.ei,hc,Bool.true_and] at hr
    exact av (j + 1) ⟨by omega,hr⟩ (by show d.l.length - (j + 1) < d.l.length - j;omega) wA
   ·rw[List.drop_of_length_le (by omega),Datum.ei] at hr
    exact ak.pure (Wk.tt hr.symm)
abbrev aJ:Datum:=.mk 4 0 0 [] []
abbrev w6 (s:List UInt8):Datum:=.mk 2 0 0 s []
abbrev lB (a b:Datum):Datum:=.mk 6 0 0 [] [a,b]
def gP (l:List Datum):Datum:=l.foldr lB aJ
def l9:List UInt8:= [45,43,42,47,60,62,61,33,63,95]
def jP (b:UInt8):Bool:=l9.contains b || AX b
def oh (s:List UInt8) (k:Nat):Nat:=k + ((s.drop k).takeWhile fun c=>c !=10).length
def yV (c:UInt8):Bool:=c == 32 || c == 10 || c == 9
def mF (s:List UInt8):Nat→Nat→Nat
 | 0,k=>k
 | n + 1,k=>if k < s.length then (if s.getD k 0=59 then mF s n (oh s k) else if yV (s.getD k 0)=true then mF s n (k + 1) else k) else k
abbrev c5 (s:List UInt8) (k:Nat):Nat:=mF s (s.length + 1) k
def cZ (s:List UInt8) (k:Nat):UInt8:=if k < s.length then s.getD k 0 else 0
def iX (s:List UInt8) (k:Nat):Nat:=k + ((s.drop k).takeWhile jP).length
abbrev OC:=Datum×Nat×Int
def lI (s:List UInt8) (k:Nat):OC:=
 let t:=(s.take (iX s k)).drop k
 if (jb t).2.2=true then (.mk 0 (jb t).1 (jb t).2.1 [] [],iX s k, -1)
 else if t.length > 40 then (aJ,iX s k,k) else (w6 t,iX s k, -1)
def FH (c:UInt8):Bool:=decide ((c.toNat:Int) < 32) || decide ((c.toNat:Int) > 126) || (c.toNat:Int) == 92
def lE (s:List UInt8) (k:Nat):Nat:=k + ((s.drop k).takeWhile fun c=>c !=34 && !FH c).length
def lF (s:List UInt8) (k:Nat):OC:=
 let j:=lE s (k + 1)
 if j < s.length∧s.getD j 0=34 then (.mk 3 0 0 ((s.take j).drop (k + 1)) [],j + 1, -1) else (aJ,j,j)
def RF (s:List UInt8):Nat→(Nat→OC)×(Bool→Nat→List Datum→Datum→(List Datum×Datum)×Nat×Int)
 | 0=>(fun k=>(aJ,k,k),fun _ k l e=>((l,e),k,k))
 | n + 1=>
  let dat:=(RF s n).1
  let dts:=(RF s n).2
  (fun k0=>
   let k:=c5 s k0
   if k=s.length then (aJ,k,k) else
   if jP (cZ s k)=true then lI s k else
   if cZ s k=34 then lF s k else
   if cZ s k=39 then let r:=dat (k + 1);(gP [w6 [113,117,111,116,101],r.1],r.2) else
   if cZ s k=35 then
    if k + 1=s.length then (aJ,k + 1,k + 1) else
    let c:=s.getD (k + 1) 0
    if c=116 then (.mk 1 1 0 [] [],k + 2, -1) else
    if c=102 then (.mk 1 0 0 [] [],k + 2, -1) else
    if c=118 then (.mk 5 0 0 [] [],k + 2, -1) else
    if c=40 then let r:=dts false (k + 2) [] aJ;(.mk 7 0 0 [] r.1.1,r.2) else (aJ,k + 2,(k + 1:Nat)) else
   if cZ s k=40 then let r:=dts true (k + 1) [] aJ;(r.1.1.foldr lB r.1.2,r.2) else
   (aJ,k,k),
  fun pair k0 l e=>
   let k:=c5 s k0
   if cZ s k=41 then ((l,e),k + 1, -1) else
   if cZ s k=46∧pair=true∧l≠ [] then
    let r:=dat (k + 1)
    if r.2.2 < 0 then
     let k2:=c5 s r.2.1
     if cZ s k2=41 then dts pair k2 l r.1 else ((l,r.1),k2,k2)
    else ((l,r.1),r.2)
   else
    let r:=dat k
    if r.2.2 < 0 then dts pair r.2.1 (l++ [r.1]) e else ((l++ [r.1],e),r.2))
abbrev PY (s:List UInt8):Nat:=2 * s.length + 4
def Kt (s:List UInt8):Nat→Nat→List Datum→List Datum×Int×Int
 | 0,k,_=>([],k,2)
 | n + 1,k0,out=>
  let k:=c5 s k0
  if k=s.length then (out,s.length,0) else
  let r:=(RF s (PY s)).1 k
  if r.2.2 < 0 then (if r.1.bL 0=true then Kt s n r.2.1 (out++ [r.1]) else ([],k,2)) else ([],r.2.2,2)
def oH (s:List UInt8):List Datum×Int×Int:=if s.length > 65536 then ([],65536,2) else Kt s (s.length + 1) 0 []
def vY (s:List UInt8):PV:=.bp [.sl 5 ((oH s).1.map Datum.pv) none,.int .i64 (oH s).2.1,.int .i64 (oH s).2.2]
theorem qk {s:List UInt8} {k:Nat} (h:k≤s.length):k≤oh s k∧oh s k≤s.length:=by
 have:=(List.takeWhile_sublist (fun c:UInt8=>c !=10) (l:=s.drop k)).length_le;rw[List.length_drop] at this;unfold oh;omega
theorem uj {s:List UInt8} {k:Nat} (h:k < s.length):oh s k=if s.getD k 0=10 then k else oh s (k + 1):=by
 unfold oh;rw[dG h,List.takeWhile_cons];by_cases e:s.getD k 0=10
 ·rw[if_pos e,e];rfl
 ·rw[if_neg e,if_pos (by simpa using e),List.length_cons];omega
theorem Iu {s:List UInt8} {k:Nat} (h: ¬k < s.length):oh s k=k:=by
 unfold oh;rw[List.drop_of_length_le (by omega)];rfl
theorem gR (s:List UInt8): ∀ (n k:Nat),k≤s.length→k≤mF s n k∧mF s n k≤s.length
 | 0,k,h=>by rw[mF];omega
 | n + 1,k,h=>by
  rw[mF]
  split
  ·rename_i hk
   split
   ·have h1:=qk h
    have h2:=gR s n (oh s k) h1.2;omega
   ·split
    ·have h2:=gR s n (k + 1) (by omega)
     omega
    ·omega
  ·omega
theorem me (s:List UInt8): ∀ (n m k:Nat),k≤s.length→s.length - k < n→s.length - k < m→mF s n k=mF s m k
 | 0,_,_,_,h,_=>by omega
 | _ + 1,0,_,_,_,h=>by omega
 | n + 1,m + 1,k,hk,h1,h2=>by
  rw[mF,mF]
  split
  ·rename_i hl
   split
   ·rename_i h59
    have h3:=qk hk
    have h4:k + 1≤oh s k:=by
     rw[uj hl,if_neg (by rw[h59];decide)];exact (qk (by omega)).1
    exact me s n m _ h3.2 (by omega) (by omega)
   ·split
    ·exact me s n m _ (by omega) (by omega) (by omega)
    ·rfl
  ·rfl
theorem LI {s:List UInt8} {k:Nat} (h:k≤s.length):c5 s k=if k < s.length then (if s.getD k 0=59 then c5 s (oh s k) else if yV (s.getD k 0)=true then c5 s (k + 1) else k) else k:=by
 unfold c5;rw[mF]
 split
 ·rename_i hl
  split
  ·rename_i h59
   have h3:=qk h
   have h4:k + 1≤oh s k:=by
    rw[uj hl,if_neg (by rw[h59];decide)];exact (qk (by omega)).1
   exact me s _ _ _ h3.2 (by omega) (by omega)
  ·split
   ·exact me s _ _ _ (by omega) (by omega) (by omega)
   ·rfl
 ·rfl
theorem KD {s:List UInt8} {k:Nat} (h:k≤s.length):k≤iX s k∧iX s k≤s.length:=by
 have:=(List.takeWhile_sublist jP (l:=s.drop k)).length_le;rw[List.length_drop] at this;unfold iX;omega
theorem wJ {s:List UInt8} {k:Nat} (h:k < s.length):iX s k=if jP (s.getD k 0)=true then iX s (k + 1) else k:=by
 unfold iX;rw[dG h,List.takeWhile_cons];by_cases e:jP (s.getD k 0)=true
 ·rw[if_pos e,if_pos e,List.length_cons];omega
 ·rw[if_neg e,if_neg e];rfl
theorem yx {s:List UInt8} {k:Nat} (h: ¬k < s.length):iX s k=k:=by
 unfold iX;rw[List.drop_of_length_le (by omega)];rfl
theorem Ko {s:List UInt8} {k:Nat} (h:k≤s.length):k≤lE s k∧lE s k≤s.length:=by
 have:=(List.takeWhile_sublist (fun c:UInt8=>c !=34 && !FH c) (l:=s.drop k)).length_le;rw[List.length_drop] at this;unfold lE;omega
theorem wG {s:List UInt8} {k:Nat} (h:k < s.length):lE s k=if s.getD k 0=34∨FH (s.getD k 0)=true then k else lE s (k + 1):=by
 unfold lE;rw[dG h,List.takeWhile_cons];by_cases e:s.getD k 0=34∨FH (s.getD k 0)=true
 ·rw[if_pos e,if_neg];rfl
  rcases e with e | e
  ·rw[e];simp
  ·rw[e];simp
 ·rw[if_neg e,if_pos (by simp at e ⊢; exact e),List.length_cons];omega
theorem Hl {s:List UInt8} {k:Nat} (h: ¬k < s.length):lE s k=k:=by
 unfold lE;rw[List.drop_of_length_le (by omega)];rfl
def HC (s:List UInt8) (k:Nat) (r:Nat×Int):Prop:=r.1≤s.length∧((r.2= -1∧k < r.1)∨0≤r.2)
theorem HC.mono {s:List UInt8} {k j:Nat} {r:Nat×Int} (h:HC s j r) (hk:k≤j):HC s k r:=⟨h.1,h.2.imp (fun h=>⟨h.1,by omega⟩) id⟩
theorem HC.fail {s:List UInt8} {k j i:Nat} (h:j≤s.length):HC s k (j,(i:Int)):=⟨h,.inr (Int.natCast_nonneg _)⟩
theorem HC.ok {s:List UInt8} {k j:Nat} (h:j≤s.length) (h2:k < j):HC s k (j, -1):=⟨h,.inl ⟨rfl,h2⟩⟩
theorem KE {s:List UInt8} {k:Nat} (h:k < s.length) (hm:jP (s.getD k 0)=true):HC s k (lI s k).2:=by
 have h1:=KD (s:=s) (k:=k + 1) (by omega);have h2:iX s k=iX s (k + 1):=by rw[wJ h,if_pos hm]
 unfold lI;dsimp only
 split
 ·exact .ok (by omega) (by omega)
 ·split
  ·exact .fail (by omega)
  ·exact .ok (by omega) (by omega)
theorem Kp {s:List UInt8} {k:Nat} (h:k < s.length):HC s k (lF s k).2:=by
 have h1:=Ko (s:=s) (k:=k + 1) (by omega);unfold lF;dsimp only
 split
 ·exact .ok (by omega) (by omega)
 ·exact .fail (by omega)
theorem yM (s:List UInt8): ∀ n,(∀ k,k≤s.length→HC s k ((RF s n).1 k).2)∧ ∀ pair k l e,k≤s.length→HC s k ((RF s n).2 pair k l e).2
 | 0=>⟨fun k h=>.fail h,fun pair k l e h=>.fail h⟩
 | n + 1=>by
  obtain ⟨h1,h2⟩:=yM s n;constructor
  ·intro k hk
   rw[RF];dsimp only;have hn:k≤c5 s k∧c5 s k≤s.length:=gR s (s.length + 1) k hk;generalize c5 s k=k' at *
   split
   ·exact .fail hn.2
   have hl:k' < s.length:=by omega
   have hb:cZ s k'=s.getD k' 0:=if_pos hl;rw[hb]
   split
   ·rename_i hm;exact (KE hl hm).mono hn.1
   split
   ·exact (Kp hl).mono hn.1
   split
   ·exact (h1 (k' + 1) (by omega)).mono (by omega)
   split
   ·split
    ·exact .fail (by omega)
    split
    ·exact .ok (by omega) (by omega)
    split
    ·exact .ok (by omega) (by omega)
    split
    ·exact .ok (by omega) (by omega)
    split
    ·exact (h2 false (k' + 2) [] aJ (by omega)).mono (by omega)
    ·exact .fail (by omega)
   split
   ·exact (h2 true (k' + 1) [] aJ (by omega)).mono (by omega)
   ·exact .fail (by omega)
  ·intro pair k l e hk
   rw[RF];dsimp only;have hn:k≤c5 s k∧c5 s k≤s.length:=gR s (s.length + 1) k hk;generalize c5 s k=k' at *
   have hb:cZ s k'≠0→k' < s.length:=fun h=>by
    unfold cZ at h
    split at h
    ·assumption
    ·exact absurd rfl h
   split
   ·rename_i h
    have:=hb (by rw[h];decide);exact .ok (by omega) (by omega)
   split
   ·rename_i h
    have:=hb (by rw[h.1];decide);have h3:=h1 (k' + 1) (by omega)
    split
    ·rename_i h4
     have h5:((RF s n).1 (k' + 1)).2.1≤c5 s ((RF s n).1 (k' + 1)).2.1∧c5 s ((RF s n).1 (k' + 1)).2.1≤s.length:=gR s (s.length + 1) _ h3.1
     have h6:k' + 1 < ((RF s n).1 (k' + 1)).2.1:=by
      rcases h3.2 with h6 | h6
      ·exact h6.2
      ·omega
     split
     ·exact (h2 pair _ _ _ h5.2).mono (by omega)
     ·exact .fail h5.2
    ·exact h3.mono (by omega)
   ·have h3:=h1 k' hn.2
    split
    ·rename_i h4
     have h6:k' < ((RF s n).1 k').2.1:=by
      rcases h3.2 with h6 | h6
      ·exact h6.2
      ·omega
     exact (h2 pair _ _ _ h3.1).mono (by omega)
    ·exact h3.mono (by omega)
open Go.RowKit (Below)
section
variable {P:Program} {tt:Nat→TI}
structure ir (ops:Array Oper) (bE:List Nat) (A R1 R2:List Nat):Prop where
 pa:A.Pairwise fun j i=>iP bE i j=true∨bg ops j i=true
 par: ∀ j∈A, ∀ i∈R1,iP bE i j=true∨bg ops j i=true
 r1:R1.Pairwise fun j i=>iP bE i j=true
 tl: ∀ j∈A++R1, ∀ i∈R2,iP bE i j=true
 ug: ∀ i∈R1, ∀ o,ops[i]?=some o→o.guard=none
 nd: ∀ i∈R1, ∀ o,ops[i]?=some o→lq o.op=true
theorem ir.Ew {ops:Array Oper} {bE A1 A2 R1 R2:List Nat} {i:Nat} (h:ir ops bE (A1++i::A2) R1 R2):ir ops bE (A1++A2) R1 R2:=by
 have hs:List.Sublist (A1++A2) (A1++i::A2):=List.Sublist.append (List.Sublist.refl _) (List.sublist_cons_self _ _);refine ⟨h.pa.sublist hs,fun j hj=>h.par j (hs.subset hj),h.r1,fun j hj=>h.tl j ?_,h.ug,h.nd⟩
 ·exact (List.Sublist.append hs (List.Sublist.refl R1)).subset hj
theorem ir.Ex {ops:Array Oper} {bE A R1 R2:List Nat} {i:Nat} (h:ir ops bE A (i::R1) R2):ir ops bE A R1 R2:=by
 have hs:List.Sublist (A++R1) (A++i::R1):=List.Sublist.append (List.Sublist.refl _) (List.sublist_cons_self _ _);exact ⟨h.pa,fun j hj i hi=>h.par j hj i (by simp[hi]),(List.pairwise_cons.1 h.r1).2,fun j hj=>h.tl j (hs.subset hj),fun j hj=>h.ug j (by simp[hj]),fun j hj=>h.nd j (by simp[hj])⟩
theorem Pj (hk:TT.ok P tt) (rd:Option Nat) (nn:Nat) {ops:Array Oper} {bE R2:List Nat} (hc:gb ops bE=true) {w0:World} {M Γ2:List aj} {F0:Fz} {ds:List Deferred} {Q':Exit→Act→World→Prop}
  {Tl:List PV→List aj→Prop} (hTl: ∀ (fuel:Nat) (listed:Array Bool) (T:List PV) (Γ:List aj) (F:Fz) (a:Act) (w:World),R2.length≤fuel→Down ops listed→gu ops listed R2→F0.le F→aP w0 F (Γ++M) w→aA F T a.tmps.toList→a.defers=ds→
   Tl T Γ→wpAnyIn (cX rd) nn P .any ops Q' fuel listed a w):
  ∀ (n:Nat) (A R1:List Nat) (fuel:Nat) (listed:Array Bool) (T:List PV) (Γ1:List aj) (F:Fz) (a:Act) (w:World),A.length + R1.length=n→n + R2.length≤fuel→
   Down ops listed→gu ops listed (A++(R1++R2))→ir ops bE A R1 R2→F0.le F→aP w0 F (Γ1++(Γ2++M)) w→aA F T a.tmps.toList→a.defers=ds→
   (gw P tt ops.toList (A.filterMap (ops[·]?)) T Γ2 fun T'=>bN P tt ops.toList (R1.filterMap (ops[·]?)) T' Γ1 [] fun T2 Γ1' _=>Tl T2 (Γ1'++Γ2))→
   wpAnyIn (cX rd) nn P .any ops Q' fuel listed a w:=by
 intro n
 induction n with
 | zero=>
  intro A R1 fuel listed T Γ1 F a w hn hf hd hp hsp hle hS hT hds h;obtain rfl:A= []:=List.eq_nil_of_length_eq_zero (by omega);obtain rfl:R1= []:=List.eq_nil_of_length_eq_zero (by omega);exact hTl fuel listed T (Γ1++Γ2) F a w (by simp at hn;omega) hd (by simpa using hp) hle (by simpa using hS) hT hds h
 | succ n ih=>
  intro A R1 fuel listed T Γ1 F a w hn hf hd hp hsp hle hS hT hds h
  cases fuel with
  | zero=>omega
  | succ fuel=>
  refine ⟨fun hnil=>?_,fun i hi=>?_⟩
  ·exfalso
   cases hAR:A++(R1++R2) with
   | nil=>simp at hAR;rw[hAR.1,hAR.2.1] at hn;simp at hn
   | cons x xs=>
    rw[hAR] at hp;obtain ⟨k,hk'⟩:=fo hc hp;rw[hnil] at hk';cases hk'
  ·obtain ⟨o,ho⟩:=hp.2.2 i (hp.ready hi)
   have un: ∀ {j:Nat},j∈A++(R1++R2)→iP bE i j=true→False:=fun {j} hj ha=>blocked hc hd i ho ha ((hp.2.1 j).2 hj) hi
   have free: ∀ {j:Nat} {x:Oper},j∈A++(R1++R2)→ops[j]?=some x→(iP bE i j=true∨bg ops j i=true)→x.apart ops o=true:=by
    intro j x hj hx h;rcases h with h | h
    ·exact (un hj h).elim
    ·simpa[bg,hx,ho] using h
   have hmem:=hp.ready hi;rw[List.mem_append,List.mem_append] at hmem;rcases hmem with hm | hm | hm
   ·
    obtain ⟨A1,A2,rfl⟩:=List.append_of_mem hm;rw[fS ho] at h
    have hap: ∀ x∈A1.filterMap (ops[·]?),x.apart ops o=true:=by
     intro x hx;obtain ⟨j,hj,hx⟩:=List.mem_filterMap.1 hx;exact free (by simp[hj]) hx ((List.pairwise_append.1 hsp.pa).2.2 j hj i (by simp))
    obtain ⟨v,h1,h2⟩:=kV _ T hap h
    have hS2:aP w0 F (Γ2++(Γ1++M)) w:=hS.perm (by
     rw[←List.append_assoc, ←List.append_assoc]
     exact List.perm_append_comm.append_right M)
    unfold wpOpIn;simp only[ho];have key:=lP hk (rd:=rd) (nn:=nn) (Q:=Q') (next:=fun a w=>wpAnyIn (cX rd) nn P .any ops Q' fuel (listed.setIfInBounds i true) a w) hS2 hT h1 ?_
    ·split at key<;>rename_i hw
     ·rw[if_pos hw];exact key
     ·rw[if_neg hw];exact ⟨fun _ _=>trivial,key⟩
    intro F' u w' hle' hS' hx
    refine ih (A1++A2) R1 fuel _ (fG T o.dst v) Γ1 F' _ w' (by simp at hn ⊢; omega) (by omega) (hd.set hi) ?_ hsp.Ew (Fz.le_trans hle hle') ?_ (eG (aA.mono hle' _ _ hT) hx o.dst)
     ((put_defers a o.dst u).trans hds) ?_
    ·have:=gu.set (l1:=A1) (l2:=A2++(R1++R2)) (i:=i) (by simpa using hp)
     rwa [List.append_assoc]
    ·exact hS'.perm (by
      rw[←List.append_assoc, ←List.append_assoc]
      exact List.perm_append_comm.append_right M)
    ·rw[List.filterMap_append];exact h2
   ·
    cases R1 with
    | nil=>cases hm
    | cons r R1=>
     rcases List.mem_cons.1 hm with hir | hir
     ·subst hir
      have hg:o.guard=none:=hsp.ug i (by simp) o ho;have e1:(i::R1).filterMap (ops[·]?)=o::R1.filterMap (ops[·]?):=by rw[List.filterMap_cons,ho]
      rw[e1] at h
      have hap: ∀ x∈A.filterMap (ops[·]?),x.apart ops o=true:=by
       intro x hx;obtain ⟨j,hj,hx⟩:=List.mem_filterMap.1 hx;exact free (by simp[hj]) hx (hsp.par j hj i (by simp))
      have h2:=mN (kk:=fun T' Γ1'=>bN P tt ops.toList (R1.filterMap (ops[·]?)) T' Γ1' [] fun T2 Γ1' _=>Tl T2 (Γ1'++Γ2)) _ T hap (by
       have hnd:=hsp.nd i (by simp) o ho
       simpa only[bN,hg,jA hnd,Aq] using h)
      unfold wpOpIn;simp only[ho];rw[if_pos (by simp[Region.wanted,hg])];refine gi hk (M:=Γ2++M) hS hT h2 ?_;rintro F' x Γ' v' w' hle' hS' hx hK
      refine ih A R1 fuel _ (fG T o.dst x) Γ' F' _ w' (by simp at hn ⊢; omega) (by omega) (hd.set hi) ?_ hsp.Ex (Fz.le_trans hle hle') hS' (eG (aA.mono hle' _ _ hT) hx o.dst)
       ((put_defers a o.dst v').trans hds) hK
      have:=gu.set (l1:=A) (l2:=R1++R2) (i:=i) (by simpa using hp);simpa using this
     ·exact (un (j:=r) (by simp) ((List.pairwise_cons.1 hsp.r1).1 i hir)).elim
   ·
    exfalso
    cases A with
    | cons j A=>exact un (j:=j) (by simp) (hsp.tl j (by simp) i hm)
    | nil=>
     cases R1 with
     | cons j R1=>exact un (j:=j) (by simp) (hsp.tl j (by simp) i hm)
     | nil=>simp at hn
def Az (ops:Array Oper) (bE A R1 B R2:List Nat):Bool:=
 gb ops bE &&
 gp (fun j i=>iP bE i j || bg ops j i) A && A.all (fun j=>R1.all fun i=>iP bE i j || bg ops j i) &&
 gp (fun j i=>iP bE i j) R1 && (A++R1).all (fun j=>(B++R2).all fun i=>iP bE i j) &&
 R1.all (fun i=>match ops[i]? with | some o=>o.guard.isNone | none=>false) && (R1++R2).all (fun i=>match ops[i]? with | some o=>lq o.op | none=>false) &&
 gp (fun j i=>iP bE i j || bg ops j i) B && gp (fun j i=>iP bE i j) R2 && B.all (fun j=>R2.all fun i=>iP bE i j) &&
 gp (fun j i=>!(Nat.beq j i)) (A++(R1++(B++R2))) && (List.range ops.size).all (fun i=>(A++(R1++(B++R2))).contains i) && (A++(R1++(B++R2))).all (fun i=>Nat.blt i ops.size)
theorem ir.of {ops:Array Oper} {bE A R1 B R2:List Nat} (h:Az ops bE A R1 B R2=true):
  gb ops bE=true∧ir ops bE A R1 (B++R2)∧Split ops bE B [] R2∧gu ops (Array.replicate ops.size false) (A++(R1++(B++R2))):=by
 simp only[Az,Bool.and_eq_true] at h;obtain ⟨⟨⟨⟨⟨⟨⟨⟨⟨⟨⟨⟨h0,h1⟩,h2⟩,h3⟩,h5⟩,h6⟩,h6'⟩,b1⟩,b2⟩,b3⟩,h7⟩,h8⟩,h9⟩:=h
 have hlt: ∀ i∈A++(R1++(B++R2)),i < ops.size:=fun i hi=>by
  have:=List.all_eq_true.1 h9 i hi;simpa[Nat.blt,Nat.succ_le_iff] using this
 have hnd: ∀ i∈R1++R2, ∀ o,ops[i]?=some o→lq o.op=true:=by
  intro i hi o ho;have:=List.all_eq_true.1 h6' i hi;rw[ho] at this;exact this
 refine ⟨h0,⟨?_,?_,bS h3,?_,?_,fun i hi=>hnd i (by simp[hi])⟩,⟨?_,fun _ _ _ h=>(by cases h),List.Pairwise.nil,bS b2,?_,fun _ h=>(by cases h),fun i hi=>hnd i (by simpa using .inr (by simpa using hi))⟩,?_,?_,?_⟩
 ·exact (bS h1).imp fun h=>by simpa using h
 ·intro j hj i hi
  have:=List.all_eq_true.1 (List.all_eq_true.1 h2 j hj) i hi;simpa using this
 ·intro j hj i hi
  exact List.all_eq_true.1 (List.all_eq_true.1 h5 j hj) i hi
 ·intro i hi o ho
  have:=List.all_eq_true.1 h6 i hi;rw[ho] at this;simpa using this
 ·exact (bS b1).imp fun h=>by simpa using h
 ·intro j hj i hi
  exact List.all_eq_true.1 (List.all_eq_true.1 b3 j (by simpa using hj)) i hi
 ·exact (bS h7).imp fun h=>by
   intro e;subst e;simp at h
 ·intro i
  constructor
  ·intro hi
   rcases Nat.lt_or_ge i ops.size with h' | h'
   ·have:=List.all_eq_true.1 h8 i (List.mem_range.2 h')
    simpa only[List.contains_iff_mem] using this
   ·simp[Array.getElem?_eq_none,h'] at hi
  ·intro hi
   simp[hlt i hi]
 ·intro i hi
  exact ⟨_,Array.getElem?_eq_getElem (hlt i hi)⟩
theorem aE.Kb (hk:TT.ok P tt) (hm:P.follows .mixedOrders=true) {ops:Array Oper} {T:List PV} {Γ Γ2:List aj} {K:List PV→List aj→Prop} (bE A R1 B R2:List Nat) (Γ1:List aj)
  (hchk:Az ops bE A R1 B R2=true) [hp:bz Γ Γ1 Γ2]
  (h:gw P tt ops.toList (bG ops.toList A) T Γ2 fun T'=>bN P tt ops.toList (bG ops.toList R1) T' Γ1 [] fun T2 Γ1' _=>kI Γ1' Γ2 fun Γ'=>
   gw P tt ops.toList (bG ops.toList B) T2 Γ' fun T3=>bN P tt ops.toList (bG ops.toList R2) T3 Γ' [] fun T' Γ' _=>K T' Γ'):aE P ops T Γ K:=by
 refine ⟨fun rd nn id w0 F M w a Q' hS hT hQ=>wpIn_region_any hm ?_⟩;obtain ⟨hc,hsp,hsp2,hpend⟩:=ir.of hchk
 have hlen:A.length + R1.length + (B++R2).length≤ops.size:=by
  have hsub:(A++(R1++(B++R2))) ⊆ List.range ops.size:=fun i hi=>by
   obtain ⟨o,ho⟩:=hpend.2.2 i hi;exact List.mem_range.2 (Array.getElem?_eq_some_iff.1 ho).1
  have:=hpend.1.length_le_of_subset hsub;simpa[Nat.add_assoc] using this
 have hS':aP w0 F (Γ1++(Γ2++M)) { w with drawn:=w.drawn + 1 }:=by
  have:=(hS.perm (hp.p.append_right M)).of_heap (w':={ w with drawn:=w.drawn + 1 }) rfl rfl rfl rfl;simpa using this
 refine Pj hk rd nn hc (R2:=B++R2) (F0:=F) (ds:=a.defers) (Tl:=fun T2 Γ'=>gw P tt ops.toList (bG ops.toList B) T2 Γ' fun T3=>bN P tt ops.toList (bG ops.toList R2) T3 Γ' [] fun T' Γ' _=>K T' Γ') ?_ _ A R1 ops.size _ T Γ1 F a _ rfl hlen ?_ hpend hsp (Fz.le_refl F) hS' hT rfl ?_
 ·intro fuel listed T2 Γ' F' a' w' hf hd hpd hle hS2 hT2 hds ht
  refine Nv hk rd nn hc (R2:=R2) (F0:=F) (ds:=a.defers) hQ _ B [] fuel listed T2 [] F' a' w' rfl (by simpa using hf) hd (by simpa using hpd) hsp2 hle (Γ2:=Γ') (by simpa using hS2) hT2 hds ?_;simpa only[iU,Array.getElem?_toList,List.filterMap_nil,bN,List.nil_append] using ht
 ·intro k o hk'
  rcases Nat.lt_or_ge k ops.size with h' | h'
  ·simp[h'] at hk'
  ·intro ho
   have:=(Array.getElem?_eq_some_iff.1 ho).1;omega
 ·simpa only[iU,Array.getElem?_toList,e9] using h
theorem kE.go {f:FuncId} {args args':List PV} {Γ Γ1 Γ2:List aj} {Q K:PV→List aj→Prop} (h:mM P f args' Γ1 Q) (hw:aX args args') [hp:bz Γ Γ1 Γ2]
  (k: ∀ y Γ1',Q y Γ1'→kI Γ1' Γ2 fun Γ'=>K y Γ'):kE P f args Γ K:=kE.gen h hw (hp:=hp) fun y Γ1' hq=>by have:=k y Γ1' hq;rwa [e9] at this
theorem pM.hi {sz:Nat} {Γ:List aj} {t:Tok} {es:List PV} {put:Tok→List PV→List aj} [hp:dw Γ t es put] {k:IntKind} {n:Int} {i:Nat} [x:eD n i] {K:PV→List aj→Prop} (hs:t.s=sz) (h0:0≤n) (hl:n≤es.length)
  (hk: ∀ t':Tok,t'.e=t.e→t'.s=t.s→K (.ms t') (put t' (es.take i))):pO sz t none (some (.int k n)) Γ K:=by
 obtain ⟨Γ1,Γ2,h1,h2⟩:=hp.at_;have e:=x.eq h0;exact ⟨.inl ⟨es,Γ1,Γ2,i,h1,hs,rfl,e,by omega,fun t' a b=>by rw[←h2];exact hk t' a b⟩⟩
theorem pO.tail {sz:Nat} {Γ:List aj} {t:Tok} {es:List PV} {put:Tok→List PV→List aj} [hp:dw Γ t es put] {k:IntKind} {n:Int} {i:Nat} [x:eD n i] {K:PV→List aj→Prop} (hs:t.s=sz) (h0:0≤n) (hl:n≤es.length)
  (hk: ∀ v,wF t i v→K (.sc v) Γ):pO sz t (some (.int k n)) none Γ K:=by
 obtain ⟨Γ1,Γ2,h1,h2⟩:=hp.at_;have e:=x.eq h0;exact ⟨.inr ⟨rfl,es,i,by rw[h1];simp,hs,e,by omega,hk⟩⟩
theorem yK.at_ {Γ:List aj} {t:Tok} {es:List PV} {put:Tok→List PV→List aj} [hp:dw Γ t es put] {k:IntKind} {n:Int} {l:Nat} {v:Value} {K:List aj→Prop} (hv:wF t l v) (hs:t.s=1) (hl:l≤es.length)
  (hk:K (put t (es.take l++List.replicate (es.length - l) (.int k n)))):yK (.int k n) v Γ K:=by
 obtain ⟨Γ1,Γ2,h1,h2⟩:=hp.at_;rw[h2] at hk;exact ⟨k,n,rfl,t,es,l,Γ1,Γ2,hv,h1,hs,hl,hk⟩
end
section
variable {P:Program} {tt:Nat→TI}
theorem eM.Dk {l:Nat} {args:List PV} {Γ Γ1 Γ2:List aj} {Q:PV→List aj→Prop} (h:eM P l args Γ1 Q) (hp:Γ.Perm (Γ2++Γ1)):eM P l args Γ fun y Γ'=> ∃ Γ1',Γ'=Γ2++Γ1'∧Q y Γ1':=fun w0 F M w vs hS hT=>by
 have hS':aP w0 F (Γ1++(Γ2++M)) w:=hS.perm (by
  rw[←List.append_assoc]
  exact (hp.trans List.perm_append_comm).append_right M)
 obtain ⟨fn,tmps,assign,body,h1,h2⟩:=h w0 F (Γ2++M) w vs hS' hT;refine ⟨fn,tmps,assign,body,h1,h2.mono ?_⟩;rintro _ _ ⟨v,F',y,Γ',e1,e2,e3,e4,e5⟩
 exact ⟨v,F',y,Γ2++Γ',e1,e2,e3.perm (by
  rw[←List.append_assoc]
  exact List.perm_append_comm.append_right M),e4,Γ',rfl,e5⟩
theorem af.Dk {f:FuncId} {args:List PV} {Γ Γ1 Γ2:List aj} {Q:PV→List aj→Prop} (h:af P f args Γ1 Q) (hp:Γ.Perm (Γ2++Γ1)):af P f args Γ fun y Γ'=> ∃ Γ1',Γ'=Γ2++Γ1'∧Q y Γ1':=
 ⟨h.1,fun w0 F M w vs hS hT=>by
  have hS':aP w0 F (Γ1++(Γ2++M)) w:=hS.perm (by
   rw[←List.append_assoc]
   exact (hp.trans List.perm_append_comm).append_right M)
  refine (h.2 w0 F (Γ2++M) w vs hS' hT).mono ?_;rintro _ _ ⟨v,F',y,Γ',e1,e2,e3,e4,e5⟩
  exact ⟨v,F',y,Γ2++Γ',e1,e2,e3.perm (by
   rw[←List.append_assoc]
   exact List.perm_append_comm.append_right M),e4,Γ',rfl,e5⟩⟩
theorem kF.Lf {l:Nat} {args args':List PV} {Γ Γ1:List aj} (Γ2:List aj) {Q K:PV→List aj→Prop} (h:eM P l args' Γ1 Q) (hw:aX args args') (hp:Γ.Perm (Γ2++Γ1)) (k: ∀ y Γ1',Q y Γ1'→kI Γ2 Γ1' fun Γ'=>K y Γ'):kF P l args Γ K:=
 ⟨((h.wk hw).Dk hp).mono fun y Γ' ⟨Γ1',e,hq⟩=>by have:=k y Γ1' hq;rw[e9] at this;rw[e];exact this⟩
theorem aq.Lf {f:FuncId} {args args':List PV} {Γ Γ1:List aj} (Γ2:List aj) {Q K:PV→List aj→Prop} (h:af P f args' Γ1 Q) (hw:aX args args') (hp:Γ.Perm (Γ2++Γ1)) (k: ∀ y Γ1',Q y Γ1'→kI Γ2 Γ1' fun Γ'=>K y Γ'):aq P f args Γ K:=
 aq.same ((h.wk hw).Dk hp) (aX.refl _) fun y Γ' ⟨Γ1',e,hq⟩=>by have:=k y Γ1' hq;rw[e9] at this;rw[e];exact this
end
section
variable {P:Program} {tt:Nat→TI}
def vc (tt:Nat→TI):Op→Option (Nat→PV×aj)
 | .alloc t=>match (tt t).cq with
  | .other=>none
  | _=>some fun b=>(.ptr b 0,.box b ((tt t).zero.map ZK.pv))
 | .makeMap t none=>match (tt t).cq with
  | .mp kt _=>match oY tt (tt kt).cq with
   | some d=>some fun r=>(.mp r,.mp r d (fun _=>none) [])
   | none=>none
  | _=>none
 | _=>none
theorem xM {op:Op} {f:Nat→PV×aj} (h:vc tt op=some f) {T:List PV} {Γ:List aj} {K:PV→List aj→Prop}:pI P tt op T Γ K↔ ∀ b,K (f b).1 ((f b).2::Γ):=by
 unfold vc at h
 split at h
 ·split at h
  ·cases h
  ·rename_i hne
   cases h;simp only[pI,cn]
 ·split at h
  ·rename_i hu
   split at h
   ·rename_i hd
    cases h;simp only[pI,hu,hd]
   ·cases h
  ·cases h
 ·cases h
theorem Br {op:Op} {f:Nat→PV×aj} (h:vc tt op=some f):lq op=true:=by
 cases op<;>first | rfl | cases h
def k8 (ops:Array Oper) (i:Nat):Option Tmp:=(ops[i]?).bind (·.dst)
abbrev FE:=Nat→Option (PV×aj)
def ga (ops:Array Oper) (e:FE):List Nat→List PV→List PV
 | [],T=>T
 | i::l,T=>ga ops e l (match e i with
  | some x=>fG T (k8 ops i) x.1
  | none=>T)
theorem Bt {β:Type} {f g:Nat→Option β}: ∀ {l:List Nat},(∀ x∈l,f x=g x)→l.filterMap f=l.filterMap g
 | [],_=>rfl
 | x::l,h=>by
  rw[List.forall_mem_cons] at h;rw[List.filterMap_cons,List.filterMap_cons,h.1,Bt h.2]
theorem CN {i j:Nat} (h:j≠i):Nat.beq j i=false:=by
 cases hb:Nat.beq j i
 ·rfl
 ·exact (h (Nat.eq_of_beq_eq_true hb)).elim
def jm (e:FE) (l:List Nat):List aj:=l.filterMap fun i=>(e i).map (·.2)
def rY (e:FE) (i:Nat) (x:PV×aj):FE:=fun j=>if j=i then some x else e j
def cN (e:FE) (l:List Nat):List Nat:=l.filter fun i=>(e i).isNone
theorem Gc {e:FE} {l:List Nat} (h: ∀ i∈l,e i=none):jm e l= []:=by
 unfold jm;rw[List.filterMap_eq_nil_iff];intro i hi;rw[h i hi];rfl
theorem x8 {ops:Array Oper} {e:FE}: ∀ {l:List Nat} {T:List PV},(∀ i∈l,e i=none)→ga ops e l T=T
 | [],_,_=>rfl
 | i::l,T,h=>by
  rw[List.forall_mem_cons] at h;rw[ga,h.1];exact x8 h.2
theorem oa {e:FE} {i j:Nat} {x:PV×aj} (h:j≠i):rY e i x j=e j:=by simp[rY,h]
theorem lH {e:FE} {i:Nat} {x:PV×aj}:rY e i x i=some x:=by simp[rY]
theorem Bm {e:FE} {i:Nat} {x:PV×aj} (he:e i=none): ∀ {l:List Nat},i∈l→l.Nodup→(jm (rY e i x) l).Perm (x.2::jm e l)
 | [],h,_=>by cases h
 | j::l,h,hn=>by
  rw[List.nodup_cons] at hn;rcases List.mem_cons.1 h with rfl | h
  ·have h1:jm (rY e i x) l=jm e l:=by
    unfold jm;refine Bt fun j hj=>?_;rw[oa (j:=j) (i:=i) fun e=>hn.1 (e▸hj)]
   unfold jm at h1 ⊢;rw[List.filterMap_cons,List.filterMap_cons,lH,he,h1];exact List.Perm.refl _
  ·have hne:j≠i:=fun e=>hn.1 (e▸h)
   have ih:=Bm (x:=x) he h hn.2;unfold jm at ih ⊢;rw[List.filterMap_cons,List.filterMap_cons,oa hne]
   cases hj:e j with
   | none=>simpa using ih
   | some y=>
    simp only[Option.map_some];exact (ih.cons _).trans (List.Perm.swap _ _ _)
theorem nq {ops:Array Oper} {e:FE} {d:Option Tmp} {v:PV}: ∀ {l:List Nat} {T:List PV},(∀ i∈l, ∀ k,d=some k→k8 ops i≠some k)→ga ops e l (fG T d v)=fG (ga ops e l T) d v
 | [],_,_=>rfl
 | i::l,T,h=>by
  rw[List.forall_mem_cons] at h;rw[ga,ga]
  cases he:e i with
  | none=>exact nq h.2
  | some x=>
   simp only;rw[rP T h.1];exact nq h.2
theorem vV {ops:Array Oper} {e e':FE}: ∀ {l:List Nat} {T:List PV},(∀ i∈l,e i=e' i)→ga ops e l T=ga ops e' l T
 | [],_,_=>rfl
 | i::l,T,h=>by
  rw[List.forall_mem_cons] at h;rw[ga,ga,h.1];exact vV h.2
theorem B5 {ops:Array Oper} {e:FE} {i:Nat} {x:PV×aj} (he:e i=none): ∀ {l:List Nat} {T:List PV},i∈l→l.Nodup→(∀ j∈l,j≠i→ ∀ k,k8 ops i=some k→k8 ops j≠some k)→
  ga ops (rY e i x) l T=fG (ga ops e l T) (k8 ops i) x.1
 | [],_,h,_,_=>by cases h
 | j::l,T,h,hn,hd=>by
  rw[List.nodup_cons] at hn;rw[List.forall_mem_cons] at hd;rcases List.mem_cons.1 h with rfl | h
  ·rw[ga,ga,lH,he]
   simp only;rw[vV (e:=rY e i x) (e':=e) fun j hj=>oa fun e=>hn.1 (e▸hj)];exact nq fun j hj=>hd.2 j hj fun e=>hn.1 (e▸hj)
  ·have hne:j≠i:=fun e=>hn.1 (e▸h)
   rw[ga,ga,oa hne];exact B5 he h hn.2 hd.2
theorem x7 {e:FE} {i:Nat} {x:PV×aj} {l l1 l2:List Nat} (hn:l.Nodup) (h:cN e l=l1++i::l2):cN (rY e i x) l=l1++l2:=by
 have h1:cN (rY e i x) l=(cN e l).filter fun j=>!(Nat.beq j i):=by
  unfold cN;rw[List.filter_filter];refine List.filter_congr fun j _=>?_;by_cases hj:j=i
  ·subst hj;rw[lH];simp
  ·rw[oa hj]
   simp[CN hj]
 have hn2:(l1++i::l2).Nodup:=h▸hn.sublist List.filter_sublist;rw[h1,h,List.filter_append,List.filter_cons];have hni:=(List.perm_middle (a:=i) (l₁:=l1) (l₂:=l2)).nodup_iff.1 hn2;rw[List.nodup_cons,List.mem_append,not_or] at hni
 have hf: ∀ m:List Nat,i∉m→m.filter (fun j=>!(Nat.beq j i))=m:=fun m hm=>List.filter_eq_self.2 fun j hj=>by
  rw[CN (j:=j) (i:=i) fun e=>hm (e▸hj)];rfl
 rw[hf l1 hni.1.1,hf l2 hni.1.2];simp
theorem nY {e:FE} {l:List Nat} {i:Nat}:i∈cN e l↔i∈l∧e i=none:=by
 unfold cN;rw[List.mem_filter,Option.isNone_iff_eq_none]
theorem EC {ops:Array Oper} {e:FE} {o:Oper}: ∀ {l:List Nat} {T:List PV},(∀ i∈l, ∀ k,k8 ops i=some k→k∉o.looksAt ops)→ ∀ y∈o.op.operands.toList,ev (ga ops e l T) y=ev T y
 | [],_,_=>fun _ _=>rfl
 | i::l,T,h=>fun y hy=>by
  rw[List.forall_mem_cons] at h;rw[ga,EC h.2 y hy]
  cases e i with
  | none=>rfl
  | some x=>exact jM h.1 y hy
theorem xb {ops:Array Oper} {e:FE} {o:Oper} {Γ:List aj} {v:PV}: ∀ {l:List Nat} {T:List PV},(∀ i∈l, ∀ k,k8 ops i=some k→k∉o.looksAt ops)→(SVal P tt ops.toList o (ga ops e l T) Γ v↔SVal P tt ops.toList o T Γ v)
 | [],_,_=>Iff.rfl
 | i::l,T,h=>by
  rw[List.forall_mem_cons] at h;rw[ga,xb h.2]
  cases e i with
  | none=>exact Iff.rfl
  | some x=>exact pP h.1
def OR (tt:Nat→TI) (ops:Array Oper) (e:FE) (l:List Nat):Prop:= ∀ i∈l,e i=none∨ ∃ o f b,ops[i]?=some o∧vc tt o.op=some f∧e i=some (f b)
structure FA (tt:Nat→TI) (ops:Array Oper) (l:List Nat):Prop where
 fl: ∀ i∈l, ∃ o f,ops[i]?=some o∧o.guard=none∧vc tt o.op=some f
 ff:l.Pairwise fun j i=>bg ops j i=true
 nd:l.Nodup
theorem qS {ops:Array Oper} {j i:Nat} (h:bg ops j i=true): ∀ k,k8 ops i=some k→k8 ops j≠some k:=by
 intro k hk hj;unfold bg at h;unfold k8 at hk hj
 cases hx:ops[j]? with
 | none=>rw[hx] at hj;cases hj
 | some x=>
  cases hy:ops[i]? with
  | none=>rw[hy] at hk;cases hk
  | some y=>
   rw[hx,hy] at h;rw[hx] at hj;rw[hy] at hk;obtain ⟨a1,a2,a3⟩:=Oper.apart_spec h;simp only[Option.bind_some] at hk hj;exact a2 k hj hk
theorem FA.dst {ops:Array Oper} {l:List Nat} (h:FA tt ops l): ∀ i∈l, ∀ j∈l,j≠i→ ∀ k,k8 ops i=some k→k8 ops j≠some k:=by
 intro i hi j hj hne k hk hjk
 have key: ∀ {l:List Nat},l.Pairwise (fun j i=>bg ops j i=true)→i∈l→j∈l→bg ops i j=true∨bg ops j i=true:=by
  intro l hp hi hj
  induction l with
  | nil=>cases hi
  | cons x l ih=>
   rw[List.pairwise_cons] at hp;rcases List.mem_cons.1 hi with e1 | h1
   ·rcases List.mem_cons.1 hj with e2 | h2
    ·exact (hne (e2.trans e1.symm)).elim
    ·subst e1;exact .inl (hp.1 j h2)
   ·rcases List.mem_cons.1 hj with e2 | h2
    ·subst e2;exact .inr (hp.1 i h1)
    ·exact ih hp.2 h1 h2
 rcases key h.ff hi hj with h | h
 ·exact qS h k hjk hk
 ·exact qS h k hk hjk
theorem Bs (hk:TT.ok P tt) {rd:Option Nat} {nn:Nat} {ops:Array Oper} {l:List Nat} (hF:FA tt ops l) {e:FE} {i:Nat} {o:Oper} (hi:i∈l) (he:e i=none) (ho:ops[i]?=some o) (hE:OR tt ops e l)
  {w0:World} {F:Fz} {Γ M:List aj} {w:World} {T:List PV} {a:Act} {next:Act→World→Prop} {Q:Exit→Act→World→Prop} (hS:aP w0 F (Γ++(jm e l++M)) w) (hT:aA F (ga ops e l T) a.tmps.toList)
  (hn: ∀ e' F' u w',OR tt ops e' l→e'=rY e i ((e' i).getD (.any,.tok (aB 0 0)))→F.le F'→aP w0 F' (Γ++(jm e' l++M)) w'→aA F' (ga ops e' l T) (a.put o.dst u).tmps.toList→next (a.put o.dst u) w'):
  wpOpIn (cX rd) nn P ops Q i next a w:=by
 obtain ⟨o',f,ho',hg,hf⟩:=hF.fl i hi;rw[ho] at ho';cases ho';unfold wpOpIn;simp only[ho];rw[if_pos (by simp[Region.wanted,hg])]
 have hW:pI P tt o.op (ga ops e l T) [] fun x Γ'=> ∃ b,x=(f b).1∧Γ'= [(f b).2]:=(xM hf).2 fun b=>⟨b,rfl,rfl⟩
 refine gi hk (Γ:= []) (M:=Γ++(jm e l++M)) hS hT hW ?_;rintro F' x Γ' u w' hle hS' hx ⟨b,rfl,rfl⟩;have hp:=Bm (x:=f b) he hi hF.nd;have hd:k8 ops i=o.dst:=by simp[k8,ho]
 refine hn (rY e i (f b)) F' u w' ?_ (by rw[lH];rfl) hle ?_ ?_
 ·intro j hj
  by_cases hji:j=i
  ·subst hji;rw[lH];exact .inr ⟨o,f,b,ho,hf,rfl⟩
  ·rw[oa hji];exact hE j hj
 ·refine hS'.perm ?_
  have h1:((f b).2::(Γ++(jm e l++M))).Perm (Γ++((f b).2::(jm e l++M))):=List.perm_middle.symm;refine h1.trans ?_
  have h2:((f b).2::(jm e l++M)).Perm (jm (rY e i (f b)) l++M):=(hp.symm.append_right M)
  exact h2.append_left Γ
 ·rw[B5 he hi hF.nd (hF.dst i hi),hd]
  exact eG (aA.mono hle _ _ hT) hx o.dst
theorem xN {ops:Array Oper} {e:FE} {K:List PV→List aj→Ds→Prop}: ∀ (l:List Nat) (T:List PV) (Γ:List aj),(∀ i∈l, ∃ o f b,ops[i]?=some o∧o.guard=none∧vc tt o.op=some f∧e i=some (f b))→
  bN P tt ops.toList (l.filterMap (ops[·]?)) T Γ [] K→ ∃ Γ4,K (ga ops e l T) Γ4 []∧Γ4.Perm (jm e l++Γ)
 | [],T,Γ,_,h=>⟨Γ,h,List.Perm.refl _⟩
 | i::l,T,Γ,hl,h=>by
  rw[List.forall_mem_cons] at hl;obtain ⟨o,f,b,ho,hg,hf,he⟩:=hl.1;rw[List.filterMap_cons,ho] at h;simp only[bN,hg,jA (Br hf),Aq] at h;have h2:=(xM hf).1 h b;obtain ⟨Γ4,h3,h4⟩:=xN l _ _ hl.2 h2;refine ⟨Γ4,?_,h4.trans ?_⟩
  ·rw[ga,he]
   have hd:k8 ops i=o.dst:=by simp[k8,ho]
   rw[hd];exact h3
  ·unfold jm
   rw[List.filterMap_cons,he];exact List.perm_middle
theorem MI (hk:TT.ok P tt) (rd:Option Nat) (nn:Nat) {ops:Array Oper} {bE Fl R2:List Nat} (hF:FA tt ops Fl) (hc:gb ops bE=true) {w0:World} {M Γ2:List aj} {F0:Fz} {ds:List Deferred} {Q':Exit→Act→World→Prop}
  {Tl:List PV→List aj→Prop} (hTl: ∀ (fuel:Nat) (listed:Array Bool) (T:List PV) (Γ:List aj) (e:FE) (F:Fz) (a:Act) (w:World),(cN e Fl).length + R2.length≤fuel→Down ops listed→gu ops listed (cN e Fl++R2)→OR tt ops e Fl→F0.le F→
   aP w0 F (Γ++(jm e Fl++M)) w→aA F (ga ops e Fl T) a.tmps.toList→a.defers=ds→Tl T Γ→wpAnyIn (cX rd) nn P .any ops Q' fuel listed a w):
  ∀ (n:Nat) (A R1:List Nat) (e:FE) (fuel:Nat) (listed:Array Bool) (T:List PV) (Γ1:List aj) (F:Fz) (a:Act) (w:World),A.length + R1.length + (cN e Fl).length=n→n + R2.length≤fuel→
   Down ops listed→gu ops listed (A++(R1++(cN e Fl++R2)))→ir ops bE A R1 R2→(∀ j∈A++R1, ∀ i∈Fl,bg ops j i=true)→OR tt ops e Fl→F0.le F→aP w0 F (Γ1++(Γ2++(jm e Fl++M))) w→aA F (ga ops e Fl T) a.tmps.toList→a.defers=ds→
   (gw P tt ops.toList (A.filterMap (ops[·]?)) T Γ2 fun T'=>bN P tt ops.toList (R1.filterMap (ops[·]?)) T' Γ1 [] fun T2 Γ1' _=>Tl T2 (Γ1'++Γ2))→
   wpAnyIn (cX rd) nn P .any ops Q' fuel listed a w:=by
 intro n
 induction n with
 | zero=>
  intro A R1 e fuel listed T Γ1 F a w hn hf hd hp hsp hfx hE hle hS hT hds h;obtain rfl:A= []:=List.eq_nil_of_length_eq_zero (by omega);obtain rfl:R1= []:=List.eq_nil_of_length_eq_zero (by omega);exact hTl fuel listed T (Γ1++Γ2) e F a w (by simp at hn;rw[hn];simpa using hf) hd (by simpa using hp) hE hle (by simpa using hS) hT hds h
 | succ n ih=>
  intro A R1 e fuel listed T Γ1 F a w hn hf hd hp hsp hfx hE hle hS hT hds h;by_cases hAR0:A= []∧R1= []
  ·obtain ⟨rfl,rfl⟩:=hAR0
   exact hTl fuel listed T (Γ1++Γ2) e F a w (by simp at hn;omega) hd (by simpa using hp) hE hle (by simpa using hS) hT hds h
  cases fuel with
  | zero=>omega
  | succ fuel=>
  refine ⟨fun hnil=>?_,fun i hi=>?_⟩
  ·exfalso
   cases hAR:A++(R1++(cN e Fl++R2)) with
   | nil=>simp at hAR;exact hAR0 ⟨hAR.1,hAR.2.1⟩
   | cons x xs=>
    rw[hAR] at hp;obtain ⟨k,hk'⟩:=fo hc hp;rw[hnil] at hk';cases hk'
  ·obtain ⟨o,ho⟩:=hp.2.2 i (hp.ready hi)
   have un: ∀ {j:Nat},j∈A++(R1++(cN e Fl++R2))→iP bE i j=true→False:=fun {j} hj ha=>blocked hc hd i ho ha ((hp.2.1 j).2 hj) hi
   have free: ∀ {j:Nat} {x:Oper},j∈A++(R1++(cN e Fl++R2))→ops[j]?=some x→(iP bE i j=true∨bg ops j i=true)→x.apart ops o=true:=by
    intro j x hj hx h;rcases h with h | h
    ·exact (un hj h).elim
    ·simpa[bg,hx,ho] using h
   have looks:i∈A++R1→ ∀ f∈Fl, ∀ k,k8 ops f=some k→k∉o.looksAt ops:=by
    intro hiA f hf k hk;have:=hfx i hiA f hf;obtain ⟨of,_,hof,_,_⟩:=hF.fl f hf;simp only[bg,ho,hof] at this;obtain ⟨a1,a2,a3⟩:=Oper.apart_spec this;exact a3 k (by simpa[k8,hof] using hk)
   have dsts:i∈A++R1→ ∀ f∈Fl, ∀ k,o.dst=some k→k8 ops f≠some k:=by
    intro hiA f hf k hk hfk;exact qS (hfx i hiA f hf) k hfk (by simp[k8,ho,hk])
   have hmem:=hp.ready hi;rw[List.mem_append,List.mem_append,List.mem_append] at hmem;rcases hmem with hm | hm | hm | hm
   ·
    obtain ⟨A1,A2,rfl⟩:=List.append_of_mem hm;rw[fS ho] at h
    have hap: ∀ x∈A1.filterMap (ops[·]?),x.apart ops o=true:=by
     intro x hx;obtain ⟨j,hj,hx⟩:=List.mem_filterMap.1 hx;exact free (by simp[hj]) hx ((List.pairwise_append.1 hsp.pa).2.2 j hj i (by simp))
    obtain ⟨v,h1,h2⟩:=kV _ T hap h;have h1':=(xb (e:=e) (looks (by simp))).2 h1
    have hS2:aP w0 F (Γ2++(Γ1++(jm e Fl++M))) w:=hS.perm (by
     rw[←List.append_assoc, ←List.append_assoc Γ2]
     exact List.perm_append_comm.append_right _)
    unfold wpOpIn;simp only[ho];have key:=lP hk (rd:=rd) (nn:=nn) (Q:=Q') (next:=fun a w=>wpAnyIn (cX rd) nn P .any ops Q' fuel (listed.setIfInBounds i true) a w) hS2 hT h1' ?_
    ·split at key<;>rename_i hw
     ·rw[if_pos hw];exact key
     ·rw[if_neg hw];exact ⟨fun _ _=>trivial,key⟩
    intro F' u w' hle' hS' hx
    refine ih (A1++A2) R1 e fuel _ (fG T o.dst v) Γ1 F' _ w' (by simp at hn ⊢; omega) (by omega) (hd.set hi) ?_ hsp.Ew (fun j hj=>hfx j ?_) hE (Fz.le_trans hle hle') ?_ ?_
     ((put_defers a o.dst u).trans hds) ?_
    ·have:=gu.set (l1:=A1) (l2:=A2++(R1++(cN e Fl++R2))) (i:=i) (by simpa using hp)
     rwa [List.append_assoc]
    ·simp only[List.mem_append,List.mem_cons] at hj⊢
     rcases hj with (h | h) | h
     ·exact .inl (.inl h)
     ·exact .inl (.inr (.inr h))
     ·exact .inr h
    ·exact hS'.perm (by
      rw[←List.append_assoc, ←List.append_assoc Γ1]
      exact List.perm_append_comm.append_right _)
    ·rw[nq (dsts (by simp))]
     exact eG (aA.mono hle' _ _ hT) hx o.dst
    ·rw[List.filterMap_append];exact h2
   ·
    cases R1 with
    | nil=>cases hm
    | cons r R1=>
     rcases List.mem_cons.1 hm with hir | hir
     ·subst hir
      have hg:o.guard=none:=hsp.ug i (by simp) o ho;have e1:(i::R1).filterMap (ops[·]?)=o::R1.filterMap (ops[·]?):=by rw[List.filterMap_cons,ho]
      rw[e1] at h
      have hap: ∀ x∈A.filterMap (ops[·]?),x.apart ops o=true:=by
       intro x hx;obtain ⟨j,hj,hx⟩:=List.mem_filterMap.1 hx;exact free (by simp[hj]) hx (hsp.par j hj i (by simp))
      have h2:=mN (kk:=fun T' Γ1'=>bN P tt ops.toList (R1.filterMap (ops[·]?)) T' Γ1' [] fun T2 Γ1' _=>Tl T2 (Γ1'++Γ2)) _ T hap (by
       have hnd:=hsp.nd i (by simp) o ho
       simpa only[bN,hg,jA hnd,Aq] using h)
      have h3:=iu (T':=ga ops e Fl T) (fun y hy=>(EC (looks (by simp)) y hy).symm) h2;unfold wpOpIn;simp only[ho];rw[if_pos (by simp[Region.wanted,hg])];refine gi hk (M:=Γ2++(jm e Fl++M)) hS hT h3 ?_;rintro F' x Γ' v' w' hle' hS' hx hK
      refine ih A R1 e fuel _ (fG T o.dst x) Γ' F' _ w' (by simp at hn ⊢; omega) (by omega) (hd.set hi) ?_ hsp.Ex (fun j hj=>hfx j ?_) hE (Fz.le_trans hle hle') hS' ?_
       ((put_defers a o.dst v').trans hds) hK
      ·have:=gu.set (l1:=A) (l2:=R1++(cN e Fl++R2)) (i:=i) (by simpa using hp)
       simpa using this
      ·simp only[List.mem_append,List.mem_cons] at hj⊢
       rcases hj with h | h
       ·exact .inl h
       ·exact .inr (.inr h)
      ·rw[nq (dsts (by simp))]
       exact eG (aA.mono hle' _ _ hT) hx o.dst
     ·exact (un (j:=r) (by simp) ((List.pairwise_cons.1 hsp.r1).1 i hir)).elim
   ·
    obtain ⟨hiF,hie⟩:=nY.1 hm;obtain ⟨l1,l2,hl⟩:=List.append_of_mem hm;have hS2:aP w0 F ((Γ1++Γ2)++(jm e Fl++M)) w:=by simpa using hS
    refine Bs hk hF hiF hie ho hE hS2 hT ?_;intro e' F' u w' hE' he' hle' hS' hT';have hpe:cN e' Fl=l1++l2:=by rw[he'];exact x7 hF.nd hl
    have hlen:(cN e Fl).length=l1.length + l2.length + 1:=by rw[hl];simp;omega
    refine ih A R1 e' fuel _ T Γ1 F' _ w' (by rw[hpe];simp;omega) (by omega) (hd.set hi) ?_ hsp hfx hE' (Fz.le_trans hle hle') (by simpa using hS') hT' ((put_defers a o.dst u).trans hds) h;rw[hpe];have:=gu.set (l1:=A++(R1++l1)) (l2:=l2++R2) (i:=i) (by rw[hl] at hp;simpa using hp);simpa using this
   ·
    exfalso
    cases A with
    | cons j A=>exact un (j:=j) (by simp) (hsp.tl j (by simp) i hm)
    | nil=>
     cases R1 with
     | cons j R1=>exact un (j:=j) (by simp) (hsp.tl j (by simp) i hm)
     | nil=>exact hAR0 ⟨rfl,rfl⟩
theorem Nw (hk:TT.ok P tt) (rd:Option Nat) (nn:Nat) {ops:Array Oper} {bE Fl R2:List Nat} (hF:FA tt ops Fl) (hc:gb ops bE=true) (hr2:R2.Pairwise fun j i=>iP bE i j=true) (hfr: ∀ j∈Fl, ∀ i∈R2,iP bE i j=true)
  (hnd: ∀ i∈R2, ∀ o,ops[i]?=some o→lq o.op=true) {w0:World} {M:List aj} {F0:Fz} {ds:List Deferred} {Q':Exit→Act→World→Prop}
  {K:List PV→List aj→Prop} (hQ: ∀ F' T' Γ' a' w',F0.le F'→aP w0 F' (Γ'++M) w'→aA F' T' a'.tmps.toList→a'.defers=ds→K T' Γ'→Q' .normal a' w'):
  ∀ (n:Nat) (e:FE) (fuel:Nat) (listed:Array Bool) (T:List PV) (Γ:List aj) (F:Fz) (a:Act) (w:World),(cN e Fl).length=n→n + R2.length≤fuel→
   Down ops listed→gu ops listed (cN e Fl++R2)→OR tt ops e Fl→F0.le F→aP w0 F (Γ++(jm e Fl++M)) w→aA F (ga ops e Fl T) a.tmps.toList→a.defers=ds→
   (bN P tt ops.toList (Fl.filterMap (ops[·]?)) T Γ [] fun T4 Γ4 _=>bN P tt ops.toList (R2.filterMap (ops[·]?)) T4 Γ4 [] fun T' Γ' _=>K T' Γ')→
   wpAnyIn (cX rd) nn P .any ops Q' fuel listed a w:=by
 intro n
 induction n with
 | zero=>
  intro e fuel listed T Γ F a w hn hf hd hp hE hle hS hT hds h;have hnil:cN e Fl= []:=List.eq_nil_of_length_eq_zero hn
  obtain ⟨Γ4,h4,hpm⟩:=xN (e:=e) Fl T Γ (fun i hi=>by
   rcases hE i hi with h0 | ⟨o,f,b,ho,hf,he⟩
   ·have:i∈cN e Fl:=nY.2 ⟨hi,h0⟩
    rw[hnil] at this;cases this
   ·obtain ⟨o',f',ho',hg,_⟩:=hF.fl i hi
    rw[ho] at ho';cases ho'
    exact ⟨o,f,b,ho,hg,hf,he⟩) h
  have hS4:aP w0 F (Γ4++M) w:=hS.perm (by
   rw[←List.append_assoc]
   exact (List.perm_append_comm.trans hpm.symm).append_right M)
  refine nM hc R2 fuel listed a w (by omega) hd (by simpa[hnil] using hp) hr2 (gW (fun _=>trivial) ops _ _ a w ?_)
  refine lQ hk rd nn ops (ds:=ds) (K:=fun T' Γ' D'=>D'= []∧K T' Γ') ?_ _ (.inr (quiet_of fun o ho=>by
   obtain ⟨j,hj,ho⟩:=List.mem_filterMap.1 ho
   exact hnd j hj o ho)) _ Γ4 [] F a w hle hS4 hT (by rw[hds];exact jX.nil F ds) (qO _ _ _ _ _ ?_ h4)
  ·rintro F' T' Γ' D' a' w' k1 k2 k3 ⟨new,k4,k5⟩ ⟨rfl,k6⟩
   have:new= []:=by cases new with
    | nil=>rfl
    | cons d l=>exact k5.elim
   subst this;exact hQ F' T' Γ' a' w' k1 k2 k3 k4 k6
  ·intro o ho
   obtain ⟨j,hj,ho⟩:=List.mem_filterMap.1 ho;exact hnd j hj o ho
 | succ n ih=>
  intro e fuel listed T Γ F a w hn hf hd hp hE hle hS hT hds h
  cases fuel with
  | zero=>omega
  | succ fuel=>
  have hpos: ∃ j,j∈cN e Fl:=by
   cases hpe:cN e Fl with
   | nil=>rw[hpe] at hn;cases hn
   | cons j l=>exact ⟨j,by simp⟩
  obtain ⟨j0,hj0⟩:=hpos;refine ⟨fun hnil=>?_,fun i hi=>?_⟩
  ·exfalso
   cases hAR:cN e Fl++R2 with
   | nil=>simp at hAR;rw[hAR.1] at hn;cases hn
   | cons x xs=>
    rw[hAR] at hp;obtain ⟨k,hk'⟩:=fo hc hp;rw[hnil] at hk';cases hk'
  ·obtain ⟨o,ho⟩:=hp.2.2 i (hp.ready hi)
   rcases List.mem_append.1 (hp.ready hi) with hm | hm
   ·obtain ⟨hiF,hie⟩:=nY.1 hm
    obtain ⟨l1,l2,hl⟩:=List.append_of_mem hm;refine Bs hk hF hiF hie ho hE hS hT ?_;intro e' F' u w' hE' he' hle' hS' hT';have hpe:cN e' Fl=l1++l2:=by rw[he'];exact x7 hF.nd hl
    have hlen:(cN e Fl).length=l1.length + l2.length + 1:=by rw[hl];simp;omega
    refine ih e' fuel _ T Γ F' _ w' (by rw[hpe];simp;omega) (by omega) (hd.set hi) ?_ hE' (Fz.le_trans hle hle') hS' hT' ((put_defers a o.dst u).trans hds) h;rw[hpe];have:=gu.set (l1:=l1) (l2:=l2++R2) (i:=i) (by rw[hl] at hp;simpa using hp);simpa using this
   ·exact (blocked hc hd i ho (hfr j0 (nY.1 hj0).1 i hm) ((hp.2.1 j0).2 (by simp[hj0])) hi).elim
def AA (tt:Nat→TI) (ops:Array Oper) (bE A R1 B Fl R2:List Nat):Bool:=
 gb ops bE &&
 gp (fun j i=>iP bE i j || bg ops j i) A && A.all (fun j=>R1.all fun i=>iP bE i j || bg ops j i) &&
 gp (fun j i=>iP bE i j) R1 && (A++R1).all (fun j=>(B++R2).all fun i=>iP bE i j) &&
 R1.all (fun i=>match ops[i]? with | some o=>o.guard.isNone | none=>false) && (R1++R2).all (fun i=>match ops[i]? with | some o=>lq o.op | none=>false) &&
 gp (fun j i=>iP bE i j || bg ops j i) B && gp (fun j i=>iP bE i j) R2 && B.all (fun j=>R2.all fun i=>iP bE i j) &&
 Fl.all (fun i=>match ops[i]? with | some o=>o.guard.isNone && (vc tt o.op).isSome | none=>false) && gp (fun j i=>bg ops j i) Fl && (A++(R1++B)).all (fun j=>Fl.all fun i=>bg ops j i) && Fl.all (fun j=>R2.all fun i=>iP bE i j) &&
 gp (fun j i=>!(Nat.beq j i)) (A++(R1++(B++(Fl++R2)))) && (List.range ops.size).all (fun i=>(A++(R1++(B++(Fl++R2)))).contains i) && (A++(R1++(B++(Fl++R2)))).all (fun i=>Nat.blt i ops.size)
theorem aE.Oj (hk:TT.ok P tt) (hm:P.follows .mixedOrders=true) {ops:Array Oper} {T:List PV} {Γ Γ2:List aj} {K:List PV→List aj→Prop} (bE A R1 B Fl R2:List Nat) (Γ1:List aj)
  (hchk:AA tt ops bE A R1 B Fl R2=true) [hp:bz Γ Γ1 Γ2]
  (h:gw P tt ops.toList (bG ops.toList A) T Γ2 fun T'=>bN P tt ops.toList (bG ops.toList R1) T' Γ1 [] fun T2 Γ1' _=>kI Γ1' Γ2 fun Γ'=>
   gw P tt ops.toList (bG ops.toList B) T2 Γ' fun T3=>bN P tt ops.toList (bG ops.toList Fl) T3 Γ' [] fun T4 Γ4 _=>bN P tt ops.toList (bG ops.toList R2) T4 Γ4 [] fun T' Γ' _=>K T' Γ'):aE P ops T Γ K:=by
 refine ⟨fun rd nn id w0 F M w a Q' hS hT hQ=>wpIn_region_any hm ?_⟩;simp only[AA,Bool.and_eq_true] at hchk;obtain ⟨⟨⟨⟨⟨⟨⟨⟨⟨⟨⟨⟨⟨⟨⟨⟨h0,h1⟩,h2⟩,h3⟩,h5⟩,h6⟩,h6'⟩,b1⟩,b2⟩,b3⟩,f1⟩,f2⟩,f3⟩,f4⟩,h7⟩,h8⟩,h9⟩:=hchk
 have hlt: ∀ i∈A++(R1++(B++(Fl++R2))),i < ops.size:=fun i hi=>by
  have:=List.all_eq_true.1 h9 i hi;simpa[Nat.blt,Nat.succ_le_iff] using this
 have hnd: ∀ i∈R1++R2, ∀ o,ops[i]?=some o→lq o.op=true:=by
  intro i hi o ho;have:=List.all_eq_true.1 h6' i hi;rw[ho] at this;exact this
 have hnodup:(A++(R1++(B++(Fl++R2)))).Nodup:=(bS h7).imp fun h=>by
  intro e;subst e;simp at h
 have hpend:gu ops (Array.replicate ops.size false) (A++(R1++(B++(Fl++R2)))):=by
  refine ⟨hnodup,?_,fun i hi=>⟨_,Array.getElem?_eq_getElem (hlt i hi)⟩⟩;intro i;constructor
  ·intro hi
   rcases Nat.lt_or_ge i ops.size with h' | h'
   ·have:=List.all_eq_true.1 h8 i (List.mem_range.2 h')
    simpa only[List.contains_iff_mem] using this
   ·simp[Array.getElem?_eq_none,h'] at hi
  ·intro hi
   simp[hlt i hi]
 have hF:FA tt ops Fl:=by
  refine ⟨fun i hi=>?_,bS f2,?_⟩
  ·have:=List.all_eq_true.1 f1 i hi
   cases ho:ops[i]? with
   | none=>rw[ho] at this;cases this
   | some o=>
    rw[ho] at this;simp only[Bool.and_eq_true,Option.isNone_iff_eq_none,Option.isSome_iff_exists] at this;obtain ⟨g,f,hf⟩:=this;exact ⟨o,f,rfl,g,hf⟩
  ·exact hnodup.sublist (((List.sublist_append_left Fl R2).trans (List.sublist_append_right B _)).trans ((List.sublist_append_right R1 _).trans (List.sublist_append_right A _)))
 have hs1:ir ops bE A R1 (B++R2):=by
  refine ⟨(bS h1).imp fun h=>by simpa using h,fun j hj i hi=>?_,bS h3,fun j hj i hi=>?_,fun i hi o ho=>?_,fun i hi=>hnd i (by simp[hi])⟩
  ·have:=List.all_eq_true.1 (List.all_eq_true.1 h2 j hj) i hi
   simpa using this
  ·exact List.all_eq_true.1 (List.all_eq_true.1 h5 j hj) i hi
  ·have:=List.all_eq_true.1 h6 i hi
   rw[ho] at this;simpa using this
 have hs2:ir ops bE B [] R2:=by
  refine ⟨(bS b1).imp fun h=>by simpa using h,fun _ _ _ h=>(by cases h),List.Pairwise.nil,fun j hj i hi=>?_,fun _ h=>(by cases h),fun _ h=>(by cases h)⟩;exact List.all_eq_true.1 (List.all_eq_true.1 b3 j (by simpa using hj)) i hi
 have hfx: ∀ j∈A++(R1++B), ∀ i∈Fl,bg ops j i=true:=fun j hj i hi=>List.all_eq_true.1 (List.all_eq_true.1 f3 j hj) i hi;have hfr: ∀ j∈Fl, ∀ i∈R2,iP bE i j=true:=fun j hj i hi=>List.all_eq_true.1 (List.all_eq_true.1 f4 j hj) i hi
 have hlen:A.length + R1.length + (B.length + (Fl.length + R2.length))≤ops.size:=by
  have hsub:(A++(R1++(B++(Fl++R2)))) ⊆ List.range ops.size:=fun i hi=>List.mem_range.2 (hlt i hi);have:=hpend.1.length_le_of_subset hsub;simpa[Nat.add_assoc] using this
 have hS':aP w0 F (Γ1++(Γ2++M)) { w with drawn:=w.drawn + 1 }:=by
  have:=(hS.perm (hp.p.append_right M)).of_heap (w':={ w with drawn:=w.drawn + 1 }) rfl rfl rfl rfl;simpa using this
 have e0: ∀ i∈Fl,(fun _=>none:FE) i=none:=fun _ _=>rfl;have p0:cN (fun _=>none) Fl=Fl:=List.filter_eq_self.2 fun _ _=>rfl
 refine MI hk rd nn hF h0 (w0:=w0) (bE:=bE) (R2:=B++R2) (Γ2:=Γ2) (M:=M) (F0:=F) (ds:=a.defers) (Tl:=fun T2 Γ'=>gw P tt ops.toList (bG ops.toList B) T2 Γ' fun T3=>bN P tt ops.toList (bG ops.toList Fl) T3 Γ' [] fun T4 Γ4 _=>bN P tt ops.toList (bG ops.toList R2) T4 Γ4 [] fun T' Γ' _=>K T' Γ') ?_
  _ A R1 (fun _=>none) ops.size _ T Γ1 F a _ rfl ?_ ?_ ?_ hs1 (fun j hj i hi=>hfx j (by simp only[List.mem_append] at hj ⊢; rcases hj with h | h;exact .inl h;exact .inr (.inl h)) i hi) (fun i hi=>.inl rfl) (Fz.le_refl F) ?_ ?_ rfl ?_
 ·intro fuel listed T2 Γ' e F' a' w' hf hd hpd hE hle hS2 hT2 hds ht
  refine MI hk rd nn hF h0 (w0:=w0) (bE:=bE) (R2:=R2) (Γ2:=Γ') (M:=M) (F0:=F) (ds:=a.defers) (Tl:=fun T3 Γ'=>bN P tt ops.toList (bG ops.toList Fl) T3 Γ' [] fun T4 Γ4 _=>bN P tt ops.toList (bG ops.toList R2) T4 Γ4 [] fun T' Γ' _=>K T' Γ') ?_
   _ B [] e fuel listed T2 [] F' a' w' rfl (by simp at hf ⊢; omega) hd ?_ hs2 (fun j hj i hi=>hfx j (by simp at hj ⊢; exact .inr (.inr hj)) i hi) hE hle (by simpa using hS2) hT2 hds ?_
  ·intro fuel3 listed3 T3 Γ3 e3 F3 a3 w3 hf3 hd3 hpd3 hE3 hle3 hS3 hT3 hds3 ht3
   refine Nw hk rd nn hF h0 (bS b2) hfr (fun i hi=>hnd i (by simp[hi])) (F0:=F) (ds:=a.defers) hQ _ e3 fuel3 listed3 T3 Γ3 F3 a3 w3 rfl hf3 hd3 hpd3 hE3 hle3 hS3 hT3 hds3 ?_;simpa only[iU,Array.getElem?_toList] using ht3
  ·simp only[List.nil_append]
   refine ⟨?_,fun i=>?_,fun i hi=>hpd.2.2 i ?_⟩
   ·have hperm:(cN e Fl++(B++R2)).Perm (B++(cN e Fl++R2)):=by
     rw[←List.append_assoc, ←List.append_assoc];exact List.perm_append_comm.append_right R2
    exact hperm.nodup_iff.1 hpd.1
   ·rw[hpd.2.1 i]
    simp only[List.mem_append];constructor
    ·rintro (h | h | h)
     ·exact .inr (.inl h)
     ·exact .inl h
     ·exact .inr (.inr h)
    ·rintro (h | h | h)
     ·exact .inr (.inl h)
     ·exact .inl h
     ·exact .inr (.inr h)
   ·simp only[List.mem_append] at hi⊢
    rcases hi with h | h | h
    ·exact .inr (.inl h)
    ·exact .inl h
    ·exact .inr (.inr h)
  ·simpa only[iU,Array.getElem?_toList,List.filterMap_nil,bN,List.nil_append] using ht
 ·rw[p0];simp;omega
 ·intro k o hk'
  rcases Nat.lt_or_ge k ops.size with h' | h'
  ·simp[h'] at hk'
  ·intro ho
   have:=(Array.getElem?_eq_some_iff.1 ho).1;omega
 ·rw[p0]
  refine ⟨?_,fun i=>?_,fun i hi=>hpend.2.2 i ?_⟩
  ·have hperm:(A++(R1++(B++(Fl++R2)))).Perm (A++(R1++(Fl++(B++R2)))):=by
    refine List.Perm.append_left A (List.Perm.append_left R1 ?_);rw[←List.append_assoc, ←List.append_assoc];exact List.perm_append_comm.append_right R2
   exact hperm.nodup_iff.1 hpend.1
  ·rw[hpend.2.1 i]
   simp only[List.mem_append];constructor
   ·rintro (h | h | h | h | h)
    ·exact .inl h
    ·exact .inr (.inl h)
    ·exact .inr (.inr (.inr (.inl h)))
    ·exact .inr (.inr (.inl h))
    ·exact .inr (.inr (.inr (.inr h)))
   ·rintro (h | h | h | h | h)
    ·exact .inl h
    ·exact .inr (.inl h)
    ·exact .inr (.inr (.inr (.inl h)))
    ·exact .inr (.inr (.inl h))
    ·exact .inr (.inr (.inr (.inr h)))
  ·simp only[List.mem_append] at hi⊢
   rcases hi with h | h | h | h | h
   ·exact .inl h
   ·exact .inr (.inl h)
   ·exact .inr (.inr (.inr (.inl h)))
   ·exact .inr (.inr (.inl h))
   ·exact .inr (.inr (.inr (.inr h)))
 ·rw[Gc e0];simpa using hS'
 ·rw[x8 e0];exact hT
 ·simpa only[iU,Array.getElem?_toList,e9] using h
theorem aE.sF (d:Option Nat) {ops:Array Oper} (hd:vf ops=d) (Γ1:List aj) (R1 B Fl R2:List Nat) (hk:TT.ok P tt) (hm:P.follows .mixedOrders=true) {T:List PV} {Γ Γ2:List aj} {K:List PV→List aj→Prop} [hp:bz Γ Γ1 Γ2]
  (h:gw P tt ops.toList (bG ops.toList (mH ops.toList 0 (R1++(B++(Fl++R2))))) T Γ2 fun T'=>bN P tt ops.toList (bG ops.toList R1) T' Γ1 [] fun T2 Γ1' _=>kI Γ1' Γ2 fun Γ'=>
   gw P tt ops.toList (bG ops.toList B) T2 Γ' fun T3=>bN P tt ops.toList (bG ops.toList Fl) T3 Γ' [] fun T4 Γ4 _=>bN P tt ops.toList (bG ops.toList R2) T4 Γ4 [] fun T' Γ' _=>K T' Γ')
  (hchk:AA tt ops (yu ops.toList []) (mH ops.toList 0 (R1++(B++(Fl++R2)))) R1 B Fl R2=true:=by kernel_rfl):aE P ops T Γ K:=
 aE.Oj hk hm _ _ R1 B Fl R2 Γ1 hchk h
end
theorem dr.Rq {α:Type} {f:α→PV} {g:α→List PV} [c:cz f g] {sz:Nat} {l:List α} {tk:Option Tok} {k:IntKind} {n:Int} {i:Nat} [x:eD n i] {K:PV→Prop} (d:α) (h0:0≤n) (h:n < l.length)
  (hk:K (.ep (g (l.getD i d)))):dr sz (.sl sz (l.map f) tk) (.int k n) K:=by
 have hi:=eD.lt h0 h;refine dr.ix h0 h ?_;have e:l.getD i d=l[i]:=by simp[List.getD,hi]
 rwa [e] at hk
class pK (α:Type) where
 d:α
instance:pK Int:=⟨0⟩
instance:pK UInt8:=⟨0⟩
instance:pK aa:=⟨.mk 0 0 [] []⟩
instance:pK Datum:=⟨.mk 0 0 0 [] []⟩
theorem Rx {α:Type} {f:α→PV} {g:α→List PV} [c:cz f g] {sz:Nat} {l:List α} {tk:Option Tok} {k:IntKind} {n:Int} {i:Nat} [x:eD n i] {K:PV→Prop} [q:pK α] (h0:0≤n) (h:n < l.length)
  (hk:K (.ep (g (l.getD i q.d)))):dr sz (.sl sz (l.map f) tk) (.int k n) K:=dr.Rq q.d h0 h hk
theorem QV {p:Prop} (h:p:=by
 conv=>whnf
 repeat ((first|(refine zW ?_ ?_;exact gA)|refine zH rfl ?_|refine zA ?_|refine zI bA ?_|refine zI rfl ?_|refine zJ rfl rfl ?_|refine zB ?_|refine zK rfl ?_|refine zL rfl ?_|refine zC ?_|(refine zO ?_ ?_ ?_;exact OA;exact OA)|(refine Rx ?_ ?_ ?_;exact OA;exact OA)|refine zM rfl ?_|(refine zQ ?_ ?_ ?_;exact OA;exact OA)|(refine zR ?_ ?_;exact OA)|(refine zI ?_ ?_;exact NA)|(refine zS ?_ ?_ ?_;exact OA;exact OA)|(refine zT ?_ ?_ ?_;exact OA;exact OA)|(refine zU ?_ ?_ ?_;exact OA;exact OA)|(refine zV ?_ ?_ ?_;exact OA;exact OA)|intro _);conv=>whnf)
 first | exact bB.same | exact bB.lit | exact bB.ep):p:=h
class cc {α:Type} (f:α→PV) (x:PV) (v:outParam α):Prop where
 wk:Wk x (f v)
 wl:gx x.cellsOf (f v).cellsOf
class ox {α:Type} (f:α→PV) (es:List PV) (l:outParam (List α)):Prop where
 h:pU es (l.map f)
class sV {α:Type} (f:α→PV) (s:Nat) (x:PV) (l:outParam (List α)):Prop where
 wk:Wk x (.sl s (l.map f) none)
instance (priority:=high) ox.map {α:Type} (f:α→PV) (l:List α):ox f (l.map f) l:=⟨pU.refl _⟩
instance ox.nil {α:Type} (f:α→PV):ox f [] []:=⟨.nil⟩
instance ox.cons {α:Type} (f:α→PV) (x:PV) (es:List PV) (v:α) (l:List α) [h:cc f x v] [k:ox f es l]:ox f (x::es) (v::l):=⟨.cons h.wl k.h⟩
instance sV.nil {α:Type} (f:α→PV) (s:Nat):sV f s .nil []:=⟨Wk.dM rfl⟩
instance sV.sl {α:Type} (f:α→PV) (s:Nat) (es:List PV) (l:List α) (tk:Option Tok) [h:ox f es l]:sV f s (.sl s es tk) l:=⟨Wk.trans (Wk.tok _ _ _) (Wk.row h.h)⟩
instance (k:IntKind) (n:Int):cc (PV.int k) (.int k n) n:=⟨Wk.refl _,gx.refl _⟩
instance (b:Bool):cc PV.bool (.bool b) b:=⟨Wk.refl _,gx.refl _⟩
instance (s:List UInt8):cc PV.str (.str s) s:=⟨Wk.refl _,gx.refl _⟩
instance (priority:=high) cc.same (t:aa):cc aa.pv (aa.pv t) t:=⟨Wk.refl _,gx.refl _⟩
instance (priority:=high) cc.cells (t:aa):cc aa.pv (.agg t.cells) t:=⟨by rw[aa.fB];exact Wk.refl _,by rw[aa.fB];exact gx.refl _⟩
theorem cc.QM {x:List PV} {t:aa} (h:gx x t.cells):cc aa.pv (.agg x) t:=⟨by rw[aa.fB];exact Wk.agg h,by rw[aa.fB];exact h⟩
instance (priority:=high) cc.parts (t:aa) (tk1 tk2:Option Tok):cc aa.pv (.agg [.int .i64 (aa.op t),.int .i64 (aa.n t),.sl 1 ((aa.v t).map (PV.int .i64)) tk1,.sl 4 ((aa.t t).map aa.pv) tk2]) t:=
 cc.QM (.cons (Wk.refl _) (.cons (Wk.refl _) (.cons (Wk.tok _ _ _) (.cons (Wk.tok _ _ _) .nil))))
instance cc.mk' (a b:Int) (x y:PV) (v:List Int) (t:List aa) [h:sV (PV.int .i64) 1 x v] [k:sV aa.pv 4 y t]:cc aa.pv (.agg [.int .i64 a,.int .i64 b,x,y]) (.mk a b v t):=
 cc.QM (.cons (Wk.refl _) (.cons (Wk.refl _) (.cons h.wk (.cons k.wk .nil))))
theorem eo.wk {x:PV} {t:aa} [h:cc aa.pv x t]:Wk x (.agg t.cells):=by rw[←aa.fB];exact h.wk
instance (priority:=high) cc.QG (t:Datum):cc Datum.pv (Datum.pv t) t:=⟨Wk.refl _,gx.refl _⟩
instance (priority:=high) cc.P9 (t:Datum):cc Datum.pv (.agg t.cells) t:=⟨by rw[Datum.fB];exact Wk.refl _,by rw[Datum.fB];exact gx.refl _⟩
theorem cc.QL {x:List PV} {t:Datum} (h:gx x t.cells):cc Datum.pv (.agg x) t:=⟨by rw[Datum.fB];exact Wk.agg h,by rw[Datum.fB];exact h⟩
instance (priority:=high) cc.Qd (t:Datum) (tk:Option Tok):cc Datum.pv (.agg [.int .i64 (Datum.kind t),.int .i64 (Datum.n t),.int .i64 (Datum.d t),.str (Datum.s t),.sl 5 ((Datum.l t).map Datum.pv) tk]) t:=
 cc.QL (.cons (Wk.refl _) (.cons (Wk.refl _) (.cons (Wk.refl _) (.cons (Wk.refl _) (.cons (Wk.tok _ _ _) .nil)))))
instance cc.RA (a b c:Int) (s:List UInt8) (x:PV) (l:List Datum) [h:sV Datum.pv 5 x l]:cc Datum.pv (.agg [.int .i64 a,.int .i64 b,.int .i64 c,.str s,x]) (.mk a b c s l):=
 cc.QL (.cons (Wk.refl _) (.cons (Wk.refl _) (.cons (Wk.refl _) (.cons (Wk.refl _) (.cons h.wk .nil)))))
section
theorem p9 {n j7:Nat} (hb:Nat.ble j7 4096=true) (h:n≤34359738368):n * j7≤140737488355328:=
 Nat.le_trans (Nat.mul_le_mul h (Nat.le_of_ble_eq_true hb)) (by decide)
theorem aW.more {α:Type} {f:α→PV} {l m:List α} {es:List PV} {s j7:Nat} {e:TypeId} {tk:Option Tok} {t:Tok} {Γ:List aj} {put:Tok→List aj} [hp:jk Γ t put] [hm:ox f es m] {K:PV→List aj→Prop} (he:t.e=e)
  (hb:Nat.ble j7 4096=true) (h1:l.length + m.length≤34359738368)
  (k: ∀ t':Tok,t'.e=e→K (.sl s ((l++m).map f) (some t')) (put t')):aW s j7 e (.sl s (l.map f) (some t)) (.sl s es tk) Γ K:=by
 obtain ⟨Γ1,Γ2,e1,e2⟩:=hp.at_;refine ⟨l.map f,m.map f,.inl ⟨tk,Wk.row hm.h⟩,by simp;omega,by simpa using p9 hb h1,.inr (.inl ⟨t,Γ1,Γ2,rfl,e1,he,fun t' ht=>?_⟩)⟩;have:=k t' ht;rw[List.map_append,e2] at this;exact this
theorem aW.empty {ys:List PV} {s j7:Nat} {e:TypeId} {tk:Option Tok} {t:Tok} {Γ:List aj} {put:Tok→List aj} [hp:jk Γ t put] {K:PV→List aj→Prop} (he:t.e=e)
  (hb:Nat.ble j7 4096=true) (h1:ys.length≤34359738368)
  (k: ∀ t':Tok,t'.e=e→K (.sl s ys (some t')) (put t')):aW s j7 e (.sl s [] (some t)) (.sl s ys tk) Γ K:=by
 obtain ⟨Γ1,Γ2,e1,e2⟩:=hp.at_;refine ⟨[],ys,.inl ⟨tk,Wk.refl _⟩,by simp;omega,by simpa using p9 hb h1,.inr (.inl ⟨t,Γ1,Γ2,rfl,e1,he,fun t' ht=>?_⟩)⟩;have:=k t' ht;rw[e2] at this;exact this
theorem aW.MP {ys:List PV} {s j7:Nat} {e:TypeId} {tk:Option Tok} {Γ:List aj} {K:PV→List aj→Prop}
  (hb:Nat.ble j7 4096=true) (h1:ys.length≤34359738368)
  (k: ∀ t:Tok,t.e=e→K (.sl s ys (some t)) (.tok t::Γ)):aW s j7 e .nil (.sl s ys tk) Γ K:=
 ⟨[],ys,.inl ⟨tk,Wk.refl _⟩,by simp;omega,by simpa using p9 hb h1,.inl ⟨rfl,rfl,.inl k⟩⟩
end
class yN (Γ:List aj) (Γ1 Γ2:outParam (List aj)):Prop where
 p:Γ.Perm (Γ1++Γ2)
instance yN.nil:yN [] [] []:=⟨List.Perm.refl _⟩
instance (priority:=high) yN.tok (t:Tok) (Γ Γ1 Γ2:List aj) [h:yN Γ Γ1 Γ2]:yN (.tok t::Γ) (.tok t::Γ1) Γ2:=⟨h.p.cons _⟩
instance yN.other (e:aj) (Γ Γ1 Γ2:List aj) [h:yN Γ Γ1 Γ2]:yN (e::Γ) Γ1 (e::Γ2):=⟨(h.p.cons e).trans List.perm_middle.symm⟩
section
variable {P:Program} {tt:Nat→TI}
theorem aE.sT (d:Option Nat) {ops:Array Oper} (hd:vf ops=d) (R1 R2:List Nat) {T:List PV} {Γ Γ1 Γ2:List aj} {K:List PV→List aj→Prop} (hk:TT.ok P tt) (hm:P.follows .mixedOrders=true) [hp:yN Γ Γ1 Γ2]
  (h:gw P tt ops.toList (bG ops.toList (mH ops.toList 0 (R1++R2))) T Γ2 fun T'=>bN P tt ops.toList (bG ops.toList R1) T' Γ1 [] fun T2 Γ1' _=>kI Γ1' Γ2 fun Γ'=>bN P tt ops.toList (bG ops.toList R2) T2 Γ' [] fun T' Γ' _=>K T' Γ')
  (hchk:nH ops (yu ops.toList []) (mH ops.toList 0 (R1++R2)) R1 R2=true:=by kernel_rfl):aE P ops T Γ K:=
 aE.split hk hm _ _ R1 R2 Γ1 (hp:=⟨hp.p⟩) hchk h
end
theorem yA:type_of% @aW.more:= @aW.more
theorem yB:type_of% @aW.empty:= @aW.empty
theorem yC:type_of% @aW.MP:= @aW.MP
theorem lA {p:Prop} (h:p:=by first | omega | (simp only[List.length_cons,List.length_nil,List.length_map,List.length_append,List.length_take,List.length_drop];omega)):p:=h
theorem sE {p q:Prop} (k:q) (h:q→p:=by intro hq;first | exact yA (by clear hq;assumption) rfl lA hq | exact yB (by clear hq;assumption) rfl lA hq | exact yC rfl lA hq):p:=h k
theorem tB {p:Prop} (h:p:=by first | exact PZ | exact QV):p:=h
theorem P6 {p q:Prop} (k:q) (h:Hd q→p:=by intro hq;(conv=>whnf);(repeat1' ((first | ((first | (apply zY;intro hg) | apply zZ);exact tB) | (refine zW ?_ ?_;exact gA) | refine zH rfl ?_ | refine zA ?_ | refine zI bA ?_ | refine zI rfl ?_ | refine zJ rfl rfl ?_ | refine zB ?_ | refine zK rfl ?_ | refine zL rfl ?_ | refine zC ?_ | (refine zO ?_ ?_ ?_;omega;omega) | (refine zP ?_ ?_ ?_;omega;omega) | refine zM rfl ?_ | (refine zQ ?_ ?_ ?_;omega;omega) | (refine zR ?_ ?_;omega) | (refine zI ?_ ?_;exact nA) | (refine zS ?_ ?_ ?_;omega;omega) | (refine zT ?_ ?_ ?_;omega;omega) | (refine zU ?_ ?_ ?_;omega;omega) | (refine zV ?_ ?_ ?_;omega;omega) | (refine yA ?_ rfl lA ?_;assumption) | (refine yB ?_ rfl lA ?_;assumption) | refine yC rfl lA ?_ | refine n0 ?_ | refine zN rfl rfl rfl ?_ | refine zD ?_ | refine zE ?_ | refine zF ?_);conv=>whnf));exact hq.h):p:=h ⟨k⟩
theorem qQ {p q:Prop} (k:q) (h:Hd q→p:=by intro hq;(conv=>whnf);(repeat1' ((first | ((first | (apply zY;intro hg) | apply zZ);exact tB) | (refine zW ?_ ?_;exact gA) | refine zH rfl ?_ | refine zA ?_ | refine zI bA ?_ | refine zI rfl ?_ | refine zJ rfl rfl ?_ | refine zB ?_ | refine zK rfl ?_ | refine zL rfl ?_ | refine zC ?_ | (refine zO ?_ ?_ ?_;omega;omega) | (refine zP ?_ ?_ ?_;omega;omega) | refine zM rfl ?_ | (refine zQ ?_ ?_ ?_;omega;omega) | (refine zR ?_ ?_;omega) | (refine zI ?_ ?_;exact nA) | (refine zS ?_ ?_ ?_;omega;omega) | (refine zT ?_ ?_ ?_;omega;omega) | (refine zU ?_ ?_ ?_;omega;omega) | (refine zV ?_ ?_ ?_;omega;omega) | (refine yA ?_ rfl lA ?_;assumption) | (refine yB ?_ rfl lA ?_;assumption) | refine yC rfl lA ?_ | refine n0 ?_ | refine zN rfl rfl rfl ?_ | refine zD ?_ | refine zE ?_ | refine zF ?_ | refine zG ?_);conv=>whnf));exact hq.h):p:=h ⟨k⟩
theorem r6.wk {x:PV} {t:Datum} [h:cc Datum.pv x t]:Wk x (.agg t.cells):=by rw[←Datum.fB];exact h.wk
theorem Mw:Wk (.agg [.int .i64 4,.int .i64 0,.int .i64 0,.str [],.nil]) (.agg aJ.cells):=Wk.agg (.cons (Wk.refl _) (.cons (Wk.refl _) (.cons (Wk.refl _) (.cons (Wk.refl _) (.cons (Wk.dM rfl) .nil)))))
theorem jz.gh {σ:Type} {ds:List Nat} {R:σ→List (Nat×PV)} {G:σ→List aj} {I:σ→Prop} {μ:σ→Nat} {T0:List PV} {s:σ} {T:List PV} {Γ:List aj} {D:Ds} (s':σ) (hI:I s') (hμ:μ s' < μ s)
  (hw:bY 0 T T0 ds (R s')) (hg:au Γ (G s')):jz ds R G I μ T0 s D T Γ D:=⟨rfl,s',hI,hμ,dh.of (bY.wk 0 T T0 ds (R s') hw) hg⟩
abbrev Cc (b:Nat):aj:=.box b [.int .i64 0,.int .i64 0,.int .i64 0,.str [],.nil]
abbrev mL (b:Nat) (s:List UInt8) (k:Nat) (bad:Int):aj:=.box b [.str s,.int .i64 k,.int .i64 bad]
theorem gK (b:Nat) (s:List UInt8) (k:Nat) (at_:Int):af Tryz.prog 58 [.ptr b 0,.int .i64 at_] [mL b s k (-1)] (fun y Γ'=>y=.agg aJ.cells∧Γ'= [mL b s k at_]):=by
 refine af.ah ai Tryz.func58 rfl rfl (n:=15) rfl rfl ?_
 conv=>whnf
 repeat' (first|refine qQ ?_|((intro _);conv=>whnf)|(refine zX (fun hc=>?_) (fun hc=>?_)<;>(try simp only[SY] at hc)<;>first|omega|(conv=>whnf)))
 ·exact ak.gen (y:=.agg aJ.cells) Mw ⟨rfl,rfl⟩
theorem BT (c:UInt8):ay Tryz.prog 100 [.int .u8 c.toNat] (.bool (jP c)):=by
 refine af.ah ai Tryz.func100 rfl rfl (n:=30) rfl rfl ?_
 conv=>whnf
 skip
 refine ax.keep [2,4,5,6,7,8,9,10,11,12,13,14,15] (fun i:Nat=> [(4,.int .i64 i)]) (fun i=>i≤10∧l9.contains c=(l9.drop i).contains c) (fun i=>10 - i) 0 ⟨Nat.zero_le _,rfl⟩ wA ?_;rintro i ⟨hi,he⟩
 conv=>whnf
 repeat' (first|refine qQ ?_|((intro _);conv=>whnf)|(refine zX (fun hc=>?_) (fun hc=>?_)<;>(try simp only[SY] at hc)<;>(conv=>whnf)))
 ·simp only[List.length_cons,List.length_nil] at *
  have hcc:c=l9.getD i 0:=UInt8.toNat_inj.1 (by show c.toNat=(l9.getD i 0).toNat;exact Int.ofNat.inj hc);have hil:i < l9.length:=by show i < 10;omega
  rw[dG hil,List.contains_cons, ←hcc,beq_self_eq_true,Bool.true_or] at he;exact ak.pure (Wk.tt (by unfold jP;rw[he];rfl))
 ·simp only[List.length_cons,List.length_nil] at *
  have hcc: ¬c=l9.getD i 0:=fun e=>hc (by show (c.toNat:Int)=((l9.getD i 0).toNat:Int);rw[←e]);have hil:i < l9.length:=by show i < 10;omega
  rw[dG hil,List.contains_cons,beq_eq_false_iff_ne.2 hcc,Bool.false_or] at he;exact av (i + 1) ⟨by omega,he⟩ (by omega) wA
 ·simp only[List.length_cons,List.length_nil] at *
  rw[List.drop_of_length_le (by show 10≤i;omega)] at he;exact ak.pure (Wk.bool (by unfold jP;rw[he];rfl))
theorem iW {c n:UInt8}:(c.toNat:Int)=(n.toNat:Int)↔c=n:=⟨fun h=>UInt8.toNat_inj.1 (Int.ofNat.inj h),fun h=>by rw[h]⟩
theorem Bk {p q:Prop} (k:q) (h:q→p:=by intro hq;first | exact aE.sP (some 4) rfl [] [] ai mixed hq | exact aE.sP (some 14) rfl [] [] ai mixed hq | exact aE.sP (some 25) rfl [] [] ai mixed hq):p:=h k
theorem qx (b:Nat) (s:List UInt8) (k:Nat) (bad:Int) (hs:s.length≤1000000) (hk:k≤s.length):af Tryz.prog 55 [.ptr b 0] [mL b s k bad] (fun y Γ'=>y=.int .u8 (cZ s (c5 s k)).toNat∧Γ'= [mL b s (c5 s k) bad]):=by
 refine af.ah ai Tryz.func55 rfl rfl (n:=72) rfl rfl ?_
 conv=>whnf
 skip
 refine ax.over [2,3,4,5,6,7,8,9,10,11,12,13,14,15,16,17,18,19,20,21,22,23,24,25,26,27,28,29,30,31,32,33,34,35,36,37,38,39,40,41,42,43,44,45,46,47,48,49,50,51,52,53,54,55,56,57,58,59,60,61,62,63,64,65,66,67,68,69,70,71] (fun _:Nat=> []) (fun j=> [mL b s j bad]) (fun j=>j≤s.length∧c5 s j=c5 s k) (fun j=>s.length - j) k ⟨hk,rfl⟩ wA ?_;rintro j ⟨hj,he⟩;rw[LI hj] at he
 conv=>whnf
 repeat' (first|refine qQ ?_|((refine Bk ?_);conv=>whnf)|(refine zX (fun hc=>?_) (fun hc=>?_)<;>(try simp only[SY] at hc)<;>(conv=>whnf)))
 ·have h59:s.getD j 0=59:=iW.1 hc
  rw[if_pos (by omega),if_pos h59] at he;refine ax.over [25,26,27,28,29,30,31,32,33,34,35,36,37,38,39,40,41,42,43,44,45,46,47,48,49,50,51,52,53] (fun _:Nat=> []) (fun i=> [mL b s i bad]) (fun i=>j≤i∧i≤s.length∧oh s i=oh s j) (fun i=>s.length - i) j ⟨Nat.le_refl _,hj,rfl⟩ wA ?_;rintro i ⟨hji,hi,hei⟩
  conv=>whnf
  repeat' (first|refine qQ ?_|((refine Bk ?_);conv=>whnf)|(refine zX (fun hc=>?_) (fun hc=>?_)<;>(try simp only[SY] at hc)<;>(conv=>whnf)))
  ·have hin: ¬s.getD i 0=10:=fun e=>hc.2 (by rw[e];rfl)
   rw[uj (by omega),if_neg hin] at hei;rw[show (i:Int) + 1=((i + 1:Nat):Int) from rfl];exact av (i + 1) ⟨by omega,by omega,hei⟩ (by omega) wA
  ·have hei2:oh s i=i:=by
    by_cases hl:i < s.length
    ·have h10:((s.getD i 0).toNat:Int)=10:=by omega
     rw[uj hl,if_pos (iW.1 h10)]
    ·exact Iu hl
   have hji2:i≠j:=fun e=>by
    rw[e,h59] at hc;have hc2:((59:UInt8).toNat:Int)=59:=rfl;omega
   rw[←hei,hei2] at he;exact av i ⟨by omega,he⟩ (by omega) wA
 ·rw[if_pos (by omega),if_neg (fun e=>by have h2:= ‹¬((s.getD j 0).toNat:Int)=59›; rw[e] at h2;exact h2 rfl),if_neg (fun e=>by unfold yV at e;simp only[Bool.or_eq_true,beq_iff_eq] at e;rcases e with (e | e) | e<;>(rw[e] at hc;simp at hc))] at he
  subst he;exact ak.gen (Wk.eq (by unfold cZ;rw[if_pos (by omega)])) ⟨rfl,rfl⟩
 ·rw[if_pos (by omega),if_neg (fun e=>by have h2:= ‹¬((s.getD j 0).toNat:Int)=59›; rw[e] at h2;exact h2 rfl),if_pos (by unfold yV;simp only[Bool.or_eq_true,beq_iff_eq];rcases hc with (e | e) | e;exact .inl (.inl (iW.1 e));exact .inl (.inr (iW.1 e));exact .inr (iW.1 e))] at he
  rw[show (j:Int) + 1=((j + 1:Nat):Int) from rfl];exact av (j + 1) ⟨by omega,he⟩ (by omega) wA
 ·rw[if_neg (by omega)] at he
  subst he;exact ak.gen (Wk.eq (by unfold cZ;rw[if_neg (by omega)];rfl)) ⟨rfl,rfl⟩
theorem Ir {p q:Prop} (k:q) (h:q→p:=by intro hq;first | exact aE.sP (some 12) rfl [] [] ai mixed hq | exact aE.sP (some 41) rfl [] [] ai mixed hq):p:=h k
theorem KC (b:Nat) (s:List UInt8) (k:Nat) (hs:s.length≤1000000) (hk:k≤s.length):af Tryz.prog 101 [.ptr b 0] [mL b s k (-1)] (fun y Γ'=>y=.agg (lI s k).1.cells∧Γ'= [mL b s (lI s k).2.1 (lI s k).2.2]):=by
 refine af.ah ai Tryz.func101 rfl rfl (n:=69) rfl rfl ?_
 conv=>whnf
 repeat' (first|refine qQ ?_|((intro _);conv=>whnf)|(refine zX (fun hc=>?_) (fun hc=>?_)<;>(try simp only[SY] at hc)<;>omega))
 rename_i b2;refine ax.over [12,13,14,15,16,17,18,19,20,21,22,23,24,25,26,27,28,29,30,31,32,33,34,35,36,37,38,39,40] (fun _:Nat=> []) (fun j=> [Cc b2,mL b s j (-1)]) (fun j=>k≤j∧j≤s.length∧iX s j=iX s k) (fun j=>s.length - j) k ⟨Nat.le_refl _,hk,rfl⟩ wA ?_;rintro j ⟨hkj,hj,he⟩
 conv=>whnf
 repeat' (first|refine qQ ?_|((first|((first|(apply zY;intro hg)|apply zZ);(conv=>whnf);(repeat ((first|refine pC (BT _) wR ?_|refine aG ?_);conv=>whnf));exact pZ)|refine Ir ?_);conv=>whnf)|(refine zX (fun hc=>?_) (fun hc=>?_)<;>(try simp only[SY] at hc)<;>(conv=>whnf)))
 ·have hl:j < s.length:=by omega
  rw[wJ hl,if_pos hc.2] at he;rw[show (j:Int) + 1=((j + 1:Nat):Int) from rfl];exact av (j + 1) ⟨by omega,by omega,he⟩ (by omega) wA
 ·have hje:j=iX s k:=by
   rw[←he];rcases hc with hc | hc
   ·rw[yx (by omega)]
   ·by_cases hl:j < s.length
    ·rw[wJ hl,if_neg (by rw[hc];simp)]
    ·rw[yx hl]
  have hF:lI s k=lI s k:=rfl
  conv at hF=>rhs;unfold lI;dsimp only;rw[←hje]
  obtain ⟨w,hw⟩: ∃ w,w=(s.take j).drop k:=⟨_,rfl⟩
  rw[←hw] at hF;refine oe.of (.str w) ?_ ?_
  ·conv=>whnf
   refine ec.both (by omega) (by omega) (by omega) ?_;rw[hw];exact pS
  clear hw
  conv=>whnf
  repeat' (first|refine qQ ?_|((first|refine pC (B1 _) wR ?_|intro _);conv=>whnf)|(refine zX (fun hc=>?_) (fun hc=>?_)<;>(try simp only[SY] at hc)<;>(conv=>whnf)))
  ·rw[if_pos hc] at hF
   rw[hF];exact ak.gen (y:=.agg (Datum.mk 0 (jb w).1 (jb w).2.1 [] []).cells) (Γ':= [mL b s j (-1)]) r6.wk (And.intro rfl rfl)
  ·rw[if_neg (by rw[‹(jb w).2.2=false›];simp),if_pos (by omega)] at hF
   refine aq.go (gK b s j k) (aX.refl _) ?_;rintro _ _ ⟨rfl,rfl⟩
   conv=>whnf
   repeat' (first|refine qQ ?_|(refine zX (fun hc=>?_) (fun hc=>?_)<;>(try simp only[SY] at hc)<;>omega))
   rw[hF];exact ak.gen (y:=.agg aJ.cells) (Γ':= [mL b s j k]) (Wk.refl _) (And.intro rfl rfl)
  ·rw[if_neg (by rw[‹(jb w).2.2=false›];simp),if_neg (by omega)] at hF
   rw[hF];exact ak.gen (y:=.agg (w6 w).cells) (Γ':= [mL b s j (-1)]) r6.wk (And.intro rfl rfl)
theorem AV (c:UInt8):FH c=true↔((c.toNat:Int) < 32∨(c.toNat:Int) > 126)∨(c.toNat:Int)=92:=by
 unfold FH;simp only[Bool.or_eq_true,decide_eq_true_eq,beq_iff_eq]
theorem Is {p q:Prop} (k:q) (h:q→p:=by intro hq;first | exact aE.sP (some 15) rfl [] [] ai mixed hq | exact aE.sP (some 37) rfl [] [] ai mixed hq | exact aE.sP (some 84) rfl [] [] ai mixed hq | exact aE.sP (some 107) rfl [] [12] ai mixed hq):p:=h k
theorem Kn (b:Nat) (s:List UInt8) (k:Nat) (hs:s.length≤1000000) (hk:k < s.length):af Tryz.prog 102 [.ptr b 0] [mL b s k (-1)] (fun y Γ'=>y=.agg (lF s k).1.cells∧Γ'= [mL b s (lF s k).2.1 (lF s k).2.2]):=by
 refine af.ah ai Tryz.func102 rfl rfl (n:=119) rfl rfl ?_
 conv=>whnf
 repeat' (first|refine qQ ?_|((intro _);conv=>whnf)|(refine zX (fun hc=>?_) (fun hc=>?_)<;>(try simp only[SY] at hc)<;>omega))
 rw[show (k:Int) + 1=((k + 1:Nat):Int) from rfl];rename_i b2;refine ax.over [15,16,17,18,19,20,21,22,23,24,25,26,27,28,29,30,31,32,33,34,35,36,37,38,39,40,41,42,43,44,45,46,47,48,49,50,51,52,53,54,55,56,57,58,59,60,61,62,63,64,65,66,67,68,69,70,71,72,73,74,75,76,77,78,79,80,81,82,83] (fun _:Nat=> []) (fun j=> [Cc b2,mL b s j (-1)]) (fun j=>k + 1≤j∧j≤s.length∧lE s j=lE s (k + 1)) (fun j=>s.length - j) (k + 1) ⟨Nat.le_refl _,hk,rfl⟩ wA ?_;rintro j ⟨hkj,hj,he⟩;have hF:lF s k=lF s k:=rfl
 conv at hF=>rhs;unfold lF;dsimp only;rw[←he]
 conv=>whnf
 repeat' (first|refine qQ ?_|((refine Is ?_);conv=>whnf)|(refine zX (fun hc=>?_) (fun hc=>?_)<;>(try simp only[SY] at hc)<;>(conv=>whnf)))
 ·have hl:j < s.length:=by omega
  have hT:lE s j=j:=by rw[wG hl,if_pos (.inr ((AV _).2 (by omega)))]
  rw[hT,if_neg (fun h=>by have:= ‹_∧ ¬((s.getD j 0).toNat:Int)=34›.2;rw[h.2] at this;exact this rfl)] at hF;refine aq.go (gK b s j j) (aX.refl _) ?_;rintro _ _ ⟨rfl,rfl⟩
  conv=>whnf
  repeat' (first|refine qQ ?_|(refine zX (fun hc=>?_) (fun hc=>?_)<;>(try simp only[SY] at hc)<;>omega))
  rw[hF];exact ak.gen (y:=.agg aJ.cells) (Γ':= [mL b s j j]) (Wk.refl _) (And.intro rfl rfl)
 ·have hl:j < s.length:=by omega
  rw[wG hl,if_neg (fun h=>by
   rcases h with h | h
   ·have:= ‹_∧ ¬((s.getD j 0).toNat:Int)=34›.2;rw[h] at this;exact this rfl
   ·have:=(AV _).1 h;omega)] at he
  rw[show (j:Int) + 1=((j + 1:Nat):Int) from rfl];exact av (j + 1) ⟨by omega,by omega,he⟩ (by omega) wA
 ·have hl: ¬j < s.length:=by omega
  rw[Hl hl,if_neg (by omega)] at hF;refine aq.go (gK b s j j) (aX.refl _) ?_;rintro _ _ ⟨rfl,rfl⟩
  conv=>whnf
  repeat' (first|refine qQ ?_|(refine zX (fun hc=>?_) (fun hc=>?_)<;>(try simp only[SY] at hc)<;>omega))
  rw[hF];exact ak.gen (y:=.agg aJ.cells) (Γ':= [mL b s j j]) (Wk.refl _) (And.intro rfl rfl)
 ·have hl:j < s.length:=by omega
  have h34:s.getD j 0=34:=iW.1 (by show _=(34:Int);omega);have hT:lE s j=j:=by rw[wG hl,if_pos (.inl h34)]
  rw[hT,if_pos ⟨hl,h34⟩] at hF;rw[hF];refine oe.of (.str ((s.take j).drop (k + 1))) ?_ ?_
  ·conv=>whnf
   refine ec.both (j:=j) (y:=⟨fun _=>by omega⟩) (by omega) (by omega) (by omega) ?_;exact pS
  conv=>whnf
  repeat' (first|refine qQ ?_|(refine zX (fun hc=>?_) (fun hc=>?_)<;>(try simp only[SY] at hc)<;>omega))
  exact ak.gen (y:=.agg (Datum.mk 3 0 0 ((s.take j).drop (k + 1)) []).cells) (Γ':= [.box b [.str s,.int .i64 ((j:Int) + 1),.int .i64 (-1)]]) r6.wk (And.intro rfl rfl)
end Go.Cb


