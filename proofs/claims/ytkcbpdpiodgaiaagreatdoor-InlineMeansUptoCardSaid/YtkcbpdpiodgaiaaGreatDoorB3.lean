/-
 The types of this seat: a table made by a program, checked by the kernel.
 More rules: integers of other kinds, stable operations, maps.
 Rules for the automatic walk: guarded operations, indices, loops over what they change.
 The data of the program as Lean types, and how they lie in values.
 Contracts: numbers.
 Contracts: numbers from texts.
 Contracts: a number by another one.
 Contracts: the document's reading of a number.
 Contracts: data, the document's.
 Plain law: the document's reading of texts, as a function.
 Plain law: the document's expander of forms, as a function.
 Contracts: Go's library, as far as the program calls it.
 Contracts: the program's reading of a number.
 Contracts: package slices at the program's types (written by tools/gen_slices.py).
 Contracts: the program's data.
 Contracts: how many.
 Contracts: the document's check of terms.
 Contracts: the program's check of terms, the small functions.
 Plain law: core data, and terms of them, as functions.
 Plain law: data, their parts and sizes.
 Contracts: the document's check of terms, the rest of it.
 Contracts: the document's check of terms, within a scope.
-/
import Derived.Lib.Bytealg
import Derived.Test.YtkcbpdpiodgaiaaGreatDoorProg
import Derived.Test.YtkcbpdpiodgaiaaGreatDoorB2
set_option linter.unusedSimpArgs false
set_option linter.unusedVariables false
namespace Go.Cb
open Go.Proofs
set_option maxRecDepth 100000
def tl : List TI := [
 TI.none,
 ⟨.fn, 1, 8, [.fn]⟩,
 ⟨.int .i64, 1, 8, [.int .i64]⟩,
 ⟨.int .i64, 1, 8, [.int .i64]⟩,
 ⟨.bool, 1, 1, [.bool]⟩,
 ⟨.int .u8, 1, 1, [.int .u8]⟩,
 ⟨.int .u8, 1, 1, [.int .u8]⟩,
 ⟨.st [(0, 1, false), (1, 1, false), (2, 1, false), (3, 1, false)], 4, 24, [.int .i64, .int .i64, .bool, .int .u8]⟩,
 ⟨.st [(0, 1, false), (1, 1, false), (2, 1, false), (3, 1, false)], 4, 24, [.int .i64, .int .i64, .bool, .int .u8]⟩,
 ⟨.str, 1, 16, [.str]⟩,
 ⟨.str, 1, 16, [.str]⟩,
 ⟨.str, 1, 16, [.str]⟩,
 ⟨.int .u64, 1, 8, [.int .u64]⟩,
 ⟨.st [(0, 1, false), (1, 1, false)], 2, 24, [.str, .int .u64]⟩,
 ⟨.st [(0, 1, false), (1, 1, false)], 2, 24, [.str, .int .u64]⟩,
 ⟨.ptr 306, 1, 8, [.ptr]⟩,
 ⟨.ptr 309, 1, 8, [.ptr]⟩,
 ⟨.ptr 316, 1, 8, [.ptr]⟩,
 ⟨.st [(0, 1, false)], 1, 8, [.ptr]⟩,
 ⟨.st [(0, 1, false)], 1, 8, [.ptr]⟩,
 ⟨.ifc, 1, 16, [.ifc]⟩,
 ⟨.int .i32, 1, 4, [.int .i32]⟩,
 ⟨.sl 54, 1, 24, [.sl]⟩,
 ⟨.sl 3, 1, 24, [.sl]⟩,
 ⟨.sl 26, 1, 24, [.sl]⟩,
 ⟨.st [(0, 1, false), (1, 1, false), (2, 1, false), (3, 1, false)], 4, 64, [.int .i64, .int .i64, .sl, .sl]⟩,
 ⟨.st [(0, 1, false), (1, 1, false), (2, 1, false), (3, 1, false)], 4, 64, [.int .i64, .int .i64, .sl, .sl]⟩,
 ⟨.st [(0, 1, false), (1, 4, true)], 5, 88, [.sl, .int .i64, .int .i64, .sl, .sl]⟩,
 ⟨.st [(0, 1, false), (1, 4, true)], 5, 88, [.sl, .int .i64, .int .i64, .sl, .sl]⟩,
 ⟨.st [(0, 1, false), (1, 1, false), (2, 1, false)], 3, 24, [.int .i64, .int .i64, .int .i64]⟩,
 ⟨.st [(0, 1, false), (1, 1, false), (2, 1, false)], 3, 24, [.int .i64, .int .i64, .int .i64]⟩,
 ⟨.fn, 1, 8, [.fn]⟩,
 ⟨.fn, 1, 8, [.fn]⟩,
 ⟨.fn, 1, 8, [.fn]⟩,
 ⟨.st [(0, 1, false), (1, 1, false), (2, 1, false)], 3, 24, [.int .i64, .int .i64, .int .i64]⟩,
 ⟨.int .i64, 1, 8, [.int .i64]⟩,
 TI.none,
 ⟨.fn, 1, 8, [.fn]⟩,
 ⟨.fn, 1, 8, [.fn]⟩,
 ⟨.fn, 1, 8, [.fn]⟩,
 ⟨.fn, 1, 8, [.fn]⟩,
 ⟨.fn, 1, 8, [.fn]⟩,
 ⟨.fn, 1, 8, [.fn]⟩,
 ⟨.fn, 1, 8, [.fn]⟩,
 TI.none,
 ⟨.fn, 1, 8, [.fn]⟩,
 ⟨.sl 83, 1, 24, [.sl]⟩,
 ⟨.st [(0, 1, false), (1, 1, false), (2, 4, true)], 6, 112, [.sl, .sl, .int .i64, .int .i64, .sl, .sl]⟩,
 ⟨.st [(0, 1, false), (1, 1, false), (2, 4, true)], 6, 112, [.sl, .sl, .int .i64, .int .i64, .sl, .sl]⟩,
 TI.none,
 ⟨.fn, 1, 8, [.fn]⟩,
 ⟨.fn, 1, 8, [.fn]⟩,
 ⟨.fn, 1, 8, [.fn]⟩,
 ⟨.st [(0, 1, false), (1, 1, false), (2, 1, false), (3, 1, false), (4, 1, false)], 5, 64, [.int .i64, .int .i64, .int .i64, .str, .sl]⟩,
 ⟨.st [(0, 1, false), (1, 1, false), (2, 1, false), (3, 1, false), (4, 1, false)], 5, 64, [.int .i64, .int .i64, .int .i64, .str, .sl]⟩,
 ⟨.ptr 58, 1, 8, [.ptr]⟩,
 ⟨.mp 3 26, 1, 8, [.mp]⟩,
 ⟨.st [(0, 3, true), (3, 1, false), (4, 1, false)], 5, 40, [.int .i64, .int .i64, .int .i64, .int .i64, .mp]⟩,
 ⟨.st [(0, 3, true), (3, 1, false), (4, 1, false)], 5, 40, [.int .i64, .int .i64, .int .i64, .int .i64, .mp]⟩,
 ⟨.fn, 1, 8, [.fn]⟩,
 ⟨.fn, 1, 8, [.fn]⟩,
 ⟨.fn, 1, 8, [.fn]⟩,
 ⟨.ptr 65, 1, 8, [.ptr]⟩,
 ⟨.fn, 1, 8, [.fn]⟩,
 ⟨.st [(0, 1, false), (1, 1, false), (2, 1, false), (3, 1, false), (4, 1, false), (5, 1, false), (6, 1, false)], 7, 72, [.int .i64, .int .i64, .int .i64, .bool, .int .i64, .sl, .bool]⟩,
 ⟨.st [(0, 1, false), (1, 1, false), (2, 1, false), (3, 1, false), (4, 1, false), (5, 1, false), (6, 1, false)], 7, 72, [.int .i64, .int .i64, .int .i64, .bool, .int .i64, .sl, .bool]⟩,
 ⟨.fn, 1, 8, [.fn]⟩,
 ⟨.st [(0, 1, false), (1, 1, false), (2, 1, false)], 3, 40, [.str, .int .i64, .str]⟩,
 ⟨.st [(0, 1, false), (1, 1, false), (2, 1, false)], 3, 40, [.str, .int .i64, .str]⟩,
 ⟨.fn, 1, 8, [.fn]⟩,
 ⟨.fn, 1, 8, [.fn]⟩,
 ⟨.ptr 74, 1, 8, [.ptr]⟩,
 ⟨.mp 3 4, 1, 8, [.mp]⟩,
 ⟨.st [(0, 1, false), (1, 1, false)], 2, 16, [.mp, .int .i64]⟩,
 ⟨.st [(0, 1, false), (1, 1, false)], 2, 16, [.mp, .int .i64]⟩,
 ⟨.fn, 1, 8, [.fn]⟩,
 ⟨.ptr 79, 1, 8, [.ptr]⟩,
 ⟨.mp 3 114, 1, 8, [.mp]⟩,
 ⟨.st [(0, 1, false), (1, 1, false)], 2, 32, [.sl, .mp]⟩,
 ⟨.st [(0, 1, false), (1, 1, false)], 2, 32, [.sl, .mp]⟩,
 ⟨.fn, 1, 8, [.fn]⟩,
 ⟨.fn, 1, 8, [.fn]⟩,
 ⟨.st [(0, 1, false), (1, 1, false), (2, 4, true)], 6, 96, [.sl, .bool, .int .i64, .int .i64, .sl, .sl]⟩,
 ⟨.st [(0, 1, false), (1, 1, false), (2, 4, true)], 6, 96, [.sl, .bool, .int .i64, .int .i64, .sl, .sl]⟩,
 ⟨.fn, 1, 8, [.fn]⟩,
 ⟨.fn, 1, 8, [.fn]⟩,
 ⟨.ptr 88, 1, 8, [.ptr]⟩,
 ⟨.st [(0, 1, false), (1, 1, false), (2, 1, false), (3, 1, false), (4, 1, false), (5, 1, false)], 6, 48, [.int .i64, .int .i64, .int .i64, .bool, .int .i64, .mp]⟩,
 ⟨.st [(0, 1, false), (1, 1, false), (2, 1, false), (3, 1, false), (4, 1, false), (5, 1, false)], 6, 48, [.int .i64, .int .i64, .int .i64, .bool, .int .i64, .mp]⟩,
 ⟨.fn, 1, 8, [.fn]⟩,
 ⟨.fn, 1, 8, [.fn]⟩,
 ⟨.fn, 1, 8, [.fn]⟩,
 ⟨.fn, 1, 8, [.fn]⟩,
 ⟨.st [(0, 4, true), (4, 1, false)], 5, 88, [.int .i64, .int .i64, .sl, .sl, .sl]⟩,
 ⟨.st [(0, 4, true), (4, 1, false)], 5, 88, [.int .i64, .int .i64, .sl, .sl, .sl]⟩,
 ⟨.fn, 1, 8, [.fn]⟩,
 TI.none,
 ⟨.fn, 1, 8, [.fn]⟩,
 ⟨.fn, 1, 8, [.fn]⟩,
 ⟨.fn, 1, 8, [.fn]⟩,
 ⟨.fn, 1, 8, [.fn]⟩,
 ⟨.fn, 1, 8, [.fn]⟩,
 ⟨.fn, 1, 8, [.fn]⟩,
 ⟨.fn, 1, 8, [.fn]⟩,
 ⟨.fn, 1, 8, [.fn]⟩,
 ⟨.fn, 1, 8, [.fn]⟩,
 ⟨.fn, 1, 8, [.fn]⟩,
 ⟨.fn, 1, 8, [.fn]⟩,
 ⟨.fn, 1, 8, [.fn]⟩,
 ⟨.fn, 1, 8, [.fn]⟩,
 ⟨.fn, 1, 8, [.fn]⟩,
 TI.none,
 ⟨.fn, 1, 8, [.fn]⟩,
 ⟨.st [(0, 1, false), (1, 1, false)], 2, 16, [.int .i64, .bool]⟩,
 ⟨.st [(0, 1, false), (1, 1, false)], 2, 16, [.int .i64, .bool]⟩,
 TI.none,
 ⟨.fn, 1, 8, [.fn]⟩,
 ⟨.fn, 1, 8, [.fn]⟩,
 ⟨.fn, 1, 8, [.fn]⟩,
 ⟨.st [(0, 1, false), (1, 1, false), (2, 1, false), (3, 1, false), (4, 1, false)], 5, 32, [.int .i64, .int .i64, .int .i64, .bool, .bool]⟩,
 ⟨.st [(0, 1, false), (1, 1, false), (2, 1, false), (3, 1, false), (4, 1, false)], 5, 32, [.int .i64, .int .i64, .int .i64, .bool, .bool]⟩,
 TI.none,
 ⟨.fn, 1, 8, [.fn]⟩,
 ⟨.fn, 1, 8, [.fn]⟩,
 ⟨.fn, 1, 8, [.fn]⟩,
 ⟨.fn, 1, 8, [.fn]⟩,
 ⟨.fn, 1, 8, [.fn]⟩,
 ⟨.fn, 1, 8, [.fn]⟩,
 ⟨.fn, 1, 8, [.fn]⟩,
 ⟨.fn, 1, 8, [.fn]⟩,
 ⟨.mp 3 3, 1, 8, [.mp]⟩,
 ⟨.fn, 1, 8, [.fn]⟩,
 TI.none,
 ⟨.fn, 1, 8, [.fn]⟩,
 ⟨.ptr 142, 1, 8, [.ptr]⟩,
 ⟨.sl 140, 1, 24, [.sl]⟩,
 ⟨.sl 4, 1, 24, [.sl]⟩,
 ⟨.ptr 172, 1, 8, [.ptr]⟩,
 ⟨.ptr 170, 1, 8, [.ptr]⟩,
 ⟨.st [(0, 1, false), (1, 1, false), (2, 1, false), (3, 1, false), (4, 1, false), (5, 1, false), (6, 1, false)], 7, 80, [.int .i64, .int .i64, .int .i64, .str, .sl, .ptr, .ptr]⟩,
 ⟨.st [(0, 1, false), (1, 1, false), (2, 1, false), (3, 1, false), (4, 1, false), (5, 1, false), (6, 1, false)], 7, 80, [.int .i64, .int .i64, .int .i64, .str, .sl, .ptr, .ptr]⟩,
 ⟨.st [(0, 1, false), (1, 1, false), (2, 1, false), (3, 1, false), (4, 1, false), (5, 1, false), (6, 7, true)], 13, 184, [.sl, .sl, .int .i64, .str, .sl, .int .i64, .int .i64, .int .i64, .int .i64, .str, .sl, .ptr, .ptr]⟩,
 ⟨.st [(0, 1, false), (1, 1, false), (2, 1, false), (3, 1, false), (4, 1, false), (5, 1, false), (6, 7, true)], 13, 184, [.sl, .sl, .int .i64, .str, .sl, .int .i64, .int .i64, .int .i64, .int .i64, .str, .sl, .ptr, .ptr]⟩,
 ⟨.fn, 1, 8, [.fn]⟩,
 TI.none,
 ⟨.fn, 1, 8, [.fn]⟩,
 ⟨.fn, 1, 8, [.fn]⟩,
 ⟨.fn, 1, 8, [.fn]⟩,
 ⟨.fn, 1, 8, [.fn]⟩,
 ⟨.fn, 1, 8, [.fn]⟩,
 ⟨.fn, 1, 8, [.fn]⟩,
 ⟨.fn, 1, 8, [.fn]⟩,
 ⟨.fn, 1, 8, [.fn]⟩,
 ⟨.fn, 1, 8, [.fn]⟩,
 TI.none,
 ⟨.fn, 1, 8, [.fn]⟩,
 ⟨.st [(0, 1, false), (1, 1, false), (2, 1, false), (3, 1, false), (4, 1, false)], 5, 40, [.str, .int .i64, .int .i64, .bool, .bool]⟩,
 ⟨.st [(0, 1, false), (1, 1, false), (2, 1, false), (3, 1, false), (4, 1, false)], 5, 40, [.str, .int .i64, .int .i64, .bool, .bool]⟩,
 TI.none,
 ⟨.fn, 1, 8, [.fn]⟩,
 ⟨.fn, 1, 8, [.fn]⟩,
 ⟨.sl 23, 1, 24, [.sl]⟩,
 ⟨.fn, 1, 8, [.fn]⟩,
 ⟨.fn, 1, 8, [.fn]⟩,
 ⟨.fn, 1, 8, [.fn]⟩,
 ⟨.int .u64, 1, 8, [.int .u64]⟩,
 ⟨.fn, 1, 8, [.fn]⟩,
 ⟨.ptr 198, 1, 8, [.ptr]⟩,
 ⟨.fn, 1, 8, [.fn]⟩,
 ⟨.st [(0, 7, true), (7, 1, false)], 8, 88, [.int .i64, .int .i64, .int .i64, .str, .sl, .ptr, .ptr, .bool]⟩,
 ⟨.st [(0, 7, true), (7, 1, false)], 8, 88, [.int .i64, .int .i64, .int .i64, .str, .sl, .ptr, .ptr, .bool]⟩,
 ⟨.st [(0, 1, false), (1, 1, false), (2, 4, true), (6, 1, false), (7, 1, false), (8, 1, false)], 9, 136, [.sl, .bool, .int .i64, .int .i64, .sl, .sl, .ptr, .int .i64, .sl]⟩,
 ⟨.st [(0, 1, false), (1, 1, false), (2, 4, true), (6, 1, false), (7, 1, false), (8, 1, false)], 9, 136, [.sl, .bool, .int .i64, .int .i64, .sl, .sl, .ptr, .int .i64, .sl]⟩,
 ⟨.fn, 1, 8, [.fn]⟩,
 TI.none,
 ⟨.fn, 1, 8, [.fn]⟩,
 ⟨.fn, 1, 8, [.fn]⟩,
 ⟨.fn, 1, 8, [.fn]⟩,
 ⟨.ptr 9, 1, 8, [.ptr]⟩,
 ⟨.fn, 1, 8, [.fn]⟩,
 ⟨.arr 31 157, 155, 1240, (List.replicate 31 [.str, .int .i64, .int .i64, .bool, .bool]).flatten⟩,
 ⟨.fn, 1, 8, [.fn]⟩,
 ⟨.fn, 1, 8, [.fn]⟩,
 ⟨.int .i64, 1, 8, [.int .i64]⟩,
 TI.none,
 ⟨.fn, 1, 8, [.fn]⟩,
 ⟨.fn, 1, 8, [.fn]⟩,
 ⟨.fn, 1, 8, [.fn]⟩,
 ⟨.fn, 1, 8, [.fn]⟩,
 ⟨.fn, 1, 8, [.fn]⟩,
 ⟨.int .u32, 1, 4, [.int .u32]⟩,
 ⟨.fn, 1, 8, [.fn]⟩,
 ⟨.int .u64, 1, 8, [.int .u64]⟩,
 ⟨.fn, 1, 8, [.fn]⟩,
 ⟨.fn, 1, 8, [.fn]⟩,
 TI.none,
 ⟨.fn, 1, 8, [.fn]⟩,
 ⟨.st [(0, 1, false), (1, 1, false), (2, 1, false)], 3, 24, [.int .i64, .ptr, .ptr]⟩,
 ⟨.st [(0, 1, false), (1, 1, false), (2, 1, false)], 3, 24, [.int .i64, .ptr, .ptr]⟩,
 ⟨.fn, 1, 8, [.fn]⟩,
 ⟨.fn, 1, 8, [.fn]⟩,
 ⟨.fn, 1, 8, [.fn]⟩,
 ⟨.fn, 1, 8, [.fn]⟩,
 ⟨.sl 9, 1, 24, [.sl]⟩,
 ⟨.fn, 1, 8, [.fn]⟩,
 ⟨.sl 5, 1, 24, [.sl]⟩,
 ⟨.int .u64, 1, 8, [.int .u64]⟩,
 ⟨.fn, 1, 8, [.fn]⟩,
 ⟨.fn, 1, 8, [.fn]⟩,
 ⟨.fn, 1, 8, [.fn]⟩,
 ⟨.ptr 3, 1, 8, [.ptr]⟩,
 ⟨.fn, 1, 8, [.fn]⟩,
 TI.none,
 ⟨.fn, 1, 8, [.fn]⟩,
 TI.none,
 ⟨.fn, 1, 8, [.fn]⟩,
 TI.none,
 ⟨.fn, 1, 8, [.fn]⟩,
 ⟨.fn, 1, 8, [.fn]⟩,
 ⟨.fn, 1, 8, [.fn]⟩,
 ⟨.fn, 1, 8, [.fn]⟩,
 ⟨.fn, 1, 8, [.fn]⟩,
 ⟨.fn, 1, 8, [.fn]⟩,
 ⟨.arr 256 4, 256, 256, (List.replicate 256 (.bool))⟩,
 ⟨.arr 256 4, 256, 256, (List.replicate 256 (.bool))⟩,
 TI.none,
 ⟨.fn, 1, 8, [.fn]⟩,
 ⟨.fn, 1, 8, [.fn]⟩,
 ⟨.ptr 224, 1, 8, [.ptr]⟩,
 ⟨.fn, 1, 8, [.fn]⟩,
 TI.none,
 ⟨.fn, 1, 8, [.fn]⟩,
 TI.none,
 ⟨.fn, 1, 8, [.fn]⟩,
 ⟨.fn, 1, 8, [.fn]⟩,
 ⟨.ptr 206, 1, 8, [.ptr]⟩,
 ⟨.fn, 1, 8, [.fn]⟩,
 ⟨.fn, 1, 8, [.fn]⟩,
 ⟨.fn, 1, 8, [.fn]⟩,
 ⟨.fn, 1, 8, [.fn]⟩,
 ⟨.fn, 1, 8, [.fn]⟩,
 ⟨.fn, 1, 8, [.fn]⟩,
 TI.none,
 ⟨.fn, 1, 8, [.fn]⟩,
 ⟨.fn, 1, 8, [.fn]⟩,
 TI.none,
 ⟨.fn, 1, 8, [.fn]⟩,
 ⟨.fn, 1, 8, [.fn]⟩,
 ⟨.ifc, 1, 16, [.ifc]⟩,
 ⟨.ifc, 1, 16, [.ifc]⟩,
 TI.none,
 ⟨.fn, 1, 8, [.fn]⟩,
 ⟨.st [(0, 1, false), (1, 1, false), (2, 1, false), (3, 1, false), (4, 1, false)], 5, 40, [.str, .int .i64, .int .i64, .bool, .bool]⟩,
 TI.none,
 ⟨.fn, 1, 8, [.fn]⟩,
 TI.none,
 ⟨.fn, 1, 8, [.fn]⟩,
 ⟨.fn, 1, 8, [.fn]⟩,
 ⟨.fn, 1, 8, [.fn]⟩,
 ⟨.fn, 1, 8, [.fn]⟩,
 ⟨.fn, 1, 8, [.fn]⟩,
 ⟨.fn, 1, 8, [.fn]⟩,
 ⟨.fn, 1, 8, [.fn]⟩,
 ⟨.fn, 1, 8, [.fn]⟩,
 ⟨.fn, 1, 8, [.fn]⟩,
 ⟨.fn, 1, 8, [.fn]⟩,
 TI.none,
 ⟨.fn, 1, 8, [.fn]⟩,
 ⟨.arr 256 5, 256, 256, (List.replicate 256 (.int .u8))⟩,
 ⟨.st [(0, 1, false), (1, 1, false)], 2, 2, [.int .u8, .int .u8]⟩,
 ⟨.st [(0, 1, false), (1, 1, false)], 2, 2, [.int .u8, .int .u8]⟩,
 ⟨.arr 16 270, 32, 32, (List.replicate 32 (.int .u8))⟩,
 ⟨.fn, 1, 8, [.fn]⟩,
 ⟨.fn, 1, 8, [.fn]⟩,
 ⟨.int .i64, 1, 8, [.int .i64]⟩,
 TI.none,
 ⟨.fn, 1, 8, [.fn]⟩,
 ⟨.ptr 287, 1, 8, [.ptr]⟩,
 ⟨.fn, 1, 8, [.fn]⟩,
 ⟨.fn, 1, 8, [.fn]⟩,
 ⟨.fn, 1, 8, [.fn]⟩,
 TI.none,
 ⟨.fn, 1, 8, [.fn]⟩,
 TI.none,
 ⟨.fn, 1, 8, [.fn]⟩,
 ⟨.fn, 1, 8, [.fn]⟩,
 ⟨.st [(0, 1, false), (1, 1, false), (2, 1, false)], 3, 48, [.str, .str, .ifc]⟩,
 ⟨.st [(0, 1, false), (1, 1, false), (2, 1, false)], 3, 48, [.str, .str, .ifc]⟩,
 ⟨.fn, 1, 8, [.fn]⟩,
 ⟨.fn, 1, 8, [.fn]⟩,
 ⟨.ptr 5, 1, 8, [.ptr]⟩,
 ⟨.ptr 293, 1, 8, [.ptr]⟩,
 ⟨.st [(0, 1, false)], 1, 16, [.str]⟩,
 ⟨.st [(0, 1, false)], 1, 16, [.str]⟩,
 ⟨.fn, 1, 8, [.fn]⟩,
 ⟨.arr 24 5, 24, 24, (List.replicate 24 (.int .u8))⟩,
 ⟨.fn, 1, 8, [.fn]⟩,
 TI.none,
 ⟨.fn, 1, 8, [.fn]⟩,
 ⟨.fn, 1, 8, [.fn]⟩,
 ⟨.arr 20 192, 20, 160, (List.replicate 20 (.int .u64))⟩,
 ⟨.arr 65 5, 65, 65, (List.replicate 65 (.int .u8))⟩,
 ⟨.arr 32 5, 32, 32, (List.replicate 32 (.int .u8))⟩,
 ⟨.arr 64 5, 64, 64, (List.replicate 64 (.int .u8))⟩,
 ⟨.fn, 1, 8, [.fn]⟩,
 ⟨.st [(0, 1, false), (1, 1, false), (2, 1, false), (3, 1, false)], 4, 40, [.ptr, .ptr, .ptr, .str]⟩,
 ⟨.st [(0, 1, false), (1, 1, false), (2, 1, false), (3, 1, false)], 4, 40, [.ptr, .ptr, .ptr, .str]⟩,
 TI.none,
 TI.none,
 TI.none,
 ⟨.int .u8, 1, 1, [.int .u8]⟩,
 ⟨.int .u8, 1, 1, [.int .u8]⟩,
 ⟨.fn, 1, 8, [.fn]⟩,
 ⟨.int .i32, 1, 4, [.int .i32]⟩,
 ⟨.int .i32, 1, 4, [.int .i32]⟩,
 ⟨.st [(0, 1, false), (1, 1, false), (2, 1, false), (3, 1, false), (4, 1, false), (5, 1, false), (6, 1, false), (7, 1, false), (8, 1, false), (9, 1, false), (10, 1, false)], 11, 48, [.int .u64, .int .u64, .int .u32, .int .u8, .int .u8, .int .u8, .int .u8, .fn, .ptr, .int .i32, .int .i32]⟩,
 ⟨.st [(0, 1, false), (1, 1, false), (2, 1, false), (3, 1, false), (4, 1, false), (5, 1, false), (6, 1, false), (7, 1, false), (8, 1, false), (9, 1, false), (10, 1, false)], 11, 48, [.int .u64, .int .u64, .int .u32, .int .u8, .int .u8, .int .u8, .int .u8, .fn, .ptr, .int .i32, .int .i32]⟩,
 TI.none]
def tt : Nat → TI := tab tl
theorem tt_ok : TT.ok Tryz.prog tt := tab_ok (l := tl) (by kernel_rfl)
end Go.Cb
namespace Go.Cb
open Go.Proofs
theorem mixed : Tryz.prog.follows .mixedOrders = true := rfl
theorem PStb.of {B : (PV → List Ent → Prop) → Prop} {Γ : List Ent} {k : PV → Prop} (v : PV) (h1 : B (fun p Γ' => PShift p Γ' v Γ)) (h2 : k v) : PStb B Γ k := ⟨v, h1, h2⟩
theorem wrap_of {k : IntKind} {v u : Int} (h : k.wrap v = u) {K : Int → Prop} (hk : K u) : PInt k v K := ⟨h ▸ hk⟩
theorem wrap_u64 {v : Int} (h1 : 0 ≤ v) (h2 : v < 18446744073709551616) : IntKind.u64.wrap v = v := by
 simp only [IntKind.wrap, IntKind.bits, IntKind.signed]
 simp
 omega
theorem PInt.u64 {v : Int} {K : Int → Prop} (h1 : 0 ≤ v) (h2 : v < 18446744073709551616) (k : K v) : PInt .u64 v K := wrap_of (wrap_u64 h1 h2) k
theorem wrap_u64_neg {v : Int} (h1 : -18446744073709551616 ≤ v) (h2 : v < 0) : IntKind.u64.wrap v = v + 18446744073709551616 := by
 simp only [IntKind.wrap, IntKind.bits, IntKind.signed]
 simp
 omega
theorem PInt.u64_neg {v : Int} {K : Int → Prop} (h1 : -18446744073709551616 ≤ v) (h2 : v < 0) (k : K (v + 18446744073709551616)) : PInt .u64 v K := wrap_of (wrap_u64_neg h1 h2) k
theorem wrap_u8 {v : Int} (h1 : 0 ≤ v) (h2 : v < 256) : IntKind.u8.wrap v = v := by
 simp only [IntKind.wrap, IntKind.bits, IntKind.signed]
 simp
 omega
class PickMp (Γ : List Ent) (r : Nat) (d : outParam TypeDesc) (m : outParam (Value → Option PV)) (pend : outParam (List (Int × Value))) (put : outParam ((Value → Option PV) → List (Int × Value) → List Ent)) : Prop where
 at_ : ∃ Γ1 Γ2, Γ = Γ1 ++ .mp r d m pend :: Γ2 ∧ ∀ m' p', put m' p' = Γ1 ++ .mp r d m' p' :: Γ2
instance (priority := high) PickMp.head (Γ : List Ent) (r : Nat) (d : TypeDesc) (m : Value → Option PV) (pend : List (Int × Value)) : PickMp (.mp r d m pend :: Γ) r d m pend (fun m' p' => .mp r d m' p' :: Γ) := ⟨[], Γ, rfl, fun _ _ => rfl⟩
instance PickMp.tail (e : Ent) (Γ : List Ent) (r : Nat) (d : TypeDesc) (m : Value → Option PV) (pend : List (Int × Value)) (put : (Value → Option PV) → List (Int × Value) → List Ent) [h : PickMp Γ r d m pend put] : PickMp (e :: Γ) r d m pend (fun m' p' => e :: put m' p') := by
 obtain ⟨Γ1, Γ2, h1, h2⟩ := h.at_
 exact ⟨e :: Γ1, Γ2, by rw [h1]; rfl, fun m' p' => by rw [h2]; rfl⟩
theorem PLook.at_ {r : Nat} {d : TypeDesc} {k : Value} {z : PV} {Γ : List Ent} {m : Value → Option PV} {pend : List (Int × Value)} {put : (Value → Option PV) → List (Int × Value) → List Ent} [hp : PickMp Γ r d m pend put] {K : PV → Bool → Prop} (y : PV) (b : Bool)
  (hk : IsK d k) (h1 : ∀ p, m k = some p → Wk p y ∧ b = true) (h2 : m k = none → Wk z y ∧ b = false) (h : K y b) : PLook r d (some k) z Γ K := by
 obtain ⟨Γ1, Γ2, e1, _⟩ := hp.at_
 exact ⟨k, m, pend, y, b, rfl, hk, by rw [e1]; simp, h1, h2, h⟩
theorem PMapPut.at_ {r : Nat} {d : TypeDesc} {k : Value} {p : PV} {Γ : List Ent} {m : Value → Option PV} {pend : List (Int × Value)} {put : (Value → Option PV) → List (Int × Value) → List Ent} [hp : PickMp Γ r d m pend put] {K : List Ent → Prop} (m' : Value → Option PV)
  (hk : IsK d k) (h1 : m' k = some p) (h2 : ∀ k', k' ≠ k → m' k' = m k') (h : K (put m' pend)) (hq : m k ≠ none ∨ ∀ q ∈ pend, q.2 ≠ .tuple #[] := by right; simp) : PMapPut r d (some k) p Γ K := by
 obtain ⟨Γ1, Γ2, e1, e2⟩ := hp.at_
 exact ⟨k, m, m', pend, Γ1, Γ2, rfl, hk, e1, h1, h2, hq, by rw [← e2]; exact h⟩
theorem PMapEntry.at_ {r : Nat} {d : TypeDesc} {k : Value} {z : PV} {Γ : List Ent} {m : Value → Option PV} {pend : List (Int × Value)} {put : (Value → Option PV) → List (Int × Value) → List Ent} [hp : PickMp Γ r d m pend put] {K : PV → List Ent → Prop} (m' : Value → Option PV)
  (hk : IsK d k) (h1 : m' k = some ((m k).getD z)) (h2 : ∀ k', k' ≠ k → m' k' = m k') (h : ∀ n, K (.tup [(m k).getD z, .int .i64 n]) (put m' ((n, k) :: pend))) (hq : m k ≠ none ∨ ∀ q ∈ pend, q.2 ≠ .tuple #[] := by right; simp) : PMapEntry r d (some k) z Γ K := by
 obtain ⟨Γ1, Γ2, e1, e2⟩ := hp.at_
 exact ⟨k, m, m', pend, Γ1, Γ2, rfl, hk, e1, h1, h2, hq, fun n => by rw [← e2]; exact h n⟩
theorem PEntryStore.at_ {r : Nat} {d : TypeDesc} {n : Int} {k : Value} {p : PV} {Γ : List Ent} {m : Value → Option PV} {pend : List (Int × Value)} {put : (Value → Option PV) → List (Int × Value) → List Ent} [hp : PickMp Γ r d m ((n, k) :: pend) put] {K : List Ent → Prop} (m' : Value → Option PV)
  (h1 : m' k = some p) (h2 : ∀ k', k' ≠ k → m' k' = m k') (h : K (put m' ((n, k) :: pend))) (hq : k ≠ .tuple #[] := by simp) : PEntryStore r n p Γ K := by
 obtain ⟨Γ1, Γ2, e1, e2⟩ := hp.at_
 exact ⟨d, k, m, m', (n, k) :: pend, Γ1, Γ2, by simp, hq, e1, h1, h2, by rw [← e2]; exact h⟩
theorem PMapDel.at_ {r : Nat} {d : TypeDesc} {k : Value} {Γ : List Ent} {m : Value → Option PV} {pend : List (Int × Value)} {put : (Value → Option PV) → List (Int × Value) → List Ent} [hp : PickMp Γ r d m pend put] {K : List Ent → Prop} (m' : Value → Option PV)
  (hk : IsK d k) (h1 : m' k = none) (h2 : ∀ k', k' ≠ k → m' k' = m k') (h : K (put m' [])) : PMapDel r d (some k) Γ K := by
 obtain ⟨Γ1, Γ2, e1, e2⟩ := hp.at_
 exact ⟨k, m, m', pend, Γ1, Γ2, rfl, hk, e1, h1, h2, by rw [← e2]; exact h⟩
section
variable {P : Program} {tt : Nat → TI}
theorem PSeq.go {ds : List Nat} {a b : Code} {T : List PV} {Γ : List Ent} {D : Ds} {Q : QT} (h : W P tt a T Γ D (seqQ (W P tt b) Q)) : PSeq ds (W P tt a) (W P tt b) T Γ D Q := by
 refine ⟨fun _ _ => False, W_mono _ _ _ _ _ _ ?_ h, fun _ _ h => h.elim⟩
 intro e T' Γ' D' h
 cases e <;> first | exact h | exact .inl h
def lookP : Nat → List (Nat × PV) → Option PV
 | _, [] => none
 | i, (j, x) :: r => match Nat.beq i j with
  | true => some x
  | false => lookP i r
def elemN : Nat → List Nat → Bool
 | _, [] => false
 | i, j :: r => match Nat.beq i j with
  | true => true
  | false => elemN i r
def overT : Nat → List PV → List Nat → List (Nat × PV) → List PV
 | _, [], _, _ => []
 | i, x :: T, ds, ps => (match lookP i ps with
  | some v => v
  | none => match elemN i ds with
   | true => .any
   | false => x) :: overT (i + 1) T ds ps
def overK {q : Sort _} : Nat → List PV → List Nat → List (Nat × PV) → (List PV → q) → q
 | _, [], _, _, k => k []
 | i, x :: T, ds, ps, k => match lookP i ps with
  | some v => overK (i + 1) T ds ps fun r => k (v :: r)
  | none => match elemN i ds with
   | true => overK (i + 1) T ds ps fun r => k (.any :: r)
   | false => overK (i + 1) T ds ps fun r => k (x :: r)
theorem overK_eq {q : Sort _} : ∀ (i : Nat) (T : List PV) (ds : List Nat) (ps : List (Nat × PV)) (k : List PV → q), overK i T ds ps k = k (overT i T ds ps)
 | _, [], _, _, _ => rfl
 | i, x :: T, ds, ps, k => by
  simp only [overK, overT]
  split
  ·exact overK_eq (i + 1) T ds ps _
  ·split <;> exact overK_eq (i + 1) T ds ps _
def maskK {q : Sort _} : Nat → Nat → List (Nat × PV) → (List PV → q) → q
 | _, 0, _, k => k []
 | i, n + 1, [], k => maskK (i + 1) n [] fun r => k (.any :: r)
 | i, n + 1, (j, x) :: ps, k => match Nat.beq i j with
  | true => maskK (i + 1) n ps fun r => k (x :: r)
  | false => maskK (i + 1) n ((j, x) :: ps) fun r => k (.any :: r)
theorem maskK_eq {q : Sort _} : ∀ (i n : Nat) (ps : List (Nat × PV)) (k : List PV → q), maskK i n ps k = k (maskT i n ps)
 | _, 0, _, _ => rfl
 | i, n + 1, [], k => by simp only [maskK, maskT]; exact maskK_eq (i + 1) n [] _
 | i, n + 1, (j, x) :: ps, k => by
  simp only [maskK, maskT]
  cases Nat.beq i j
  ·exact maskK_eq (i + 1) n ((j, x) :: ps) _
  ·exact maskK_eq (i + 1) n ps _
def WkOver : Nat → List PV → List PV → List Nat → List (Nat × PV) → Prop
 | _, [], [], _, _ => True
 | i, x' :: T', x :: T, ds, ps => match lookP i ps with
  | some v => Wk x' v ∧ WkOver (i + 1) T' T ds ps
  | none => match elemN i ds with
   | true => WkOver (i + 1) T' T ds ps
   | false => Wk x' x ∧ WkOver (i + 1) T' T ds ps
 | _, _, _, _, _ => False
theorem WkOver.wk : ∀ (i : Nat) (T' T : List PV) (ds : List Nat) (ps : List (Nat × PV)), WkOver i T' T ds ps → WkT T' (overT i T ds ps)
 | _, [], [], _, _, _ => .nil
 | _, [], _ :: _, _, _, h => by simp [WkOver] at h
 | _, _ :: _, [], _, _, h => by simp [WkOver] at h
 | i, x' :: T', x :: T, ds, ps, h => by
  simp only [WkOver] at h
  simp only [overT]
  split at h
  ·rename_i hv
   exact .cons h.1 (WkOver.wk (i + 1) T' T ds ps h.2)
  ·split at h
   ·exact .cons (Wk.any _) (WkOver.wk (i + 1) T' T ds ps h)
   ·exact .cons h.1 (WkOver.wk (i + 1) T' T ds ps h.2)
structure JoinEnd {τ : Type} (ds : List Nat) (ps : τ → List (Nat × PV)) (G : τ → List Ent) (J : τ → Prop) (T : List PV) (D0 : Ds) (T' : List PV) (Γ : List Ent) (D : Ds) : Prop where
 h : D = D0 ∧ ∃ t, J t ∧ Weak T' Γ (overT 0 T ds (ps t)) (G t)
theorem joinEnd {τ : Type} {ds : List Nat} {ps : τ → List (Nat × PV)} {G : τ → List Ent} {J : τ → Prop} {T T' : List PV} {Γ Γ1 : List Ent} {D : Ds} (t : τ) (hJ : J t) (hw : WkOver 0 T' T ds (ps t)) [hp : PickL Γ (G t) Γ1] : JoinEnd ds ps G J T D T' Γ D :=
 ⟨rfl, t, hJ, Weak.of (WkOver.wk 0 T' T ds (ps t) hw) (Ghost.drop hp.p)⟩
theorem PSeq.join {τ : Type} {ds : List Nat} {a b : Code} {T : List PV} {Γ : List Ent} {D : Ds} {Q : QT} (ps : τ → List (Nat × PV)) (G : τ → List Ent) (J : τ → Prop)
  (h : W P tt a T Γ D (thenQ (JoinEnd ds ps G J T D) Q)) (h2 : ∀ t, J t → overK 0 T ds (ps t) fun T0 => W P tt b T0 (G t) D Q) : PSeq ds (W P tt a) (W P tt b) T Γ D Q := by
 refine ⟨fun T0 Γ0 => ∃ t, J t ∧ T0 = overT 0 T ds (ps t) ∧ Γ0 = G t, W_mono _ _ _ _ _ _ ?_ h, ?_⟩
 ·intro e T' Γ' D' h
  cases e <;> first | exact h | skip
  obtain ⟨h1, t, h3, h4⟩ := h.h
  exact .inr ⟨h1, _, _, h4, t, h3, rfl, rfl⟩
 ·rintro _ _ ⟨t, h1, rfl, rfl⟩
  have := h2 t h1
  rwa [overK_eq] at this
structure LoopEnd {σ : Type} (R : σ → List (Nat × PV)) (G : σ → List Ent) (I : σ → Prop) (μ : σ → Nat) (len : Nat) (s : σ) (D0 : Ds) (T : List PV) (Γ : List Ent) (D : Ds) : Prop where
 h : D = D0 ∧ ∃ s', I s' ∧ μ s' < μ s ∧ Weak T Γ (maskT 0 len (R s')) (G s')
theorem PLoop.by_ {σ : Type} {c : Code} {T : List PV} {Γ Γ1 : List Ent} {D : Ds} {Q : QT} (R : σ → List (Nat × PV)) (G : σ → List Ent) (I : σ → Prop) (μ : σ → Nat) (len : Nat) (s0 : σ)
  (hI : I s0) (hl : lenIs T len = true) (hw : WkMask T 0 (R s0)) [hp : PickL Γ (G s0) Γ1]
  (round : ∀ s, I s → maskK 0 len (R s) fun T0 => W P tt c T0 (G s) D (thenQ (LoopEnd R G I μ len s D) Q)) : PLoop (W P tt c) T Γ D Q := by
 refine ⟨fun n T Γ => ∃ s, I s ∧ n = μ s ∧ T = maskT 0 len (R s) ∧ Γ = G s, fun _ _ _ => False, ⟨μ s0, _, _, Weak.mask (R s0) hl hw (hp := hp), s0, hI, rfl, rfl, rfl⟩, ?_, fun _ _ _ h => h.elim⟩
 rintro n _ _ ⟨s, hs, rfl, rfl, rfl⟩
 have hr := round s hs
 rw [maskK_eq] at hr
 refine W_mono _ _ _ _ _ _ ?_ hr
 intro e T Γ D' h
 cases e <;> first | exact h | exact .inl h | skip
 obtain ⟨h1, s', h2, h3, h4⟩ := h.h
 exact ⟨h1, μ s', _, _, h3, h4, s', h2, rfl, rfl, rfl⟩
structure LoopExit {τ : Type} (R2 : τ → List (Nat × PV)) (G2 : τ → List Ent) (J : τ → Prop) (len : Nat) (D0 : Ds) (T : List PV) (Γ : List Ent) (D : Ds) : Prop where
 h : D = D0 ∧ ∃ t, J t ∧ Weak T Γ (maskT 0 len (R2 t)) (G2 t)
theorem loopNext {σ : Type} {R : σ → List (Nat × PV)} {G : σ → List Ent} {I : σ → Prop} {μ : σ → Nat} {len : Nat} {s : σ} {T : List PV} {Γ Γ1 : List Ent} {D : Ds} (s' : σ) (hI : I s') (hμ : μ s' < μ s) (hl : lenIs T len = true) (hw : WkMask T 0 (R s')) [hp : PickL Γ (G s') Γ1] :
  LoopEnd R G I μ len s D T Γ D := ⟨rfl, s', hI, hμ, Weak.mask (R s') hl hw⟩
end
end Go.Cb
namespace Go.Cb
open Go.Proofs
theorem PGuard.lazy {g : Bool} {E : PV → Prop} {A B : Prop} {L : PV → Prop} {x : PV} (h1 : g = true → E x) (h2 : L (.opt g x)) : PGuard g E A B L := ⟨.inr ⟨x, h1, h2⟩⟩
theorem PGuard.ways {g : Bool} {E : PV → Prop} {A B : Prop} {L : PV → Prop} (h1 : g = true → A) (h2 : g = false → B) : PGuard g E A B L := ⟨.inl ⟨h1, h2⟩⟩
theorem PNeed.of {q : Bool} {K : Prop} (h : q = true) (k : K) : PNeed q K := ⟨h, k⟩
theorem PCond.ways {p : Bool} {A B : Prop} (h1 : p = true → A) (h2 : p = false → B) : PCond p A B := ⟨h1, h2⟩
theorem PSide.of {p K : Prop} (h : p) (k : K) : PSide p K := ⟨h, k⟩
theorem PDiv.of {k : IntKind} {a b : Int} {K : Prop} (h : b ≠ 0) (k' : K) : PDiv k a b K := ⟨h, k'⟩
theorem SS : (∀ (p : Prop) [Decidable p], (decide p = true) = p) ∧ (∀ (p : Prop) [Decidable p], (decide p = false) = ¬ p) ∧ (∀ a b : Int, ((a == b) = true) = (a = b)) ∧ (∀ a b : Int, ((a == b) = false) = ¬ (a = b)) ∧
  (∀ a b : List UInt8, ((a == b) = true) = (a = b)) ∧ (∀ a b : List UInt8, ((a == b) = false) = ¬ (a = b)) ∧ (∀ a b : Int, ((a != b) = true) = ¬ (a = b)) ∧ (∀ a b : Int, ((a != b) = false) = (a = b)) ∧
  (∀ a b : Bool, ((a && b) = true) = (a = true ∧ b = true)) ∧ (∀ a b : Bool, ((a && b) = false) = (a = false ∨ b = false)) ∧ (∀ a b : Bool, ((a || b) = true) = (a = true ∨ b = true)) ∧ (∀ a b : Bool, ((a || b) = false) = (a = false ∧ b = false)) ∧
  (∀ a : Bool, ((!a) = true) = (a = false)) ∧ (∀ a : Bool, ((!a) = false) = (a = true)) ∧ (∀ a b : Int, (¬ a < b) = (b ≤ a)) ∧ (∀ a b : Int, (¬ a ≤ b) = (b < a)) ∧ (∀ a b : Int, (a > b) = (b < a)) ∧ (∀ a b : Int, (a ≥ b) = (b ≤ a)) ∧
  (∀ a : Prop, (¬ ¬ a) = a) ∧ (true = false) = False ∧ (false = true) = False := by
 refine ⟨fun p _ => by simp, fun p _ => by simp, fun a b => by simp, fun a b => by simp, fun a b => by simp, fun a b => by simp, fun a b => by simp, fun a b => by simp, fun a b => by simp, fun a b => by cases a <;> cases b <;> simp,
  fun a b => by simp, fun a b => by simp, fun a => by simp, fun a => by simp, fun a b => by simp, fun a b => by simp, fun a b => rfl, fun a b => rfl, fun a => by simp, by simp, by simp⟩
theorem an1 {a b : Bool} (h : (a && b) = true) : a = true := by simp at h; exact h.1
theorem an2 {a b : Bool} (h : (a && b) = true) : b = true := by simp at h; exact h.2
class CastOf (n : Int) (i : outParam Nat) : Prop where eq : n = (i : Int)
instance (i : Nat) : CastOf (i : Int) i := ⟨rfl⟩
instance : CastOf 0 0 := ⟨rfl⟩
instance : CastOf 1 1 := ⟨rfl⟩
instance : CastOf 2 2 := ⟨rfl⟩
instance : CastOf 3 3 := ⟨rfl⟩
instance (a b : Int) (i j : Nat) [h : CastOf a i] [k : CastOf b j] : CastOf (a + b) (i + j) := ⟨by rw [h.eq, k.eq]; simp⟩
class IdxOf (n : Int) (i : outParam Nat) : Prop where eq : 0 ≤ n → n = (i : Int)
instance (priority := low) (n : Int) : IdxOf n n.toNat := ⟨fun h => by omega⟩
instance (n : Int) (i : Nat) [h : CastOf n i] : IdxOf n i := ⟨fun _ => h.eq⟩
instance (a b : Int) (i j : Nat) [h : CastOf a i] [k : CastOf b j] : IdxOf (a - b) (i - j) := ⟨fun e => by rw [h.eq, k.eq] at *; omega⟩
theorem IdxOf.lt {n : Int} {i : Nat} [x : IdxOf n i] {k : Nat} (h0 : 0 ≤ n) (h1 : n < (k : Int)) : i < k := by have := x.eq h0; omega
theorem PIndexS.ix {s : List UInt8} {k : IntKind} {n : Int} {i : Nat} [x : IdxOf n i] {K : PV → Prop} (h0 : 0 ≤ n) (h1 : n < s.length) (hk : K (.int .u8 (s.getD i 0).toNat)) : PIndexS s (.int k n) K := by
 have hi := IdxOf.lt h0 h1
 have := x.eq h0
 refine ⟨k, n, s.getD i 0, rfl, h0, ?_, hk⟩
 rw [this]
 simp [List.getD, hi]
class CellsOf {α : Type} (f : α → PV) (g : outParam (α → List PV)) : Prop where
 eq : ∀ x, (f x).cellsOf = g x
instance (k : IntKind) : CellsOf (PV.int k) (fun n => [.int k n]) := ⟨fun _ => rfl⟩
instance : CellsOf PV.str (fun s => [.str s]) := ⟨fun _ => rfl⟩
instance : CellsOf PV.bool (fun s => [.bool s]) := ⟨fun _ => rfl⟩
theorem PIndexA.ix {α : Type} {f : α → PV} {g : α → List PV} [c : CellsOf f g] {sz : Nat} {l : List α} {tk : Option Tok} {k : IntKind} {n : Int} {i : Nat} [x : IdxOf n i] {K : PV → Prop} (h0 : 0 ≤ n) (h : n < l.length)
  (hk : K (.ep (g (l[i]'(IdxOf.lt h0 h))))) : PIndexA sz (.sl sz (l.map f) tk) (.int k n) K := by
 have hi := IdxOf.lt h0 h
 have e := x.eq h0
 refine ⟨sz, _, tk, k, _, f l[i], rfl, rfl, h0, ?_, rfl, by rw [c.eq]; exact hk⟩
 rw [e]
 simp [hi]
theorem PIndexA.lit {sz : Nat} {es : List PV} {tk : Option Tok} {k : IntKind} {n : Int} {i : Nat} {e : PV} [x : CastOf n i] {K : PV → Prop} (h : nthP es i = some e) (hk : K (.ep e.cellsOf)) : PIndexA sz (.sl sz es tk) (.int k n) K := by
 have e1 := x.eq
 refine ⟨sz, _, tk, k, _, e, rfl, rfl, by omega, ?_, rfl, hk⟩
 rw [e1, ← h, nthP_eq]; rfl
theorem PLen.map {α : Type} {f : α → PV} {l : List α} {K : Nat → Prop} (h : l.length ≤ 9223372036854775807 → K l.length) : PLen (l.map f) K := ⟨by rw [List.length_map]; exact h⟩
theorem PSliceS.lo {s : List UInt8} {k : IntKind} {n : Int} {i : Nat} [x : IdxOf n i] {K : PV → Prop} (h0 : 0 ≤ n) (h : n ≤ s.length) (hk : K (.str (s.drop i))) : PSliceS s (some (.int k n)) none K :=
 ⟨i, s.length, rfl, x.eq h0, by have := x.eq h0; omega, Nat.le_refl _, by rw [List.take_length]; exact hk⟩
theorem PSliceS.hi {s : List UInt8} {k : IntKind} {n : Int} {i : Nat} [x : IdxOf n i] {K : PV → Prop} (h0 : 0 ≤ n) (h : n ≤ s.length) (hk : K (.str (s.take i))) : PSliceS s none (some (.int k n)) K :=
 ⟨0, i, x.eq h0, rfl, by omega, by have := x.eq h0; omega, hk⟩
theorem PSliceL.lo {s : Nat} {α : Type} {f : α → PV} {es : List α} {k : IntKind} {n : Int} {i : Nat} [x : IdxOf n i] {K : PV → Prop} (h0 : 0 ≤ n) (h : n ≤ es.length) (hk : K (.sl s ((es.drop i).map f) none)) : PSliceL s (es.map f) (some (.int k n)) none K :=
 ⟨i, _, rfl, x.eq h0, by have := x.eq h0; simp; omega, Nat.le_refl _, by rw [List.take_length, ← List.map_drop]; exact hk⟩
theorem PSliceL.hi {s : Nat} {α : Type} {f : α → PV} {es : List α} {k : IntKind} {n : Int} {i : Nat} [x : IdxOf n i] {K : PV → Prop} (h0 : 0 ≤ n) (h : n ≤ es.length) (hk : K (.sl s ((es.take i).map f) none)) : PSliceL s (es.map f) none (some (.int k n)) K :=
 ⟨0, i, x.eq h0, rfl, by omega, by have := x.eq h0; simp; omega, by rw [List.drop_zero, ← List.map_take]; exact hk⟩
class KRange (k : IntKind) (lo hi : outParam Int) : Prop where eq : ∀ v, lo ≤ v → v ≤ hi → k.wrap v = v
instance : KRange .i64 (-9223372036854775808) 9223372036854775807 := ⟨fun v h1 h2 => by rw [IntKind.wrap_i64]; omega⟩
instance : KRange .u64 0 18446744073709551615 := ⟨fun v h1 h2 => wrap_u64 h1 (by omega)⟩
instance : KRange .u8 0 255 := ⟨fun v h1 h2 => wrap_u8 h1 (by omega)⟩
theorem PInt.ok {k : IntKind} {lo hi v : Int} [x : KRange k lo hi] {K : Int → Prop} (h1 : lo ≤ v) (h2 : v ≤ hi) (hk : K v) : PInt k v K := wrap_of (x.eq v h1 h2) hk
section
variable {P : Program} {tt : Nat → TI}
structure LoopTo {σ : Type} (ds : List Nat) (R : σ → List (Nat × PV)) (G : σ → List Ent) (I : σ → Prop) (μ : σ → Nat) (T0 : List PV) (s : σ) (D0 : Ds) (T : List PV) (Γ : List Ent) (D : Ds) : Prop where
 h : D = D0 ∧ ∃ s', I s' ∧ μ s' < μ s ∧ Weak T Γ (overT 0 T0 ds (R s')) (G s')
theorem PLoop.over {σ : Type} {c : Code} {T : List PV} {Γ Γ1 : List Ent} {D : Ds} {Q : QT} (ds : List Nat) (R : σ → List (Nat × PV)) (G : σ → List Ent) (I : σ → Prop) (μ : σ → Nat) (s0 : σ)
  (hI : I s0) (hw : WkOver 0 T T ds (R s0)) [hp : PickL Γ (G s0) Γ1]
  (round : ∀ s, I s → overK 0 T ds (R s) fun T0 => W P tt c T0 (G s) D (thenQ (LoopTo ds R G I μ T s D) Q)) : PLoop (W P tt c) T Γ D Q := by
 refine ⟨fun n T' Γ => ∃ s, I s ∧ n = μ s ∧ T' = overT 0 T ds (R s) ∧ Γ = G s, fun _ _ _ => False, ⟨μ s0, _, _, Weak.of (WkOver.wk 0 T T ds (R s0) hw) (Ghost.drop hp.p), s0, hI, rfl, rfl, rfl⟩, ?_, fun _ _ _ h => h.elim⟩
 rintro n _ _ ⟨s, hs, rfl, rfl, rfl⟩
 have hr := round s hs
 rw [overK_eq] at hr
 refine W_mono _ _ _ _ _ _ ?_ hr
 intro e T' Γ D' h
 cases e <;> first | exact h | exact .inl h | skip
 obtain ⟨h1, s', h2, h3, h4⟩ := h.h
 exact ⟨h1, μ s', _, _, h3, h4, s', h2, rfl, rfl, rfl⟩
theorem loopTo {σ : Type} {ds : List Nat} {R : σ → List (Nat × PV)} {G : σ → List Ent} {I : σ → Prop} {μ : σ → Nat} {T0 : List PV} {s : σ} {T : List PV} {Γ Γ1 : List Ent} {D : Ds} (s' : σ) (hI : I s') (hμ : μ s' < μ s)
  (hw : WkOver 0 T T0 ds (R s')) [hp : PickL Γ (G s') Γ1] : LoopTo ds R G I μ T0 s D T Γ D := ⟨rfl, s', hI, hμ, Weak.of (WkOver.wk 0 T T0 ds (R s') hw) (Ghost.drop hp.p)⟩
theorem PLoop.keep {σ : Type} {c : Code} {T : List PV} {Γ : List Ent} {D : Ds} {Q : QT} (ds : List Nat) (R : σ → List (Nat × PV)) (I : σ → Prop) (μ : σ → Nat) (s0 : σ)
  (hI : I s0) (hw : WkOver 0 T T ds (R s0))
  (round : ∀ s, I s → overK 0 T ds (R s) fun T0 => W P tt c T0 Γ D (thenQ (LoopTo ds R (fun _ => Γ) I μ T s D) Q)) : PLoop (W P tt c) T Γ D Q :=
 PLoop.over (hp := ⟨by rw [List.append_nil]⟩) (Γ1 := []) ds R (fun _ => Γ) I μ s0 hI hw round
structure LoopOut {τ : Type} (ds : List Nat) (R2 : τ → List (Nat × PV)) (G2 : τ → List Ent) (J : τ → Prop) (T0 : List PV) (D0 : Ds) (T : List PV) (Γ : List Ent) (D : Ds) : Prop where
 h : D = D0 ∧ ∃ t, J t ∧ Weak T Γ (overT 0 T0 ds (R2 t)) (G2 t)
theorem PSeq.keep {τ : Type} {ds : List Nat} {a b : Code} {T : List PV} {Γ : List Ent} {D : Ds} {Q : QT} (ps : τ → List (Nat × PV)) (J : τ → Prop)
  (h : W P tt a T Γ D (thenQ (JoinEnd ds ps (fun _ => Γ) J T D) Q)) (h2 : ∀ t, J t → overK 0 T ds (ps t) fun T0 => W P tt b T0 Γ D Q) : PSeq ds (W P tt a) (W P tt b) T Γ D Q :=
 PSeq.join ps (fun _ => Γ) J h h2
theorem PLoad.all {Γ : List Ent} {b : Nat} {all : List PV} {put : List PV → List Ent} [hp : PickBox Γ b all put] {n : Nat} {K : PV → Prop} (hl : all.length = n) (k : K (.agg all)) : PLoad true n (.ptr b 0) Γ K := by
 obtain ⟨Γ1, Γ2, h1, _⟩ := hp.at_
 exact ⟨all, ⟨all, by rw [h1]; simp, by omega, by rw [List.drop_zero, ← hl, List.take_length]⟩, k⟩
theorem PLoad.cell {Γ : List Ent} {b o : Nat} {all : List PV} {put : List PV → List Ent} [hp : PickBox Γ b all put] {K : PV → Prop} (c : PV) (hl : all[o]? = some c) (k : K c) : PLoad false 1 (.ptr b o) Γ K := by
 obtain ⟨Γ1, Γ2, h1, _⟩ := hp.at_
 have ho : o < all.length := (List.getElem?_eq_some_iff.1 hl).1
 refine ⟨[c], ⟨all, by rw [h1]; simp, by omega, ?_⟩, k⟩
 rw [List.drop_eq_getElem_cons ho]
 have := (List.getElem?_eq_some_iff.1 hl).2
 simp [this]
theorem PStore.cell {Γ : List Ent} {b o : Nat} {all : List PV} {put : List PV → List Ent} [hp : PickBox Γ b all put] {x : PV} {K : List Ent → Prop} (ho : o < all.length) (hx : x.cellsOf = [x]) (hc : x.cellular = true) (k : K (put (all.set o x))) : PStore 1 (.ptr b o) x Γ K := by
 obtain ⟨Γ1, Γ2, h1, h2⟩ := hp.at_
 refine ⟨by rw [hx]; rfl, hc, [x], fun F vs h => by rwa [hx] at h, rfl, .inl ⟨b, o, all, Γ1, Γ2, rfl, h1, by omega, ?_⟩⟩
 rw [h2] at k
 rw [List.set_eq_take_append_cons_drop, if_pos ho] at k
 simpa using k
theorem PStore.all {Γ : List Ent} {b n : Nat} {all : List PV} {put : List PV → List Ent} [hp : PickBox Γ b all put] {xs : List PV} {K : List Ent → Prop} (hl : all.length = n) (hx : xs.length = n) (k : K (put xs)) : PStore n (.ptr b 0) (.agg xs) Γ K := by
 obtain ⟨Γ1, Γ2, h1, h2⟩ := hp.at_
 refine ⟨hx, rfl, xs, fun F vs h => h, hx, .inl ⟨b, 0, all, Γ1, Γ2, rfl, h1, by omega, ?_⟩⟩
 rw [h2] at k
 rw [List.drop_of_length_le (by omega)]
 simpa [PV.cellsOf] using k
def fstDst (ops : Array Oper) : Option Nat := match ops.toList with
 | [] => none
 | o :: _ => o.dst
theorem PDraw.at_ {ops : Array Oper} {T : List PV} {Γ Γ2 : List Ent} {K : List PV → List Ent → Prop} (d : Option Nat) (hd : fstDst ops = d) (hk : TT.ok P tt) (hm : P.follows .mixedOrders = true) (tab A R1 R2 : List Nat) (Γ1 : List Ent)
  (hchk : splitB ops tab A R1 R2 = true) [hp : PickL Γ Γ1 Γ2]
  (h : SSeq P tt ops.toList (pickO ops.toList A) T Γ2 fun T' => WOps P tt ops.toList (pickO ops.toList R1) T' Γ1 [] fun T2 Γ1' _ => appE Γ1' Γ2 fun Γ' => WOps P tt ops.toList (pickO ops.toList R2) T2 Γ' [] fun T' Γ' _ => K T' Γ') : PDraw P ops T Γ K :=
 PDraw.split hk hm tab A R1 R2 Γ1 hchk h
theorem PCall.same {f : FuncId} {args args' : List PV} {Γ : List Ent} {Q K : PV → List Ent → Prop} (h : ACall P f args' Γ Q) (hw : WkT args args') (k : ∀ y Γ', Q y Γ' → K y Γ') : PCall P f args Γ K := ⟨.inl ((h.wk hw).mono k)⟩
theorem PCall.go {f : FuncId} {args args' : List PV} {Γ Γ1 Γ2 : List Ent} {Q K : PV → List Ent → Prop} (h : ACall P f args' Γ1 Q) (hw : WkT args args') [hp : PickL Γ Γ1 Γ2]
  (k : ∀ y Γ1', Q y Γ1' → appE Γ1' Γ2 fun Γ' => K y Γ') : PCall P f args Γ K := PCall.gen h hw (hp := hp) fun y Γ1' hq => by have := k y Γ1' hq; rwa [appE_eq] at this
theorem PCall.read {f : FuncId} {args args' : List PV} {v : PV} {Γ Γ1 Γ2 : List Ent} {K : PV → List Ent → Prop} (h : ACall P f args' Γ1 fun y Γ' => y = v ∧ Γ' = Γ1) (hw : WkT args args') [hp : PickL Γ Γ1 Γ2] (k : K v Γ) : PCall P f args Γ K := by
 refine ⟨.inl ⟨h.1, fun w0 F M w vs hS hT => ?_⟩⟩
 have hS' : Sim w0 F (Γ1 ++ (Γ2 ++ M)) w := by
  have := hS.perm (hp.p.append_right M)
  simpa using this
 refine (h.2 w0 F (Γ2 ++ M) w vs hS' (hw.rep hT)).mono ?_
 rintro e w' ⟨v', F', y, Γ', e1, e2, e3, e4, hv, hg⟩
 subst hv
 rw [hg] at e3
 refine ⟨v', F', _, Γ, e1, e2, ?_, e4, k⟩
 have h2 : Sim w0 F' ((Γ1 ++ Γ2) ++ M) w' := by simpa using e3
 exact h2.perm (hp.p.symm.append_right M)
theorem PIndexR.ix {n sz b o : Nat} {k : IntKind} {m : Int} {i : Nat} [x : IdxOf m i] {K : PV → Prop} (hs : sz = 1) (h0 : 0 ≤ m) (hm : m < n) (hk : K (.ptr b (o + i))) : PIndexR n sz (.ptr b o) (.int k m) K := by
 have := x.eq h0
 refine ⟨b, o, k, m, rfl, rfl, h0, hm, ?_⟩
 subst hs this
 simpa using hk
instance : CellsOf (fun b : UInt8 => PV.int .u8 (b.toNat : Int)) (fun b => [.int .u8 (b.toNat : Int)]) := ⟨fun _ => rfl⟩
instance PickL.self (Γ : List Ent) : PickL Γ Γ [] := ⟨by rw [List.append_nil]⟩
theorem Ghost.nil (s : Nat) (e : TypeId) (Γ : List Ent) : Ghost Γ (.tok (nilTok s e) :: Γ) := fun w0 F M w hS => ⟨F, Fz.le_refl F, hS.nilTok s e⟩
theorem Ghost.nilRow (s : Nat) (e : TypeId) (Γ : List Ent) : Ghost Γ (.row (nilTok s e) [] :: Γ) := fun w0 F M w hS => ⟨F, Fz.le_refl F, hS.nilRow s e⟩
theorem Wk.nilRow (s : Nat) (e : TypeId) : Wk .nil (.ms (nilTok s e)) := fun F v r => by
 simp only [Rep] at r ⊢
 exact ⟨r, rfl⟩
theorem Wk.nilTok (s : Nat) (e : TypeId) : Wk .nil (.sl s [] (some (nilTok s e))) := fun F v r => by
 simp only [Rep] at r ⊢
 exact ⟨fun t ht => by cases ht; exact ⟨r, rfl, rfl⟩, .inl ⟨r, trivial⟩⟩
theorem Ghost.refl (Γ : List Ent) : Ghost Γ Γ := fun w0 F M w hS => ⟨F, Fz.le_refl F, hS⟩
theorem Ghost.trans {Γ Γ' Γ2 : List Ent} (h : Ghost Γ Γ') (k : Ghost Γ' Γ2) : Ghost Γ Γ2 := fun w0 F M w hS => by
 obtain ⟨F1, a1, a2⟩ := h w0 F M w hS
 obtain ⟨F2, b1, b2⟩ := k w0 F1 M w a2
 exact ⟨F2, Fz.le_trans a1 b1, b2⟩
theorem Ghost.pick {Γ Γ' Γ1 : List Ent} [hp : PickL Γ Γ' Γ1] : Ghost Γ Γ' := Ghost.drop hp.p
theorem Ghost.box {Γ Γ1 : List Ent} {b : Nat} {cs cs' : List PV} [hp : PickE Γ (.box b cs) Γ1] (h : WkL cs cs') : Ghost Γ (.box b cs' :: Γ1) := fun w0 F M w hS => by
 have hS' := hS.perm (hp.p.append_right M)
 have hS' : Sim w0 F (.box b cs :: (Γ1 ++ M)) w := by simpa using hS'
 refine ⟨F, Fz.le_refl F, ⟨hS'.below, hS'.fz, fun x hx => ?_, ?_⟩⟩
 ·rcases List.mem_cons.1 hx with rfl | hx
  ·obtain ⟨h1, ⟨vs, el, h2, h3⟩, h4⟩ := hS'.ent _ (List.mem_cons_self ..)
   exact ⟨h1, ⟨vs, el, h2, h.rep h3⟩, h4⟩
  ·exact hS'.ent x (List.mem_cons_of_mem _ hx)
 ·have := List.pairwise_cons.1 hS'.sep
  exact List.pairwise_cons.2 ⟨this.1, this.2⟩
theorem ACall.ghost {f : FuncId} {args : List PV} {Γ Γ' : List Ent} {Q : PV → List Ent → Prop} (hg : Ghost Γ Γ') (h : ACall P f args Γ' Q) : ACall P f args Γ Q :=
 ⟨h.1, fun w0 F M w vs hS hT => by
  obtain ⟨F1, a1, a2⟩ := hg w0 F M w hS
  refine (h.2 w0 F1 M w vs a2 (RepT.mono a1 _ _ hT)).mono ?_
  rintro e w' ⟨v, F', y, Γ2, e1, e2, e3⟩
  exact ⟨v, F', y, Γ2, e1, Fz.le_trans a1 e2, e3⟩⟩
theorem PCall.ghost {f : FuncId} {args : List PV} {Γ Γ' : List Ent} {K : PV → List Ent → Prop} (hg : Ghost Γ Γ') (h : ACall P f args Γ' K) : PCall P f args Γ K := ⟨.inl (ACall.ghost hg h)⟩
theorem PAppend.one {α : Type} {f : α → PV} {l : List α} {s by_ : Nat} {e : TypeId} {y : PV} {t : Tok} {Γ : List Ent} {put : Tok → List Ent} [hp : PickTok Γ t put] {K : PV → List Ent → Prop} (v : α) (he : t.e = e) (hy : Wk y (.sl s [f v] none))
  (h1 : l.length + 1 ≤ 281474976710655) (h2 : (l.length + 1) * by_ ≤ 140737488355328)
  (k : ∀ t' : Tok, t'.e = e → K (.sl s ((l ++ [v]).map f) (some t')) (put t')) : PAppend s by_ e (.sl s (l.map f) (some t)) y Γ K := by
 obtain ⟨Γ1, Γ2, e1, e2⟩ := hp.at_
 refine ⟨l.map f, [f v], .inl ⟨none, hy⟩, by simpa using h1, by simpa using h2, .inr (.inl ⟨t, Γ1, Γ2, rfl, e1, he, fun t' ht => ?_⟩)⟩
 have := k t' ht
 rw [List.map_append, e2] at this
 exact this
theorem PAppend.list {α : Type} {f : α → PV} {l m : List α} {s by_ : Nat} {e : TypeId} {tk : Option Tok} {t : Tok} {Γ : List Ent} {put : Tok → List Ent} [hp : PickTok Γ t put] {K : PV → List Ent → Prop} (he : t.e = e)
  (h1 : l.length + m.length ≤ 281474976710655) (h2 : (l.length + m.length) * by_ ≤ 140737488355328)
  (k : ∀ t' : Tok, t'.e = e → K (.sl s ((l ++ m).map f) (some t')) (put t')) : PAppend s by_ e (.sl s (l.map f) (some t)) (.sl s (m.map f) tk) Γ K := by
 obtain ⟨Γ1, Γ2, e1, e2⟩ := hp.at_
 refine ⟨l.map f, m.map f, .inl ⟨tk, Wk.refl _⟩, by simpa using h1, by simpa using h2, .inr (.inl ⟨t, Γ1, Γ2, rfl, e1, he, fun t' ht => ?_⟩)⟩
 have := k t' ht
 rw [List.map_append, e2] at this
 exact this
class PickRow (Γ : List Ent) (t : Tok) (es : outParam (List PV)) (put : outParam (Tok → List PV → List Ent)) : Prop where
 at_ : ∃ Γ1 Γ2, Γ = Γ1 ++ .row t es :: Γ2 ∧ ∀ t' es', put t' es' = Γ1 ++ .row t' es' :: Γ2
instance (priority := high) PickRow.head (Γ : List Ent) (t : Tok) (es : List PV) : PickRow (.row t es :: Γ) t es (fun t' es' => .row t' es' :: Γ) := ⟨[], Γ, rfl, fun _ _ => rfl⟩
instance PickRow.tail (e : Ent) (Γ : List Ent) (t : Tok) (es : List PV) (put : Tok → List PV → List Ent) [h : PickRow Γ t es put] : PickRow (e :: Γ) t es (fun t' es' => e :: put t' es') := by
 obtain ⟨Γ1, Γ2, h1, h2⟩ := h.at_
 exact ⟨e :: Γ1, Γ2, by rw [h1]; rfl, fun t' es' => by rw [h2]; rfl⟩
theorem PLenM.at_ {Γ : List Ent} {t : Tok} {es : List PV} {put : Tok → List PV → List Ent} [hp : PickRow Γ t es put] {K : Nat → Prop} (k : es.length ≤ 9223372036854775807 → K es.length) : PLenM t Γ K := by
 obtain ⟨Γ1, Γ2, h1, _⟩ := hp.at_
 exact ⟨es, by rw [h1]; simp, k⟩
theorem PLenM.map {α : Type} {f : α → PV} {l : List α} {Γ : List Ent} {t : Tok} {put : Tok → List PV → List Ent} [hp : PickRow Γ t (l.map f) put] {K : Nat → Prop} (k : l.length ≤ 9223372036854775807 → K l.length) : PLenM t Γ K :=
 PLenM.at_ (hp := hp) (by simpa using k)
theorem PIndexM.at_ {sz : Nat} {Γ : List Ent} {t : Tok} {es : List PV} {put : Tok → List PV → List Ent} [hp : PickRow Γ t es put] {k : IntKind} {n : Int} {i : Nat} [x : IdxOf n i] {K : PV → Prop} (hs : t.s = sz) (h0 : 0 ≤ n) (hl : i < es.length) (hk : K (.rp t i 0)) : PIndexM sz t (.int k n) Γ K := by
 obtain ⟨Γ1, Γ2, h1, _⟩ := hp.at_
 have e := x.eq h0
 refine ⟨es, k, n, rfl, by rw [h1]; simp, h0, by omega, hs, ?_⟩
 rw [e]; exact hk
theorem PLoad.row {α : Type} {f : α → PV} {c : α → List PV} [hc : CellsOf f c] {l : List α} {Γ : List Ent} {t : Tok} {put : Tok → List PV → List Ent} [hp : PickRow Γ t (l.map f) put] {agg : Bool} {i o n : Nat} {K : PV → Prop} (hi : i < l.length)
  (hl : Nat.ble (o + n) (c l[i]).length = true) (k : dropK (c l[i]) o fun r => takeK r n fun cs => mkvK agg cs K) : PLoad agg n (.rp t i o) Γ K := by
 obtain ⟨Γ1, Γ2, h1, _⟩ := hp.at_
 simp only [dropK_eq, takeK_eq] at k
 have hce : (f l[i]).cellsOf = c l[i] := hc.eq _
 exact ⟨_, ⟨l.map f, f l[i], by rw [h1]; simp, by simp [hi], by rw [hce]; exact Nat.le_of_ble_eq_true hl, rfl⟩, by rw [hce]; exact k⟩
theorem PStore.row {α : Type} {f : α → PV} {c : α → List PV} [hc : CellsOf f c] {l : List α} {Γ : List Ent} {t : Tok} {put : Tok → List PV → List Ent} [hp : PickRow Γ t (l.map f) put] {i o n : Nat} {x : PV} {K : List Ent → Prop} (v : α) (hi : i < l.length)
  (hl : Nat.ble (o + n) (c l[i]).length = true) (hx : lenIs x.cellsOf n = true) (hcl : x.cellular = true) {xs : List PV} (hw : WkL x.cellsOf xs) (hv : c v = (c l[i]).take o ++ xs ++ (c l[i]).drop (o + n))
  (k : K (put t ((l.set i v).map f))) : PStore n (.rp t i o) x Γ K := by
 obtain ⟨Γ1, Γ2, h1, h2⟩ := hp.at_
 have hce : ∀ y, (f y).cellsOf = c y := hc.eq
 rw [h2] at k
 refine ⟨lenIs_iff hx, hcl, xs, fun F vs h => hw.rep h, by rw [← hw.length]; exact lenIs_iff hx, .inr ⟨t, i, o, l.map f, f l[i], f v, Γ1, Γ2, rfl, h1, by simp [hi], by rw [hce]; exact Nat.le_of_ble_eq_true hl, by rw [hce, hce]; exact hv, ?_⟩⟩
 rw [List.map_set] at k
 exact k
theorem PAppend.rowList {α : Type} {f : α → PV} {l m : List α} {s by_ : Nat} {e : TypeId} {y : PV} {t : Tok} {Γ : List Ent} {put : Tok → List PV → List Ent} [hp : PickRow Γ t (l.map f) put] {K : PV → List Ent → Prop} (he : t.e = e) (hs : t.s = s) (hy : Wk y (.sl s (m.map f) none))
  (h1 : l.length + m.length ≤ 281474976710655) (h2 : (l.length + m.length) * by_ ≤ 140737488355328)
  (k : ∀ t' : Tok, t'.e = e → t'.s = s → K (.ms t') (put t' ((l ++ m).map f))) : PAppend s by_ e (.ms t) y Γ K := by
 obtain ⟨Γ1, Γ2, e1, e2⟩ := hp.at_
 refine ⟨l.map f, m.map f, .inl ⟨none, hy⟩, by simpa using h1, by simpa using h2, .inr (.inr ⟨t, Γ1, Γ2, rfl, e1, he, hs, fun t' ht hs' => ?_⟩)⟩
 have := k t' ht hs'
 rw [List.map_append, e2] at this
 exact this
theorem PAppend.nilRow {α : Type} {f : α → PV} {m : List α} {s by_ : Nat} {e : TypeId} {y : PV} {Γ : List Ent} {K : PV → List Ent → Prop} (hy : Wk y (.sl s (m.map f) none))
  (h1 : m.length ≤ 281474976710655) (h2 : m.length * by_ ≤ 140737488355328)
  (k : ∀ t : Tok, t.e = e → t.s = s → K (.ms t) (.row t (m.map f) :: Γ)) : PAppend s by_ e .nil y Γ K :=
 ⟨[], m.map f, .inl ⟨none, hy⟩, by simpa using h1, by simpa using h2, .inl ⟨rfl, rfl, .inr k⟩⟩
theorem PMake.row {s by_ : Nat} {e : TypeId} {z : PV} {k k' : IntKind} {m p : Int} {K : PV → Ent → Prop} (h1 : 0 ≤ m) (h2 : m ≤ p) (h3 : p ≤ 140737488355328) (h4 : p * by_ ≤ 140737488355328) (h5 : lenIs z.cellsOf s = true)
  (h : ∀ t : Tok, t.e = e → t.s = s → K (.ms t) (.row t (List.replicate m.toNat z))) : PMake s by_ e z (.int k m) (.int k' p) K :=
 ⟨k, k', m, p, rfl, rfl, h1, h2, h3, h4, lenIs_iff h5, .inr h⟩
def WkF (t : Tok) (es : List PV) (x y : PV) : Prop := ∀ F v, Rep F (.sl t.s es (some t)) t.v → Rep F x v → Rep F y v
inductive WkFT (t : Tok) (es : List PV) : List PV → List PV → Prop
 | nil : WkFT t es [] []
 | cons {x y : PV} {xs ys : List PV} : WkF t es x y → WkFT t es xs ys → WkFT t es (x :: xs) (y :: ys)
theorem WkF.of {t : Tok} {es : List PV} {x y : PV} (h : Wk x y) : WkF t es x y := fun F v _ r => h F v r
theorem WkF.ms' {t : Tok} {es : List PV} {s : Nat} (hs : t.s = s) : WkF t es (.ms t) (.sl s es none) := fun F v h r => by
 simp only [Rep] at r
 rw [r.1, ← hs]
 exact (Wk.tok _ _ _) F _ h
theorem WkFT.rep {t : Tok} {es : List PV} {F : Fz} (hF : Rep F (.sl t.s es (some t)) t.v) : ∀ {xs ys : List PV} {vs : List Value}, WkFT t es xs ys → RepT F xs vs → RepT F ys vs
 | _, _, [], .nil, h => h
 | _, _, _ :: _, .nil, h => h
 | _, _, [], .cons _ _, h => by simp only [RepT] at h
 | _, _, v :: vs, .cons h1 h2, h => by
  simp only [RepT] at h ⊢
  exact ⟨h1 _ _ hF h.1, WkFT.rep hF h2 h.2⟩
theorem WkFT.repL {t : Tok} {es : List PV} {F : Fz} (hF : Rep F (.sl t.s es (some t)) t.v) : ∀ {xs ys : List PV} {vs : List Value}, WkFT t es xs ys → RepL F xs vs → RepL F ys vs
 | _, _, [], .nil, h => h
 | _, _, _ :: _, .nil, h => h
 | _, _, [], .cons _ _, h => by simp only [RepL] at h
 | _, _, v :: vs, .cons h1 h2, h => by
  simp only [RepL] at h ⊢
  exact ⟨⟨h.1.1, h1 _ _ hF h.1.2⟩, WkFT.repL hF h2 h.2⟩
theorem WkF.agg {t : Tok} {es xs ys : List PV} (h : WkFT t es xs ys) : WkF t es (.agg xs) (.agg ys) := fun F v hF r => by
 simp only [Rep] at r ⊢
 obtain ⟨vs, h1, h2⟩ := r
 exact ⟨vs, h1, h.repL hF h2⟩
theorem WkF.trans {t : Tok} {es : List PV} {x y z : PV} (h : WkF t es x y) (k : Wk y z) : WkF t es x z := fun F v hF r => k F v (h F v hF r)
theorem Shift.freezeRow {t : Tok} {es : List PV} {x y : PV} {Γ Γ1 : List Ent} [hp : PickE Γ (.row t es) Γ1] (h : WkF t es x y) : Shift x Γ y (.tok t :: Γ1) := fun w0 F M w v hS hx => by
 have hS' : Sim w0 F (.row t es :: (Γ1 ++ M)) w := by simpa using hS.perm (hp.p.append_right M)
 obtain ⟨F', h1, h2, h3⟩ := hS'.freezeRow
 exact ⟨F', h1, h2, h F' v h3 (Rep.mono h1 _ _ hx)⟩
theorem Weak.trans {T T' T2 : List PV} {Γ Γ' Γ2 : List Ent} (h : Weak T Γ T' Γ') (k : Weak T' Γ' T2 Γ2) : Weak T Γ T2 Γ2 := fun w0 F M w vs hS hT => by
 obtain ⟨F1, a1, a2, a3⟩ := h w0 F M w vs hS hT
 obtain ⟨F2, b1, b2, b3⟩ := k w0 F1 M w vs a2 a3
 exact ⟨F2, Fz.le_trans a1 b1, b2, b3⟩
theorem Ghost.freezeRow {t : Tok} {es : List PV} {b : Nat} {cs cs' : List PV} {Γ Γ1 Γ2 : List Ent} [hp : PickE Γ (.row t es) Γ1] [hq : PickE Γ1 (.box b cs) Γ2] (h : WkFT t es cs cs') : Ghost Γ (.box b cs' :: .tok t :: Γ2) := fun w0 F M w hS => by
 have hS' : Sim w0 F (.row t es :: (Γ1 ++ M)) w := by simpa using hS.perm (hp.p.append_right M)
 obtain ⟨F', h1, h2, h3⟩ := hS'.freezeRow
 have h4 : Sim w0 F' (.box b cs :: (.tok t :: (Γ2 ++ M))) w := by
  have hpp : (.tok t :: (Γ1 ++ M)).Perm (.box b cs :: (.tok t :: (Γ2 ++ M))) := by
   have := (hq.p.append_right M).cons (.tok t)
   exact this.trans (List.Perm.swap _ _ _)
  exact h2.perm hpp
 refine ⟨F', h1, ⟨h4.below, h4.fz, fun x hx => ?_, ?_⟩⟩
 ·rcases List.mem_cons.1 (by simpa using hx : x ∈ .box b cs' :: (.tok t :: (Γ2 ++ M))) with rfl | hx
  ·obtain ⟨k1, ⟨vs, el, k2, k3⟩, k4⟩ := h4.ent _ (List.mem_cons_self ..)
   exact ⟨k1, ⟨vs, el, k2, h.repL h3 k3⟩, k4⟩
  ·exact h4.ent x (List.mem_cons_of_mem _ hx)
 ·have := List.pairwise_cons.1 h4.sep
  exact List.pairwise_cons.2 ⟨this.1, this.2⟩
theorem ACall.shift {f : FuncId} {args : List PV} {Γ : List Ent} {Q Q' : PV → List Ent → Prop} (h : ACall P f args Γ Q) (hq : ∀ y Γ', Q y Γ' → ∃ y2 Γ2, Shift y Γ' y2 Γ2 ∧ Q' y2 Γ2) : ACall P f args Γ Q' :=
 ⟨h.1, fun w0 F M w vs hS hT => (h.2 w0 F M w vs hS hT).mono fun _ _ ⟨v, F', y, Γ', e1, e2, e3, e4, e5⟩ => by
  obtain ⟨y2, Γ2, k1, k2⟩ := hq y Γ' e5
  obtain ⟨F2, m1, m2, m3⟩ := k1 w0 F' M _ v e3 e4
  exact ⟨v, F2, y2, Γ2, e1, Fz.le_trans e2 m1, m2, m3, k2⟩⟩
theorem PMark.at_ {b : Nat} {Γ Γ' : List Ent} {T : List PV} {vs : List Value} {K : List Ent → Prop} [hp : PickE Γ (.ob b dfrO T vs) Γ'] (hq : Γ = .ob b dfrO T vs :: Γ') (k : K Γ') : PMark b Γ K :=
 ⟨T, vs, [], Γ', hq, k⟩
theorem AYield.mono {l : Nat} {args : List PV} {Γ : List Ent} {Q Q' : PV → List Ent → Prop} (h : AYield P l args Γ Q) (hq : ∀ y Γ', Q y Γ' → Q' y Γ') : AYield P l args Γ Q' := (PYield.mono (K := Q) (K' := Q') hq ⟨h⟩).h
theorem AYield.frame {l : Nat} {args : List PV} {Γ Γ1 Γ2 : List Ent} {Q : PV → List Ent → Prop} (h : AYield P l args Γ1 Q) (hp : Γ.Perm (Γ1 ++ Γ2)) : AYield P l args Γ fun y Γ' => ∃ Γ1', Γ' = Γ1' ++ Γ2 ∧ Q y Γ1' := fun w0 F M w vs hS hT => by
 have hS' : Sim w0 F (Γ1 ++ (Γ2 ++ M)) w := by
  have := hS.perm (hp.append_right M)
  simpa using this
 obtain ⟨fn, tmps, assign, body, h1, h2⟩ := h w0 F (Γ2 ++ M) w vs hS' hT
 refine ⟨fn, tmps, assign, body, h1, h2.mono ?_⟩
 rintro _ _ ⟨v, F', y, Γ', e1, e2, e3, e4, e5⟩
 exact ⟨v, F', y, Γ' ++ Γ2, e1, e2, by simpa using e3, e4, Γ', rfl, e5⟩
theorem AYield.wk {l : Nat} {args args' : List PV} {Γ : List Ent} {Q : PV → List Ent → Prop} (h : AYield P l args' Γ Q) (hw : WkT args args') : AYield P l args Γ Q := fun w0 F M w vs hS hT => h w0 F M w vs hS (hw.rep hT)
theorem PRange.go {f : FuncId} {cap : List PV} {ps : List Nat} {WA WB : List PV → List Ent → Ds → QT → Prop} {T : List PV} {Γ Γi Γ1 : List Ent} {D : Ds} {Q : QT} {σ : Type} (xs : List (List PV)) (G : σ → List Ent) (I : Nat → σ → Prop) (X : Exit → List Ent → Prop) (s0 : σ)
  (hit : AIter P f cap Γi xs) (hI : I 0 s0) [hp : PickL Γ (G s0 ++ Γi) Γ1] (hl : ∀ ys ∈ xs, ys.length = ps.length)
  (round : ∀ k ys s, xs[k]? = some ys → I k s → setsK T ps ys fun T0 => WA T0 (G s) [] (assignQ WB (roundQ k (fun k Γ => ∃ s, I k s ∧ Γ = G s) X)))
  (done : ∀ b s, I xs.length s → Q .normal T (.ob b dfrO [] [] :: G s) (.mark b :: D)) (stop : ∀ b e Γ', X e Γ' → Q e T (.ob b dfrO [] [] :: Γ') (.mark b :: D)) : PRange P f cap ps WA WB true T Γ D Q := by
 refine ⟨rfl, G s0, Γi, xs, fun k Γ => ∃ s, I k s ∧ Γ = G s, X, ⟨T, Weak.of (WkT.refl T) (Ghost.drop hp.p)⟩, hit, ⟨s0, hI, rfl⟩, hl, ?_, ?_, stop⟩
 ·rintro k ys _ h ⟨s, hs, rfl⟩
  exact round k ys s h hs
 ·rintro b _ ⟨s, hs, rfl⟩
  exact done b s hs
theorem roundEnd {σ : Type} {k : Nat} {G : σ → List Ent} {I : Nat → σ → Prop} {X : Exit → List Ent → Prop} {T : List PV} {Γ Γ1 : List Ent} (s : σ) (hI : I (k + 1) s) [hp : PickL Γ (G s) Γ1] : roundQ k (fun k Γ => ∃ s, I k s ∧ Γ = G s) X .normal T Γ [] :=
 ⟨rfl, T, G s, Weak.of (WkT.refl T) (Ghost.drop hp.p), s, hI, rfl⟩
theorem PCall.goG {f : FuncId} {args args' : List PV} {Γ Γ' Γ1 Γ2 : List Ent} {Q K : PV → List Ent → Prop} (hg : Ghost Γ Γ') (h : ACall P f args' Γ1 Q) (hw : WkT args args') [hp : PickL Γ' Γ1 Γ2]
  (k : ∀ y Γ1', Q y Γ1' → appE Γ1' Γ2 fun Γ' => K y Γ') : PCall P f args Γ K :=
 PCall.ghost hg (((h.wk hw).frame hp.p).mono fun y Γ' ⟨Γ1', e, hq⟩ => by have := k y Γ1' hq; rw [appE_eq] at this; rw [e]; exact this)
def cellsB (s : Nat) : List PV → Bool
 | [] => true
 | y :: ys => match lenIs y.cellsOf s with
  | true => match y.cellular with
   | true => cellsB s ys
   | false => false
  | false => false
theorem cellsB_iff {s : Nat} : ∀ {ys : List PV}, cellsB s ys = true → (∀ y ∈ ys, y.cellsOf.length = s) ∧ ∀ y ∈ ys, y.cellular = true
 | [], _ => by simp
 | y :: ys, h => by
  unfold cellsB at h
  split at h
  ·rename_i h1
   split at h
   ·rename_i h2
    have := cellsB_iff h
    exact ⟨List.forall_mem_cons.2 ⟨lenIs_iff h1, this.1⟩, List.forall_mem_cons.2 ⟨h2, this.2⟩⟩
   ·cases h
  ·cases h
theorem PRow.lit {s : Nat} {ys : List PV} {e : TypeId} {K : PV → Ent → Prop} (h : cellsB s ys = true) (k : ∀ t : Tok, t.e = e → K (.sl s ys (some t)) (.tok t)) : PRow s ys e K :=
 ⟨(cellsB_iff h).1, (cellsB_iff h).2, .inl k⟩
def flatK {q : Sort _} : List PV → (List PV → q) → q
 | [], k => k []
 | y :: ys, k => flatK ys fun r => appK y.cellsOf r k
theorem flatK_eq {q : Sort _} : ∀ (ys : List PV) (k : List PV → q), flatK ys k = k (flat ys)
 | [], _ => rfl
 | y :: ys, k => by simp only [flatK, flatK_eq ys, appK_eq]; rfl
theorem PArrB.lit {s : Nat} {ys : List PV} {K : List PV → Prop} (h : cellsB s ys = true) (k : flatK ys K) : PArrB s ys K :=
 ⟨(cellsB_iff h).1, (cellsB_iff h).2, by rw [flatK_eq] at k; exact k⟩
def setM (l : List Int) (v : Value) : Option PV := match v with
 | .int .i64 k => if l.contains k then some .btrue else none
 | _ => none
theorem PLook.set {r : Nat} {l : List Int} {n : Int} {Γ : List Ent} {pend : List (Int × Value)} {put : (Value → Option PV) → List (Int × Value) → List Ent} [hp : PickMp Γ r (.int .i64) (setM l) pend put] {K : PV → Bool → Prop} (h : K (.bool (l.contains n)) (l.contains n)) :
  PLook r (.int .i64) (some (.int .i64 n)) .bfalse Γ K :=
 PLook.at_ (hp := hp) (.bool (l.contains n)) (l.contains n) (by simp [IsK, MapKept.IsKey]) (fun p hp => by
  simp only [setM] at hp
  split at hp
  ·rename_i hc; cases hp; exact ⟨Wk.tt hc, hc⟩
  ·cases hp) (fun hn => by
  simp only [setM] at hn
  split at hn
  ·cases hn
  ·rename_i hc; simp only [Bool.not_eq_true] at hc; exact ⟨Wk.ff hc, hc⟩) h
theorem setM_cons_self (l : List Int) (n : Int) : setM (n :: l) (.int .i64 n) = some .btrue := by simp [setM]
theorem setM_cons_ne (l : List Int) (n : Int) (k : Value) (h : k ≠ .int .i64 n) : setM (n :: l) k = setM l k := by
 unfold setM
 split
 ·rename_i m
  have : m ≠ n := fun e => h (by rw [e])
  simp [List.contains_cons, this]
 ·rfl
theorem setM_congr {l m : List Int} (h : ∀ x, x ∈ l ↔ x ∈ m) : setM l = setM m := by
 funext v
 unfold setM
 split
 ·rename_i k
  have : l.contains k = m.contains k := by rw [Bool.eq_iff_iff]; simp [h]
  rw [this]
 ·rfl
theorem PMapPut.set {r : Nat} {l : List Int} {n : Int} {Γ : List Ent} {pend : List (Int × Value)} {put : (Value → Option PV) → List (Int × Value) → List Ent} [hp : PickMp Γ r (.int .i64) (setM l) pend put] {K : List Ent → Prop} (h : K (put (setM (n :: l)) pend)) (hq : setM l (.int .i64 n) ≠ none ∨ ∀ q ∈ pend, q.2 ≠ .tuple #[] := by right; simp) :
  PMapPut r (.int .i64) (some (.int .i64 n)) .btrue Γ K :=
 PMapPut.at_ (hp := hp) (setM (n :: l)) (by simp [IsK, MapKept.IsKey]) (setM_cons_self l n) (setM_cons_ne l n) h hq
def setMZ (l : List Int) (n : Int) (z : PV) (v : Value) : Option PV := match v with
 | .int .i64 k => if k = n then some z else setM l v
 | _ => none
theorem setMZ_ne (l : List Int) (n : Int) (z : PV) (k : Value) (h : k ≠ .int .i64 n) : setMZ l n z k = setM l k := by
 unfold setMZ
 split
 ·rename_i m
  have : m ≠ n := fun e => h (by rw [e])
  simp [this]
 ·rename_i hne
  unfold setM
  split
  ·rename_i m; exact absurd rfl (hne m)
  ·rfl
theorem PMapEntry.set {r : Nat} {l : List Int} {n : Int} {z : PV} {Γ : List Ent} {pend : List (Int × Value)} {put : (Value → Option PV) → List (Int × Value) → List Ent} [hp : PickMp Γ r (.int .i64) (setM l) pend put] {K : PV → List Ent → Prop} (hn : l.contains n = false)
  (h : ∀ j, K (.tup [z, .int .i64 j]) (put (setMZ l n z) ((j, .int .i64 n) :: pend))) (hq : setM l (.int .i64 n) ≠ none ∨ ∀ q ∈ pend, q.2 ≠ .tuple #[] := by right; simp) : PMapEntry r (.int .i64) (some (.int .i64 n)) z Γ K := by
 have hz : setM l (.int .i64 n) = none := by simp only [setM, hn]; rfl
 refine PMapEntry.at_ (hp := hp) (setMZ l n z) (by simp [IsK, MapKept.IsKey]) (by rw [hz]; simp [setMZ]) (fun k hk => setMZ_ne l n z k hk) ?_ hq
 intro j
 rw [hz]
 exact h j
theorem PEntryStore.set {r : Nat} {l : List Int} {n j : Int} {z : PV} {Γ : List Ent} {pend : List (Int × Value)} {put : (Value → Option PV) → List (Int × Value) → List Ent} [hp : PickMp Γ r (.int .i64) (setMZ l n z) ((j, .int .i64 n) :: pend) put] {K : List Ent → Prop}
  (h : K (put (setM (n :: l)) ((j, .int .i64 n) :: pend))) : PEntryStore r j .btrue Γ K :=
 PEntryStore.at_ (hp := hp) (setM (n :: l)) (setM_cons_self l n) (fun k hk => by rw [setM_cons_ne l n k hk, setMZ_ne l n z k hk]) h
theorem PMapDel.set {r : Nat} {l : List Int} {n : Int} {Γ : List Ent} {pend : List (Int × Value)} {put : (Value → Option PV) → List (Int × Value) → List Ent} [hp : PickMp Γ r (.int .i64) (setM l) pend put] {K : List Ent → Prop} (h : K (put (setM (l.filter (· != n))) [])) :
  PMapDel r (.int .i64) (some (.int .i64 n)) Γ K :=
 PMapDel.at_ (hp := hp) (setM (l.filter (· != n))) (by simp [IsK, MapKept.IsKey]) (by simp [setM]) (fun k hk => by
  unfold setM
  split
  ·rename_i m
   have hm : m ≠ n := fun e => hk (by rw [e])
   have : (l.filter (· != n)).contains m = l.contains m := by rw [Bool.eq_iff_iff]; simp [hm]
   rw [this]
  ·rfl) h
end
theorem Ghost.pend {r : Nat} {d : TypeDesc} {m : Value → Option PV} {pend : List (Int × Value)} {Γ : List Ent} {put : (Value → Option PV) → List (Int × Value) → List Ent} [hp : PickMp Γ r d m pend put] : Ghost Γ (put m []) := fun w0 F M w hS => by
 obtain ⟨Γ1, Γ2, e1, e2⟩ := hp.at_
 rw [e1] at hS
 rw [e2]
 have hS' : Sim w0 F (Γ1 ++ .mp r d m pend :: (Γ2 ++ M)) w := by simpa using hS
 have := hS'.remark (pend' := []) fun es clock _ hM => ⟨hM.st, hM.key, hM.get, hM.dom, by simp⟩
 exact ⟨F, Fz.le_refl F, by simpa using this⟩
theorem Ghost.pendE {Γ Γ' : List Ent} (r : Nat) {d : TypeDesc} {m : Value → Option PV} {pend : List (Int × Value)} {put : (Value → Option PV) → List (Int × Value) → List Ent} [hp : PickMp Γ r d m pend put] (h : Γ' = put m [] := by rfl) : Ghost Γ Γ' := h ▸ Ghost.pend (hp := hp)
theorem OA {p : Prop} (h : p := by first | omega | (simp only [SS] at hg; omega)) : p := h
theorem gA {p : Prop} (h : p := by first | exact hg | exact an1 hg | exact an2 hg | exact an1 (an1 hg) | exact an2 (an1 hg) | exact an1 (an1 (an1 hg)) | (simp_all; done)) : p := h
theorem nA {p : Prop} (h : p := by first | exact Bool.or_not_self _ | exact Bool.not_or_self _) : p := h
theorem NA {p : Prop} (h : p := by first | exact Bool.or_not_self _ | exact Bool.not_or_self _ | (rw [hg, Bool.true_and]; first | exact Bool.or_not_self _ | exact Bool.not_or_self _) | (simp_all; done)) : p := h
theorem wA {p : Prop} (h : p := by (repeat' (first|exact trivial|exact Wk.refl _|(refine And.intro ?_ ?_)|exact Wk.any _|exact Wk.nil' rfl|exact Wk.tok _ _ _|exact Wk.nilTok _ _|exact Wk.tt rfl|exact Wk.ff rfl|exact Wk.int (by omega)|exact WkT.nil|apply WkT.cons|exact WkL.nil|apply WkL.cons|apply Wk.agg|apply Wk.tup))) : p := h
theorem cA {p : Prop} (h : p := by (repeat' (first|exact WkT.nil|apply WkT.cons|exact Wk.refl _|exact Wk.int (by first|omega|(simp only [SS] at hg; omega))|exact Wk.tt rfl|exact Wk.ff rfl|exact Wk.nil' rfl|exact Wk.tok _ _ _))) : p := h
theorem bA {p : Prop} (h : p := by exact And.intro (Nat.le_of_ble_eq_true rfl) (Nat.le_of_ble_eq_true rfl)) : p := h
theorem PNil.of {es : List PV} {K : Bool → Prop} (h : ∀ q, (q = true → es = []) → K q) : PNil es K := ⟨h⟩
theorem n0 : type_of% @PNil.of := @PNil.of
theorem zA : type_of% @PLook.set := @PLook.set
theorem zB : type_of% @PRow.none := @PRow.none
theorem zC : type_of% @PLen.map := @PLen.map
theorem zD : type_of% @PBytes.mk := @PBytes.mk
theorem zE : type_of% @PMapPut.set := @PMapPut.set
theorem zF : type_of% @PMapDel.set := @PMapDel.set
theorem zG : type_of% @PSeq.go := @PSeq.go
theorem zH : type_of% @PLoad.box := @PLoad.box
theorem zI : type_of% @PSide.of := @PSide.of
theorem zJ : type_of% @PRow.one := @PRow.one
theorem zK : type_of% @PRow.lit := @PRow.lit
theorem zL : type_of% @PLoad.ep := @PLoad.ep
theorem zM : type_of% @PIndexA.lit := @PIndexA.lit
theorem zN : type_of% @PStore.box := @PStore.box
theorem zO : type_of% @PIndexS.ix := @PIndexS.ix
theorem zP : type_of% @PIndexA.ix := @PIndexA.ix
theorem zQ : type_of% @PInt.ok := @PInt.ok
theorem zR : type_of% @PDiv.of := @PDiv.of
theorem zS : type_of% @PSliceS.lo := @PSliceS.lo
theorem zT : type_of% @PSliceL.lo := @PSliceL.lo
theorem zU : type_of% @PSliceS.hi := @PSliceS.hi
theorem zV : type_of% @PSliceL.hi := @PSliceL.hi
theorem zW : type_of% @PNeed.of := @PNeed.of
theorem zX : type_of% @PCond.ways := @PCond.ways
theorem zY : type_of% @PGuard.lazy := @PGuard.lazy
theorem zZ : type_of% @PStb.of := @PStb.of
theorem SY : ((¬True) = False ∧ (¬False) = True ∧ (∀ a : Prop, (False ∧ a) = False) ∧ (∀ a : Prop, (a ∧ False) = False) ∧ (∀ a : Prop, (True ∧ a) = a) ∧ (∀ a : Prop, (a ∧ True) = a) ∧ (∀ a : Prop, (True ∨ a) = True) ∧ (∀ a : Prop, (a ∨ True) = True) ∧ (∀ a : Prop, (False ∨ a) = a) ∧ (∀ a : Prop, (a ∨ False) = a)) ∧
  ((∀ (p : Prop) [Decidable p], (decide p = true) = p) ∧ (∀ (p : Prop) [Decidable p], (decide p = false) = ¬ p) ∧ (∀ a b : Int, ((a == b) = true) = (a = b)) ∧ (∀ a b : Int, ((a == b) = false) = ¬ (a = b)) ∧
  (∀ a b : List UInt8, ((a == b) = true) = (a = b)) ∧ (∀ a b : List UInt8, ((a == b) = false) = ¬ (a = b)) ∧ (∀ a b : Int, ((a != b) = true) = ¬ (a = b)) ∧ (∀ a b : Int, ((a != b) = false) = (a = b)) ∧
  (∀ a b : Bool, ((a && b) = true) = (a = true ∧ b = true)) ∧ (∀ a b : Bool, ((a && b) = false) = (a = false ∨ b = false)) ∧ (∀ a b : Bool, ((a || b) = true) = (a = true ∨ b = true)) ∧ (∀ a b : Bool, ((a || b) = false) = (a = false ∧ b = false)) ∧
  (∀ a : Bool, ((!a) = true) = (a = false)) ∧ (∀ a : Bool, ((!a) = false) = (a = true)) ∧ (∀ a b : Int, (¬ a < b) = (b ≤ a)) ∧ (∀ a b : Int, (¬ a ≤ b) = (b < a)) ∧ (∀ a b : Int, (a > b) = (b < a)) ∧ (∀ a b : Int, (a ≥ b) = (b ≤ a)) ∧
  (∀ a : Prop, (¬ ¬ a) = a) ∧ (true = false) = False ∧ (false = true) = False) := ⟨by simp, SS⟩
def restL : List Oper → Nat → List Nat → List Nat
 | [], _, _ => []
 | _ :: l, i, R => match elemN i R with
  | true => restL l (i + 1) R
  | false => i :: restL l (i + 1) R
section
variable {P : Program} {tt : Nat → TI}
theorem PDraw.sP (d : Option Nat) {ops : Array Oper} (hd : fstDst ops = d) (R1 R2 : List Nat) {T : List PV} {Γ : List Ent} {K : List PV → List Ent → Prop} (hk : TT.ok P tt) (hm : P.follows .mixedOrders = true)
  (h : SSeq P tt ops.toList (pickO ops.toList (restL ops.toList 0 (R1 ++ R2))) T Γ fun T' => WOps P tt ops.toList (pickO ops.toList R1) T' [] [] fun T2 Γ1' _ => appE Γ1' Γ fun Γ' => WOps P tt ops.toList (pickO ops.toList R2) T2 Γ' [] fun T' Γ' _ => K T' Γ')
  (hchk : splitB ops (tabOf ops.toList []) (restL ops.toList 0 (R1 ++ R2)) R1 R2 = true := by kernel_rfl) : PDraw P ops T Γ K :=
 PDraw.split hk hm _ _ R1 R2 [] hchk h
theorem PDraw.sE {ops : Array Oper} (Γ1 : List Ent) (R1 R2 : List Nat) {T : List PV} {Γ Γ2 : List Ent} {K : List PV → List Ent → Prop} (hk : TT.ok P tt) (hm : P.follows .mixedOrders = true) [hp : PickL Γ Γ1 Γ2]
  (h : SSeq P tt ops.toList (pickO ops.toList (restL ops.toList 0 (R1 ++ R2))) T Γ2 fun T' => WOps P tt ops.toList (pickO ops.toList R1) T' Γ1 [] fun T2 Γ1' _ => appE Γ1' Γ2 fun Γ' => WOps P tt ops.toList (pickO ops.toList R2) T2 Γ' [] fun T' Γ' _ => K T' Γ')
  (hchk : splitB ops (tabOf ops.toList []) (restL ops.toList 0 (R1 ++ R2)) R1 R2 = true := by kernel_rfl) : PDraw P ops T Γ K :=
 PDraw.split hk hm _ _ R1 R2 Γ1 hchk h
theorem PDraw.sQ (d : Option Nat) {ops : Array Oper} (hd : fstDst ops = d) (R1 R2 : List Nat) {T : List PV} {e : Ent} {Γ2 : List Ent} {K : List PV → List Ent → Prop} (hk : TT.ok P tt) (hm : P.follows .mixedOrders = true)
  (h : SSeq P tt ops.toList (pickO ops.toList (restL ops.toList 0 (R1 ++ R2))) T Γ2 fun T' => WOps P tt ops.toList (pickO ops.toList R1) T' [e] [] fun T2 Γ1' _ => appE Γ1' Γ2 fun Γ' => WOps P tt ops.toList (pickO ops.toList R2) T2 Γ' [] fun T' Γ' _ => K T' Γ')
  (hchk : splitB ops (tabOf ops.toList []) (restL ops.toList 0 (R1 ++ R2)) R1 R2 = true := by kernel_rfl) : PDraw P ops T (e :: Γ2) K :=
 PDraw.split hk hm _ _ R1 R2 [e] (hp := ⟨List.Perm.refl _⟩) hchk h
end
theorem pC : type_of% @PCall.pure := @PCall.pure
theorem wR {T : List PV} : WkT T T := WkT.refl _
theorem pS : type_of% @PShift.same := @PShift.same
theorem pL : type_of% @PShift.lit := @PShift.lit
theorem pE : type_of% @PShift.ep := @PShift.ep
theorem stA {p : Prop} (h : p := by
 conv => whnf
 repeat ((first|(refine zW ?_ ?_; exact gA)|refine zH rfl ?_|refine zA ?_|refine zI bA ?_|refine zI rfl ?_|refine zJ rfl rfl ?_|refine zB ?_|refine zK rfl ?_|refine zL rfl ?_|refine zC ?_|(refine zO ?_ ?_ ?_; exact OA; exact OA)|(refine zP ?_ ?_ ?_; exact OA; exact OA)|refine zM rfl ?_|(refine zQ ?_ ?_ ?_; exact OA; exact OA)|(refine zR ?_ ?_; exact OA)|(refine zI ?_ ?_; exact NA)|(refine zS ?_ ?_ ?_; exact OA; exact OA)|(refine zT ?_ ?_ ?_; exact OA; exact OA)|(refine zU ?_ ?_ ?_; exact OA; exact OA)|(refine zV ?_ ?_ ?_; exact OA; exact OA)|intro _); conv=>whnf)
 first | exact PShift.same | exact PShift.lit | exact PShift.ep) : p := h
structure Hd (q : Prop) : Prop where
 h : q
theorem pZ {p : Prop} (h : p := by first | exact PShift.same | exact PShift.lit | exact PShift.ep) : p := h
theorem aM {p q : Prop} (k : q) (h : Hd q → p := by intro hq; (first | (refine zW ?_ ?_; exact gA) | refine zH rfl ?_ | refine zA ?_ | refine zI bA ?_ | refine zI rfl ?_ | refine zJ rfl rfl ?_ | refine zB ?_ | refine zK rfl ?_ | refine zL rfl ?_ | refine zC ?_ | (refine zO ?_ ?_ ?_; omega; omega) | (refine zP ?_ ?_ ?_; omega; omega) | refine zM rfl ?_ | (refine zQ ?_ ?_ ?_; omega; omega) | (refine zR ?_ ?_; omega) | (refine zI ?_ ?_; exact nA) | (refine zS ?_ ?_ ?_; omega; omega) | (refine zT ?_ ?_ ?_; omega; omega) | (refine zU ?_ ?_ ?_; omega; omega) | (refine zV ?_ ?_ ?_; omega; omega)); exact hq.h) : p := h ⟨k⟩
theorem aG {p q : Prop} (k : q) (h : Hd q → p := by intro hq; (first | (refine zW ?_ ?_; exact gA) | refine zA ?_ | refine zH rfl ?_ | refine zB ?_); exact hq.h) : p := h ⟨k⟩
theorem aR0 {p q : Prop} (k : q) (h : Hd q → p := by intro hq; (conv => whnf); (repeat1' ((first | ((first | (apply zY; intro hg) | apply zZ); exact stA) | (refine zW ?_ ?_; exact gA) | refine zH rfl ?_ | refine zA ?_ | refine zI bA ?_ | refine zI rfl ?_ | refine zJ rfl rfl ?_ | refine zB ?_ | refine zK rfl ?_ | refine zL rfl ?_ | refine zC ?_ | (refine zO ?_ ?_ ?_; omega; omega) | (refine zP ?_ ?_ ?_; omega; omega) | refine zM rfl ?_ | (refine zQ ?_ ?_ ?_; omega; omega) | (refine zR ?_ ?_; omega) | (refine zI ?_ ?_; exact nA) | (refine zS ?_ ?_ ?_; omega; omega) | (refine zT ?_ ?_ ?_; omega; omega) | (refine zU ?_ ?_ ?_; omega; omega) | (refine zV ?_ ?_ ?_; omega; omega) | refine zN rfl rfl rfl ?_ | refine zD ?_ | refine zE ?_ | refine zF ?_); conv => whnf)); exact hq.h) : p := h ⟨k⟩
theorem aA0 {p q : Prop} (k : q) (h : Hd q → p := by intro hq; (conv => whnf); (repeat1' ((first | ((first | (apply zY; intro hg) | apply zZ); exact stA) | (refine zW ?_ ?_; exact gA) | refine zH rfl ?_ | refine zA ?_ | refine zI bA ?_ | refine zI rfl ?_ | refine zJ rfl rfl ?_ | refine zB ?_ | refine zK rfl ?_ | refine zL rfl ?_ | refine zC ?_ | (refine zO ?_ ?_ ?_; omega; omega) | (refine zP ?_ ?_ ?_; omega; omega) | refine zM rfl ?_ | (refine zQ ?_ ?_ ?_; omega; omega) | (refine zR ?_ ?_; omega) | (refine zI ?_ ?_; exact nA) | (refine zS ?_ ?_ ?_; omega; omega) | (refine zT ?_ ?_ ?_; omega; omega) | (refine zU ?_ ?_ ?_; omega; omega) | (refine zV ?_ ?_ ?_; omega; omega) | refine zN rfl rfl rfl ?_ | refine zD ?_ | refine zE ?_ | refine zF ?_ | refine zG ?_); conv => whnf)); exact hq.h) : p := h ⟨k⟩
end Go.Cb
namespace Go.Cb
inductive Datum where
 | mk (kind n d : Int) (s : List UInt8) (l : List Datum)
def Datum.kind : Datum → Int | .mk k _ _ _ _ => k
def Datum.n : Datum → Int | .mk _ n _ _ _ => n
def Datum.d : Datum → Int | .mk _ _ d _ _ => d
def Datum.s : Datum → List UInt8 | .mk _ _ _ s _ => s
def Datum.l : Datum → List Datum | .mk _ _ _ _ l => l
mutual
def Datum.pv : Datum → PV
 | .mk k n d s l => .agg [.int .i64 k, .int .i64 n, .int .i64 d, .str s, .sl 5 (Datum.pvs l) none]
def Datum.pvs : List Datum → List PV
 | [] => []
 | x :: xs => Datum.pv x :: Datum.pvs xs
end
theorem Datum.pvs_eq : ∀ l : List Datum, Datum.pvs l = l.map Datum.pv
 | [] => rfl
 | x :: xs => by simp only [Datum.pvs, List.map_cons, Datum.pvs_eq xs]
def Datum.cells (x : Datum) : List PV := [.int .i64 x.kind, .int .i64 x.n, .int .i64 x.d, .str x.s, .sl 5 (x.l.map Datum.pv) none]
theorem Datum.pv_eq (x : Datum) : x.pv = .agg x.cells := by
 cases x; simp only [Datum.pv, Datum.cells, Datum.pvs_eq, Datum.kind, Datum.n, Datum.d, Datum.s, Datum.l]
instance : CellsOf Datum.pv Datum.cells := ⟨fun x => by rw [Datum.pv_eq]; rfl⟩
mutual
theorem Datum.ind_aux {p : Datum → Prop} (h : ∀ x : Datum, (∀ y ∈ x.l, p y) → p x) : ∀ d, p d
 | .mk k n d s l => h (.mk k n d s l) (Datum.ind_auxs h l)
theorem Datum.ind_auxs {p : Datum → Prop} (h : ∀ x : Datum, (∀ y ∈ x.l, p y) → p x) : ∀ (l : List Datum), ∀ x ∈ l, p x
 | [] => by simp
 | y :: ys => List.forall_mem_cons.2 ⟨Datum.ind_aux h y, Datum.ind_auxs h ys⟩
end
theorem Datum.ind {p : Datum → Prop} (h : ∀ x : Datum, (∀ y ∈ x.l, p y) → p x) (d : Datum) : p d := Datum.ind_aux h d
inductive Trm where
 | mk (op n : Int) (v : List Int) (t : List Trm)
def Trm.op : Trm → Int | .mk o _ _ _ => o
def Trm.n : Trm → Int | .mk _ n _ _ => n
def Trm.v : Trm → List Int | .mk _ _ v _ => v
def Trm.t : Trm → List Trm | .mk _ _ _ t => t
mutual
def Trm.pv : Trm → PV
 | .mk o n v t => .agg [.int .i64 o, .int .i64 n, .sl 1 (v.map (PV.int .i64)) none, .sl 4 (Trm.pvs t) none]
def Trm.pvs : List Trm → List PV
 | [] => []
 | x :: xs => Trm.pv x :: Trm.pvs xs
end
theorem Trm.pvs_eq : ∀ l : List Trm, Trm.pvs l = l.map Trm.pv
 | [] => rfl
 | x :: xs => by simp only [Trm.pvs, List.map_cons, Trm.pvs_eq xs]
def Trm.cells (x : Trm) : List PV := [.int .i64 x.op, .int .i64 x.n, .sl 1 (x.v.map (PV.int .i64)) none, .sl 4 (x.t.map Trm.pv) none]
theorem Trm.pv_eq (x : Trm) : x.pv = .agg x.cells := by
 cases x; simp only [Trm.pv, Trm.cells, Trm.pvs_eq, Trm.op, Trm.n, Trm.v, Trm.t]
instance : CellsOf Trm.pv Trm.cells := ⟨fun x => by rw [Trm.pv_eq]; rfl⟩
mutual
theorem Trm.ind_aux {p : Trm → Prop} (h : ∀ x : Trm, (∀ y ∈ x.t, p y) → p x) : ∀ d, p d
 | .mk o n v t => h (.mk o n v t) (Trm.ind_auxs h t)
theorem Trm.ind_auxs {p : Trm → Prop} (h : ∀ x : Trm, (∀ y ∈ x.t, p y) → p x) : ∀ (l : List Trm), ∀ x ∈ l, p x
 | [] => by simp
 | y :: ys => List.forall_mem_cons.2 ⟨Trm.ind_aux h y, Trm.ind_auxs h ys⟩
end
theorem Trm.ind {p : Trm → Prop} (h : ∀ x : Trm, (∀ y ∈ x.t, p y) → p x) (d : Trm) : p d := Trm.ind_aux h d
def strB (c : UInt8) : Bool := decide ((c.toNat : Int) < 32) || decide ((c.toNat : Int) > 126) || (c.toNat : Int) == 34 || (c.toNat : Int) == 92
theorem drop_at {α : Type} {l : List α} {i : Nat} (h : i < l.length) : l.drop i = l[i] :: l.drop (i + 1) := List.drop_eq_getElem_cons h
theorem drop_getD {s : List UInt8} {i : Nat} (h : i < s.length) : s.drop i = s.getD i 0 :: s.drop (i + 1) := by
 rw [drop_at h]; simp [List.getD, h]
mutual
def Datum.few : Datum → Int → Int
 | .mk _ _ _ _ l, left => Datum.fews l (left - 1)
def Datum.fews : List Datum → Int → Int
 | [], left => left
 | x :: xs, left => if 0 ≤ left then Datum.fews xs (Datum.few x left) else left
end
mutual
def Trm.few : Trm → Int → Int
 | .mk _ _ _ l, left => Trm.fews l (left - 1)
def Trm.fews : List Trm → Int → Int
 | [], left => left
 | x :: xs, left => if 0 ≤ left then Trm.fews xs (Trm.few x left) else left
end
theorem Datum.few_eq (x : Datum) (n : Int) : x.few n = Datum.fews x.l (n - 1) := by cases x; rfl
theorem Trm.few_eq (x : Trm) (n : Int) : x.few n = Trm.fews x.t (n - 1) := by cases x; rfl
theorem Datum.few_bd (d : Datum) : ∀ left : Int, 0 ≤ left → -1 ≤ d.few left ∧ d.few left < left := by
 induction d using Datum.ind with
 | h d ih =>
  intro left h0
  rw [Datum.few_eq]
  have key : ∀ (l : List Datum), (∀ x ∈ l, ∀ left : Int, 0 ≤ left → -1 ≤ x.few left ∧ x.few left < left) → ∀ left : Int, -1 ≤ left → -1 ≤ Datum.fews l left ∧ Datum.fews l left ≤ left := by
   intro l
   induction l with
   | nil => intro _ left h; rw [Datum.fews]; omega
   | cons x xs ihx =>
    intro hx left h
    rw [Datum.fews]
    split
    ·have h1 := hx x (by simp) left (by omega)
     have h2 := ihx (fun y hy => hx y (by simp [hy])) (x.few left) (by omega)
     omega
    ·omega
  have := key d.l ih (left - 1) (by omega)
  omega
theorem Trm.few_bd (d : Trm) : ∀ left : Int, 0 ≤ left → -1 ≤ d.few left ∧ d.few left < left := by
 induction d using Trm.ind with
 | h d ih =>
  intro left h0
  rw [Trm.few_eq]
  have key : ∀ (l : List Trm), (∀ x ∈ l, ∀ left : Int, 0 ≤ left → -1 ≤ x.few left ∧ x.few left < left) → ∀ left : Int, -1 ≤ left → -1 ≤ Trm.fews l left ∧ Trm.fews l left ≤ left := by
   intro l
   induction l with
   | nil => intro _ left h; rw [Trm.fews]; omega
   | cons x xs ihx =>
    intro hx left h
    rw [Trm.fews]
    split
    ·have h1 := hx x (by simp) left (by omega)
     have h2 := ihx (fun y hy => hx y (by simp [hy])) (x.few left) (by omega)
     omega
    ·omega
  have := key d.t ih (left - 1) (by omega)
  omega
mutual
def Datum.bulk : Datum → Nat
 | .mk _ _ _ s l => 1 + s.length + Datum.bulks l
def Datum.bulks : List Datum → Nat
 | [] => 0
 | x :: xs => Datum.bulk x + Datum.bulks xs
end
mutual
def Trm.bulk : Trm → Nat
 | .mk _ _ v l => 1 + v.length + Trm.bulks l
def Trm.bulks : List Trm → Nat
 | [] => 0
 | x :: xs => Trm.bulk x + Trm.bulks xs
end
theorem Datum.bulk_eq (x : Datum) : x.bulk = 1 + x.s.length + Datum.bulks x.l := by cases x; rfl
theorem Trm.bulk_eq (x : Trm) : x.bulk = 1 + x.v.length + Trm.bulks x.t := by cases x; rfl
theorem Datum.bulks_mem {x : Datum} : ∀ {l : List Datum}, x ∈ l → x.bulk ≤ Datum.bulks l
 | [], h => by simp at h
 | y :: l, h => by
  rw [Datum.bulks]
  rcases List.mem_cons.1 h with rfl | h
  ·omega
  ·have := Datum.bulks_mem h; omega
theorem Trm.bulks_mem {x : Trm} : ∀ {l : List Trm}, x ∈ l → x.bulk ≤ Trm.bulks l
 | [], h => by simp at h
 | y :: l, h => by
  rw [Trm.bulks]
  rcases List.mem_cons.1 h with rfl | h
  ·omega
  ·have := Trm.bulks_mem h; omega
theorem Datum.bulks_length : ∀ l : List Datum, l.length ≤ Datum.bulks l
 | [] => by simp
 | x :: l => by have := Datum.bulks_length l; have := x.bulk_eq; rw [Datum.bulks, List.length_cons]; omega
theorem Trm.bulks_length : ∀ l : List Trm, l.length ≤ Trm.bulks l
 | [] => by simp
 | x :: l => by have := Trm.bulks_length l; have := x.bulk_eq; rw [Trm.bulks, List.length_cons]; omega
end Go.Cb
namespace Go.Cb
open Go.Proofs
set_option maxRecDepth 100000
set_option maxHeartbeats 4000000
theorem gcd_c (a b : Nat) (ha : a < 18446744073709551616) (hb : b < 18446744073709551616) : ACallP Tryz.prog 136 [.int .u64 a, .int .u64 b] (.int .u64 (Nat.gcd a b : Nat)) := by
 refine ACall.of_body tt_ok Tryz.func136 rfl rfl (n := 14) rfl rfl ?_
 conv => whnf
 skip
 refine PLoop.by_ (fun | ((a', b') : Nat × Nat) => [(0, .int .u64 a'), (1, .int .u64 b')]) (fun _ => []) (fun | (a', b') => Nat.gcd a' b' = Nat.gcd a b ∧ a' < 18446744073709551616 ∧ b' < 18446744073709551616) (fun | (_, b') => b') 14
  (a, b) ⟨rfl, ha, hb⟩ rfl wA ?_
 rintro ⟨a', b'⟩ ⟨hg, ha', hb'⟩
 conv => whnf
 refine ⟨fun hc => ?_, fun hc => ?_⟩
 ·conv => whnf
  simp only [SS] at hc
  refine ⟨by omega, ?_⟩
  conv => whnf
  have hb0 : 0 < b' := by omega
  refine loopNext (b', a' % b') ⟨?_, hb', Nat.lt_trans (Nat.mod_lt _ hb0) hb'⟩ (Nat.mod_lt _ hb0) rfl (And.intro (Wk.refl _) <| And.intro (Wk.int (Int.ofNat_tmod ..).symm) trivial)
  rw [← hg, Nat.gcd_comm a' b', Nat.gcd_rec b' a', Nat.gcd_comm]
 ·conv => whnf
  simp only [SS] at hc
  have hb0 : b' = 0 := by omega
  subst hb0
  refine PRet.pure (Wk.int ?_)
  rw [← hg, Nat.gcd_zero_right]
theorem size_c (n : Int) (h1 : -9223372036854775808 ≤ n) (h2 : n ≤ 9223372036854775807) : ACallP Tryz.prog 137 [.int .i64 n] (.int .u64 n.natAbs) := by
 refine ACall.of_body tt_ok Tryz.func137 rfl rfl (n := 10) rfl rfl ?_
 conv => whnf
 skip
 refine ⟨fun hc => ?_, fun hc => ?_⟩
 ·conv => whnf
  simp only [SS] at hc
  refine PInt.u64_neg (by omega) hc ?_
  conv => whnf
  refine PInt.u64_neg (by omega) (by omega) ?_
  conv => whnf
  refine PRet.pure (Wk.int (by omega))
 ·conv => whnf
  simp only [SS] at hc
  refine PInt.u64 hc (by omega) ?_
  conv => whnf
  refine PRet.pure (Wk.int (by omega))
theorem common_c (a b : Nat) (ha : a < 18446744073709551616) (hb : b < 18446744073709551616) : ACallP Tryz.prog 144 [.int .u64 a, .int .u64 b] (.int .u64 (Nat.gcd a b : Nat)) := by
 refine ACall.of_body tt_ok Tryz.func144 rfl rfl (n := 12) rfl rfl ?_
 conv => whnf
 skip
 refine PLoop.by_ (fun | ((a', b') : Nat × Nat) => [(0, .int .u64 a'), (1, .int .u64 b')]) (fun _ => []) (fun | (a', b') => Nat.gcd a' b' = Nat.gcd a b ∧ a' < 18446744073709551616 ∧ b' < 18446744073709551616) (fun | (_, b') => b') 12
  (a, b) ⟨rfl, ha, hb⟩ rfl wA ?_
 rintro ⟨a', b'⟩ ⟨hg, ha', hb'⟩
 conv => whnf
 refine ⟨fun hc => ?_, fun hc => ?_⟩
 ·conv => whnf
  simp only [SS] at hc
  have hb0 : b' = 0 := by omega
  subst hb0
  refine PRet.pure (Wk.int ?_)
  rw [← hg, Nat.gcd_zero_right]
 ·conv => whnf
  simp only [SS] at hc
  have hb0 : 0 < b' := by omega
  refine PDraw.sE [] [] [] tt_ok mixed ?_
  conv=>whnf
  apply PStb.of
  ·conv => whnf
   exact PShift.same
  conv => whnf
  apply PStb.of
  ·conv => whnf
   exact PShift.same
  conv => whnf
  apply PStb.of
  ·conv => whnf
   exact PShift.same
  conv => whnf
  apply PStb.of
  ·conv => whnf
   refine ⟨by omega, ?_⟩
   conv => whnf
   exact PShift.same
  conv => whnf
  apply PStb.of
  ·conv => whnf
   exact PShift.same
  conv => whnf
  apply PStb.of
  ·conv => whnf
   exact PShift.same
  conv => whnf
  refine loopNext (b', a' % b') ⟨?_, hb', Nat.lt_trans (Nat.mod_lt _ hb0) hb'⟩ (Nat.mod_lt _ hb0) rfl (And.intro (Wk.refl _) <| And.intro (Wk.int (Int.ofNat_tmod ..).symm) trivial)
  rw [← hg, Nat.gcd_comm a' b', Nat.gcd_rec b' a', Nat.gcd_comm]
theorem amount_c (n : Int) (h1 : -9223372036854775808 ≤ n) (h2 : n ≤ 9223372036854775807) : ACallP Tryz.prog 145 [.int .i64 n] (.int .u64 n.natAbs) := by
 refine ACall.of_body tt_ok Tryz.func145 rfl rfl (n := 10) rfl rfl ?_
 conv => whnf
 skip
 refine ⟨fun hc => ?_, fun hc => ?_⟩
 ·conv => whnf
  simp only [SS] at hc
  refine PInt.u64_neg (by omega) hc ?_
  conv => whnf
  refine PInt.u64_neg (by omega) (by omega) ?_
  conv => whnf
  refine PRet.pure (Wk.int (by omega))
 ·conv => whnf
  simp only [SS] at hc
  refine PInt.u64 hc (by omega) ?_
  conv => whnf
  refine PRet.pure (Wk.int (by omega))
def numRight (n d : Int) : Bool := decide (1 ≤ d) && (decide (d ≤ 2147483647) && (decide (-2147483647 ≤ n) && (decide (n ≤ 2147483647) && (Nat.gcd n.natAbs d.natAbs == 1))))
theorem right1_c (n d : Int) : ACallP Tryz.prog 109 [.int .i64 n, .int .i64 d] (.bool (numRight n d)) := by
 refine ACall.of_body tt_ok Tryz.func109 rfl rfl (n := 27) rfl rfl ?_
 conv => whnf
 repeat' (first|refine aA0 ?_|(((((apply zY;intro hg));(conv=>whnf);(repeat ((first|refine pC (size_c _ OA OA) wR ?_|refine pC (gcd_c n.natAbs d.natAbs OA OA) cA ?_|refine aG ?_);conv=>whnf));exact pZ));conv=>whnf)|(refine zX (fun hc=>?_) (fun hc=>?_)<;>(try simp only [SY] at hc)<;>omega))
 exact PRet.pure (Wk.bool (by rw [Bool.eq_iff_iff]; simp [numRight]; omega))
theorem rightN_c (n d : Int) : ACallP Tryz.prog 121 [.int .i64 n, .int .i64 d] (.bool (numRight n d)) := by
 refine ACall.of_body tt_ok Tryz.func121 rfl rfl (n := 27) rfl rfl ?_
 conv => whnf
 repeat' (first|refine aA0 ?_|(((((apply zY;intro hg));(conv=>whnf);(repeat ((first|refine pC (amount_c _ OA OA) wR ?_|refine pC (common_c n.natAbs d.natAbs OA OA) cA ?_|refine aG ?_);conv=>whnf));exact pZ));conv=>whnf)|(refine zX (fun hc=>?_) (fun hc=>?_)<;>(try simp only [SY] at hc)<;>omega))
 exact PRet.pure (Wk.bool (by rw [Bool.eq_iff_iff]; simp [numRight]; omega))
end Go.Cb
namespace Go.Cb
open Go.Proofs
set_option maxRecDepth 100000
set_option maxHeartbeats 4000000
def isDig (c : UInt8) : Bool := decide (48 ≤ c.toNat) && decide (c.toNat ≤ 57)
def decVal (l : List UInt8) : Nat := l.foldl (fun n c => 10 * n + (c.toNat - 48)) 0
def digN : List UInt8 → Nat
 | [] => 0
 | c :: s => if isDig c then digN s + 1 else 0
def partN (s : List UInt8) : Nat × Nat := if 10 < digN s then (0, 0) else (decVal (s.take (digN s)), digN s)
theorem decVal_snoc (l : List UInt8) (c : UInt8) : decVal (l ++ [c]) = 10 * decVal l + (c.toNat - 48) := by simp [decVal]
theorem decVal_lt (l : List UInt8) (h : ∀ c ∈ l, isDig c = true) : decVal l < 10 ^ l.length := by
 suffices ∀ (l : List UInt8) (m : Nat), (∀ c ∈ l, isDig c = true) → l.foldl (fun n c => 10 * n + (c.toNat - 48)) m < (m + 1) * 10 ^ l.length by
  have := this l 0 h
  simpa [decVal] using this
 intro l
 induction l with
 | nil => intro m _; simp
 | cons c l ih =>
  intro m h
  rw [List.foldl_cons]
  have h1 := h c (by simp)
  have h2 := ih (10 * m + (c.toNat - 48)) (fun c hc => h c (by simp [hc]))
  simp only [isDig, Bool.and_eq_true, decide_eq_true_eq] at h1
  refine Nat.lt_of_lt_of_le h2 ?_
  rw [List.length_cons, Nat.pow_succ, Nat.mul_comm (10 ^ l.length) 10, ← Nat.mul_assoc]
  exact Nat.mul_le_mul_right _ (by omega)
theorem digN_eq : ∀ (s : List UInt8) (k : Nat), (∀ c ∈ s.take k, isDig c = true) → k ≤ s.length → (∀ c, s[k]? = some c → isDig c = false) → digN s = k
 | [], k, _, h, _ => by simp at h; rw [digN, h]
 | c :: s, 0, _, _, h => by simp [digN, h c (by simp)]
 | c :: s, k + 1, h1, h2, h3 => by
  rw [digN, if_pos (h1 c (by simp)), digN_eq s k (fun c hc => h1 c (by simp [hc])) (by simpa using h2) (fun c hc => h3 c (by simpa using hc))]
theorem digN_dig : ∀ (s : List UInt8), ∀ c ∈ s.take (digN s), isDig c = true
 | [], c, h => by simp at h
 | d :: s, c, h => by
  rw [digN] at h
  split at h
  ·rename_i hd
   rw [List.take_succ_cons] at h
   rcases List.mem_cons.1 h with rfl | h
   ·exact hd
   ·exact digN_dig s c h
  ·simp at h
theorem digN_le : ∀ (s : List UInt8), digN s ≤ s.length
 | [] => by simp [digN]
 | d :: s => by rw [digN]; split <;> simp [digN_le s]
theorem part_c (s : List UInt8) : ACallP Tryz.prog 155 [.str s] (.tup [.int .i64 (partN s).1, .int .i64 (partN s).2]) := by
 refine ACall.of_body tt_ok Tryz.func155 rfl rfl (n := 38) rfl rfl ?_
 conv => whnf
 skip
 refine PLoop.keep [4, 5, 6, 7, 8, 9, 10, 11, 12, 13, 14, 15, 16, 17, 18, 19, 20, 21, 22, 23, 24, 25, 26, 27, 28, 29, 30, 31, 32, 33] (fun k : Nat => [(4, .int .i64 (decVal ((s.take k).take 10))), (5, .int .i64 k)])
  (fun k => k ≤ s.length ∧ ∀ c ∈ s.take k, isDig c = true) (fun k => s.length - k) 0 ⟨by omega, by simp⟩ wA ?_
 rintro k ⟨hk, hd⟩
 have hv : decVal ((s.take k).take 10) < 10 ^ 10 := Nat.lt_of_lt_of_le (decVal_lt _ fun c hc => hd c (List.mem_of_mem_take hc)) (Nat.pow_le_pow_right (by omega) (by simp; omega))
 have hget : ∀ c, s[k]? = some c → s.getD k 0 = c := fun c hc => by rw [List.getD, hc]; rfl
 conv => whnf
 repeat' (first|refine aA0 ?_|((intro _);conv=>whnf)|(refine zX (fun hc=>?_) (fun hc=>?_)<;>(try simp only [SY] at hc)<;>(conv=>whnf)))
 ·have hlt : k < s.length := by omega
  have htk : s.take (k + 1) = s.take k ++ [s.getD k 0] := by rw [List.take_add_one]; simp [hlt]
  have e : 10 * (decVal ((s.take k).take 10) : Int) + (((s.getD k 0).toNat : Int) - 48) = decVal ((s.take (k + 1)).take 10) := by
   rw [List.take_take, List.take_take, Nat.min_eq_right (by omega), Nat.min_eq_right (by omega), htk, decVal_snoc]
   omega
  refine loopTo (k + 1) ⟨by omega, fun x hx => ?_⟩ (by show s.length - (k + 1) < s.length - k; omega) wA
  rw [htk] at hx
  rcases List.mem_append.1 hx with hx | hx
  ·exact hd x hx
  ·rw [List.mem_singleton.1 hx]; simp only [isDig, Bool.and_eq_true, decide_eq_true_eq]; omega
 ·have hlt : k < s.length := by omega
  have htk : s.take (k + 1) = s.take k ++ [s.getD k 0] := by rw [List.take_add_one]; simp [hlt]
  have e : (decVal ((s.take k).take 10) : Int) = decVal ((s.take (k + 1)).take 10) := by
   rw [List.take_take, List.take_take, Nat.min_eq_left (by omega), Nat.min_eq_left (by omega)]
  refine loopTo (k + 1) ⟨by omega, fun x hx => ?_⟩ (by show s.length - (k + 1) < s.length - k; omega) wA
  rw [htk] at hx
  rcases List.mem_append.1 hx with hx | hx
  ·exact hd x hx
  ·rw [List.mem_singleton.1 hx]; simp only [isDig, Bool.and_eq_true, decide_eq_true_eq]; omega
 all_goals
  have hdk : digN s = k := digN_eq s k hd hk fun c hc1 => by
   have hlt : k < s.length := (List.getElem?_eq_some_iff.1 hc1).1
   rw [hget c hc1] at *
   simp only [isDig, Bool.and_eq_false_iff, decide_eq_false_iff_not]; omega
  refine PRet.pure (Wk.eq ?_)
 ·rw [partN, if_pos (by omega)]
  rfl
 ·rw [partN, if_neg (by omega), List.take_take, Nat.min_eq_right (by omega), hdk]
end Go.Cb
namespace Go.Cb
open Go.Proofs
set_option maxRecDepth 100000
set_option maxHeartbeats 4000000
def makeN (n d : Int) : Int × Int × Int :=
 if d = 0 then (0, 0, 4) else
 if 2147483647 < n.natAbs / Nat.gcd n.natAbs d.natAbs ∨ 2147483647 < d.natAbs / Nat.gcd n.natAbs d.natAbs then (0, 0, 3) else
 if decide (n < 0) ≠ decide (d < 0) then (-((n.natAbs / Nat.gcd n.natAbs d.natAbs : Nat) : Int), (d.natAbs / Nat.gcd n.natAbs d.natAbs : Nat), 0) else
 ((n.natAbs / Nat.gcd n.natAbs d.natAbs : Nat), (d.natAbs / Nat.gcd n.natAbs d.natAbs : Nat), 0)
def makeA (n d : Int) (a b : Nat) : Int × Int × Int :=
 if 2147483647 < a ∨ 2147483647 < b then (0, 0, 3) else if decide (n < 0) ≠ decide (d < 0) then (-(a : Int), (b : Int), 0) else ((a : Int), (b : Int), 0)
theorem makeN_ne (n d : Int) (h : d ≠ 0) : makeN n d = makeA n d (n.natAbs / Nat.gcd n.natAbs d.natAbs) (d.natAbs / Nat.gcd n.natAbs d.natAbs) := by rw [makeN, if_neg h]; rfl
def tup3 (x : Int × Int × Int) : PV := .tup [.int .i64 x.1, .int .i64 x.2.1, .int .i64 x.2.2]
theorem make1_c (n d : Int) (h1 : -9223372036854775808 ≤ n) (h2 : n ≤ 9223372036854775807) (h3 : -9223372036854775808 ≤ d) (h4 : d ≤ 9223372036854775807) :
  ACallP Tryz.prog 156 [.int .i64 n, .int .i64 d] (tup3 (makeN n d)) := by
 refine ACall.of_body tt_ok Tryz.func156 rfl rfl (n := 45) rfl rfl ?_
 conv => whnf
 skip
 refine ⟨fun hc => ?_, fun hc => ?_⟩
 ·conv => whnf
  skip
  simp only [SS] at hc
  exact PRet.pure (Wk.eq (by rw [makeN, if_pos hc]; rfl))
 conv => whnf
 skip
 simp only [SS] at hc
 have hd0 := hc
 refine PCall.pure (size_c n h1 h2) (WkT.refl _) ?_
 conv => whnf
 skip
 refine PCall.pure (size_c d h3 h4) (WkT.refl _) ?_
 conv => whnf
 skip
 have ha : n.natAbs ≤ 9223372036854775808 := by omega
 have hb : d.natAbs ≤ 9223372036854775808 := by omega
 refine PCall.pure (gcd_c n.natAbs d.natAbs (by omega) (by omega)) (WkT.refl _) ?_
 have hg : 0 < Nat.gcd n.natAbs d.natAbs := Nat.gcd_pos_of_pos_right _ (by omega)
 have hm := makeN_ne n d hd0
 generalize hgg : Nat.gcd n.natAbs d.natAbs = g at *
 have qa : n.natAbs / g ≤ 9223372036854775808 := Nat.le_trans (Nat.div_le_self _ _) ha
 have qb : d.natAbs / g ≤ 9223372036854775808 := Nat.le_trans (Nat.div_le_self _ _) hb
 have ea : (n.natAbs : Int).tdiv (g : Int) = (n.natAbs / g : Nat) := (Int.ofNat_tdiv _ _).symm
 have eb : (d.natAbs : Int).tdiv (g : Int) = (d.natAbs / g : Nat) := (Int.ofNat_tdiv _ _).symm
 unfold makeA at hm
 generalize n.natAbs / g = a at *
 generalize d.natAbs / g = b at *
 conv => whnf
 repeat (refine aR0 ?_)
 rw [ea, eb]
 conv => whnf
 repeat' (first|refine aA0 ?_|(refine zX (fun hc=>?_) (fun hc=>?_)<;>(try simp only [SY] at hc)<;>(conv=>whnf)))
 ·exact PRet.pure (Wk.eq (by rw [hm, if_pos (by omega)]; rfl))
 ·rw [if_neg (by omega)] at hm
  refine PRet.pure (Wk.eq ?_)
  rw [hm, if_pos (by simpa using hc)]
  simp [tup3]
 ·rw [if_neg (by omega)] at hm
  refine PRet.pure (Wk.eq ?_)
  rw [hm, if_neg (by simpa using hc)]
  rfl
theorem drNum3aa {p q : Prop} (k : q) (h : q → p := by intro hq; first | exact PDraw.sP (some 19) rfl [] [] tt_ok mixed hq) : p := h k
theorem makeP_c (n d : Int) (h1 : -9223372036854775808 ≤ n) (h2 : n ≤ 9223372036854775807) (h3 : -9223372036854775808 ≤ d) (h4 : d ≤ 9223372036854775807) :
  ACallP Tryz.prog 174 [.int .i64 n, .int .i64 d] (tup3 (makeN n d)) := by
 refine ACall.of_body tt_ok Tryz.func174 rfl rfl (n := 45) rfl rfl ?_
 conv => whnf
 skip
 refine ⟨fun hc => ?_, fun hc => ?_⟩
 ·conv => whnf
  skip
  simp only [SS] at hc
  exact PRet.pure (Wk.eq (by rw [makeN, if_pos hc]; rfl))
 conv => whnf
 skip
 simp only [SS] at hc
 have hd0 := hc
 refine PCall.pure (amount_c n h1 h2) (WkT.refl _) ?_
 conv => whnf
 skip
 refine PCall.pure (amount_c d h3 h4) (WkT.refl _) ?_
 conv => whnf
 skip
 have ha : n.natAbs ≤ 9223372036854775808 := by omega
 have hb : d.natAbs ≤ 9223372036854775808 := by omega
 refine PCall.pure (common_c n.natAbs d.natAbs (by omega) (by omega)) (WkT.refl _) ?_
 have hg : 0 < Nat.gcd n.natAbs d.natAbs := Nat.gcd_pos_of_pos_right _ (by omega)
 have hm := makeN_ne n d hd0
 generalize hgg : Nat.gcd n.natAbs d.natAbs = g at *
 have qa : n.natAbs / g ≤ 9223372036854775808 := Nat.le_trans (Nat.div_le_self _ _) ha
 have qb : d.natAbs / g ≤ 9223372036854775808 := Nat.le_trans (Nat.div_le_self _ _) hb
 have ea : (n.natAbs : Int).tdiv (g : Int) = (n.natAbs / g : Nat) := (Int.ofNat_tdiv _ _).symm
 have eb : (d.natAbs : Int).tdiv (g : Int) = (d.natAbs / g : Nat) := (Int.ofNat_tdiv _ _).symm
 unfold makeA at hm
 generalize n.natAbs / g = a at *
 generalize d.natAbs / g = b at *
 conv => whnf
 repeat (first|refine aR0 ?_|((refine drNum3aa ?_);conv=>whnf))
 rw [ea, eb]
 conv => whnf
 repeat' (first|refine aA0 ?_|(refine zX (fun hc=>?_) (fun hc=>?_)<;>(try simp only [SY] at hc)<;>(conv=>whnf)))
 ·exact PRet.pure (Wk.eq (by rw [hm, if_pos (by omega)]; rfl))
 ·rw [if_neg (by omega)] at hm
  refine PRet.pure (Wk.eq ?_)
  rw [hm, if_pos (by simpa using hc)]
  simp [tup3]
 ·rw [if_neg (by omega)] at hm
  refine PRet.pure (Wk.eq ?_)
  rw [hm, if_neg (by simpa using hc)]
  rfl
end Go.Cb
namespace Go.Cb
open Go.Proofs
set_option maxRecDepth 100000
set_option maxHeartbeats 4000000
def negB (s : List UInt8) : Bool := s.head? == some 45
def unneg (s : List UInt8) : List UInt8 := if negB s then s.drop 1 else s
def lowerN (s : List UInt8) (k : Nat) : Option Nat :=
 if k < s.length then
  if s[k]? = some 47 ∧ (partN (s.drop (k + 1))).2 ≠ 0 ∧ k + 1 + (partN (s.drop (k + 1))).2 = s.length then some (partN (s.drop (k + 1))).1 else none
 else some 1
def parseN (s : List UInt8) : Int × Int × Bool :=
 if (partN (unneg s)).2 = 0 then (0, 0, false) else
 match lowerN (unneg s) (partN (unneg s)).2 with
 | none => (0, 0, false)
 | some d =>
  let x := makeN (if negB s then -((partN (unneg s)).1 : Int) else (partN (unneg s)).1) d
  (x.1, x.2.1, x.2.2 == 0)
theorem parseN_eq (s : List UInt8) : parseN s = if (partN (unneg s)).2 = 0 then (0, 0, false) else
 match lowerN (unneg s) (partN (unneg s)).2 with
 | none => (0, 0, false)
 | some d =>
  let x := makeN (if negB s then -((partN (unneg s)).1 : Int) else (partN (unneg s)).1) d
  (x.1, x.2.1, x.2.2 == 0) := rfl
def tupP (x : Int × Int × Bool) : PV := .tup [.int .i64 x.1, .int .i64 x.2.1, .bool x.2.2]
theorem partN_lt (s : List UInt8) : (partN s).1 < 10000000000 ∧ (partN s).2 ≤ 10 ∧ (partN s).2 ≤ s.length := by
 unfold partN
 split
 ·simp
 ·rename_i h
  have h1 := decVal_lt (s.take (digN s)) (digN_dig s)
  have h2 := digN_le s
  refine ⟨Nat.lt_of_lt_of_le h1 ?_, by omega, h2⟩
  have : 10 ^ (s.take (digN s)).length ≤ 10 ^ 10 := Nat.pow_le_pow_right (by omega) (by simp; omega)
  omega
theorem tupP_no : Wk (.tup [.int .i64 0, .int .i64 0, .bfalse]) (tupP (0, 0, false)) := Wk.tup (.cons (Wk.refl _) (.cons (Wk.refl _) (.cons (Wk.ff rfl) .nil)))
theorem byte_eq (c d : UInt8) : ((c.toNat : Int) == (d.toNat : Int)) = (c == d) := by
 rw [Bool.eq_iff_iff, beq_iff_eq, beq_iff_eq, ← UInt8.toNat_inj]
 omega
theorem negB_cons (c : UInt8) (r : List UInt8) : ((c.toNat : Int) == 45) = negB (c :: r) := by
 have := byte_eq c 45
 rw [show ((45 : UInt8).toNat : Int) = 45 from rfl] at this
 rw [this]
 rfl
theorem negB_eq (s : List UInt8) : (decide ((s.length : Int) > 0) && ((s.getD 0 0).toNat : Int) == 45) = negB s := by
 cases s with
 | nil => rfl
 | cons c r =>
  rw [show (decide (((c :: r).length : Int) > 0)) = true by simp, Bool.true_and]
  exact negB_cons c r
theorem getD_eq {s : List UInt8} {k : Nat} (c : UInt8) (h : k < s.length) : (s[k]? = some c ↔ ((s.getD k 0).toNat : Int) = c.toNat) := by
 rw [List.getD, List.getElem?_eq_getElem h, Option.getD_some, Option.some.injEq, ← UInt8.toNat_inj]
 omega
theorem unneg_le (s : List UInt8) : (unneg s).length ≤ s.length := by
 unfold unneg
 split
 ·rw [List.length_drop]; omega
 ·omega
theorem parse1_c (s : List UInt8) : ACallP Tryz.prog 138 [.str s] (tupP (parseN s)) := by
 refine ACall.of_body tt_ok Tryz.func138 rfl rfl (n := 72) rfl rfl ?_
 conv => whnf
 skip
 refine PSeq.go ?_
 conv => whnf
 repeat (first|refine aR0 ?_|((intro _);conv=>whnf))
 rename_i hlen
 have hul := unneg_le s
 refine PSeq.keep (fun _ : Unit => [(0, .str (unneg s))]) (fun _ => True) ?_ ?_
 ·rw [negB_eq]
  conv => whnf
  repeat' ((refine zX (fun hc=>?_) (fun hc=>?_)<;>(try simp only [SY] at hc)<;>(conv=>whnf)))
  ·refine PSliceS.lo (by omega) (by cases s <;> simp_all [negB]; omega) ?_
   conv => whnf
   exact joinEnd () trivial (And.intro (Wk.str (by rw [unneg, if_pos hc])) wA)
  ·exact joinEnd () trivial (And.intro (Wk.str (by rw [unneg, hc]; rfl)) wA)
 ·rintro _ _
  rw [negB_eq]
  have hP := parseN_eq s
  generalize negB s = neg at *
  generalize unneg s = u at *
  have hb := partN_lt u
  have hb2 := fun k => partN_lt (u.drop k)
  have hl : lowerN u (partN u).2 = if (partN u).2 < u.length then if u[(partN u).2]? = some 47 ∧ (partN (u.drop ((partN u).2 + 1))).2 ≠ 0 ∧ (partN u).2 + 1 + (partN (u.drop ((partN u).2 + 1))).2 = u.length then some (partN (u.drop ((partN u).2 + 1))).1 else none else some 1 := rfl
  have hb3 := hb2 ((partN u).2 + 1)
  clear hb2
  have h47 := fun h => getD_eq (s := u) (k := (partN u).2) 47 h
  simp only [show ((47 : UInt8).toNat : Int) = 47 from rfl] at h47
  conv => whnf
  repeat' (first|refine aA0 ?_|((first|refine pC (part_c _) wR ?_|refine pC (make1_c _ _ OA OA OA OA) wR ?_|intro _);conv=>whnf)|(refine zX (fun hc=>?_) (fun hc=>?_)<;>(try simp only [SY] at hc)<;>(conv=>whnf)))
  all_goals rw [hP]
  ·rw [if_pos (by omega)]
   exact PRet.pure tupP_no
  ·rw [if_neg (by omega), hl, if_pos (by omega), if_neg (by omega)]
   exact PRet.pure tupP_no
  ·rw [if_neg (by omega), hl, if_pos (by omega), if_pos ⟨(h47 (by omega)).2 (by omega), by omega, by omega⟩, hc]
   exact PRet.pure (Wk.eq (by simp only [tupP, if_true, Int.zero_sub]))
  ·rw [if_neg (by omega), hl, if_pos (by omega), if_pos ⟨(h47 (by omega)).2 (by omega), by omega, by omega⟩, hc]
   exact PRet.pure (Wk.refl _)
  ·rw [if_neg (by omega), hl, if_pos (by omega), if_neg (fun h => by have := (h47 (by omega)).1 h.1; omega)]
   exact PRet.pure tupP_no
  ·rw [if_neg (by omega), hl, if_neg (by omega), hc]
   exact PRet.pure (Wk.eq (by simp only [tupP, if_true, Int.zero_sub]; rfl))
  ·rw [if_neg (by omega), hl, if_neg (by omega), hc]
   exact PRet.pure (Wk.refl _)
end Go.Cb
namespace Go.Cb
open Go.Proofs
set_option maxRecDepth 100000
set_option maxHeartbeats 4000000
def marksL : List UInt8 := [45, 43, 42, 47, 60, 62, 61, 33, 63, 95, 37]
def baseB (c : UInt8) : Bool := decide ((c.toNat : Int) ≥ 97) && decide ((c.toNat : Int) ≤ 122) || decide ((c.toNat : Int) ≥ 48) && decide ((c.toNat : Int) ≤ 57)
def markB (c : UInt8) : Bool := baseB c || marksL.contains c
def nameB (s : List UInt8) : Bool := decide (1 ≤ s.length) && (decide (s.length ≤ 40) && (s.all markB && !(parseN s).2.2))
theorem drBaseaa {p q : Prop} (k : q) (h : q → p := by intro hq; first | exact PDraw.sP (some 52) rfl [] [] tt_ok mixed hq) : p := h k
theorem name1_c (s : List UInt8) : ACallP Tryz.prog 110 [.str s] (.bool (nameB s)) := by
 refine ACall.of_body tt_ok Tryz.func110 rfl rfl (n := 72) rfl rfl ?_
 conv => whnf
 repeat' (first|refine aA0 ?_|((intro _);conv=>whnf)|(refine zX (fun hc=>?_) (fun hc=>?_)<;>(try simp only [SY] at hc)<;>(conv=>whnf)))
 ·exact PRet.pure (Wk.ff (by simp [nameB]; omega))
 rename_i hlen
 have e : [45, 43, 42, 47, 60, 62, 61, 33, 63, 95, 37] = marksL := rfl
 have em : marksL.length = 11 := rfl
 have hmm : ∀ c, (baseB c || marksL.contains c) = markB c := fun _ => rfl
 rw [e]
 generalize marksL = m at *
 refine PLoop.keep [2, 4, 5, 6, 18, 19, 20, 21, 22, 23, 24, 25, 26, 27, 28, 29, 30, 31, 32, 33, 34, 35, 36, 37, 38, 39, 40, 41, 42, 43, 44, 45, 46, 47, 48, 49, 50, 51, 52, 53, 54, 55, 56, 57, 58, 59, 60, 61, 62, 63] (fun i : Nat => [(4, .int .i64 i)]) (fun i => i ≤ s.length ∧ (s.drop i).all markB = s.all markB) (fun i => s.length - i) 0 ⟨by omega, rfl⟩ wA ?_
 rintro i ⟨hi, hm⟩
 conv => whnf
 repeat' (first|refine aA0 ?_|((first|refine pC (parse1_c s) wR ?_|intro _);conv=>whnf)|(refine zX (fun hc=>?_) (fun hc=>?_)<;>(try simp only [SY] at hc)<;>(conv=>whnf)))
 ·refine PLoop.keep [5, 6, 46, 47, 48, 49, 50, 51, 52, 53, 54, 55, 56, 57, 58, 59, 60, 61] (fun (x : Nat × Bool) => [(5, .bool x.2), (6, .int .i64 x.1)]) (fun x => x.1 ≤ 11 ∧ (x.2 || (m.drop x.1).contains (s.getD i 0)) = markB (s.getD i 0)) (fun x => 11 - x.1) (0, baseB (s.getD i 0)) ⟨by omega, hmm _⟩ wA ?_
  rintro ⟨k, b⟩ ⟨hk, hb⟩
  conv => whnf
  repeat' (first|refine aA0 ?_|((first|refine drBaseaa ?_|intro _);conv=>whnf)|(refine zX (fun hc=>?_) (fun hc=>?_)<;>(try simp only [SY] at hc)<;>(conv=>whnf)))
  ·refine loopTo (k + 1, b || ((s.getD i 0).toNat : Int) == (m.getD k 0).toNat) ⟨by simp only at hk ⊢; omega, ?_⟩ (by show 11 - (k + 1) < 11 - k; simp only at hk; omega) wA
   rw [← hb, drop_getD (show k < m.length by omega), List.contains_cons, byte_eq, Bool.or_assoc]
  all_goals
   simp only at hk hb
   rw [hc, List.drop_of_length_le (by omega)] at hb
   rw [drop_getD (show i < s.length by omega), List.all_cons, ← hb] at hm
  ·refine PRet.pure (Wk.ff ?_)
   simp only [List.contains_nil, Bool.or_false, Bool.false_and] at hm
   simp [nameB, ← hm]
  ·exact loopTo (i + 1) ⟨by omega, by rw [← hm]; simp⟩ (by show s.length - (i + 1) < s.length - i; omega) wA
 ·rw [List.drop_of_length_le (by omega)] at hm
  refine PRet.pure (Wk.bool ?_)
  have h1 : 1 ≤ s.length := by omega
  have h2 : s.length ≤ 40 := by omega
  simp [nameB, ← hm, h1, h2]
def bareBad (d : Datum) (deep : Int) : Bool :=
 (decide (deep > 200) || decide (d.kind < 0) || decide (d.kind > 7)) || ((d.kind == 0 && !numRight d.n d.d) || (d.kind != 0 && d.d != 0)) ||
 ((d.kind == 1 && d.n != 0 && d.n != 1) || (d.kind != 0 && d.kind != 1 && d.n != 0)) || ((d.kind == 2 && !nameB d.s) || (d.kind != 2 && d.kind != 3 && !(d.s == []))) || d.s.any strB ||
 ((d.kind == 6 && (d.l.length : Int) != 2) || (d.kind != 6 && d.kind != 7 && decide ((d.l.length : Int) > 0)))
mutual
def Datum.rightD : Datum → Int → Bool
 | .mk k n d s l, deep => !bareBad (.mk k n d s l) deep && Datum.rightDs l (deep + 1)
def Datum.rightDs : List Datum → Int → Bool
 | [], _ => true
 | x :: xs, deep => Datum.rightD x deep && Datum.rightDs xs deep
end
theorem Datum.rightD_eq (x : Datum) (deep : Int) : x.rightD deep = (!bareBad x deep && Datum.rightDs x.l (deep + 1)) := by cases x; rfl
theorem right2_c (d : Datum) : ∀ deep : Int, 0 ≤ deep → deep ≤ 1000 → ACallP Tryz.prog 85 [.agg d.cells, .int .i64 deep] (.bool (d.rightD deep)) := by
 induction d using Datum.ind with
 | h d ih =>
  intro deep h0 h1
  refine ACall.of_body tt_ok Tryz.func85 rfl rfl (n := 166) rfl rfl ?_
  conv => whnf
  repeat' (first|refine aA0 ?_|((first|(((apply zY;intro hg));(conv=>whnf);(repeat ((first|refine pC (right1_c _ _) wR ?_|refine pC (name1_c _) wR ?_|refine aG ?_);conv=>whnf));exact pZ)|intro _);conv=>whnf)|(refine zX (fun hc=>?_) (fun hc=>?_)<;>(try simp only [SY] at hc)<;>(conv=>whnf)))
  all_goals rw [Datum.rightD_eq]
  iterate 4 exact PRet.pure (Wk.ff (by simp only [bareBad, SS, *, true_or, or_true, Bool.not_true, Bool.false_and]))
  rename_i k1 k2 k3 k4
  refine PLoop.keep [4, 5, 92, 93, 94, 95, 96, 97, 98, 99, 100, 101, 102, 103, 104, 105, 106, 107, 108, 109, 110, 111, 112, 113, 114, 115, 116, 117, 118, 119, 120, 121, 122, 123, 124] (fun i : Nat => [(5, .int .i64 i)]) (fun i => i ≤ d.s.length ∧ (d.s.drop i).any strB = d.s.any strB) (fun i => d.s.length - i) 0 ⟨by omega, rfl⟩ wA ?_
  rintro i ⟨hi, hm⟩
  conv => whnf
  repeat' (first|refine aA0 ?_|((intro _);conv=>whnf)|(refine zX (fun hc=>?_) (fun hc=>?_)<;>(try simp only [SY] at hc)<;>(conv=>whnf)))
  ·rename_i k5
   rw [drop_getD (show i < d.s.length by omega), List.any_cons, show strB (d.s.getD i 0) = true by simp only [strB, SS, hc]] at hm
   exact PRet.pure (Wk.ff (by simp only [bareBad, ← hm, Bool.true_or, Bool.or_true, Bool.not_true, Bool.false_and]))
  ·rename_i k5
   rw [drop_getD (show i < d.s.length by omega), List.any_cons, show strB (d.s.getD i 0) = false by simp only [strB, SS, hc, not_false_eq_true, and_self]] at hm
   exact loopTo (i + 1) ⟨by omega, hm⟩ (by show d.s.length - (i + 1) < d.s.length - i; omega) wA
  ·exact PRet.pure (Wk.ff (by simp only [bareBad, SS, *, true_or, or_true, Bool.not_true, Bool.false_and]))
  ·rename_i k5
   rw [List.drop_of_length_le (by omega), List.any_nil] at hm
   replace hm := hm.symm
   have hbad : bareBad d deep = false := by
    simp only [bareBad, SS, *, and_self]
   simp only [hbad, Bool.not_false, Bool.true_and]
   refine PLoop.keep [4, 6, 150, 151, 152, 153, 154, 155, 156, 157, 158, 159, 160, 161, 162, 163, 164, 165] (fun i : Nat => [(6, .int .i64 i)]) (fun i => i ≤ d.l.length ∧ Datum.rightDs (d.l.drop i) (deep + 1) = Datum.rightDs d.l (deep + 1)) (fun i => d.l.length - i) 0 ⟨by omega, rfl⟩ wA ?_
   rintro j ⟨hj, hr⟩
   conv => whnf
   repeat' (first|refine aA0 ?_|((first|refine pC (ih _ (List.getElem_mem _) _ OA OA) wR ?_|intro _);conv=>whnf)|(refine zX (fun hc=>?_) (fun hc=>?_)<;>(try simp only [SY] at hc)<;>(conv=>whnf)))
   ·rw [drop_at (show j < d.l.length by omega), Datum.rightDs, hc, Bool.false_and] at hr
    exact PRet.pure (Wk.ff hr.symm)
   ·rw [drop_at (show j < d.l.length by omega), Datum.rightDs, hc, Bool.true_and] at hr
    exact loopTo (j + 1) ⟨by omega, hr⟩ (by show d.l.length - (j + 1) < d.l.length - j; omega) wA
   ·rw [List.drop_of_length_le (by omega), Datum.rightDs] at hr
    exact PRet.pure (Wk.tt hr.symm)
end Go.Cb
namespace Go.Cb
open Go.Proofs
set_option maxRecDepth 100000
set_option maxHeartbeats 4000000
abbrev nulD : Datum := .mk 4 0 0 [] []
abbrev pairD (a b : Datum) : Datum := .mk 6 0 0 [] [a, b]
def listD (l : List Datum) : Datum := l.foldr pairD nulD
end Go.Cb
namespace Go.Cb
open Go.Proofs
set_option maxRecDepth 100000
set_option maxHeartbeats 4000000
mutual
def Datum.sz : Datum → Nat
 | .mk _ _ _ _ l => 1 + Datum.szs l
def Datum.szs : List Datum → Nat
 | [] => 0
 | x :: xs => Datum.sz x + Datum.szs xs
end
theorem Datum.sz_eq (x : Datum) : x.sz = 1 + Datum.szs x.l := by cases x; rfl
mutual
def Datum.pr : Datum → Bool
 | .mk k _ _ _ l => (k != 6 || l.length == 2) && Datum.prs l
def Datum.prs : List Datum → Bool
 | [] => true
 | x :: xs => Datum.pr x && Datum.prs xs
end
mutual
def Datum.its : Datum → List Datum × Datum
 | .mk k n d s l => if k = 6 then Datum.itsL l else ([], .mk k n d s l)
def Datum.itsL : List Datum → List Datum × Datum
 | [a, b] => (a :: b.its.1, b.its.2)
 | _ => ([], nulD)
end
structure MkS where
 n : Int
 bad : Bool
abbrev MkR := Datum × MkS
section
variable (ex : Datum → MkS → MkR) (bd : List Datum → MkS → MkR)
end
mutual
def Datum.mkd : Datum → Bool
 | .mk k _ _ s l => (k == 2 && s.contains 37) || Datum.mkds l
def Datum.mkds : List Datum → Bool
 | [] => false
 | x :: xs => Datum.mkd x || Datum.mkds xs
end
end Go.Cb
namespace Go.Cb
open Go.Proofs
set_option maxRecDepth 100000
set_option maxHeartbeats 4000000
def trimR (p : UInt8 → Bool) (s : List UInt8) : List UInt8 := (s.reverse.dropWhile p).reverse
theorem trimR_end (p : UInt8 → Bool) (s : List UInt8) (h : 0 < s.length) : trimR p s = if p (s.getD (s.length - 1) 0) then trimR p (s.take (s.length - 1)) else s := by
 have hne : s ≠ [] := by intro e; subst e; simp at h
 have e : s = s.take (s.length - 1) ++ [s.getD (s.length - 1) 0] := by
  have := List.dropLast_concat_getLast hne
  rw [List.dropLast_eq_take, List.getLast_eq_getElem] at this
  rw [List.getD, List.getElem?_eq_getElem (by omega)]
  exact this.symm
 generalize s.getD (s.length - 1) 0 = c at *
 generalize s.take (s.length - 1) = t at *
 subst e
 simp only [trimR, List.reverse_append, List.reverse_cons, List.reverse_nil, List.nil_append, List.singleton_append, List.dropWhile_cons]
 split <;> simp
theorem contains_c (m : List Bool) (hm : m.length = 256) (b : Nat) (c : UInt8) : ACall Tryz.prog 184 [.ptr b 0, .int .u8 c.toNat] [.box b (m.map PV.bool)] (fun y Γ' => y = .bool (m.getD c.toNat false) ∧ Γ' = [.box b (m.map PV.bool)]) := by
 have hc := UInt8.toNat_lt c
 refine ACall.of_body tt_ok Tryz.func184 rfl rfl (n := 10) rfl rfl ?_
 conv => whnf
 skip
 refine PIndexR.ix rfl (by omega) (by omega) ?_
 conv => whnf
 refine PLoad.cell (.bool (m.getD c.toNat false)) (by simp [List.getD, show c.toNat < m.length by omega]) ?_
 conv => whnf
 exact PRet.gen (Wk.refl _) ⟨rfl, rfl⟩
theorem trimLeft_c (m : List Bool) (hm : m.length = 256) (b : Nat) (s : List UInt8) : ACall Tryz.prog 166 [.str s, .ptr b 0] [.box b (m.map PV.bool)] (fun y Γ' => y = .str (s.dropWhile fun c => m.getD c.toNat false) ∧ Γ' = [.box b (m.map PV.bool)]) := by
 refine ACall.of_body tt_ok Tryz.func166 rfl rfl (n := 16) rfl rfl ?_
 conv => whnf
 skip
 refine PLoop.keep [0, 5, 6, 7, 8, 9, 10, 11, 12, 13, 14] (fun t : List UInt8 => [(0, .str t)]) (fun t => t.dropWhile (fun c => m.getD c.toNat false) = s.dropWhile (fun c => m.getD c.toNat false)) (fun t => t.length) s rfl wA ?_
 intro t ht
 conv => whnf
 repeat' (first|refine aA0 ?_|((intro _);conv=>whnf)|(refine zX (fun hc=>?_) (fun hc=>?_)<;>(try simp only [SY] at hc)<;>(conv=>whnf)))
 ·refine PCall.go (contains_c m hm b (t.getD 0 0)) (WkT.refl _) ?_
  rintro _ _ ⟨rfl, rfl⟩
  have hd : t = t.getD 0 0 :: t.drop 1 := drop_getD (s := t) (i := 0) (by omega)
  generalize t.getD 0 0 = c at *
  rw [hd, List.dropWhile_cons] at ht
  conv => whnf
  repeat' (first|refine aA0 ?_|(refine zX (fun hc=>?_) (fun hc=>?_)<;>(try simp only [SY] at hc)<;>(conv=>whnf)))
  ·rw [hc] at ht
   refine PRet.gen (Wk.str ?_) ⟨rfl, rfl⟩
   rw [hd]; simpa using ht
  ·rw [hc] at ht
   exact loopTo (t.drop 1) (by simpa using ht) (by show (t.drop 1).length < t.length; rw [List.length_drop]; omega) wA
 ·obtain rfl : t = [] := List.eq_nil_of_length_eq_zero (by omega)
  exact PRet.gen (Wk.str ht) ⟨rfl, rfl⟩
theorem trimRight_c (m : List Bool) (hm : m.length = 256) (b : Nat) (s : List UInt8) : ACall Tryz.prog 167 [.str s, .ptr b 0] [.box b (m.map PV.bool)] (fun y Γ' => y = .str (trimR (fun c => m.getD c.toNat false) s) ∧ Γ' = [.box b (m.map PV.bool)]) := by
 refine ACall.of_body tt_ok Tryz.func167 rfl rfl (n := 22) rfl rfl ?_
 conv => whnf
 skip
 refine PLoop.keep [0, 5, 6, 7, 8, 9, 10, 11, 12, 13, 14, 15, 16, 17, 18, 19, 20] (fun t : List UInt8 => [(0, .str t)]) (fun t => trimR (fun c => m.getD c.toNat false) t = trimR (fun c => m.getD c.toNat false) s) (fun t => t.length) s rfl wA ?_
 intro t ht
 conv => whnf
 repeat' (first|refine aA0 ?_|((intro _);conv=>whnf)|(refine zX (fun hc=>?_) (fun hc=>?_)<;>(try simp only [SY] at hc)<;>(conv=>whnf)))
 ·refine PCall.go (contains_c m hm b (t.getD (t.length - 1) 0)) (WkT.refl _) ?_
  rintro _ _ ⟨rfl, rfl⟩
  rw [trimR_end _ t (by omega)] at ht
  conv => whnf
  repeat' (first|refine aA0 ?_|((intro _);conv=>whnf)|(refine zX (fun hc=>?_) (fun hc=>?_)<;>(try simp only [SY] at hc)<;>(conv=>whnf)))
  ·rw [hc] at ht
   exact PRet.gen (Wk.str (by simpa using ht)) ⟨rfl, rfl⟩
  ·rw [hc] at ht
   exact loopTo (t.take (t.length - 1)) (by simpa using ht) (by show (t.take (t.length - 1)).length < t.length; rw [List.length_take]; omega) wA
 ·obtain rfl : t = [] := List.eq_nil_of_length_eq_zero (by omega)
  exact PRet.gen (Wk.str ht) ⟨rfl, rfl⟩
def setOf (s : List UInt8) (m : List Bool) : List Bool := s.foldl (fun m c => m.set c.toNat true) m
theorem setOf_length (s : List UInt8) : ∀ m, (setOf s m).length = m.length := by
 induction s with
 | nil => intro m; rfl
 | cons c s ih => intro m; rw [setOf, List.foldl_cons]; exact (ih _).trans (by simp)
theorem setOf_get (s : List UInt8) : ∀ (m : List Bool), m.length = 256 → ∀ c : UInt8, (setOf s m).getD c.toNat false = (m.getD c.toNat false || s.contains c) := by
 induction s with
 | nil => intro m _ c; simp [setOf]
 | cons d s ih =>
  intro m hm c
  rw [setOf, List.foldl_cons]
  refine (ih _ (by simp [hm]) c).trans ?_
  rw [List.contains_cons]
  have hc := UInt8.toNat_lt c
  by_cases h : d = c
  ·subst h
   simp [List.getD, show d.toNat < m.length by omega]
  ·have h' : d.toNat ≠ c.toNat := fun e => h (UInt8.toNat_inj.1 e)
   have h2 : (c == d) = false := by simp; exact fun e => h e.symm
   simp [List.getD, List.getElem?_set_ne h', h2]
def msetOf (s : List UInt8) (m : List PV) : List PV := s.foldl (fun m c => m.set c.toNat .btrue) m
theorem msetOf_length (s : List UInt8) : ∀ m, (msetOf s m).length = m.length := by
 induction s with
 | nil => intro m; rfl
 | cons c s ih => intro m; rw [msetOf, List.foldl_cons]; exact (ih _).trans (by simp)
theorem WkL.set {xs ys : List PV} {x y : PV} (h : WkL xs ys) (hx : Wk x y) : ∀ i, WkL (xs.set i x) (ys.set i y) := by
 induction h with
 | nil => intro i; exact .nil
 | cons a b ih =>
  intro i
  cases i with
  | zero => exact .cons hx b
  | succ i => exact .cons a (ih i)
theorem msetOf_wk (s : List UInt8) : ∀ (m : List PV) (m' : List Bool), WkL m (m'.map PV.bool) → WkL (msetOf s m) ((setOf s m').map PV.bool) := by
 induction s with
 | nil => intro m m' h; exact h
 | cons c s ih =>
  intro m m' h
  rw [msetOf, setOf, List.foldl_cons, List.foldl_cons]
  exact ih _ _ (by rw [List.map_set]; exact h.set (Wk.tt rfl) _)
theorem msetOf_snoc (s : List UInt8) (c : UInt8) (m : List PV) : msetOf (s ++ [c]) m = (msetOf s m).set c.toNat .btrue := by simp [msetOf]
theorem makeSet_c (s : List UInt8) (hs : ∀ c ∈ s, c.toNat < 128) : ACallP Tryz.prog 165 [.str s] (.tup [.agg ((setOf s (List.replicate 256 false)).map PV.bool), .btrue]) := by
 refine ACall.of_body tt_ok Tryz.func165 rfl rfl (n := 21) rfl rfl ?_
 conv => whnf
 repeat (((intro _);conv=>whnf))
 rename_i b
 show PLoop _ _ [.box b (msetOf (s.take 0) (List.replicate 256 .bfalse))] _ _
 have hl : ∀ i, (msetOf (s.take i) (List.replicate 256 .bfalse)).length = 256 := fun i => (msetOf_length _ _).trans (by simp)
 refine PLoop.over [3, 4, 5, 6, 7, 8, 9, 10, 11, 12, 13, 14, 15, 16, 17, 18, 19] (fun i : Nat => [(4, .int .i64 i)]) (fun i => [.box b (msetOf (s.take i) (List.replicate 256 .bfalse))]) (fun i => i ≤ s.length) (fun i => s.length - i) 0 (by omega) wA ?_
 intro i hi
 have hli := hl i
 have hln := hl (i + 1)
 by_cases hlt : i < s.length
 ·have hc : (s.getD i 0).toNat < 128 := hs _ (by rw [List.getD, List.getElem?_eq_getElem hlt]; exact List.getElem_mem _)
  have hsn : s.take (i + 1) = s.take i ++ [s.getD i 0] := by rw [List.take_add_one]; simp [hlt]
  rw [hsn, msetOf_snoc] at hln
  conv => whnf
  repeat' (first|refine aA0 ?_|((intro _);conv=>whnf)|(refine zX (fun hc=>?_) (fun hc=>?_)<;>(try simp only [SY] at hc)<;>first|omega|(conv=>whnf)))
  refine PIndexR.ix rfl (by omega) (by omega) ?_
  conv => whnf
  refine PStore.cell (by omega) rfl rfl ?_
  conv => whnf
  repeat' (first|refine aA0 ?_|(refine zX (fun hc=>?_) (fun hc=>?_)<;>(try simp only [SY] at hc)<;>omega))
  rw [show 0 + (s.getD i 0).toNat = (s.getD i 0).toNat by omega, ← msetOf_snoc, ← hsn]
  exact loopTo (i + 1) (by omega) (by omega) wA
 ·rw [List.take_of_length_le (by omega)] at *
  conv => whnf
  repeat' (first|((intro _);conv=>whnf)|(refine zX (fun hc=>?_) (fun hc=>?_)<;>(try simp only [SY] at hc)<;>first|omega|(conv=>whnf)))
  refine PLoad.all hli ?_
  conv => whnf
  refine PStore.all hli hli ?_
  conv => whnf
  refine PLoad.all hli ?_
  conv => whnf
  refine PRet.pure (Wk.tup (.cons (Wk.agg (msetOf_wk s _ _ ?_)) (.cons (Wk.refl _) .nil)))
  rw [List.map_replicate]
  have : ∀ n, WkL (List.replicate n .bfalse) (List.replicate n (PV.bool false)) := by
   intro n
   induction n with
   | zero => exact .nil
   | succ n ih => exact .cons (Wk.ff rfl) ih
  exact this 256
theorem trim_c (s cs : List UInt8) (hl : 2 ≤ cs.length) (hcs : ∀ c ∈ cs, c.toNat < 128) : ACallP Tryz.prog 146 [.str s, .str cs] (.str ((trimR cs.contains s).dropWhile cs.contains)) := by
 have hp : (fun c : UInt8 => (setOf cs (List.replicate 256 false)).getD c.toNat false) = cs.contains := by
  funext c
  rw [setOf_get cs _ (by simp) c]
  have : (List.replicate 256 false).getD c.toNat false = false := by rw [List.getD, List.getElem?_replicate]; split <;> rfl
  rw [this, Bool.false_or]
 have hlen : (setOf cs (List.replicate 256 false)).length = 256 := by rw [setOf_length]; simp
 have hne : (cs == []) = false := by simp; intro e; subst e; simp at hl
 refine ACall.of_body tt_ok Tryz.func146 rfl rfl (n := 43) rfl rfl ?_
 conv => whnf
 repeat' (first|refine aA0 ?_|((first|refine pC (makeSet_c cs hcs) wR ?_|intro _);conv=>whnf)|(refine zX (fun hc=>?_) (fun hc=>?_)<;>(try simp only [SY] at hc)<;>first|omega|(conv=>whnf)))
 ·rcases hc with hc | hc
  ·subst hc
   exact PRet.pure (Wk.str rfl)
  ·subst hc; simp at hl
 ·refine PStore.all rfl (by rw [List.length_map]; exact hlen) ?_
  conv => whnf
  skip
  refine PCall.go (trimRight_c _ hlen _ s) (WkT.refl _) ?_
  rintro _ _ ⟨rfl, rfl⟩
  conv => whnf
  skip
  refine PCall.go (trimLeft_c _ hlen _ _) (WkT.refl _) ?_
  rintro _ _ ⟨rfl, rfl⟩
  conv => whnf
  skip
  rw [hp]
  exact PRet.pure (Wk.refl _)
theorem indexByteString_x (s : List UInt8) (c : UInt8) : AExt Tryz.prog 197 [.str s, .int .u8 c.toNat] (.int .i64 (Go.Lib.indexByte s c)) := by
 intro F w vs hv
 obtain ⟨v1, v2, rfl⟩ : ∃ v1 v2, vs = [v1, v2] := by
  have := hv.length
  match vs, this with
  | [a, b], _ => exact ⟨a, b, rfl⟩
 simp only [RepT, Rep] at hv
 obtain ⟨⟨rfl, _⟩, rfl, _⟩ := hv
 refine ⟨.int .i64 (Go.Lib.indexByte s c), ?_, by simp only [Rep]⟩
 rw [show [Value.string ⟨s.toArray⟩, Value.int .u8 c.toNat].toArray = #[Value.string ⟨s.toArray⟩, Value.int .u8 c.toNat] from rfl]
 rw [run_callFunc_extern (fn := Tryz.f197) (e := Extern.BytealgIndexByte.indexByte) (by kernel_rfl) (by kernel_rfl) (by kernel_rfl) (by kernel_rfl) (by kernel_rfl)]
 simp [Go.Lib.run_indexByteString]
theorem indexByteL_c (s : List UInt8) (c : UInt8) : ACallP Tryz.prog 188 [.str s, .int .u8 c.toNat] (.int .i64 (Go.Lib.indexByte s c)) := by
 refine ACall.of_body tt_ok Tryz.func188 rfl rfl (n := 8) rfl rfl ?_
 conv => whnf
 skip
 refine PCall.ext (indexByteString_x s c) (WkT.refl _) ?_
 conv => whnf
 skip
 exact PRet.pure (Wk.refl _)
theorem indexByte_c (s : List UInt8) (c : UInt8) : ACallP Tryz.prog 170 [.str s, .int .u8 c.toNat] (.int .i64 (Go.Lib.indexByte s c)) := by
 refine ACall.of_body tt_ok Tryz.func170 rfl rfl (n := 8) rfl rfl ?_
 conv => whnf
 repeat (((refine pC (indexByteL_c s c) wR ?_);conv=>whnf))
 exact PRet.pure (Wk.refl _)
theorem index1_c (s : List UInt8) (c : UInt8) : ACallP Tryz.prog 199 [.str s, .str [c]] (.int .i64 (Go.Lib.indexByte s c)) := by
 refine ACall.of_body tt_ok Tryz.func199 rfl rfl (n := 143) rfl rfl ?_
 conv => whnf
 repeat' (first|refine aA0 ?_|((first|refine pC (indexByteL_c s c) wR ?_|intro _);conv=>whnf)|(refine zX (fun hc=>?_) (fun hc=>?_)<;>(try simp only [SY] at hc)<;>(conv=>whnf)))
 ·have h : [c] = s := by rcases hc with hc | hc; simp at hc; exact hc
  subst h
  exact PRet.pure (Wk.int (by simp [Go.Lib.indexByte]))
 ·exact PRet.pure (Wk.refl _)
 all_goals exact absurd rfl ‹¬ (([c].length : Nat) : Int) = 1›
theorem hasPrefix_c (s p : List UInt8) : ACallP Tryz.prog 198 [.str s, .str p] (.bool (decide (p.length ≤ s.length) && s.take p.length == p)) := by
 refine ACall.of_body tt_ok Tryz.func198 rfl rfl (n := 18) rfl rfl ?_
 conv => whnf
 repeat' (first|refine aA0 ?_|((intro _);conv=>whnf)|(refine zX (fun hc=>?_) (fun hc=>?_)<;>(try simp only [SY] at hc)<;>omega))
 exact PRet.pure (Wk.bool (by congr 1; simp))
def preB (s p : List UInt8) : Bool := decide (p.length ≤ s.length) && s.take p.length == p
theorem cutPrefix_c (s p : List UInt8) : ACallP Tryz.prog 189 [.str s, .str p] (.tup [.str (if preB s p = true then s.drop p.length else s), .bool (preB s p)]) := by
 refine ACall.of_body tt_ok Tryz.func189 rfl rfl (n := 15) rfl rfl ?_
 conv => whnf
 repeat (((refine pC (hasPrefix_c s p) wR ?_);conv=>whnf))
 rw [show (decide (p.length ≤ s.length) && s.take p.length == p) = preB s p from rfl]
 have hb : preB s p = true → p.length ≤ s.length := by
  intro h
  simp only [preB, Bool.and_eq_true, decide_eq_true_eq] at h
  exact h.1
 generalize preB s p = b at *
 cases b with
 | false =>
  conv => whnf
  repeat' ((refine zX (fun hc=>?_) (fun hc=>?_)<;>(try simp only [SY] at hc)<;>(conv=>whnf)))
  ·exact PRet.pure (Wk.tup (.cons (Wk.str rfl) (.cons (Wk.ff rfl) .nil)))
 | true =>
  have hb := hb rfl
  conv => whnf
  repeat' (first|refine aA0 ?_|((intro _);conv=>whnf)|(refine zX (fun hc=>?_) (fun hc=>?_)<;>(try simp only [SY] at hc)<;>(conv=>whnf)))
  exact PRet.pure (Wk.tup (.cons (Wk.str rfl) (.cons (Wk.tt rfl) .nil)))
theorem cutPrefixS_c (s p : List UInt8) : ACallP Tryz.prog 171 [.str s, .str p] (.tup [.str (if preB s p = true then s.drop p.length else s), .bool (preB s p)]) := by
 refine ACall.of_body tt_ok Tryz.func171 rfl rfl (n := 11) rfl rfl ?_
 conv => whnf
 repeat (((refine pC (cutPrefix_c s p) wR ?_);conv=>whnf))
 exact PRet.pure (Wk.refl _)
def cutA (s : List UInt8) (c : UInt8) : List UInt8 := if 0 ≤ Go.Lib.indexByte s c then s.take (Go.Lib.indexByte s c).toNat else s
def cutB (s : List UInt8) (c : UInt8) : List UInt8 := if 0 ≤ Go.Lib.indexByte s c then s.drop ((Go.Lib.indexByte s c).toNat + 1) else []
theorem indexByte_lt (s : List UInt8) (c : UInt8) : Go.Lib.indexByte s c < s.length ∨ Go.Lib.indexByte s c = -1 := by
 induction s with
 | nil => simp [Go.Lib.indexByte]
 | cons d s ih =>
  rw [Go.Lib.indexByte]
  simp only [List.length_cons]
  split
  ·omega
  ·split <;> rename_i h <;> simp at h <;> omega
theorem drLibab {p q : Prop} (k : q) (h : q → p := by intro hq; first | exact PDraw.sP (some 13) rfl [] [] tt_ok mixed hq) : p := h k
theorem cut_c (s : List UInt8) (c : UInt8) (hs : s.length ≤ 9223372036854775806) : ACallP Tryz.prog 190 [.str s, .str [c]] (.tup [.str (cutA s c), .str (cutB s c), .bool (decide (0 ≤ Go.Lib.indexByte s c))]) := by
 refine ACall.of_body tt_ok Tryz.func190 rfl rfl (n := 23) rfl rfl ?_
 conv => whnf
 repeat (((refine pC (index1_c s c) wR ?_);conv=>whnf))
 have h1 := indexByte_lt s c
 unfold cutA cutB
 have e1 : [c].length = 1 := rfl
 generalize Go.Lib.indexByte s c = n at *
 conv => whnf
 repeat' (first|refine aA0 ?_|((refine drLibab ?_);conv=>whnf)|(refine zX (fun hc=>?_) (fun hc=>?_)<;>(try simp only [SY] at hc)<;>(conv=>whnf)))
 ·simp only [hc, if_true, decide_true]
  exact PRet.pure (Wk.tup (.cons (Wk.refl _) (.cons (Wk.str (by congr 1; simp; omega)) (.cons (Wk.tt rfl) .nil))))
 ·simp only [show ¬ 0 ≤ n by omega, if_false, decide_false]
  exact PRet.pure (Wk.tup (.cons (Wk.refl _) (.cons (Wk.str rfl) (.cons (Wk.ff rfl) .nil))))
theorem cutS_c (s : List UInt8) (c : UInt8) (hs : s.length ≤ 9223372036854775806) : ACallP Tryz.prog 172 [.str s, .str [c]] (.tup [.str (cutA s c), .str (cutB s c), .bool (decide (0 ≤ Go.Lib.indexByte s c))]) := by
 refine ACall.of_body tt_ok Tryz.func172 rfl rfl (n := 13) rfl rfl ?_
 conv => whnf
 repeat (((refine pC (cut_c s c hs) wR ?_);conv=>whnf))
 exact PRet.pure (Wk.refl _)
end Go.Cb
namespace Go.Cb
open Go.Proofs
set_option maxRecDepth 100000
set_option maxHeartbeats 4000000
theorem getD_mem {s : List UInt8} {i : Nat} (h : i < s.length) : s.getD i 0 ∈ s := by rw [List.getD, List.getElem?_eq_getElem h]; exact List.getElem_mem _
theorem take_getD {s : List UInt8} {i : Nat} (h : i < s.length) : s.take (i + 1) = s.take i ++ [s.getD i 0] := by rw [List.take_add_one]; simp [h]
theorem getD_get {s : List UInt8} {i : Nat} (h : i < s.length) : s[i] = s.getD i 0 := by simp [List.getD, h]
theorem isDig_iff {c : UInt8} : isDig c = true ↔ (48 : Int) ≤ c.toNat ∧ (c.toNat : Int) ≤ 57 := by simp only [isDig, Bool.and_eq_true, decide_eq_true_eq]; omega
theorem atoiI_c (s : List UInt8) (h1 : 1 ≤ s.length) (h2 : s.length ≤ 10) (hd : ∀ c ∈ s, isDig c = true) : ACallP Tryz.prog 200 [.str s] (.tup [.int .i64 (decVal s), .sc .nilIface]) := by
 have h0 := isDig_iff.1 (hd _ (getD_mem (i := 0) (by omega)))
 refine ACall.of_body tt_ok Tryz.func200 rfl rfl (n := 77) rfl rfl ?_
 conv => whnf
 repeat' (first|refine aA0 ?_|((intro _);conv=>whnf)|(refine zX (fun hc=>?_) (fun hc=>?_)<;>(try simp only [SY] at hc)<;>first|omega|(conv=>whnf)))
 ·have hv : ∀ i, decVal (s.take i) < 10 ^ 10 := fun i => Nat.lt_of_lt_of_le (decVal_lt _ fun c hc => hd c (List.mem_of_mem_take hc)) (Nat.pow_le_pow_right (by omega) (by simp; omega))
  refine PLoop.keep [2, 3, 6, 8, 49, 50, 51, 52, 53, 54, 55, 56, 57, 58, 59, 60, 61, 62, 63] (fun i : Nat => [(6, .int .i64 (decVal (s.take i))), (49, .int .i64 i)]) (fun i => i ≤ s.length) (fun i => s.length - i) 0 (by omega) wA ?_
  intro i hi
  have hvi := hv i
  by_cases hlt : i < s.length
  ·have hc1 := isDig_iff.1 (hd _ (getD_mem hlt))
   have hsn : decVal (s.take (i + 1)) = 10 * decVal (s.take i) + ((s.getD i 0).toNat - 48) := by rw [take_getD hlt, decVal_snoc]
   rw [← getD_get hlt] at hc1 hsn
   conv => whnf
   repeat' (first|refine aA0 ?_|(refine zX (fun hc=>?_) (fun hc=>?_)<;>(try simp only [SY] at hc)<;>first|omega|(conv=>whnf)))
   exact loopTo (i + 1) (by omega) (by show s.length - (i + 1) < s.length - i; omega) wA
  ·conv => whnf
   repeat' (first|refine aA0 ?_|(refine zX (fun hc=>?_) (fun hc=>?_)<;>(try simp only [SY] at hc)<;>first|omega|(conv=>whnf)))
   rw [List.take_of_length_le (by omega)]
   exact PRet.pure (Wk.refl _)
theorem atoi_c (s : List UInt8) (h1 : 1 ≤ s.length) (h2 : s.length ≤ 10) (hd : ∀ c ∈ s, isDig c = true) : ACallP Tryz.prog 191 [.str s] (.tup [.int .i64 (decVal s), .sc .nilIface]) := by
 refine ACall.of_body tt_ok Tryz.func191 rfl rfl (n := 18) rfl rfl ?_
 conv => whnf
 repeat' (first|((refine pC (atoiI_c s h1 h2 hd) wR ?_);conv=>whnf)|(refine zX (fun hc=>?_) (fun hc=>?_)<;>(try simp only [SY] at hc)<;>omega))
 exact PRet.pure (Wk.refl _)
def natB (s : List UInt8) : Bool := decide (1 ≤ s.length) && (decide (s.length ≤ 10) && s.all isDig)
def natV (s : List UInt8) : Nat := if natB s then decVal s else 0
def digits : List UInt8 := [48, 49, 50, 51, 52, 53, 54, 55, 56, 57]
theorem dropWhile_nil_iff (p : UInt8 → Bool) : ∀ l : List UInt8, l.dropWhile p = [] ↔ l.all p = true
 | [] => by simp
 | c :: l => by
  rw [List.dropWhile_cons, List.all_cons]
  cases h : p c
  ·simp
  ·simp only [if_true, Bool.true_and]; exact dropWhile_nil_iff p l
theorem all_dropWhile (p : UInt8 → Bool) : ∀ l : List UInt8, (l.dropWhile p).all p = l.all p
 | [] => rfl
 | c :: l => by
  rw [List.dropWhile_cons, List.all_cons]
  cases h : p c
  ·simp [h]
  ·simp only [if_true, Bool.true_and]; exact all_dropWhile p l
theorem trim_nil (p : UInt8 → Bool) (s : List UInt8) : (trimR p s).dropWhile p = [] ↔ s.all p = true := by
 rw [dropWhile_nil_iff, trimR, List.all_reverse, all_dropWhile, List.all_reverse]
theorem digits_dig : digits.contains = isDig := by
 funext c
 simp only [digits, isDig, List.contains_cons, List.contains_nil, Bool.or_false]
 rw [Bool.eq_iff_iff]
 simp only [Bool.or_eq_true, beq_iff_eq, Bool.and_eq_true, decide_eq_true_eq, ← UInt8.toNat_inj]
 simp
 omega
theorem natB_iff (s : List UInt8) : natB s = true ↔ (¬ (s.length : Int) = 0 ∧ (s.length : Int) ≤ 10) ∧ (trimR digits.contains s).dropWhile digits.contains = [] := by
 rw [trim_nil, digits_dig, natB, Bool.and_eq_true, Bool.and_eq_true, decide_eq_true_eq, decide_eq_true_eq]
 constructor
 ·rintro ⟨h1, h2, h3⟩; exact ⟨⟨by omega, by omega⟩, h3⟩
 ·rintro ⟨⟨h1, h2⟩, h3⟩; exact ⟨by omega, by omega, h3⟩
theorem drNumPaa {p q : Prop} (k : q) (h : q → p := by intro hq; first | exact PDraw.sP (some 24) rfl [] [] tt_ok mixed hq) : p := h k
theorem natural_c (s : List UInt8) : ACallP Tryz.prog 173 [.str s] (.tup [.int .i64 (natV s), .bool (natB s)]) := by
 have hb := natB_iff s
 refine ACall.of_body tt_ok Tryz.func173 rfl rfl (n := 27) rfl rfl ?_
 conv => whnf
 repeat' (first|refine aA0 ?_|((first|(((apply zY;intro hg));(conv=>whnf);(repeat ((first|refine pC (trim_c s digits (by decide) (by decide)) wR ?_|refine aG ?_);conv=>whnf));exact pZ)|intro _);conv=>whnf)|(refine zX (fun hc=>?_) (fun hc=>?_)<;>(try simp only [SY] at hc)<;>(conv=>whnf)))
 ·have hn : natB s = false := by
   rw [← Bool.not_eq_true, hb]
   rintro ⟨⟨h1, h2⟩, h3⟩
   rcases hc with hc | hc
   ·omega
   ·exact hc h3
  exact PRet.pure (Wk.tup (.cons (Wk.int (by simp [natV, hn])) (.cons (Wk.ff hn) .nil)))
 ·have hn : natB s = true := hb.2 hc
  have hall : ∀ c ∈ s, isDig c = true := by
   have := hc.2
   rw [trim_nil, digits_dig] at this
   exact fun c hc => List.all_eq_true.1 this c hc
  conv => whnf
  repeat' (first|refine aA0 ?_|((first|refine pC (atoi_c s (by omega) (by omega) hall) wR ?_|refine drNumPaa ?_);conv=>whnf)|(refine zX (fun hc=>?_) (fun hc=>?_)<;>(try simp only [SY] at hc)<;>omega))
  exact PRet.pure (Wk.tup (.cons (Wk.int (by simp [natV, hn])) (.cons (Wk.tt hn) .nil)))
def parseP (s : List UInt8) : Int × Int × Bool :=
 let u := if negB s then s.drop 1 else s
 let a := cutA u 47
 let b := if 0 ≤ Go.Lib.indexByte u 47 then cutB u 47 else [49]
 if natB a && natB b then
  let x := makeN (if negB s then -(natV a : Int) else natV a) (natV b)
  (x.1, x.2.1, x.2.2 == 0)
 else (0, 0, false)
theorem preB_neg (s : List UInt8) : preB s [45] = negB s := by
 cases s with
 | nil => rfl
 | cons c s => simp [preB, negB]
theorem natV_le (s : List UInt8) : natV s < 10000000000 := by
 unfold natV
 split
 ·rename_i h
  simp only [natB, Bool.and_eq_true, decide_eq_true_eq] at h
  refine Nat.lt_of_lt_of_le (decVal_lt s fun c hc => List.all_eq_true.1 h.2.2 c hc) ?_
  have : 10 ^ s.length ≤ 10 ^ 10 := Nat.pow_le_pow_right (by omega) (by omega)
  omega
 ·omega
def parseQ (neg : Bool) (a b : List UInt8) : Int × Int × Bool :=
 if (natB a && natB b) = true then
  ((makeN (if neg = true then -(natV a : Int) else natV a) (natV b)).1, (makeN (if neg = true then -(natV a : Int) else natV a) (natV b)).2.1, (makeN (if neg = true then -(natV a : Int) else natV a) (natV b)).2.2 == 0)
 else (0, 0, false)
theorem parseP_c (s : List UInt8) (hs : s.length ≤ 1000000) : ACallP Tryz.prog 148 [.str s] (tupP (parseP s)) := by
 refine ACall.of_body tt_ok Tryz.func148 rfl rfl (n := 57) rfl rfl ?_
 conv => whnf
 skip
 refine PCall.pure (cutPrefixS_c s [45]) (WkT.refl _) ?_
 have hP : parseP s = parseQ (negB s) (cutA (if negB s = true then s.drop [45].length else s) 47) (if 0 ≤ Go.Lib.indexByte (if negB s = true then s.drop [45].length else s) 47 then cutB (if negB s = true then s.drop [45].length else s) 47 else [49]) := rfl
 have hu : (if negB s = true then s.drop [45].length else s).length ≤ 1000000 := by split <;> (try rw [List.length_drop]) <;> omega
 rw [preB_neg]
 rw [hP]
 generalize (if negB s = true then s.drop [45].length else s) = u at *
 generalize negB s = neg at *
 have v1 := natV_le (cutA u 47)
 have v2 := natV_le (cutB u 47)
 have v3 : natV [49] = 1 := by decide
 generalize h1 : natV [49] = n1 at *
 have h2 : natB [49] = true := by decide
 conv => whnf
 repeat' (first|refine aA0 ?_|((first|refine pC (cutS_c _ 47 OA) wR ?_|refine pC (natural_c _) wR ?_|refine pC (makeP_c _ _ OA OA OA OA) wR ?_);conv=>whnf)|(refine zX (fun hc=>?_) (fun hc=>?_)<;>(try simp only [SY] at hc)<;>(conv=>whnf)))
 all_goals first | rw [if_neg (by omega)] | rw [if_pos (by omega)]
 ·rw [parseQ, if_neg (by simp only [SS]; rcases hc with hc | hc; simp [hc]; rw [h2] at hc; cases hc)]
  exact PRet.pure tupP_no
 ·rw [h1, parseQ, if_pos (by simp only [SS]; exact ‹_ ∧ _›), hc, if_pos rfl, h1]
  exact PRet.pure (Wk.eq (by simp only [tupP, Int.zero_sub]))
 ·rw [h1, parseQ, if_pos (by simp only [SS]; exact ‹_ ∧ _›), hc, if_neg (by simp), h1]
  exact PRet.pure (Wk.refl _)
 ·rw [parseQ, if_neg (by simp only [SS]; rcases hc with hc | hc <;> simp [hc])]
  exact PRet.pure tupP_no
 ·rw [parseQ, if_pos (by simp only [SS]; exact ‹_ ∧ _›), hc, if_pos rfl]
  exact PRet.pure (Wk.eq (by simp only [tupP, Int.zero_sub]))
 ·rw [parseQ, if_pos (by simp only [SS]; exact ‹_ ∧ _›), hc, if_neg (by simp)]
  exact PRet.pure (Wk.refl _)
end Go.Cb
namespace Go.Cb
open Go.Proofs
set_option maxRecDepth 100000
set_option maxHeartbeats 4000000
def findI {α : Type} (p : α → Bool) : List α → Int
 | [] => -1
 | x :: l => if p x then 0 else if findI p l = -1 then -1 else findI p l + 1
theorem findI_ge {α : Type} (p : α → Bool) : ∀ l : List α, -1 ≤ findI p l
 | [] => by simp [findI]
 | x :: l => by
  have := findI_ge p l
  rw [findI]; split
  ·omega
  ·split <;> omega
theorem findI_any {α : Type} (p : α → Bool) : ∀ l : List α, decide (findI p l ≥ 0) = l.any p
 | [] => by simp [findI]
 | x :: l => by
  have h := findI_any p l
  have hg := findI_ge p l
  rw [findI, List.any_cons, ← h]
  cases p x
  ·simp only [Bool.false_eq_true, if_false, Bool.false_or]
   split
   ·rename_i e; rw [e]
   ·rw [Bool.eq_iff_iff, decide_eq_true_eq, decide_eq_true_eq]; omega
  ·simp
theorem indexFuncDat_c (k : Nat) (cap : List PV) (Γ1 : List Ent) (p : Datum → Bool) (l : List Datum) (hf : ∀ x ∈ l, ACall Tryz.prog k (.agg (Datum.cells x) :: cap) Γ1 (fun y Γ' => y = .bool (p x) ∧ Γ' = Γ1)) :
  ACall Tryz.prog 99 [.sl 5 (l.map Datum.pv) none, .fn (.func k) cap] Γ1 (fun y Γ' => y = .int .i64 (findI p l) ∧ Γ' = Γ1) := by
 refine ACall.of_body tt_ok Tryz.func99 rfl rfl (n := 19) rfl rfl ?_
 conv => whnf
 repeat (first|refine aR0 ?_|((intro _);conv=>whnf))
 refine PLoop.keep [4, 5, 8, 9, 10, 11, 12, 13, 14, 15, 16, 17, 18] (fun i : Nat => [(8, .int .i64 i)]) (fun i => i ≤ l.length ∧ findI p l = if findI p (l.drop i) = -1 then -1 else i + findI p (l.drop i)) (fun i => l.length - i) 0 ⟨by omega, by simp only [List.drop_zero]; split <;> omega⟩ wA ?_
 rintro i ⟨h1, h2⟩
 conv => whnf
 repeat' (first|refine aA0 ?_|(refine zX (fun hc=>?_) (fun hc=>?_)<;>(try simp only [SY] at hc)<;>(conv=>whnf)))
 ·refine PCall.same (hf _ (List.getElem_mem (show i < l.length by omega))) (WkT.refl _) ?_
  rintro _ _ ⟨rfl, rfl⟩
  rw [drop_at (show i < l.length by omega), findI] at h2
  conv => whnf
  repeat' (first|refine aA0 ?_|(refine zX (fun hc=>?_) (fun hc=>?_)<;>(try simp only [SY] at hc)<;>(conv=>whnf)))
  ·rw [hc] at h2
   refine PRet.gen (Wk.int ?_) ⟨rfl, rfl⟩
   simpa using h2.symm
  ·rw [hc] at h2
   refine loopTo (i + 1) ⟨by omega, ?_⟩ (by show l.length - (i + 1) < l.length - i; omega) wA
   rw [h2]
   have hg := findI_ge p (l.drop (i + 1))
   simp only [Bool.false_eq_true, if_false]
   split
   ·simp
   ·rw [if_neg (by omega)]; omega
 ·rw [List.drop_of_length_le (by omega)] at h2
  exact PRet.gen (Wk.int (by rw [h2]; rfl)) ⟨rfl, rfl⟩
theorem containsFuncDat_c (k : Nat) (cap : List PV) (Γ1 : List Ent) (p : Datum → Bool) (l : List Datum) (hf : ∀ x ∈ l, ACall Tryz.prog k (.agg (Datum.cells x) :: cap) Γ1 (fun y Γ' => y = .bool (p x) ∧ Γ' = Γ1)) :
  ACall Tryz.prog 65 [.sl 5 (l.map Datum.pv) none, .fn (.func k) cap] Γ1 (fun y Γ' => y = .bool (l.any p) ∧ Γ' = Γ1) := by
 refine ACall.of_body tt_ok Tryz.func65 rfl rfl (n := 9) rfl rfl ?_
 conv => whnf
 skip
 refine PCall.same (indexFuncDat_c k cap Γ1 p l hf) (WkT.refl _) ?_
 rintro _ _ ⟨rfl, rfl⟩
 conv => whnf
 skip
 exact PRet.gen (Wk.bool (findI_any p l)) ⟨rfl, rfl⟩
theorem indexFuncTrm_c (k : Nat) (cap : List PV) (Γ1 : List Ent) (p : Trm → Bool) (l : List Trm) (hf : ∀ x ∈ l, ACall Tryz.prog k (.agg (Trm.cells x) :: cap) Γ1 (fun y Γ' => y = .bool (p x) ∧ Γ' = Γ1)) :
  ACall Tryz.prog 104 [.sl 4 (l.map Trm.pv) none, .fn (.func k) cap] Γ1 (fun y Γ' => y = .int .i64 (findI p l) ∧ Γ' = Γ1) := by
 refine ACall.of_body tt_ok Tryz.func104 rfl rfl (n := 19) rfl rfl ?_
 conv => whnf
 repeat (first|refine aR0 ?_|((intro _);conv=>whnf))
 refine PLoop.keep [4, 5, 8, 9, 10, 11, 12, 13, 14, 15, 16, 17, 18] (fun i : Nat => [(8, .int .i64 i)]) (fun i => i ≤ l.length ∧ findI p l = if findI p (l.drop i) = -1 then -1 else i + findI p (l.drop i)) (fun i => l.length - i) 0 ⟨by omega, by simp only [List.drop_zero]; split <;> omega⟩ wA ?_
 rintro i ⟨h1, h2⟩
 conv => whnf
 repeat' (first|refine aA0 ?_|(refine zX (fun hc=>?_) (fun hc=>?_)<;>(try simp only [SY] at hc)<;>(conv=>whnf)))
 ·refine PCall.same (hf _ (List.getElem_mem (show i < l.length by omega))) (WkT.refl _) ?_
  rintro _ _ ⟨rfl, rfl⟩
  rw [drop_at (show i < l.length by omega), findI] at h2
  conv => whnf
  repeat' (first|refine aA0 ?_|(refine zX (fun hc=>?_) (fun hc=>?_)<;>(try simp only [SY] at hc)<;>(conv=>whnf)))
  ·rw [hc] at h2
   refine PRet.gen (Wk.int ?_) ⟨rfl, rfl⟩
   simpa using h2.symm
  ·rw [hc] at h2
   refine loopTo (i + 1) ⟨by omega, ?_⟩ (by show l.length - (i + 1) < l.length - i; omega) wA
   rw [h2]
   have hg := findI_ge p (l.drop (i + 1))
   simp only [Bool.false_eq_true, if_false]
   split
   ·simp
   ·rw [if_neg (by omega)]; omega
 ·rw [List.drop_of_length_le (by omega)] at h2
  exact PRet.gen (Wk.int (by rw [h2]; rfl)) ⟨rfl, rfl⟩
theorem containsFuncTrm_c (k : Nat) (cap : List PV) (Γ1 : List Ent) (p : Trm → Bool) (l : List Trm) (hf : ∀ x ∈ l, ACall Tryz.prog k (.agg (Trm.cells x) :: cap) Γ1 (fun y Γ' => y = .bool (p x) ∧ Γ' = Γ1)) :
  ACall Tryz.prog 73 [.sl 4 (l.map Trm.pv) none, .fn (.func k) cap] Γ1 (fun y Γ' => y = .bool (l.any p) ∧ Γ' = Γ1) := by
 refine ACall.of_body tt_ok Tryz.func73 rfl rfl (n := 9) rfl rfl ?_
 conv => whnf
 skip
 refine PCall.same (indexFuncTrm_c k cap Γ1 p l hf) (WkT.refl _) ?_
 rintro _ _ ⟨rfl, rfl⟩
 conv => whnf
 skip
 exact PRet.gen (Wk.bool (findI_any p l)) ⟨rfl, rfl⟩
end Go.Cb
namespace Go.Cb
open Go.Proofs
set_option maxRecDepth 100000
set_option maxHeartbeats 4000000
def marksPL : List UInt8 := [97, 98, 99, 100, 101, 102, 103, 104, 105, 106, 107, 108, 109, 110, 111, 112, 113, 114, 115, 116, 117, 118, 119, 120, 121, 122, 48, 49, 50, 51, 52, 53, 54, 55, 56, 57, 45, 43, 42, 47, 60, 62, 61, 33, 63, 95, 37]
theorem indexByte_contains (c : UInt8) : ∀ l : List UInt8, 0 ≤ Go.Lib.indexByte l c ↔ l.contains c = true
 | [] => by simp [Go.Lib.indexByte]
 | b :: l => by
  have ih := indexByte_contains c l
  have hge := Go.Lib.indexByte_ge l c
  rw [Go.Lib.indexByte, List.contains_cons]
  by_cases h : b = c
  ·subst h; simp
  ·have h1 : (b == c) = false := by simp [h]
   have h2 : (c == b) = false := by simp; exact fun e => h e.symm
   rw [h1, h2, Bool.false_or, ← ih]
   simp only [Bool.false_eq_true, if_false]
   split <;> rename_i h <;> simp at h <;> omega
theorem plain_c (s : List UInt8) : ACallP Tryz.prog 147 [.str s] (.bool (s.all marksPL.contains)) := by
 have hi := fun c => indexByte_contains c marksPL
 refine ACall.of_body tt_ok Tryz.func147 rfl rfl (n := 16) rfl rfl ?_
 conv => whnf
 repeat (first|refine aR0 ?_|((intro _);conv=>whnf))
 refine PLoop.keep [2, 4, 8, 9, 10, 11, 12, 13, 14, 15] (fun i : Nat => [(8, .int .i64 i)]) (fun i => i ≤ s.length ∧ (s.drop i).all marksPL.contains = s.all marksPL.contains) (fun i => s.length - i) 0 ⟨by omega, rfl⟩ wA ?_
 rintro i ⟨h1, h2⟩
 conv => whnf
 repeat' (first|refine aA0 ?_|((refine pC (indexByte_c marksPL _) wR ?_);conv=>whnf)|(refine zX (fun hc=>?_) (fun hc=>?_)<;>(try simp only [SY] at hc)<;>(conv=>whnf)))
 ·rw [drop_at (show i < s.length by omega), List.all_cons, show marksPL.contains s[i] = false by rw [← Bool.not_eq_true, ← hi]; omega] at h2
  exact PRet.pure (Wk.ff h2.symm)
 ·rw [drop_at (show i < s.length by omega), List.all_cons, (hi s[i]).1 hc] at h2
  exact loopTo (i + 1) ⟨by omega, h2⟩ (by show s.length - (i + 1) < s.length - i; omega) wA
 ·rw [List.drop_of_length_le (by omega)] at h2
  exact PRet.pure (Wk.tt h2.symm)
theorem string_c (s : List UInt8) : ACallP Tryz.prog 123 [.str s] (.bool (!s.any strB)) := by
 refine ACall.of_body tt_ok Tryz.func123 rfl rfl (n := 27) rfl rfl ?_
 conv => whnf
 repeat (first|refine aR0 ?_|((intro _);conv=>whnf))
 refine PLoop.keep [2, 4, 8, 9, 10, 11, 12, 13, 14, 15, 16, 17, 18, 19, 20, 21, 22, 23, 24, 25, 26] (fun i : Nat => [(8, .int .i64 i)]) (fun i => i ≤ s.length ∧ (s.drop i).any strB = s.any strB) (fun i => s.length - i) 0 ⟨by omega, rfl⟩ wA ?_
 rintro i ⟨h1, h2⟩
 conv => whnf
 repeat' (first|refine aA0 ?_|(refine zX (fun hc=>?_) (fun hc=>?_)<;>(try simp only [SY] at hc)<;>(conv=>whnf)))
 ·rw [drop_at (show i < s.length by omega), List.any_cons, show strB s[i] = true by simp only [strB, SS, hc]] at h2
  exact PRet.pure (Wk.ff (by rw [← h2]; rfl))
 ·rw [drop_at (show i < s.length by omega), List.any_cons, show strB s[i] = false by simp only [strB, SS, hc, not_false_eq_true, and_self]] at h2
  exact loopTo (i + 1) ⟨by omega, h2⟩ (by show s.length - (i + 1) < s.length - i; omega) wA
 ·rw [List.drop_of_length_le (by omega)] at h2
  exact PRet.pure (Wk.tt (by rw [← h2]; rfl))
def namePB (s : List UInt8) : Bool := !((s.length : Int) == 0 || decide ((s.length : Int) > 40) || !((trimR marksPL.contains s).dropWhile marksPL.contains == []) || !s.all marksPL.contains) && !(parseP s).2.2
theorem nameP_c (s : List UInt8) : ACallP Tryz.prog 122 [.str s] (.bool (namePB s)) := by
 refine ACall.of_body tt_ok Tryz.func122 rfl rfl (n := 32) rfl rfl ?_
 conv => whnf
 repeat' (first|refine aA0 ?_|((first|(((apply zY;intro hg));(conv=>whnf);(repeat ((first|refine pC (trim_c s marksPL (by decide) (by decide)) wR ?_|refine pC (plain_c s) wR ?_|refine aG ?_);conv=>whnf));exact pZ)|refine pC (parseP_c s (by omega)) wR ?_|intro _);conv=>whnf)|(refine zX (fun hc=>?_) (fun hc=>?_)<;>(try simp only [SY] at hc)<;>(conv=>whnf)))
 ·exact PRet.pure (Wk.ff (by rw [namePB, show ((s.length : Int) == 0 || decide ((s.length : Int) > 40) || !((trimR marksPL.contains s).dropWhile marksPL.contains == []) || !s.all marksPL.contains) = true by simp only [SS, hc]]; rfl))
 ·refine PRet.pure (Wk.bool ?_)
  have : ((s.length : Int) == 0 || decide ((s.length : Int) > 40) || !((trimR marksPL.contains s).dropWhile marksPL.contains == []) || !s.all marksPL.contains) = false := by simp only [SS, hc, not_false_eq_true, and_self]
  rw [namePB, this]
  rfl
def bareL (d : Datum) : Datum × Bool :=
 if d.kind = 0 then (.mk 0 d.n d.d [] [], numRight d.n d.d) else
 if d.kind = 1 then (.mk d.kind d.n 0 [] [], d.n == 0 || d.n == 1) else
 if d.kind = 2 then (.mk d.kind 0 0 d.s [], namePB d.s) else
 if d.kind = 3 then (.mk d.kind 0 0 d.s [], !d.s.any strB) else
 if d.kind = 4 ∨ d.kind = 5 then (.mk d.kind 0 0 [] [], true) else
 if d.kind = 6 then (.mk d.kind 0 0 [] d.l, (d.l.length : Int) == 2) else
 if d.kind = 7 then (.mk d.kind 0 0 [] d.l, true) else
 (.mk 0 0 0 [] [], false)
theorem drDatPaa {p q : Prop} (k : q) (h : q → p := by intro hq; first | exact PDraw.sP (some 8) rfl [] [10,11] tt_ok mixed hq | exact PDraw.sQ (some 20) rfl [13] [14] tt_ok mixed hq | exact PDraw.sP (some 35) rfl [] [8,9] tt_ok mixed hq | exact PDraw.sP (some 45) rfl [] [8,9] tt_ok mixed hq | exact PDraw.sQ (some 61) rfl [9] [10] tt_ok mixed hq) : p := h k
theorem bare_c (d : Datum) : ACallP Tryz.prog 101 [.agg d.cells] (.tup [.agg (bareL d).1.cells, .bool (bareL d).2]) := by
 refine ACall.of_body tt_ok Tryz.func101 rfl rfl (n := 78) rfl rfl ?_
 conv => whnf
 repeat (((intro _);conv=>whnf))
 have hB : bareL d = bareL d := rfl
 conv at hB => rhs; unfold bareL
 conv => whnf
 repeat' (first|refine aA0 ?_|((first|((apply zZ);(conv=>whnf);(repeat ((first|refine pC (rightN_c _ _) wR ?_|refine pC (nameP_c _) wR ?_|refine pC (string_c _) wR ?_);conv=>whnf));exact pZ)|refine drDatPaa ?_);conv=>whnf)|(refine zX (fun hc=>?_) (fun hc=>?_)<;>(try simp only [SY] at hc)<;>first|omega|(conv=>whnf)))
 all_goals repeat (first|rw [if_neg (by omega)] at hB|rw [if_pos (by omega)] at hB)
 all_goals rw [hB]
 all_goals exact PRet.pure wA
def bareBadP (d : Datum) (deep : Int) : Bool :=
 !(bareL d).2 || decide (deep > 200) || !((bareL d).1.n == d.n) || !((bareL d).1.d == d.d) || !((bareL d).1.s == d.s) || !(((bareL d).1.l.length : Int) == d.l.length)
mutual
def Datum.rightP : Datum → Int → Bool
 | .mk k n d s l, deep => !bareBadP (.mk k n d s l) deep && Datum.rightPs l (deep + 1)
def Datum.rightPs : List Datum → Int → Bool
 | [], _ => true
 | x :: xs, deep => Datum.rightP x deep && Datum.rightPs xs deep
end
theorem Datum.rightP_eq (x : Datum) (deep : Int) : x.rightP deep = (!bareBadP x deep && Datum.rightPs x.l (deep + 1)) := by cases x; rfl
theorem rightP2_c (b bd : Nat) (x : Datum) (deep : Int) (h0 : 0 ≤ deep) (h1 : deep ≤ 1000) (ih : ACall Tryz.prog 100 [.agg x.cells, .int .i64 (deep + 1), .ptr b 0] [.box b [.fn (.func 100) [.ptr b 0]]] (fun y Γ' => y = .bool (x.rightP (deep + 1)) ∧ Γ' = [.box b [.fn (.func 100) [.ptr b 0]]])) :
  ACall Tryz.prog 102 [.agg x.cells, .ptr b 0, .ptr bd 0] [.box b [.fn (.func 100) [.ptr b 0]], .box bd [.int .i64 deep]] (fun y Γ' => y = .bool (!x.rightP (deep + 1)) ∧ Γ' = [.box b [.fn (.func 100) [.ptr b 0]], .box bd [.int .i64 deep]]) := by
 refine ACall.of_body tt_ok Tryz.func102 rfl rfl (n := 11) rfl rfl ?_
 conv => whnf
 repeat (first|refine aR0 ?_|((intro _);conv=>whnf))
 refine PCall.go ih (WkT.refl _) ?_
 rintro _ _ ⟨rfl, rfl⟩
 conv => whnf
 skip
 exact PRet.gen (Wk.refl _) ⟨rfl, rfl⟩
theorem any_not_right (deep : Int) : ∀ l : List Datum, l.any (fun x => !x.rightP deep) = !Datum.rightPs l deep
 | [] => rfl
 | x :: l => by rw [List.any_cons, Datum.rightPs, any_not_right deep l, Bool.not_and]
theorem rightP1_c (b : Nat) (d : Datum) : ∀ deep : Int, 0 ≤ deep → deep ≤ 1000 → ACall Tryz.prog 100 [.agg d.cells, .int .i64 deep, .ptr b 0] [.box b [.fn (.func 100) [.ptr b 0]]] (fun y Γ' => y = .bool (d.rightP deep) ∧ Γ' = [.box b [.fn (.func 100) [.ptr b 0]]]) := by
 induction d using Datum.ind with
 | h d ih =>
  intro deep h0 h1
  have hb : bareBadP d deep = bareBadP d deep := rfl
  conv at hb => rhs; unfold bareBadP
  rw [Datum.rightP_eq]
  refine ACall.of_body tt_ok Tryz.func100 rfl rfl (n := 54) rfl rfl ?_
  conv => whnf
  repeat' (first|refine aA0 ?_|((first|refine pC (bare_c d) wR ?_|intro _);conv=>whnf)|(refine zX (fun hc=>?_) (fun hc=>?_)<;>(try simp only [SY] at hc)<;>(conv=>whnf)))
  ·rw [show bareBadP d deep = true by rw [hb]; simp only [SS, hc]]
   exact PRet.gen (Wk.ff rfl) ⟨rfl, rfl⟩
  ·rename_i b1 b2 b3
   rw [show bareBadP d deep = false by rw [hb]; simp only [SS, hc, and_self]]
   refine PCall.go (containsFuncDat_c 102 [.ptr b 0, .ptr b2 0] [.box b [.fn (.func 100) [.ptr b 0]], .box b2 [.int .i64 deep]] (fun x => !x.rightP (deep + 1)) d.l (fun x hx => rightP2_c b b2 x deep h0 (by omega) (ih x hx (deep + 1) (by omega) (by omega)))) (WkT.refl _) ?_
   rintro _ _ ⟨rfl, rfl⟩
   conv => whnf
   skip
   exact PRet.gen (Wk.bool (by rw [any_not_right]; simp)) ⟨rfl, rfl⟩
theorem rightP_c (d : Datum) : ACallP Tryz.prog 67 [.agg d.cells] (.bool (d.rightP 0)) := by
 refine ACall.of_body tt_ok Tryz.func67 rfl rfl (n := 8) rfl rfl ?_
 conv => whnf
 repeat (first|refine aR0 ?_|((intro _);conv=>whnf))
 refine PCall.go (rightP1_c _ d 0 (by omega) (by omega)) (WkT.refl _) ?_
 rintro _ _ ⟨rfl, rfl⟩
 conv => whnf
 skip
 exact PRet.pure (Wk.refl _)
end Go.Cb
namespace Go.Cb
open Go.Proofs
set_option maxRecDepth 100000
set_option maxHeartbeats 4000000
theorem fewDatum_c (d : Datum) : ∀ left : Int, 0 ≤ left → left ≤ 1000000000 → ACallP Tryz.prog 30 [.agg d.cells, .int .i64 left] (.int .i64 (d.few left)) := by
 induction d using Datum.ind with
 | h d ih =>
  intro left h0 h1
  refine ACall.of_body tt_ok Tryz.func30 rfl rfl (n := 27) rfl rfl ?_
  conv => whnf
  repeat (first|refine aR0 ?_|((intro _);conv=>whnf))
  refine PLoop.keep [1, 5, 8, 9, 10, 11, 12, 13, 14, 15, 16, 17, 18, 19, 20, 21, 22, 23, 24, 25] (fun (x : Nat × Int) => [(1, .int .i64 x.2), (5, .int .i64 x.1)]) (fun x => x.1 ≤ d.l.length ∧ -1 ≤ x.2 ∧ x.2 < left ∧ Datum.fews (d.l.drop x.1) x.2 = Datum.fews d.l (left - 1)) (fun x => d.l.length - x.1) (0, left - 1) ⟨by simp, by simp only; omega, by simp only; omega, rfl⟩ wA ?_
  rintro ⟨i, n⟩ ⟨hi, h2, h3, hf⟩
  simp only at hi h2 h3 hf
  have hbd := fun (x : Datum) (h : 0 ≤ n) => x.few_bd n h
  conv => whnf
  repeat' (first|refine aA0 ?_|((first|(((apply zY;intro hg));(conv=>whnf);(repeat ((refine aG ?_);conv=>whnf));exact pZ)|refine pC (ih _ (List.getElem_mem _) _ OA OA) wR ?_|intro _);conv=>whnf)|(refine zX (fun hc=>?_) (fun hc=>?_)<;>(try simp only [SY] at hc)<;>(conv=>whnf)))
  ·rw [drop_at (show i < d.l.length by omega), Datum.fews, if_pos (by omega)] at hf
   have hx := hbd d.l[i] (by omega)
   exact loopTo (i + 1, d.l[i].few n) ⟨by simp only; omega, by simp only; omega, by simp only; omega, hf⟩ (by show d.l.length - (i + 1) < d.l.length - i; omega) wA
  ·refine PRet.pure (Wk.int ?_)
   rw [Datum.few_eq, ← hf]
   rcases Nat.lt_or_ge i d.l.length with h | h
   ·rw [drop_at h, Datum.fews, if_neg (by omega)]
   ·rw [List.drop_of_length_le h, Datum.fews]
theorem fewTrm_c (d : Trm) : ∀ left : Int, 0 ≤ left → left ≤ 1000000000 → ACallP Tryz.prog 37 [.agg d.cells, .int .i64 left] (.int .i64 (d.few left)) := by
 induction d using Trm.ind with
 | h d ih =>
  intro left h0 h1
  refine ACall.of_body tt_ok Tryz.func37 rfl rfl (n := 27) rfl rfl ?_
  conv => whnf
  repeat (first|refine aR0 ?_|((intro _);conv=>whnf))
  refine PLoop.keep [1, 5, 8, 9, 10, 11, 12, 13, 14, 15, 16, 17, 18, 19, 20, 21, 22, 23, 24, 25] (fun (x : Nat × Int) => [(1, .int .i64 x.2), (5, .int .i64 x.1)]) (fun x => x.1 ≤ d.t.length ∧ -1 ≤ x.2 ∧ x.2 < left ∧ Trm.fews (d.t.drop x.1) x.2 = Trm.fews d.t (left - 1)) (fun x => d.t.length - x.1) (0, left - 1) ⟨by simp, by simp only; omega, by simp only; omega, rfl⟩ wA ?_
  rintro ⟨i, n⟩ ⟨hi, h2, h3, hf⟩
  simp only at hi h2 h3 hf
  have hbd := fun (x : Trm) (h : 0 ≤ n) => x.few_bd n h
  conv => whnf
  repeat' (first|refine aA0 ?_|((first|refine pC (ih _ (List.getElem_mem _) _ OA OA) wR ?_|intro _);conv=>whnf)|(refine zX (fun hc=>?_) (fun hc=>?_)<;>(try simp only [SY] at hc)<;>(conv=>whnf)))
  ·rw [drop_at (show i < d.t.length by omega), Trm.fews, if_pos (by omega)] at hf
   have hx := hbd d.t[i] (by omega)
   exact loopTo (i + 1, d.t[i].few n) ⟨by simp only; omega, by simp only; omega, by simp only; omega, hf⟩ (by show d.t.length - (i + 1) < d.t.length - i; omega) wA
  ·refine PRet.pure (Wk.int ?_)
   rw [Trm.few_eq, ← hf]
   rcases Nat.lt_or_ge i d.t.length with h | h
   ·rw [drop_at h, Trm.fews, if_neg (by omega)]
   ·rw [List.drop_of_length_le h, Trm.fews]
theorem FewTrm_c (d : Trm) (n : Int) (h0 : 0 ≤ n) (h1 : n ≤ 1000000000) : ACallP Tryz.prog 22 [.agg d.cells, .int .i64 n] (.bool (decide (0 ≤ d.few n))) := by
 refine ACall.of_body tt_ok Tryz.func22 rfl rfl (n := 9) rfl rfl ?_
 conv => whnf
 repeat (first|refine aR0 ?_|((first|refine pC (fewTrm_c d n h0 h1) wR ?_|intro _);conv=>whnf))
 exact PRet.pure (Wk.refl _)
theorem FewAll_c (l : List Datum) (n : Int) (h0 : 0 ≤ n) (h1 : n ≤ 1000000000) : ACallP Tryz.prog 15 [.sl 5 (l.map Datum.pv) none, .int .i64 n] (.bool (decide (0 ≤ Datum.fews l n))) := by
 refine ACall.of_body tt_ok Tryz.func15 rfl rfl (n := 24) rfl rfl ?_
 conv => whnf
 skip
 refine PLoop.keep [1, 5, 6, 7, 8, 9, 10, 11, 12, 13, 14, 15, 16, 17, 18, 19, 20, 21] (fun (x : Nat × Int) => [(1, .int .i64 x.2), (5, .int .i64 x.1)]) (fun x => x.1 ≤ l.length ∧ -1 ≤ x.2 ∧ x.2 ≤ n ∧ Datum.fews (l.drop x.1) x.2 = Datum.fews l n) (fun x => l.length - x.1) (0, n) ⟨by simp, by simp only; omega, by simp only; omega, rfl⟩ wA ?_
 rintro ⟨i, m⟩ ⟨hi, h2, h3, hf⟩
 simp only at hi h2 h3 hf
 have hbd := fun (x : Datum) (h : 0 ≤ m) => x.few_bd m h
 conv => whnf
 repeat' (first|refine aA0 ?_|((first|refine pC (fewDatum_c _ _ OA OA) wR ?_|intro _);conv=>whnf)|(refine zX (fun hc=>?_) (fun hc=>?_)<;>(try simp only [SY] at hc)<;>(conv=>whnf)))
 ·rw [drop_at (show i < l.length by omega), Datum.fews, if_pos (by omega)] at hf
  have hx := hbd l[i] (by omega)
  exact loopTo (i + 1, l[i].few m) ⟨by simp only; omega, by simp only; omega, by simp only; omega, hf⟩ (by show l.length - (i + 1) < l.length - i; omega) wA
 ·refine PRet.pure (Wk.bool ?_)
  rw [← hf]
  rcases Nat.lt_or_ge i l.length with h | h
  ·rw [drop_at h, Datum.fews, if_neg (by omega)]
  ·rw [List.drop_of_length_le h, Datum.fews]
end Go.Cb
namespace Go.Cb
open Go.Proofs
set_option maxRecDepth 100000
set_option maxHeartbeats 4000000
def sortsL (op level : Int) : Bool :=
 if op = 0 ∨ op = 1 ∨ op = 3 ∨ op = 5 ∨ op = 6 ∨ op = 11 then true else
 if op = 2 then decide (level ≤ 1) else
 if op = 4 then decide (level ≤ 2) else
 if op = 7 then level == 0 else
 if op = 8 ∨ op = 9 ∨ op = 12 ∨ op = 13 then decide (level ≥ 1) else
 if op = 14 then level == 1 else
 if op = 10 ∨ op = 15 ∨ op = 16 ∨ op = 17 ∨ op = 18 then decide (level ≥ 2) else
 if op = 19 ∨ op = 20 ∨ op = 21 ∨ op = 22 then level == 3 else false
theorem sorts_c (op level : Int) : ACallP Tryz.prog 48 [.int .i64 op, .int .i64 level] (.bool (sortsL op level)) := by
 have hs : sortsL op level = sortsL op level := rfl
 conv at hs => rhs; unfold sortsL
 refine ACall.of_body tt_ok Tryz.func48 rfl rfl (n := 51) rfl rfl ?_
 conv => whnf
 repeat' (first|refine aA0 ?_|(refine zX (fun hc=>?_) (fun hc=>?_)<;>(try simp only [SY] at hc)<;>first|omega|(conv=>whnf)))
 all_goals repeat (first|rw [if_neg (by omega)] at hs|rw [if_pos (by omega)] at hs)
 all_goals rw [hs]
 all_goals first | exact PRet.pure (Wk.refl _) | exact PRet.pure (Wk.tt rfl) | exact PRet.pure (Wk.ff rfl)
def bindsB (op : Int) : Bool := op == 4 || op == 7 || op == 8 || op == 9
def countsL (t : Trm) : Bool :=
 if (!bindsB t.op && decide ((t.v.length : Int) > 0)) = true then false else
 if t.op = 0 ∨ t.op = 1 ∨ t.op = 11 ∨ t.op = 13 ∨ t.op = 20 ∨ t.op = 21 then (t.t.length : Int) == 0 else
 if t.op = 2 ∨ t.op = 14 ∨ t.op = 4 ∨ t.op = 12 ∨ t.op = 15 ∨ t.op = 16 then (t.t.length : Int) == 1 else
 if t.op = 3 then (t.t.length : Int) == 3 else
 if t.op = 17 ∨ t.op = 18 then (t.t.length : Int) == 2 else
 if t.op = 5 ∨ t.op = 6 ∨ t.op = 22 then decide ((t.t.length : Int) ≥ 1) else
 if t.op = 7 ∨ t.op = 8 ∨ t.op = 9 then (t.t.length : Int) == (t.v.length : Int) + 1 else true
theorem counts_c (t : Trm) (hv : t.v.length ≤ 1000000000) : ACallP Tryz.prog 49 [.agg t.cells] (.bool (countsL t)) := by
 have hs : countsL t = countsL t := rfl
 conv at hs => rhs; unfold countsL; simp only [bindsB, SS]
 refine ACall.of_body tt_ok Tryz.func49 rfl rfl (n := 79) rfl rfl ?_
 conv => whnf
 repeat' (first|refine aA0 ?_|((intro _);conv=>whnf)|(refine zX (fun hc=>?_) (fun hc=>?_)<;>(try simp only [SY] at hc)<;>first|omega|(conv=>whnf)))
 all_goals repeat (first|rw [if_neg (by omega)] at hs|rw [if_pos (by omega)] at hs)
 all_goals rw [hs]
 all_goals first | exact PRet.pure (Wk.refl _) | exact PRet.pure (Wk.tt rfl) | exact PRet.pure (Wk.ff rfl)
theorem has_c (l : List Int) (v : Int) : ACallP Tryz.prog 64 [.sl 1 (l.map (PV.int .i64)) none, .int .i64 v] (.bool (l.contains v)) := by
 refine ACall.of_body tt_ok Tryz.func64 rfl rfl (n := 18) rfl rfl ?_
 conv => whnf
 skip
 refine PLoop.keep [4, 5, 6, 7, 8, 9, 10, 11, 12, 13, 14, 15, 16, 17] (fun i : Nat => [(5, .int .i64 i)]) (fun i => i ≤ l.length ∧ (l.drop i).contains v = l.contains v) (fun i => l.length - i) 0 ⟨by omega, rfl⟩ wA ?_
 rintro i ⟨h1, h2⟩
 conv => whnf
 repeat' (first|refine aA0 ?_|((intro _);conv=>whnf)|(refine zX (fun hc=>?_) (fun hc=>?_)<;>(try simp only [SY] at hc)<;>(conv=>whnf)))
 ·rw [drop_at (show i < l.length by omega), List.contains_cons, show (v == l[i]) = true by simp [hc]] at h2
  exact PRet.pure (Wk.tt (by rw [← h2]; rfl))
 ·rw [drop_at (show i < l.length by omega), List.contains_cons, show (v == l[i]) = false by simp; exact fun e => hc e.symm] at h2
  exact loopTo (i + 1) ⟨by omega, by simpa using h2⟩ (by show l.length - (i + 1) < l.length - i; omega) wA
 ·rw [List.drop_of_length_le (by omega)] at h2
  exact PRet.pure (Wk.ff (by rw [← h2]; rfl))
theorem right2D_c (d : Datum) : ACallP Tryz.prog 47 [.agg d.cells] (.bool (d.rightD 0)) := by
 refine ACall.of_body tt_ok Tryz.func47 rfl rfl (n := 5) rfl rfl ?_
 conv => whnf
 repeat (first|refine aR0 ?_|((first|refine pC (right2_c d 0 (by omega) (by omega)) wR ?_|intro _);conv=>whnf))
 exact PRet.pure (Wk.refl _)
theorem constants2_c (l : List Datum) : ACallP Tryz.prog 27 [.sl 5 (l.map Datum.pv) none] (.bool (l.all fun d => d.rightD 0)) := by
 refine ACall.of_body tt_ok Tryz.func27 rfl rfl (n := 16) rfl rfl ?_
 conv => whnf
 skip
 refine PLoop.keep [2, 3, 4, 5, 6, 7, 8, 9, 10, 11, 12, 13, 14, 15] (fun i : Nat => [(3, .int .i64 i)]) (fun i => i ≤ l.length ∧ (l.drop i).all (fun d => d.rightD 0) = l.all fun d => d.rightD 0) (fun i => l.length - i) 0 ⟨by omega, rfl⟩ wA ?_
 rintro i ⟨h1, h2⟩
 conv => whnf
 repeat' (first|refine aA0 ?_|((first|refine pC (right2D_c _) wR ?_|intro _);conv=>whnf)|(refine zX (fun hc=>?_) (fun hc=>?_)<;>(try simp only [SY] at hc)<;>(conv=>whnf)))
 ·rw [drop_at (show i < l.length by omega), List.all_cons, hc] at h2
  exact PRet.pure (Wk.ff (by rw [← h2]; rfl))
 ·rw [drop_at (show i < l.length by omega), List.all_cons, hc] at h2
  exact loopTo (i + 1) ⟨by omega, by simpa using h2⟩ (by show l.length - (i + 1) < l.length - i; omega) wA
 ·rw [List.drop_of_length_le (by omega)] at h2
  exact PRet.pure (Wk.tt (by rw [← h2]; rfl))
def vOk (bound : List Int) (v : Int) : Bool := !(decide (v < 0) || decide (v > 1000000) || bound.contains v)
def bindR : List Int → List Int → Bool × List Int
 | [], bound => (true, bound)
 | v :: l, bound => if vOk bound v then bindR l (bound ++ [v]) else (false, bound ++ [v])
theorem drRef06aa {p q : Prop} (k : q) (h : q → p := by intro hq; first | exact PDraw.sP (some 17) rfl [] [] tt_ok mixed hq) : p := h k
theorem bind2_c (b : Nat) (level consts codes size : Int) (free : Bool) (l bound : List Int) (t : Tok) (ht : t.e = 3) (hl : l.length + bound.length ≤ 1000000000) :
  ACall Tryz.prog 35 [.ptr b 0, .sl 1 (l.map (PV.int .i64)) none] [.box b [.int .i64 level, .int .i64 consts, .int .i64 codes, .bool free, .int .i64 size, .sl 1 (bound.map (PV.int .i64)) (some t), .bool true], .tok t]
  (fun y Γ' => y = .tup [] ∧ ∃ t' : Tok, t'.e = 3 ∧ Γ' = [.box b [.int .i64 level, .int .i64 consts, .int .i64 codes, .bool free, .int .i64 size, .sl 1 ((bindR l bound).2.map (PV.int .i64)) (some t'), .bool (bindR l bound).1], .tok t']) := by
 refine ACall.of_body tt_ok Tryz.func35 rfl rfl (n := 56) rfl rfl ?_
 conv => whnf
 skip
 refine PLoop.over [4, 5, 6, 7, 8, 9, 10, 11, 12, 13, 14, 15, 16, 17, 18, 19, 20, 21, 22, 23, 24, 25, 26, 27, 28, 29, 30, 31, 32, 33, 34, 35, 36, 37, 38, 39, 40, 41, 42, 43, 44, 45, 46, 47, 48, 49, 50, 51, 52, 53, 54, 55] (fun | ((i, bd, ok, t1) : Nat × List Int × Bool × Tok) => [(4, .int .i64 i)]) (fun x => [.box b [.int .i64 level, .int .i64 consts, .int .i64 codes, .bool free, .int .i64 size, .sl 1 (x.2.1.map (PV.int .i64)) (some x.2.2.2), .bool x.2.2.1], .tok x.2.2.2])
  (fun | (i, bd, ok, t1) => i ≤ l.length ∧ bd.length = bound.length + i ∧ t1.e = 3 ∧ (ok = true → bindR (l.drop i) bd = bindR l bound) ∧ (ok = false → bindR l bound = (false, bd))) (fun | (i, _) => l.length - i) (0, bound, true, t) ⟨by simp, by simp, ht, fun _ => rfl, fun h => by cases h⟩ wA ?_
 rintro ⟨i, bd, ok, t1⟩ ⟨hi, hb, ht1, h1, h2⟩
 have e1 : List.length (i, bd, ok, t1).2.1 = bd.length := rfl
 conv => whnf
 repeat' (first|refine aA0 ?_|((first|(((apply zY;intro hg));(conv=>whnf);(repeat ((first|refine pC (has_c _ _) cA ?_|refine aG ?_);conv=>whnf));exact pZ)|refine drRef06aa ?_|intro _);conv=>whnf)|(refine zX (fun hc=>?_) (fun hc=>?_)<;>(try simp only [SY] at hc)<;>(conv=>whnf)))
 ·have hlt : i < l.length := by omega
  refine PDraw.sE [.tok t1] [10] [11,12,13] tt_ok mixed ?_
  conv=>whnf
  repeat (refine aR0 ?_)
  refine PAppend.one l[i] ht1 (Wk.tok _ _ _) (by omega) (by show _ * 8 ≤ _; omega) ?_
  intro t2 ht2
  conv => whnf
  repeat (refine aR0 ?_)
  rw [drop_at hlt, bindR, if_neg (by simp only [vOk, SS]; rintro ⟨h, h'⟩; rw [h'] at hc; simp at hc; omega)] at h1
  have h1' := h1 (‹_ ∧ ok = true›).2
  refine loopTo (i + 1, bd ++ [l[i]], false, t2) ⟨by omega, by simp; omega, ht2, fun h => (by cases h), fun _ => h1'.symm⟩ (by show l.length - (i + 1) < l.length - i; omega) wA
 ·have hlt : i < l.length := by omega
  refine PDraw.sE [.tok t1] [10] [11,12,13] tt_ok mixed ?_
  conv=>whnf
  repeat (refine aR0 ?_)
  refine PAppend.one l[i] ht1 (Wk.tok _ _ _) (by omega) (by show _ * 8 ≤ _; omega) ?_
  intro t2 ht2
  conv => whnf
  repeat (refine aR0 ?_)
  rw [drop_at hlt, bindR, if_pos (by simp only [vOk, SS]; exact hc)] at h1
  obtain ⟨_, rfl⟩ := ‹_ ∧ ok = true›
  refine loopTo (i + 1, bd ++ [l[i]], true, t2) ⟨by omega, by simp; omega, ht2, fun _ => h1 rfl, fun h => (by cases h)⟩ (by show l.length - (i + 1) < l.length - i; omega) wA
 ·have e : bindR l bound = (ok, bd) := by
   cases ok with
   | false => exact h2 rfl
   | true =>
    have := h1 rfl
    rw [List.drop_of_length_le (by rcases hc with hc | hc; omega; cases hc), bindR] at this
    exact this.symm
  exact PRet.gen (Wk.refl _) ⟨rfl, t1, ht1, by rw [e]⟩
end Go.Cb
namespace Go.Cb
open Go.Proofs
set_option maxRecDepth 100000
set_option maxHeartbeats 4000000
structure Shp where
 fm : Int
 to : Int
 least : Int
 any : Bool
 binds : Bool
abbrev Shp.cells (s : Shp) : List PV := [.int .i64 s.fm, .int .i64 s.to, .int .i64 s.least, .bool s.any, .bool s.binds]
def shapeL (op : Int) : Shp × Bool :=
 if op = 0 ∨ op = 1 ∨ op = 11 then (⟨0, 3, 0, false, false⟩, true) else
 if op = 3 then (⟨0, 3, 3, false, false⟩, true) else
 if op = 5 ∨ op = 6 then (⟨0, 3, 1, true, false⟩, true) else
 if op = 2 then (⟨0, 1, 1, false, false⟩, true) else
 if op = 4 then (⟨0, 2, 1, false, true⟩, true) else
 if op = 7 then (⟨0, 0, 0, false, true⟩, true) else
 if op = 8 ∨ op = 9 then (⟨1, 3, 0, false, true⟩, true) else
 if op = 12 then (⟨1, 3, 1, false, false⟩, true) else
 if op = 13 then (⟨1, 3, 0, false, false⟩, true) else
 if op = 14 then (⟨1, 1, 1, false, false⟩, true) else
 if op = 10 then (⟨2, 3, 0, true, false⟩, true) else
 if op = 15 ∨ op = 16 then (⟨2, 3, 1, false, false⟩, true) else
 if op = 17 ∨ op = 18 then (⟨2, 3, 2, false, false⟩, true) else
 if op = 19 then (⟨3, 3, 0, true, false⟩, true) else
 if op = 20 ∨ op = 21 then (⟨3, 3, 0, false, false⟩, true) else
 if op = 22 then (⟨3, 3, 1, true, false⟩, true) else (⟨0, 0, 0, false, false⟩, false)
theorem shapeOf_c (op : Int) : ACallP Tryz.prog 68 [.int .i64 op] (.tup [.agg (shapeL op).1.cells, .bool (shapeL op).2]) := by
 have hs : shapeL op = shapeL op := rfl
 conv at hs => rhs; unfold shapeL
 refine ACall.of_body tt_ok Tryz.func68 rfl rfl (n := 61) rfl rfl ?_
 conv => whnf
 repeat' (first|refine aA0 ?_|((intro _);conv=>whnf)|(refine zX (fun hc=>?_) (fun hc=>?_)<;>(try simp only [SY] at hc)<;>first|omega|(conv=>whnf)))
 all_goals repeat (first|rw [if_neg (by omega)] at hs|rw [if_pos (by omega)] at hs)
 all_goals rw [hs]
 all_goals exact PRet.pure wA
def groupB (op : Int) : Bool := op == 7 || op == 9
theorem group_c (t : Trm) : ACallP Tryz.prog 71 [.agg t.cells] (.bool (groupB t.op)) := by
 refine ACall.of_body tt_ok Tryz.func71 rfl rfl (n := 11) rfl rfl ?_
 conv => whnf
 repeat' (first|refine aA0 ?_|((intro _);conv=>whnf)|(refine zX (fun hc=>?_) (fun hc=>?_)<;>(try simp only [SY] at hc)<;>omega))
 exact PRet.pure (Wk.refl _)
def fitsL (s : Shp) (t : Trm) : Bool :=
 let want : Int := if s.binds = true ∧ t.op ≠ 4 then (t.v.length : Int) + 1 else s.least
 ((t.t.length : Int) == want || (s.any && decide ((t.t.length : Int) ≥ want))) && (s.binds || (t.v.length : Int) == 0)
theorem fits_c (s : Shp) (t : Trm) (hv : t.v.length ≤ 1000000000) : ACallP Tryz.prog 69 [.agg s.cells, .agg t.cells] (.bool (fitsL s t)) := by
 refine ACall.of_body tt_ok Tryz.func69 rfl rfl (n := 45) rfl rfl ?_
 conv => whnf
 repeat' (first|refine aA0 ?_|((intro _);conv=>whnf)|(refine zX (fun hc=>?_) (fun hc=>?_)<;>(try simp only [SY] at hc)<;>(conv=>whnf)))
 ·rw [show fitsL s t = (((t.t.length : Int) == (t.v.length : Int) + 1 || (s.any && decide ((t.t.length : Int) ≥ (t.v.length : Int) + 1))) && (s.binds || (t.v.length : Int) == 0)) by unfold fitsL; rw [if_pos hc]]
  exact PRet.pure (Wk.refl _)
 ·rw [show fitsL s t = (((t.t.length : Int) == s.least || (s.any && decide ((t.t.length : Int) ≥ s.least))) && (s.binds || (t.v.length : Int) == 0)) by
   unfold fitsL; rw [if_neg (by rcases hc with hc | hc <;> simp [hc])]]
  exact PRet.pure (Wk.refl _)
theorem procs1_c (b : Nat) (t : Trm) (w : Int) : ACall Tryz.prog 105 [.agg t.cells, .ptr b 0] [.box b [.int .i64 w]] (fun y Γ' => y = .bool (t.op != w) ∧ Γ' = [.box b [.int .i64 w]]) := by
 refine ACall.of_body tt_ok Tryz.func105 rfl rfl (n := 8) rfl rfl ?_
 conv => whnf
 repeat' (first|refine aA0 ?_|((intro _);conv=>whnf)|(refine zX (fun hc=>?_) (fun hc=>?_)<;>(try simp only [SY] at hc)<;>omega))
 exact PRet.gen (Wk.refl _) ⟨rfl, rfl⟩
def procsL (level : Int) (l : List Trm) : Bool := !l.any (fun t => t.op != if level = 3 then 19 else 4)
abbrev cpC (level consts codes size : Int) (frees : Bool) (rb : Nat) : List PV := [.int .i64 level, .int .i64 consts, .int .i64 codes, .bool frees, .int .i64 size, .mp rb]
theorem procs_c (c rb : Nat) (level consts codes size : Int) (frees : Bool) (l : List Trm) : ACall Tryz.prog 75 [.ptr c 0, .sl 4 (l.map Trm.pv) none] [.box c (cpC level consts codes size frees rb)] (fun y Γ' => y = .bool (procsL level l) ∧ Γ' = [.box c (cpC level consts codes size frees rb)]) := by
 refine ACall.of_body tt_ok Tryz.func75 rfl rfl (n := 15) rfl rfl ?_
 conv => whnf
 repeat' (first|refine aA0 ?_|((intro _);conv=>whnf)|(refine zX (fun hc=>?_) (fun hc=>?_)<;>(try simp only [SY] at hc)<;>(conv=>whnf)))
 all_goals rename_i b2
 ·refine PCall.go (containsFuncTrm_c 105 [.ptr b2 0] [.box b2 [.int .i64 19]] (fun t => t.op != 19) l (fun x _ => procs1_c b2 x 19)) (WkT.refl _) ?_
  rintro _ _ ⟨rfl, rfl⟩
  conv => whnf
  skip
  exact PRet.gen (Wk.bool (by simp [procsL, hc])) ⟨rfl, rfl⟩
 ·refine PCall.go (containsFuncTrm_c 105 [.ptr b2 0] [.box b2 [.int .i64 4]] (fun t => t.op != 4) l (fun x _ => procs1_c b2 x 4)) (WkT.refl _) ?_
  rintro _ _ ⟨rfl, rfl⟩
  conv => whnf
  skip
  exact PRet.gen (Wk.bool (by simp [procsL, hc])) ⟨rfl, rfl⟩
structure Fct where
 name : List UInt8
 least : Int
 most : Int
 pure : Bool
 folds : Bool
abbrev Fct.cells (f : Fct) : List PV := [.str f.name, .int .i64 f.least, .int .i64 f.most, .bool f.pure, .bool f.folds]
def Fct.none : Fct := ⟨[], 0, 0, false, false⟩
def facts : List Fct := [⟨[43], 0, -1, true, true⟩, ⟨[45], 1, -1, true, true⟩, ⟨[42], 0, -1, true, true⟩, ⟨[47], 1, -1, true, true⟩, ⟨[61], 2, 2, true, true⟩, ⟨[60], 2, 2, true, true⟩,
 ⟨[101, 113, 63], 2, 2, true, true⟩, ⟨[101, 113, 117, 97, 108, 63], 2, 2, true, true⟩, ⟨[110, 111, 116], 1, 1, true, true⟩, ⟨[110, 117, 108, 108, 63], 1, 1, true, true⟩, ⟨[112, 97, 105, 114, 63], 1, 1, true, true⟩,
 ⟨[110, 117, 109, 98, 101, 114, 63], 1, 1, true, true⟩, ⟨[115, 121, 109, 98, 111, 108, 63], 1, 1, true, true⟩, ⟨[98, 111, 111, 108, 101, 97, 110, 63], 1, 1, true, true⟩, ⟨[115, 116, 114, 105, 110, 103, 63], 1, 1, true, true⟩,
 ⟨[118, 101, 99, 116, 111, 114, 63], 1, 1, true, true⟩, ⟨[112, 114, 111, 99, 101, 100, 117, 114, 101, 63], 1, 1, true, true⟩, ⟨[99, 111, 110, 115], 2, 2, true, false⟩, ⟨[99, 97, 114], 1, 1, true, true⟩, ⟨[99, 100, 114], 1, 1, true, true⟩,
 ⟨[108, 105, 115, 116], 0, -1, true, false⟩, ⟨[118, 101, 99, 116, 111, 114], 0, -1, true, false⟩, ⟨[118, 101, 99, 116, 111, 114, 45, 114, 101, 102], 2, 2, true, true⟩, ⟨[118, 101, 99, 116, 111, 114, 45, 108, 101, 110, 103, 116, 104], 1, 1, true, true⟩,
 ⟨[108, 101, 110, 103, 116, 104], 1, 1, true, true⟩, ⟨[118, 111, 105, 100], 0, 0, true, true⟩, ⟨[100, 105, 115, 112, 108, 97, 121], 1, 1, false, false⟩, ⟨[110, 101, 119, 108, 105, 110, 101], 0, 0, false, false⟩,
 ⟨[114, 97, 105, 115, 101], 1, 1, false, false⟩, ⟨[99, 97, 108, 108, 47, 99, 99], 1, 1, false, false⟩, ⟨[97, 112, 112, 108, 121], 2, 2, false, false⟩]
theorem table_c : ACallP Tryz.prog 124 [] (.agg (facts.flatMap Fct.cells)) := by
 refine ACall.of_body tt_ok Tryz.func124 rfl rfl (n := 33) rfl rfl ?_
 conv => whnf
 repeat (((intro _);conv=>whnf))
 refine PArrB.lit rfl ?_
 conv => whnf
 repeat (refine aR0 ?_)
 exact PRet.pure (Wk.refl _)
def factOf (n : Int) : Fct := if 0 ≤ n ∧ n < 31 then facts.getD n.toNat Fct.none else Fct.none
theorem flat_drop {α : Type} {c : α → List PV} {s : Nat} (hc : ∀ x, (c x).length = s) : ∀ (l : List α) (m : Nat) (h : m < l.length), ((l.flatMap c).drop (m * s)).take s = c l[m]
 | x :: l, 0, _ => by
  simp only [Nat.zero_mul, List.drop_zero, List.flatMap_cons, List.getElem_cons_zero]
  rw [← hc x, List.take_left]
 | x :: l, m + 1, h => by
  have := flat_drop hc l m (by simpa using h)
  rw [Nat.succ_mul, Nat.add_comm, List.flatMap_cons]
  conv => lhs; rw [← hc x]
  rw [List.drop_length_add_append, hc x]
  simpa using this
theorem flat_len {α : Type} {c : α → List PV} {s : Nat} (hc : ∀ x, (c x).length = s) : ∀ (l : List α), (l.flatMap c).length = l.length * s
 | [] => by simp
 | x :: l => by rw [List.flatMap_cons, List.length_append, hc, flat_len hc l, List.length_cons, Nat.succ_mul, Nat.add_comm]
theorem PIndexG.flat {α : Type} {c : α → List PV} {l : List α} {n sz : Nat} {k : IntKind} {m : Int} {K : PV → Prop} (hc : ∀ x, (c x).length = sz) (hn : l.length = n) (h0 : 0 ≤ m) (h1 : m < n) (h : K (.agg (c (l[m.toNat]'(by omega))))) : PIndexG n sz true (l.flatMap c) (.int k m) K :=
 ⟨k, m, rfl, h0, h1, by rw [flat_len hc, hn], .inl ⟨rfl, by rw [flat_drop hc l m.toNat (by omega)]; exact h⟩⟩
theorem Facts_c (n : Int) : ACallP Tryz.prog 103 [.int .i64 n] (.tup [.agg (factOf n).cells, .bool (decide (0 ≤ n ∧ n < 31))]) := by
 refine ACall.of_body tt_ok Tryz.func103 rfl rfl (n := 14) rfl rfl ?_
 conv => whnf
 repeat' (first|refine aA0 ?_|((first|refine pC (table_c) wR ?_|intro _);conv=>whnf)|(refine zX (fun hc=>?_) (fun hc=>?_)<;>(try simp only [SY] at hc)<;>(conv=>whnf)))
 ·rw [show factOf n = Fct.none by unfold factOf; rw [if_neg (by omega)], show decide (0 ≤ n ∧ n < 31) = false by simp; omega]
  exact PRet.pure wA
 ·have hl : n.toNat < facts.length := by show n.toNat < 31; omega
  refine PIndexG.flat (fun _ => rfl) rfl (by omega) (by omega) ?_
  conv => whnf
  repeat (refine aR0 ?_)
  rw [show decide (0 ≤ n ∧ n < 31) = true by simp; omega]
  rw [show factOf n = facts[n.toNat] by unfold factOf; rw [if_pos (by omega)]; simp [List.getD, hl]]
  exact PRet.pure wA
end Go.Cb
namespace Go.Cb
open Go.Proofs
set_option maxRecDepth 100000
set_option maxHeartbeats 4000000
structure RsS where
 cs : List Datum
 vars : Int
 lost : Bool
end Go.Cb
namespace Go.Cb
open Go.Proofs
set_option maxRecDepth 100000
set_option maxHeartbeats 4000000
theorem Datum.sz_pos (d : Datum) : 1 ≤ d.sz := by rw [Datum.sz_eq]; omega
theorem Datum.szs_mem : ∀ {l : List Datum} {x : Datum}, x ∈ l → x.sz ≤ Datum.szs l
 | y :: l, x, h => by
  rw [Datum.szs]
  rcases List.mem_cons.1 h with h | h
  ·subst h; omega
  ·have := Datum.szs_mem h; omega
theorem Datum.szs_len : ∀ (l : List Datum), l.length ≤ Datum.szs l
 | [] => by simp
 | x :: l => by have := Datum.szs_len l; have := x.sz_pos; rw [List.length_cons, Datum.szs]; omega
theorem datD_get {l : List Datum} {i : Nat} (h : i < l.length) : l.getD i nulD = l[i] := by simp [List.getD, h]
end Go.Cb
namespace Go.Cb
open Go.Proofs
set_option maxRecDepth 100000
set_option maxHeartbeats 4000000
abbrev ckC (level consts codes size : Int) (free : Bool) (bound : List Int) (t : Tok) (ok : Bool) : List PV :=
 [.int .i64 level, .int .i64 consts, .int .i64 codes, .bool free, .int .i64 size, .sl 1 (bound.map (PV.int .i64)) (some t), .bool ok]
def numberL (consts codes : Int) (free : Bool) (t : Trm) (scope : List Int) : Bool :=
 if t.op = 0 then decide (t.n ≥ 0) && decide (t.n < consts) else
 if t.op = 1 ∨ t.op = 2 ∨ t.op = 14 then scope.contains t.n else
 if t.op = 11 ∨ t.op = 10 then decide (t.n ≥ 0) && decide (t.n ≤ 30) else
 if t.op = 4 then t.n == 0 || (t.n == 1 && decide ((t.v.length : Int) > 0)) else
 if t.op = 7 then t.n == 0 || t.n == 1 else
 if t.op = 19 ∨ t.op = 21 ∨ t.op = 22 then decide (t.n ≥ 0) && decide (t.n < codes) else
 if t.op = 20 then decide (t.n ≥ 0) && free else t.n == 0
theorem drChk06aa {p q : Prop} (k : q) (h : q → p := by intro hq; first | exact PDraw.sP (some 11) rfl [] [] tt_ok mixed hq | exact PDraw.sP (some 72) rfl [] [] tt_ok mixed hq) : p := h k
theorem number2_c (b : Nat) (level consts codes size : Int) (free ok : Bool) (bound : List Int) (tk : Tok) (t : Trm) (scope : List Int) :
  ACall Tryz.prog 50 [.ptr b 0, .agg t.cells, .sl 1 (scope.map (PV.int .i64)) none] [.box b (ckC level consts codes size free bound tk ok)]
  (fun y Γ' => y = .bool (numberL consts codes free t scope) ∧ Γ' = [.box b (ckC level consts codes size free bound tk ok)]) := by
 have hs : numberL consts codes free t scope = numberL consts codes free t scope := rfl
 conv at hs => rhs; unfold numberL
 refine ACall.of_body tt_ok Tryz.func50 rfl rfl (n := 98) rfl rfl ?_
 conv => whnf
 repeat' (first|refine aA0 ?_|((first|refine pC (has_c _ _) wR ?_|refine drChk06aa ?_|intro _);conv=>whnf)|(refine zX (fun hc=>?_) (fun hc=>?_)<;>(try simp only [SY] at hc)<;>first|omega|(conv=>whnf)))
 all_goals repeat (first|rw [if_neg (by omega)] at hs|rw [if_pos (by omega)] at hs)
 all_goals rw [hs]
 all_goals exact PRet.gen (Wk.refl _) ⟨rfl, rfl⟩
end Go.Cb
namespace Go.Cb
open Go.Proofs
set_option maxRecDepth 100000
set_option maxHeartbeats 4000000
def wantOp (level : Int) : Int := if level = 3 then 19 else 4
mutual
def Trm.ckD (level consts codes : Int) (free : Bool) : Trm → List Int → Int → Int → List Int → Option (Int × List Int)
 | .mk op n v t, scope, deep, size, bound =>
  if (decide (deep > 400) || decide (size + 1 > 20000) || !sortsL op level || !countsL (.mk op n v t) || !numberL consts codes free (.mk op n v t) scope) = true then none else
  if (bindR v bound).1 = true then Trm.cksD level consts codes free op scope (scope ++ v) t (deep + 1) (size + 1) (bindR v bound).2 else none
def Trm.cksD (level consts codes : Int) (free : Bool) (op : Int) (scope inner : List Int) : List Trm → Int → Int → List Int → Option (Int × List Int)
 | [], _, size, bound => some (size, bound)
 | x :: xs, deep, size, bound =>
  if op = 9 ∧ xs ≠ [] ∧ x.op ≠ wantOp level then none else
  match Trm.ckD level consts codes free x (if xs = [] ∨ op = 7 ∨ op = 9 then inner else scope) deep size bound with
  | none => none
  | some (s, b) => Trm.cksD level consts codes free op scope inner xs deep s b
end
theorem Trm.ckD_eq (level consts codes : Int) (free : Bool) (x : Trm) (scope : List Int) (deep size : Int) (bound : List Int) : x.ckD level consts codes free scope deep size bound =
  if (decide (deep > 400) || decide (size + 1 > 20000) || !sortsL x.op level || !countsL x || !numberL consts codes free x scope) = true then none else
  if (bindR x.v bound).1 = true then Trm.cksD level consts codes free x.op scope (scope ++ x.v) x.t (deep + 1) (size + 1) (bindR x.v bound).2 else none := by
 cases x; rw [Trm.ckD]; rfl
theorem bindR_len : ∀ (l bound : List Int), (bindR l bound).2.length ≤ bound.length + l.length
 | [], bound => by simp [bindR]
 | v :: l, bound => by
  rw [bindR]
  split
  ·have := bindR_len l (bound ++ [v]); simp at this ⊢; omega
  ·simp
theorem Trm.ckD_bd (level consts codes : Int) (free : Bool) (x : Trm) : ∀ (scope : List Int) (deep size : Int) (bound : List Int) (s : Int) (b : List Int), x.ckD level consts codes free scope deep size bound = some (s, b) →
  size < s ∧ s ≤ 20000 ∧ b.length ≤ bound.length + x.bulk := by
 induction x using Trm.ind with
 | h x ih =>
  intro scope deep size bound s b h
  rw [Trm.ckD_eq] at h
  split at h
  ·cases h
  rename_i hc
  split at h
  ·have key : ∀ (l : List Trm), (∀ y ∈ l, ∀ (scope : List Int) (deep size : Int) (bound : List Int) (s : Int) (b : List Int), y.ckD level consts codes free scope deep size bound = some (s, b) → size < s ∧ s ≤ 20000 ∧ b.length ≤ bound.length + y.bulk) →
     ∀ (deep size : Int) (bound : List Int) (s : Int) (b : List Int), size ≤ 20000 → Trm.cksD level consts codes free x.op scope (scope ++ x.v) l deep size bound = some (s, b) → size ≤ s ∧ s ≤ 20000 ∧ b.length ≤ bound.length + Trm.bulks l := by
    intro l
    induction l with
    | nil => intro _ deep size bound s b h0 h; rw [Trm.cksD] at h; cases h; rw [Trm.bulks]; omega
    | cons y l ihl =>
     intro hy deep size bound s b h0 h
     rw [Trm.cksD] at h
     split at h
     ·cases h
     split at h
     ·cases h
     ·rename_i s1 b1 h1
      have e1 := hy y (by simp) _ _ _ _ _ _ h1
      have e2 := ihl (fun z hz => hy z (by simp [hz])) _ _ _ _ _ (by omega) h
      rw [Trm.bulks]; omega
   have hb := bindR_len x.v bound
   have h2 : size + 1 ≤ 20000 := by simp at hc; omega
   have := key x.t ih _ _ _ _ _ h2 h
   rw [Trm.bulk_eq]; omega
  ·cases h
def ckPost (b : Nat) (level consts codes : Int) (free : Bool) (r : Option (Int × List Int)) (y : PV) (Γ' : List Ent) : Prop :=
 y = .tup [] ∧ ∃ size' bound' tk' ok', tk'.e = 3 ∧ Γ' = [.box b (ckC level consts codes size' free bound' tk' ok'), .tok tk'] ∧ (ok' = true → r = some (size', bound')) ∧ (ok' = false → r = none)
theorem cks_step {level consts codes : Int} {free : Bool} {op : Int} {scope inner : List Int} {l : List Trm} {i : Nat} (hlt : i < l.length) {deep sz : Int} {bd : List Int} {total : Option (Int × List Int)}
  (h : total = Trm.cksD level consts codes free op scope inner (l.drop i) deep sz bd) (okv : Bool) (sc : List Int) (h1 : okv = true ↔ (op = 9 ∧ i + 1 ≠ l.length → l[i].op = wantOp level)) (h2 : sc = if i + 1 = l.length ∨ op = 7 ∨ op = 9 then inner else scope) :
  (∀ s b, (if okv = true then l[i].ckD level consts codes free sc deep sz bd else none) = some (s, b) → total = Trm.cksD level consts codes free op scope inner (l.drop (i + 1)) deep s b) ∧
  ((if okv = true then l[i].ckD level consts codes free sc deep sz bd else none) = none → total = none) := by
 have e : l.drop (i + 1) = [] ↔ i + 1 = l.length := by rw [List.drop_eq_nil_iff]; omega
 rw [drop_at hlt, Trm.cksD] at h
 simp only [ne_eq, e] at h
 rw [← h2] at h
 by_cases ho : okv = true
 ·rw [if_pos ho]
  have := h1.1 ho
  rw [if_neg (fun hh => hh.2.2 (this ⟨hh.1, hh.2.1⟩))] at h
  refine ⟨fun s b hr => ?_, fun hr => ?_⟩
  ·rw [hr] at h; exact h
  ·rw [hr] at h; exact h
 ·rw [if_neg ho]
  refine ⟨fun s b hr => (by cases hr), fun _ => ?_⟩
  rw [if_pos] at h
  ·exact h
  ·refine ⟨?_, ?_, ?_⟩
   ·apply Classical.byContradiction; intro hh; exact ho (h1.2 fun x => absurd x.1 hh)
   ·intro hh; exact ho (h1.2 fun x => absurd hh x.2)
   ·intro hh; exact ho (h1.2 fun _ => hh)
theorem ck_next {level consts codes : Int} {free : Bool} {x : Trm} {sc : List Int} {deep sz : Int} {bd : List Int} {R : Int → List Int → Prop} {n : Nat} (okv : Bool) {s : Int} {b : List Int}
  (h : (if okv = true then x.ckD level consts codes free sc deep sz bd else none) = some (s, b)) (k : ∀ s b, (if okv = true then x.ckD level consts codes free sc deep sz bd else none) = some (s, b) → R s b) (h0 : 0 ≤ sz) (hn : bd.length + (x.bulk + n) ≤ 1000000000) :
  0 ≤ s ∧ s ≤ 20000 ∧ b.length + n ≤ 1000000000 ∧ R s b := by
 have hk := k s b h
 split at h
 ·have := x.ckD_bd level consts codes free sc deep sz bd s b h
  exact ⟨by omega, by omega, by omega, hk⟩
 ·cases h
theorem drChk06baa {p q : Prop} (k : q) (h : q → p := by intro hq; first | exact PDraw.sP (some 19) rfl [] [28,29,30] tt_ok mixed hq) : p := h k
theorem term2_c (b : Nat) (level consts codes : Int) (free : Bool) (t : Trm) : ∀ (size deep : Int) (bound scope : List Int) (ok0 : Bool) (tk : Tok), tk.e = 3 → 0 ≤ size → size ≤ 20000 → 0 ≤ deep → deep ≤ 401 → bound.length + t.bulk ≤ 1000000000 → scope.length + t.bulk ≤ 1000000000 →
  ACall Tryz.prog 28 [.ptr b 0, .agg t.cells, .sl 1 (scope.map (PV.int .i64)) none, .int .i64 deep] [.box b (ckC level consts codes size free bound tk ok0), .tok tk]
  (ckPost b level consts codes free (if ok0 = true then t.ckD level consts codes free scope deep size bound else none)) := by
 induction t using Trm.ind with
 | h t ih =>
  intro size deep bound scope ok0 tk htk hs0 hs1 hd0 hd1 hb1 hb2
  have hbk := t.bulk_eq
  have hr := t.ckD_eq level consts codes free scope deep size bound
  refine ACall.of_body tt_ok Tryz.func28 rfl rfl (n := 141) rfl rfl ?_
  conv => whnf
  repeat' (first|refine aA0 ?_|((first|(((apply zY;intro hg));(conv=>whnf);(repeat ((first|refine pC (sorts_c _ _) wR ?_|refine pC (counts_c t OA) wR ?_|refine PCall.read (number2_c b level consts codes (size + 1) free ok0 bound tk t scope) wR ?_|refine aG ?_);conv=>whnf));exact pZ)|refine drChk06baa ?_|intro _);conv=>whnf)|(refine zX (fun hc=>?_) (fun hc=>?_)<;>(try simp only [SY] at hc)<;>(conv=>whnf)))
  ·exact PRet.gen (Wk.refl _) ⟨rfl, size + 1, bound, tk, false, htk, rfl, fun h => (by cases h), fun _ => (by split; rw [hr, if_pos (by simp only [SS]; exact ‹_ ∨ _›)]; rfl)⟩
  ·exact PRet.gen (Wk.refl _) ⟨rfl, size + 1, bound, tk, ok0, htk, rfl, fun h => (by rw [h] at hc; simp at hc), fun h => by rw [if_neg (by simp [h])]⟩
  rename_i b2 hgood
  obtain ⟨⟨⟨⟨g1, g2⟩, g3⟩, g4⟩, g5⟩ := hgood
  obtain rfl : ok0 = true := by simpa using hc
  rw [if_pos rfl]
  rw [if_neg (by simp [g3, g4, g5]; omega)] at hr
  refine PCall.go (bind2_c b level consts codes (size + 1) free t.v bound tk htk (by omega)) (WkT.refl _) ?_
  rintro _ _ ⟨rfl, tk2, htk2, rfl⟩
  conv => whnf
  skip
  refine PDraw.sE [] [0,2] [5,6] tt_ok mixed ?_
  conv=>whnf
  repeat (first|refine aR0 ?_|((intro _);conv=>whnf))
  rename_i t3 ht3
  refine PAppend.list (l := ([] : List Int)) (f := PV.int .i64) ht3 (by simp; omega) (by show _ * 8 ≤ _; simp; omega) ?_
  intro t4 ht4
  conv => whnf
  skip
  refine PAppend.list (l := [] ++ scope) (f := PV.int .i64) ht4 (by simp; omega) (by show _ * 8 ≤ _; simp; omega) ?_
  intro t5 ht5
  conv => whnf
  skip
  rw [List.nil_append]
  have hbl := bindR_len t.v bound
  refine PLoop.over [9, 10, 11, 68, 69, 70, 71, 72, 73, 74, 75, 76, 77, 78, 79, 80, 81, 82, 83, 84, 85, 86, 87, 88, 89, 90, 91, 92, 93, 94, 95, 96, 97, 98, 99, 100, 101, 102, 103, 104, 105, 106, 107, 108, 109, 110, 111, 112, 113, 114, 115, 116, 117, 118, 119, 120, 121, 122, 123, 124, 125, 126, 127, 128, 129, 130, 131, 132, 133, 134, 135, 136, 137, 138, 139, 140] (fun | ((i, sz, bd, ok, tk') : Nat × Int × List Int × Bool × Tok) => [(9, .int .i64 i)])
   (fun x => [.box b (ckC level consts codes x.2.1 free x.2.2.1 x.2.2.2.2 x.2.2.2.1), .tok x.2.2.2.2, .box b2 [.int .i64 t.op, .int .i64 t.n, .sl 1 (t.v.map (PV.int .i64)) none, .sl 4 (t.t.map Trm.pv) none]])
   (fun | (i, sz, bd, ok, tk') => i ≤ t.t.length ∧ tk'.e = 3 ∧ (ok = true → 0 ≤ sz ∧ sz ≤ 20000 ∧ bd.length + Trm.bulks (t.t.drop i) ≤ 1000000000 ∧ t.ckD level consts codes free scope deep size bound = Trm.cksD level consts codes free t.op scope (scope ++ t.v) (t.t.drop i) (deep + 1) sz bd) ∧
    (ok = false → t.ckD level consts codes free scope deep size bound = none)) (fun | (i, _) => t.t.length - i) (0, size + 1, (bindR t.v bound).2, (bindR t.v bound).1, tk2)
   ⟨by simp, htk2, fun h => ⟨by omega, by omega, by rw [List.drop_zero]; omega, by rw [hr, if_pos h]; rfl⟩, fun h => by rw [hr, if_neg (by simp [h])]⟩ wA ?_
  rintro ⟨i, sz, bd, ok, tk'⟩ ⟨hi, htk', hok, hno⟩
  conv => whnf
  repeat' (first|refine aA0 ?_|((intro _);conv=>whnf)|(refine zX (fun hc=>?_) (fun hc=>?_)<;>(try simp only [SY] at hc)<;>first|omega|(conv=>whnf)))
  rotate_right
  ·refine PRet.gen (Wk.refl _) ⟨rfl, sz, bd, tk', ok, htk', rfl, fun h => ?_, hno⟩
   obtain ⟨_, _, _, h3⟩ := hok h
   rw [h3, List.drop_of_length_le (by rcases hc with hc | hc; omega; rw [h] at hc; cases hc), Trm.cksD]
  all_goals
   have hlt : i < t.t.length := by omega
   obtain rfl : ok = true := (‹_ ∧ ok = true›).2
   obtain ⟨hz, q1, q2, q3⟩ := hok rfl
   have hbm := Trm.bulks_mem (List.getElem_mem hlt)
   rw [drop_at hlt, Trm.bulks] at q2
  ·obtain ⟨k1, k2⟩ := cks_step hlt q3 (t.t[i].op == 19) (scope ++ t.v) (by simp [wantOp, *]; omega) (by rw [if_pos (by omega)])
   refine PCall.go (ih t.t[i] (List.getElem_mem _) sz (deep + 1) bd (scope ++ t.v) (t.t[i].op == 19) tk' htk' hz q1 (by omega) (by omega) (by omega) (by first | omega | (simp; omega))) wA ?_
   rintro _ _ ⟨rfl, s', b', tk2', ok2, h1, rfl, h3, h4⟩
   conv => whnf
   repeat (refine aR0 ?_)
   exact loopTo (i + 1, s', b', ok2, tk2') ⟨by omega, h1, fun h => ck_next _ (h3 h) k1 hz (by omega), fun h => k2 (h4 h)⟩ (by show t.t.length - (i + 1) < t.t.length - i; omega) wA
  ·obtain ⟨k1, k2⟩ := cks_step hlt q3 (t.t[i].op == 4) (scope ++ t.v) (by simp [wantOp, *]; omega) (by rw [if_pos (by omega)])
   refine PCall.go (ih t.t[i] (List.getElem_mem _) sz (deep + 1) bd (scope ++ t.v) (t.t[i].op == 4) tk' htk' hz q1 (by omega) (by omega) (by omega) (by first | omega | (simp; omega))) wA ?_
   rintro _ _ ⟨rfl, s', b', tk2', ok2, h1, rfl, h3, h4⟩
   conv => whnf
   repeat (refine aR0 ?_)
   exact loopTo (i + 1, s', b', ok2, tk2') ⟨by omega, h1, fun h => ck_next _ (h3 h) k1 hz (by omega), fun h => k2 (h4 h)⟩ (by show t.t.length - (i + 1) < t.t.length - i; omega) wA
  ·obtain ⟨k1, k2⟩ := cks_step hlt q3 true (scope ++ t.v) ⟨fun _ hh => (by omega), fun _ => rfl⟩ (by rw [if_pos (by omega)])
   refine PCall.go (ih t.t[i] (List.getElem_mem _) sz (deep + 1) bd (scope ++ t.v) (true) tk' htk' hz q1 (by omega) (by omega) (by omega) (by first | omega | (simp; omega))) wA ?_
   rintro _ _ ⟨rfl, s', b', tk2', ok2, h1, rfl, h3, h4⟩
   conv => whnf
   repeat (refine aR0 ?_)
   exact loopTo (i + 1, s', b', ok2, tk2') ⟨by omega, h1, fun h => ck_next _ (h3 h) k1 hz (by omega), fun h => k2 (h4 h)⟩ (by show t.t.length - (i + 1) < t.t.length - i; omega) wA
  ·obtain ⟨k1, k2⟩ := cks_step hlt q3 true scope ⟨fun _ hh => (by omega), fun _ => rfl⟩ (by rw [if_neg (by omega)])
   refine PCall.go (ih t.t[i] (List.getElem_mem _) sz (deep + 1) bd (scope) (true) tk' htk' hz q1 (by omega) (by omega) (by omega) (by first | omega | (simp; omega))) wA ?_
   rintro _ _ ⟨rfl, s', b', tk2', ok2, h1, rfl, h3, h4⟩
   conv => whnf
   repeat (refine aR0 ?_)
   exact loopTo (i + 1, s', b', ok2, tk2') ⟨by omega, h1, fun h => ck_next _ (h3 h) k1 hz (by omega), fun h => k2 (h4 h)⟩ (by show t.t.length - (i + 1) < t.t.length - i; omega) wA
end Go.Cb





