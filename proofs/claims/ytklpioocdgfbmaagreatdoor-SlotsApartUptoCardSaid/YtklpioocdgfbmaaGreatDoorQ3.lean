/-
 The types of this seat: a table made by a program, checked by the kernel.
 More rules: integers of other kinds, stable operations, maps.
 Rules for the automatic walk: guarded operations, indices, loops over what they change.
 The data of the program as Lean types, and how they lie in values.
 Drawn regions in two stages: stable operations, a chain, stable operations, a chain.
 Contracts: package slices: Grow, Concat, Index, Contains, of numbers.
 Plain law: images: what words say, as functions.
 Calls among entries that end in entries unknown.
 Drawn regions with allocations that may come at any time.
 Indices within bounds by a condition.
 More for the walk: elements within bounds on a condition; what values are as data; appends.
 Contracts: package slices at the program's types (written by tools/gen_slices.py).
 Contracts: package slices: Clone, ContainsFunc, Backward, of numbers.
 Appends onto rows of one's own; maps from numbers.
-/
import Derived.Test.YtklpioocdgfbmaaGreatDoorProg
import Derived.Test.YtklpioocdgfbmaaGreatDoorQ2
set_option linter.unusedSimpArgs false
set_option linter.unusedVariables false
namespace Go.Cb
open Go.Proofs
set_option maxRecDepth 100000
def tl : List TI := [
 TI.none,
 ⟨.fn, 1, 8, [.fn]⟩,
 ⟨.int .i64, 1, 8, [.int .i64]⟩,
 ⟨.int .i64, 1, 8, [.int .i64]⟩,
 ⟨.bool, 1, 1, [.bool]⟩,
 ⟨.int .u8, 1, 1, [.int .u8]⟩,
 ⟨.int .u8, 1, 1, [.int .u8]⟩,
 ⟨.st [(0, 1, false), (1, 1, false), (2, 1, false), (3, 1, false)], 4, 24, [.int .i64, .int .i64, .bool, .int .u8]⟩,
 ⟨.st [(0, 1, false), (1, 1, false), (2, 1, false), (3, 1, false)], 4, 24, [.int .i64, .int .i64, .bool, .int .u8]⟩,
 ⟨.str, 1, 16, [.str]⟩,
 ⟨.str, 1, 16, [.str]⟩,
 ⟨.str, 1, 16, [.str]⟩,
 ⟨.int .u64, 1, 8, [.int .u64]⟩,
 ⟨.st [(0, 1, false), (1, 1, false)], 2, 24, [.str, .int .u64]⟩,
 ⟨.st [(0, 1, false), (1, 1, false)], 2, 24, [.str, .int .u64]⟩,
 ⟨.ptr 340, 1, 8, [.ptr]⟩,
 ⟨.ptr 343, 1, 8, [.ptr]⟩,
 ⟨.ptr 350, 1, 8, [.ptr]⟩,
 ⟨.st [(0, 1, false)], 1, 8, [.ptr]⟩,
 ⟨.st [(0, 1, false)], 1, 8, [.ptr]⟩,
 ⟨.ifc, 1, 16, [.ifc]⟩,
 ⟨.int .i32, 1, 4, [.int .i32]⟩,
 ⟨.sl 70, 1, 24, [.sl]⟩,
 ⟨.sl 3, 1, 24, [.sl]⟩,
 ⟨.sl 26, 1, 24, [.sl]⟩,
 ⟨.st [(0, 1, false), (1, 1, false), (2, 1, false), (3, 1, false)], 4, 64, [.int .i64, .int .i64, .sl, .sl]⟩,
 ⟨.st [(0, 1, false), (1, 1, false), (2, 1, false), (3, 1, false)], 4, 64, [.int .i64, .int .i64, .sl, .sl]⟩,
 ⟨.st [(0, 1, false), (1, 4, true)], 5, 88, [.sl, .int .i64, .int .i64, .sl, .sl]⟩,
 ⟨.st [(0, 1, false), (1, 4, true)], 5, 88, [.sl, .int .i64, .int .i64, .sl, .sl]⟩,
 ⟨.fn, 1, 8, [.fn]⟩,
 ⟨.fn, 1, 8, [.fn]⟩,
 ⟨.sl 88, 1, 24, [.sl]⟩,
 ⟨.st [(0, 1, false), (1, 1, false), (2, 4, true)], 6, 112, [.sl, .sl, .int .i64, .int .i64, .sl, .sl]⟩,
 ⟨.st [(0, 1, false), (1, 1, false), (2, 4, true)], 6, 112, [.sl, .sl, .int .i64, .int .i64, .sl, .sl]⟩,
 ⟨.int .i64, 1, 8, [.int .i64]⟩,
 TI.none,
 ⟨.fn, 1, 8, [.fn]⟩,
 ⟨.fn, 1, 8, [.fn]⟩,
 ⟨.fn, 1, 8, [.fn]⟩,
 ⟨.sl 57, 1, 24, [.sl]⟩,
 TI.none,
 ⟨.fn, 1, 8, [.fn]⟩,
 ⟨.fn, 1, 8, [.fn]⟩,
 ⟨.fn, 1, 8, [.fn]⟩,
 ⟨.st [(0, 1, false), (1, 1, false)], 2, 48, [.sl, .sl]⟩,
 ⟨.st [(0, 1, false), (1, 1, false)], 2, 48, [.sl, .sl]⟩,
 ⟨.fn, 1, 8, [.fn]⟩,
 TI.none,
 ⟨.fn, 1, 8, [.fn]⟩,
 ⟨.fn, 1, 8, [.fn]⟩,
 ⟨.fn, 1, 8, [.fn]⟩,
 ⟨.fn, 1, 8, [.fn]⟩,
 TI.none,
 ⟨.fn, 1, 8, [.fn]⟩,
 ⟨.sl 59, 1, 24, [.sl]⟩,
 ⟨.sl 23, 1, 24, [.sl]⟩,
 ⟨.st [(0, 1, false), (1, 1, false), (2, 1, false), (3, 1, false), (4, 1, false)], 5, 72, [.int .i64, .bool, .int .i64, .sl, .sl]⟩,
 ⟨.st [(0, 1, false), (1, 1, false), (2, 1, false), (3, 1, false), (4, 1, false)], 5, 72, [.int .i64, .bool, .int .i64, .sl, .sl]⟩,
 ⟨.st [(0, 1, false), (1, 1, false), (2, 1, false), (3, 1, false), (4, 1, false)], 5, 56, [.int .i64, .int .i64, .int .i64, .int .i64, .sl]⟩,
 ⟨.st [(0, 1, false), (1, 1, false), (2, 1, false), (3, 1, false), (4, 1, false)], 5, 56, [.int .i64, .int .i64, .int .i64, .int .i64, .sl]⟩,
 ⟨.fn, 1, 8, [.fn]⟩,
 ⟨.fn, 1, 8, [.fn]⟩,
 TI.none,
 ⟨.fn, 1, 8, [.fn]⟩,
 ⟨.sl 4, 1, 24, [.sl]⟩,
 ⟨.fn, 1, 8, [.fn]⟩,
 TI.none,
 ⟨.fn, 1, 8, [.fn]⟩,
 ⟨.fn, 1, 8, [.fn]⟩,
 ⟨.st [(0, 1, false), (1, 1, false), (2, 1, false), (3, 1, false), (4, 1, false)], 5, 64, [.int .i64, .int .i64, .int .i64, .str, .sl]⟩,
 ⟨.st [(0, 1, false), (1, 1, false), (2, 1, false), (3, 1, false), (4, 1, false)], 5, 64, [.int .i64, .int .i64, .int .i64, .str, .sl]⟩,
 ⟨.fn, 1, 8, [.fn]⟩,
 ⟨.fn, 1, 8, [.fn]⟩,
 ⟨.fn, 1, 8, [.fn]⟩,
 ⟨.ptr 77, 1, 8, [.ptr]⟩,
 ⟨.mp 3 138, 1, 8, [.mp]⟩,
 ⟨.st [(0, 1, false), (1, 1, false)], 2, 32, [.sl, .mp]⟩,
 ⟨.st [(0, 1, false), (1, 1, false)], 2, 32, [.sl, .mp]⟩,
 ⟨.fn, 1, 8, [.fn]⟩,
 ⟨.fn, 1, 8, [.fn]⟩,
 ⟨.fn, 1, 8, [.fn]⟩,
 ⟨.ptr 84, 1, 8, [.ptr]⟩,
 ⟨.sl 149, 1, 24, [.sl]⟩,
 ⟨.st [(0, 1, false), (1, 1, false)], 2, 48, [.sl, .sl]⟩,
 ⟨.st [(0, 1, false), (1, 1, false)], 2, 48, [.sl, .sl]⟩,
 ⟨.fn, 1, 8, [.fn]⟩,
 ⟨.fn, 1, 8, [.fn]⟩,
 ⟨.st [(0, 1, false), (1, 1, false), (2, 4, true)], 6, 96, [.sl, .bool, .int .i64, .int .i64, .sl, .sl]⟩,
 ⟨.st [(0, 1, false), (1, 1, false), (2, 4, true)], 6, 96, [.sl, .bool, .int .i64, .int .i64, .sl, .sl]⟩,
 ⟨.ptr 91, 1, 8, [.ptr]⟩,
 ⟨.st [(0, 1, false), (1, 1, false), (2, 1, false)], 3, 40, [.sl, .int .i64, .bool]⟩,
 ⟨.st [(0, 1, false), (1, 1, false), (2, 1, false)], 3, 40, [.sl, .int .i64, .bool]⟩,
 ⟨.fn, 1, 8, [.fn]⟩,
 ⟨.fn, 1, 8, [.fn]⟩,
 TI.none,
 ⟨.fn, 1, 8, [.fn]⟩,
 TI.none,
 ⟨.fn, 1, 8, [.fn]⟩,
 ⟨.fn, 1, 8, [.fn]⟩,
 ⟨.fn, 1, 8, [.fn]⟩,
 ⟨.fn, 1, 8, [.fn]⟩,
 ⟨.ptr 103, 1, 8, [.ptr]⟩,
 ⟨.st [(0, 1, false)], 1, 24, [.sl]⟩,
 ⟨.st [(0, 1, false)], 1, 24, [.sl]⟩,
 ⟨.fn, 1, 8, [.fn]⟩,
 ⟨.fn, 1, 8, [.fn]⟩,
 ⟨.fn, 1, 8, [.fn]⟩,
 ⟨.fn, 1, 8, [.fn]⟩,
 ⟨.fn, 1, 8, [.fn]⟩,
 ⟨.fn, 1, 8, [.fn]⟩,
 ⟨.fn, 1, 8, [.fn]⟩,
 ⟨.fn, 1, 8, [.fn]⟩,
 ⟨.fn, 1, 8, [.fn]⟩,
 ⟨.fn, 1, 8, [.fn]⟩,
 ⟨.fn, 1, 8, [.fn]⟩,
 ⟨.fn, 1, 8, [.fn]⟩,
 ⟨.fn, 1, 8, [.fn]⟩,
 ⟨.fn, 1, 8, [.fn]⟩,
 ⟨.fn, 1, 8, [.fn]⟩,
 ⟨.fn, 1, 8, [.fn]⟩,
 ⟨.sl 124, 1, 24, [.sl]⟩,
 TI.none,
 ⟨.fn, 1, 8, [.fn]⟩,
 ⟨.sl 229, 1, 24, [.sl]⟩,
 ⟨.sl 229, 1, 24, [.sl]⟩,
 ⟨.fn, 1, 8, [.fn]⟩,
 ⟨.fn, 1, 8, [.fn]⟩,
 ⟨.fn, 1, 8, [.fn]⟩,
 ⟨.ptr 131, 1, 8, [.ptr]⟩,
 ⟨.mp 3 4, 1, 8, [.mp]⟩,
 ⟨.st [(0, 1, false), (1, 1, false), (2, 1, false), (3, 1, false), (4, 1, false), (5, 1, false)], 6, 48, [.int .i64, .int .i64, .int .i64, .bool, .int .i64, .mp]⟩,
 ⟨.st [(0, 1, false), (1, 1, false), (2, 1, false), (3, 1, false), (4, 1, false), (5, 1, false)], 6, 48, [.int .i64, .int .i64, .int .i64, .bool, .int .i64, .mp]⟩,
 ⟨.fn, 1, 8, [.fn]⟩,
 ⟨.fn, 1, 8, [.fn]⟩,
 ⟨.fn, 1, 8, [.fn]⟩,
 TI.none,
 ⟨.fn, 1, 8, [.fn]⟩,
 ⟨.st [(0, 1, false), (1, 1, false)], 2, 16, [.int .i64, .bool]⟩,
 ⟨.st [(0, 1, false), (1, 1, false)], 2, 16, [.int .i64, .bool]⟩,
 TI.none,
 ⟨.fn, 1, 8, [.fn]⟩,
 ⟨.ptr 143, 1, 8, [.ptr]⟩,
 ⟨.st [(0, 1, false), (1, 1, false), (2, 1, false), (3, 1, false), (4, 1, false), (5, 1, false), (6, 1, false)], 7, 72, [.int .i64, .int .i64, .int .i64, .bool, .int .i64, .sl, .bool]⟩,
 ⟨.st [(0, 1, false), (1, 1, false), (2, 1, false), (3, 1, false), (4, 1, false), (5, 1, false), (6, 1, false)], 7, 72, [.int .i64, .int .i64, .int .i64, .bool, .int .i64, .sl, .bool]⟩,
 ⟨.fn, 1, 8, [.fn]⟩,
 ⟨.fn, 1, 8, [.fn]⟩,
 ⟨.fn, 1, 8, [.fn]⟩,
 ⟨.fn, 1, 8, [.fn]⟩,
 ⟨.st [(0, 1, false), (1, 1, false), (2, 1, false)], 3, 24, [.int .i64, .int .i64, .bool]⟩,
 ⟨.st [(0, 1, false), (1, 1, false), (2, 1, false)], 3, 24, [.int .i64, .int .i64, .bool]⟩,
 TI.none,
 ⟨.fn, 1, 8, [.fn]⟩,
 ⟨.fn, 1, 8, [.fn]⟩,
 ⟨.fn, 1, 8, [.fn]⟩,
 ⟨.fn, 1, 8, [.fn]⟩,
 ⟨.mp 3 3, 1, 8, [.mp]⟩,
 ⟨.ptr 3, 1, 8, [.ptr]⟩,
 TI.none,
 ⟨.fn, 1, 8, [.fn]⟩,
 ⟨.fn, 1, 8, [.fn]⟩,
 ⟨.fn, 1, 8, [.fn]⟩,
 TI.none,
 ⟨.fn, 1, 8, [.fn]⟩,
 ⟨.fn, 1, 8, [.fn]⟩,
 ⟨.fn, 1, 8, [.fn]⟩,
 ⟨.fn, 1, 8, [.fn]⟩,
 ⟨.fn, 1, 8, [.fn]⟩,
 ⟨.ptr 171, 1, 8, [.ptr]⟩,
 ⟨.mp 176 4, 1, 8, [.mp]⟩,
 ⟨.mp 3 23, 1, 8, [.mp]⟩,
 ⟨.st [(0, 1, false), (1, 1, false), (2, 1, false)], 3, 24, [.mp, .mp, .mp]⟩,
 ⟨.st [(0, 1, false), (1, 1, false), (2, 1, false)], 3, 24, [.mp, .mp, .mp]⟩,
 ⟨.fn, 1, 8, [.fn]⟩,
 ⟨.fn, 1, 8, [.fn]⟩,
 ⟨.fn, 1, 8, [.fn]⟩,
 ⟨.arr 2 3, 2, 16, [.int .i64, .int .i64]⟩,
 ⟨.arr 2 3, 2, 16, [.int .i64, .int .i64]⟩,
 ⟨.fn, 1, 8, [.fn]⟩,
 ⟨.fn, 1, 8, [.fn]⟩,
 ⟨.fn, 1, 8, [.fn]⟩,
 ⟨.fn, 1, 8, [.fn]⟩,
 ⟨.fn, 1, 8, [.fn]⟩,
 ⟨.fn, 1, 8, [.fn]⟩,
 TI.none,
 ⟨.fn, 1, 8, [.fn]⟩,
 ⟨.fn, 1, 8, [.fn]⟩,
 ⟨.st [(0, 1, false), (1, 1, false), (2, 1, false), (3, 1, false), (4, 1, false), (5, 1, false)], 6, 6, [.bool, .bool, .bool, .bool, .bool, .bool]⟩,
 ⟨.st [(0, 1, false), (1, 1, false), (2, 1, false), (3, 1, false), (4, 1, false), (5, 1, false)], 6, 6, [.bool, .bool, .bool, .bool, .bool, .bool]⟩,
 TI.none,
 ⟨.fn, 1, 8, [.fn]⟩,
 ⟨.fn, 1, 8, [.fn]⟩,
 ⟨.fn, 1, 8, [.fn]⟩,
 ⟨.fn, 1, 8, [.fn]⟩,
 ⟨.fn, 1, 8, [.fn]⟩,
 ⟨.st [(0, 1, false), (1, 1, false), (2, 1, false), (3, 1, false), (4, 1, false)], 5, 40, [.str, .int .i64, .int .i64, .bool, .bool]⟩,
 ⟨.st [(0, 1, false), (1, 1, false), (2, 1, false), (3, 1, false), (4, 1, false)], 5, 40, [.str, .int .i64, .int .i64, .bool, .bool]⟩,
 TI.none,
 ⟨.fn, 1, 8, [.fn]⟩,
 ⟨.fn, 1, 8, [.fn]⟩,
 ⟨.fn, 1, 8, [.fn]⟩,
 ⟨.st [(0, 1, false), (1, 1, false), (2, 1, false), (3, 1, false), (4, 1, false)], 5, 32, [.int .i64, .int .i64, .int .i64, .bool, .bool]⟩,
 ⟨.st [(0, 1, false), (1, 1, false), (2, 1, false), (3, 1, false), (4, 1, false)], 5, 32, [.int .i64, .int .i64, .int .i64, .bool, .bool]⟩,
 TI.none,
 ⟨.fn, 1, 8, [.fn]⟩,
 ⟨.fn, 1, 8, [.fn]⟩,
 ⟨.fn, 1, 8, [.fn]⟩,
 ⟨.fn, 1, 8, [.fn]⟩,
 ⟨.fn, 1, 8, [.fn]⟩,
 ⟨.fn, 1, 8, [.fn]⟩,
 ⟨.fn, 1, 8, [.fn]⟩,
 ⟨.fn, 1, 8, [.fn]⟩,
 ⟨.fn, 1, 8, [.fn]⟩,
 ⟨.fn, 1, 8, [.fn]⟩,
 ⟨.fn, 1, 8, [.fn]⟩,
 ⟨.fn, 1, 8, [.fn]⟩,
 ⟨.fn, 1, 8, [.fn]⟩,
 ⟨.fn, 1, 8, [.fn]⟩,
 ⟨.sl 221, 1, 24, [.sl]⟩,
 TI.none,
 ⟨.fn, 1, 8, [.fn]⟩,
 ⟨.st [(0, 1, false), (1, 1, false)], 2, 16, [.int .i64, .int .i64]⟩,
 ⟨.st [(0, 1, false), (1, 1, false)], 2, 16, [.int .i64, .int .i64]⟩,
 ⟨.fn, 1, 8, [.fn]⟩,
 ⟨.fn, 1, 8, [.fn]⟩,
 ⟨.int .u64, 1, 8, [.int .u64]⟩,
 ⟨.fn, 1, 8, [.fn]⟩,
 ⟨.fn, 1, 8, [.fn]⟩,
 ⟨.arr 31 195, 155, 1240, (List.replicate 31 [.str, .int .i64, .int .i64, .bool, .bool]).flatten⟩,
 ⟨.fn, 1, 8, [.fn]⟩,
 ⟨.int .u64, 1, 8, [.int .u64]⟩,
 ⟨.fn, 1, 8, [.fn]⟩,
 ⟨.fn, 1, 8, [.fn]⟩,
 ⟨.sl 235, 1, 24, [.sl]⟩,
 TI.none,
 ⟨.fn, 1, 8, [.fn]⟩,
 ⟨.st [(0, 1, false), (1, 1, false)], 2, 16, [.int .i64, .int .i64]⟩,
 ⟨.fn, 1, 8, [.fn]⟩,
 ⟨.int .i64, 1, 8, [.int .i64]⟩,
 TI.none,
 ⟨.fn, 1, 8, [.fn]⟩,
 ⟨.fn, 1, 8, [.fn]⟩,
 ⟨.fn, 1, 8, [.fn]⟩,
 ⟨.fn, 1, 8, [.fn]⟩,
 ⟨.fn, 1, 8, [.fn]⟩,
 ⟨.int .u32, 1, 4, [.int .u32]⟩,
 ⟨.fn, 1, 8, [.fn]⟩,
 ⟨.fn, 1, 8, [.fn]⟩,
 ⟨.fn, 1, 8, [.fn]⟩,
 ⟨.fn, 1, 8, [.fn]⟩,
 TI.none,
 ⟨.fn, 1, 8, [.fn]⟩,
 ⟨.sl 5, 1, 24, [.sl]⟩,
 ⟨.fn, 1, 8, [.fn]⟩,
 ⟨.fn, 1, 8, [.fn]⟩,
 ⟨.fn, 1, 8, [.fn]⟩,
 ⟨.st [(0, 4, true), (4, 1, false)], 5, 88, [.int .i64, .int .i64, .sl, .sl, .sl]⟩,
 ⟨.st [(0, 4, true), (4, 1, false)], 5, 88, [.int .i64, .int .i64, .sl, .sl, .sl]⟩,
 ⟨.fn, 1, 8, [.fn]⟩,
 ⟨.mp 3 3, 1, 8, [.mp]⟩,
 ⟨.fn, 1, 8, [.fn]⟩,
 ⟨.fn, 1, 8, [.fn]⟩,
 ⟨.fn, 1, 8, [.fn]⟩,
 ⟨.int .u64, 1, 8, [.int .u64]⟩,
 ⟨.fn, 1, 8, [.fn]⟩,
 ⟨.fn, 1, 8, [.fn]⟩,
 ⟨.fn, 1, 8, [.fn]⟩,
 ⟨.fn, 1, 8, [.fn]⟩,
 ⟨.fn, 1, 8, [.fn]⟩,
 ⟨.arr 256 4, 256, 256, (List.replicate 256 (.bool))⟩,
 ⟨.arr 256 4, 256, 256, (List.replicate 256 (.bool))⟩,
 TI.none,
 ⟨.fn, 1, 8, [.fn]⟩,
 ⟨.fn, 1, 8, [.fn]⟩,
 ⟨.ptr 269, 1, 8, [.ptr]⟩,
 ⟨.fn, 1, 8, [.fn]⟩,
 TI.none,
 ⟨.fn, 1, 8, [.fn]⟩,
 TI.none,
 ⟨.fn, 1, 8, [.fn]⟩,
 ⟨.fn, 1, 8, [.fn]⟩,
 TI.none,
 ⟨.fn, 1, 8, [.fn]⟩,
 ⟨.fn, 1, 8, [.fn]⟩,
 ⟨.fn, 1, 8, [.fn]⟩,
 ⟨.fn, 1, 8, [.fn]⟩,
 ⟨.fn, 1, 8, [.fn]⟩,
 ⟨.fn, 1, 8, [.fn]⟩,
 ⟨.ptr 262, 1, 8, [.ptr]⟩,
 TI.none,
 ⟨.fn, 1, 8, [.fn]⟩,
 ⟨.fn, 1, 8, [.fn]⟩,
 ⟨.fn, 1, 8, [.fn]⟩,
 TI.none,
 ⟨.fn, 1, 8, [.fn]⟩,
 ⟨.fn, 1, 8, [.fn]⟩,
 ⟨.ifc, 1, 16, [.ifc]⟩,
 ⟨.ifc, 1, 16, [.ifc]⟩,
 TI.none,
 ⟨.fn, 1, 8, [.fn]⟩,
 ⟨.fn, 1, 8, [.fn]⟩,
 ⟨.fn, 1, 8, [.fn]⟩,
 ⟨.fn, 1, 8, [.fn]⟩,
 ⟨.fn, 1, 8, [.fn]⟩,
 ⟨.arr 256 5, 256, 256, (List.replicate 256 (.int .u8))⟩,
 ⟨.st [(0, 1, false), (1, 1, false)], 2, 2, [.int .u8, .int .u8]⟩,
 ⟨.st [(0, 1, false), (1, 1, false)], 2, 2, [.int .u8, .int .u8]⟩,
 ⟨.arr 16 305, 32, 32, (List.replicate 32 (.int .u8))⟩,
 ⟨.fn, 1, 8, [.fn]⟩,
 ⟨.int .i64, 1, 8, [.int .i64]⟩,
 TI.none,
 ⟨.fn, 1, 8, [.fn]⟩,
 ⟨.ptr 320, 1, 8, [.ptr]⟩,
 ⟨.fn, 1, 8, [.fn]⟩,
 ⟨.fn, 1, 8, [.fn]⟩,
 TI.none,
 ⟨.fn, 1, 8, [.fn]⟩,
 TI.none,
 ⟨.fn, 1, 8, [.fn]⟩,
 ⟨.fn, 1, 8, [.fn]⟩,
 ⟨.st [(0, 1, false), (1, 1, false), (2, 1, false)], 3, 48, [.str, .str, .ifc]⟩,
 ⟨.st [(0, 1, false), (1, 1, false), (2, 1, false)], 3, 48, [.str, .str, .ifc]⟩,
 ⟨.fn, 1, 8, [.fn]⟩,
 ⟨.fn, 1, 8, [.fn]⟩,
 ⟨.fn, 1, 8, [.fn]⟩,
 ⟨.ptr 5, 1, 8, [.ptr]⟩,
 ⟨.ptr 327, 1, 8, [.ptr]⟩,
 ⟨.st [(0, 1, false)], 1, 16, [.str]⟩,
 ⟨.st [(0, 1, false)], 1, 16, [.str]⟩,
 ⟨.fn, 1, 8, [.fn]⟩,
 ⟨.arr 24 5, 24, 24, (List.replicate 24 (.int .u8))⟩,
 ⟨.fn, 1, 8, [.fn]⟩,
 TI.none,
 ⟨.fn, 1, 8, [.fn]⟩,
 ⟨.fn, 1, 8, [.fn]⟩,
 ⟨.arr 20 229, 20, 160, (List.replicate 20 (.int .u64))⟩,
 ⟨.arr 65 5, 65, 65, (List.replicate 65 (.int .u8))⟩,
 ⟨.arr 32 5, 32, 32, (List.replicate 32 (.int .u8))⟩,
 ⟨.arr 64 5, 64, 64, (List.replicate 64 (.int .u8))⟩,
 ⟨.fn, 1, 8, [.fn]⟩,
 ⟨.st [(0, 1, false), (1, 1, false), (2, 1, false), (3, 1, false)], 4, 40, [.ptr, .ptr, .ptr, .str]⟩,
 ⟨.st [(0, 1, false), (1, 1, false), (2, 1, false), (3, 1, false)], 4, 40, [.ptr, .ptr, .ptr, .str]⟩,
 TI.none,
 TI.none,
 TI.none,
 ⟨.int .u8, 1, 1, [.int .u8]⟩,
 ⟨.int .u8, 1, 1, [.int .u8]⟩,
 ⟨.fn, 1, 8, [.fn]⟩,
 ⟨.int .i32, 1, 4, [.int .i32]⟩,
 ⟨.int .i32, 1, 4, [.int .i32]⟩,
 ⟨.st [(0, 1, false), (1, 1, false), (2, 1, false), (3, 1, false), (4, 1, false), (5, 1, false), (6, 1, false), (7, 1, false), (8, 1, false), (9, 1, false), (10, 1, false)], 11, 48, [.int .u64, .int .u64, .int .u32, .int .u8, .int .u8, .int .u8, .int .u8, .fn, .ptr, .int .i32, .int .i32]⟩,
 ⟨.st [(0, 1, false), (1, 1, false), (2, 1, false), (3, 1, false), (4, 1, false), (5, 1, false), (6, 1, false), (7, 1, false), (8, 1, false), (9, 1, false), (10, 1, false)], 11, 48, [.int .u64, .int .u64, .int .u32, .int .u8, .int .u8, .int .u8, .int .u8, .fn, .ptr, .int .i32, .int .i32]⟩,
 TI.none]
def tt : Nat → TI := tab tl
theorem tt_ok : TT.ok Tryz.prog tt := tab_ok (l := tl) (by kernel_rfl)
end Go.Cb
namespace Go.Cb
open Go.Proofs
theorem mixed : Tryz.prog.follows .mixedOrders = true := rfl
theorem PStb.of {B : (PV → List Ent → Prop) → Prop} {Γ : List Ent} {k : PV → Prop} (v : PV) (h1 : B (fun p Γ' => PShift p Γ' v Γ)) (h2 : k v) : PStb B Γ k := ⟨v, h1, h2⟩
theorem wrap_of {k : IntKind} {v u : Int} (h : k.wrap v = u) {K : Int → Prop} (hk : K u) : PInt k v K := ⟨h ▸ hk⟩
theorem wrap_u64 {v : Int} (h1 : 0 ≤ v) (h2 : v < 18446744073709551616) : IntKind.u64.wrap v = v := by
 simp only [IntKind.wrap, IntKind.bits, IntKind.signed]
 simp
 omega
theorem PInt.u64 {v : Int} {K : Int → Prop} (h1 : 0 ≤ v) (h2 : v < 18446744073709551616) (k : K v) : PInt .u64 v K := wrap_of (wrap_u64 h1 h2) k
theorem wrap_u64_neg {v : Int} (h1 : -18446744073709551616 ≤ v) (h2 : v < 0) : IntKind.u64.wrap v = v + 18446744073709551616 := by
 simp only [IntKind.wrap, IntKind.bits, IntKind.signed]
 simp
 omega
theorem PInt.u64_neg {v : Int} {K : Int → Prop} (h1 : -18446744073709551616 ≤ v) (h2 : v < 0) (k : K (v + 18446744073709551616)) : PInt .u64 v K := wrap_of (wrap_u64_neg h1 h2) k
theorem wrap_u8 {v : Int} (h1 : 0 ≤ v) (h2 : v < 256) : IntKind.u8.wrap v = v := by
 simp only [IntKind.wrap, IntKind.bits, IntKind.signed]
 simp
 omega
theorem PInt.u8 {v : Int} {K : Int → Prop} (h1 : 0 ≤ v) (h2 : v < 256) (k : K v) : PInt .u8 v K := wrap_of (wrap_u8 h1 h2) k
class PickMp (Γ : List Ent) (r : Nat) (d : outParam TypeDesc) (m : outParam (Value → Option PV)) (pend : outParam (List (Int × Value))) (put : outParam ((Value → Option PV) → List (Int × Value) → List Ent)) : Prop where
 at_ : ∃ Γ1 Γ2, Γ = Γ1 ++ .mp r d m pend :: Γ2 ∧ ∀ m' p', put m' p' = Γ1 ++ .mp r d m' p' :: Γ2
instance (priority := high) PickMp.head (Γ : List Ent) (r : Nat) (d : TypeDesc) (m : Value → Option PV) (pend : List (Int × Value)) : PickMp (.mp r d m pend :: Γ) r d m pend (fun m' p' => .mp r d m' p' :: Γ) := ⟨[], Γ, rfl, fun _ _ => rfl⟩
instance PickMp.tail (e : Ent) (Γ : List Ent) (r : Nat) (d : TypeDesc) (m : Value → Option PV) (pend : List (Int × Value)) (put : (Value → Option PV) → List (Int × Value) → List Ent) [h : PickMp Γ r d m pend put] : PickMp (e :: Γ) r d m pend (fun m' p' => e :: put m' p') := by
 obtain ⟨Γ1, Γ2, h1, h2⟩ := h.at_
 exact ⟨e :: Γ1, Γ2, by rw [h1]; rfl, fun m' p' => by rw [h2]; rfl⟩
theorem PLook.at_ {r : Nat} {d : TypeDesc} {k : Value} {z : PV} {Γ : List Ent} {m : Value → Option PV} {pend : List (Int × Value)} {put : (Value → Option PV) → List (Int × Value) → List Ent} [hp : PickMp Γ r d m pend put] {K : PV → Bool → Prop} (y : PV) (b : Bool)
  (hk : IsK d k) (h1 : ∀ p, m k = some p → Wk p y ∧ b = true) (h2 : m k = none → Wk z y ∧ b = false) (h : K y b) : PLook r d (some k) z Γ K := by
 obtain ⟨Γ1, Γ2, e1, _⟩ := hp.at_
 exact ⟨k, m, pend, y, b, rfl, hk, by rw [e1]; simp, h1, h2, h⟩
theorem PMapPut.at_ {r : Nat} {d : TypeDesc} {k : Value} {p : PV} {Γ : List Ent} {m : Value → Option PV} {pend : List (Int × Value)} {put : (Value → Option PV) → List (Int × Value) → List Ent} [hp : PickMp Γ r d m pend put] {K : List Ent → Prop} (m' : Value → Option PV)
  (hk : IsK d k) (h1 : m' k = some p) (h2 : ∀ k', k' ≠ k → m' k' = m k') (h : K (put m' pend)) (hq : m k ≠ none ∨ ∀ q ∈ pend, q.2 ≠ .tuple #[] := by right; simp) : PMapPut r d (some k) p Γ K := by
 obtain ⟨Γ1, Γ2, e1, e2⟩ := hp.at_
 exact ⟨k, m, m', pend, Γ1, Γ2, rfl, hk, e1, h1, h2, hq, by rw [← e2]; exact h⟩
theorem PMapEntry.at_ {r : Nat} {d : TypeDesc} {k : Value} {z : PV} {Γ : List Ent} {m : Value → Option PV} {pend : List (Int × Value)} {put : (Value → Option PV) → List (Int × Value) → List Ent} [hp : PickMp Γ r d m pend put] {K : PV → List Ent → Prop} (m' : Value → Option PV)
  (hk : IsK d k) (h1 : m' k = some ((m k).getD z)) (h2 : ∀ k', k' ≠ k → m' k' = m k') (h : ∀ n, K (.tup [(m k).getD z, .int .i64 n]) (put m' ((n, k) :: pend))) (hq : m k ≠ none ∨ ∀ q ∈ pend, q.2 ≠ .tuple #[] := by right; simp) : PMapEntry r d (some k) z Γ K := by
 obtain ⟨Γ1, Γ2, e1, e2⟩ := hp.at_
 exact ⟨k, m, m', pend, Γ1, Γ2, rfl, hk, e1, h1, h2, hq, fun n => by rw [← e2]; exact h n⟩
theorem PEntryStore.at_ {r : Nat} {d : TypeDesc} {n : Int} {k : Value} {p : PV} {Γ : List Ent} {m : Value → Option PV} {pend : List (Int × Value)} {put : (Value → Option PV) → List (Int × Value) → List Ent} [hp : PickMp Γ r d m ((n, k) :: pend) put] {K : List Ent → Prop} (m' : Value → Option PV)
  (h1 : m' k = some p) (h2 : ∀ k', k' ≠ k → m' k' = m k') (h : K (put m' ((n, k) :: pend))) (hq : k ≠ .tuple #[] := by simp) : PEntryStore r n p Γ K := by
 obtain ⟨Γ1, Γ2, e1, e2⟩ := hp.at_
 exact ⟨d, k, m, m', (n, k) :: pend, Γ1, Γ2, by simp, hq, e1, h1, h2, by rw [← e2]; exact h⟩
theorem PMapDel.at_ {r : Nat} {d : TypeDesc} {k : Value} {Γ : List Ent} {m : Value → Option PV} {pend : List (Int × Value)} {put : (Value → Option PV) → List (Int × Value) → List Ent} [hp : PickMp Γ r d m pend put] {K : List Ent → Prop} (m' : Value → Option PV)
  (hk : IsK d k) (h1 : m' k = none) (h2 : ∀ k', k' ≠ k → m' k' = m k') (h : K (put m' [])) : PMapDel r d (some k) Γ K := by
 obtain ⟨Γ1, Γ2, e1, e2⟩ := hp.at_
 exact ⟨k, m, m', pend, Γ1, Γ2, rfl, hk, e1, h1, h2, by rw [← e2]; exact h⟩
section
variable {P : Program} {tt : Nat → TI}
theorem PSeq.go {ds : List Nat} {a b : Code} {T : List PV} {Γ : List Ent} {D : Ds} {Q : QT} (h : W P tt a T Γ D (seqQ (W P tt b) Q)) : PSeq ds (W P tt a) (W P tt b) T Γ D Q := by
 refine ⟨fun _ _ => False, W_mono _ _ _ _ _ _ ?_ h, fun _ _ h => h.elim⟩
 intro e T' Γ' D' h
 cases e <;> first | exact h | exact .inl h
def lookP : Nat → List (Nat × PV) → Option PV
 | _, [] => none
 | i, (j, x) :: r => match Nat.beq i j with
  | true => some x
  | false => lookP i r
def elemN : Nat → List Nat → Bool
 | _, [] => false
 | i, j :: r => match Nat.beq i j with
  | true => true
  | false => elemN i r
def overT : Nat → List PV → List Nat → List (Nat × PV) → List PV
 | _, [], _, _ => []
 | i, x :: T, ds, ps => (match lookP i ps with
  | some v => v
  | none => match elemN i ds with
   | true => .any
   | false => x) :: overT (i + 1) T ds ps
def overK {q : Sort _} : Nat → List PV → List Nat → List (Nat × PV) → (List PV → q) → q
 | _, [], _, _, k => k []
 | i, x :: T, ds, ps, k => match lookP i ps with
  | some v => overK (i + 1) T ds ps fun r => k (v :: r)
  | none => match elemN i ds with
   | true => overK (i + 1) T ds ps fun r => k (.any :: r)
   | false => overK (i + 1) T ds ps fun r => k (x :: r)
theorem overK_eq {q : Sort _} : ∀ (i : Nat) (T : List PV) (ds : List Nat) (ps : List (Nat × PV)) (k : List PV → q), overK i T ds ps k = k (overT i T ds ps)
 | _, [], _, _, _ => rfl
 | i, x :: T, ds, ps, k => by
  simp only [overK, overT]
  split
  ·exact overK_eq (i + 1) T ds ps _
  ·split <;> exact overK_eq (i + 1) T ds ps _
def maskK {q : Sort _} : Nat → Nat → List (Nat × PV) → (List PV → q) → q
 | _, 0, _, k => k []
 | i, n + 1, [], k => maskK (i + 1) n [] fun r => k (.any :: r)
 | i, n + 1, (j, x) :: ps, k => match Nat.beq i j with
  | true => maskK (i + 1) n ps fun r => k (x :: r)
  | false => maskK (i + 1) n ((j, x) :: ps) fun r => k (.any :: r)
theorem maskK_eq {q : Sort _} : ∀ (i n : Nat) (ps : List (Nat × PV)) (k : List PV → q), maskK i n ps k = k (maskT i n ps)
 | _, 0, _, _ => rfl
 | i, n + 1, [], k => by simp only [maskK, maskT]; exact maskK_eq (i + 1) n [] _
 | i, n + 1, (j, x) :: ps, k => by
  simp only [maskK, maskT]
  cases Nat.beq i j
  ·exact maskK_eq (i + 1) n ((j, x) :: ps) _
  ·exact maskK_eq (i + 1) n ps _
def WkOver : Nat → List PV → List PV → List Nat → List (Nat × PV) → Prop
 | _, [], [], _, _ => True
 | i, x' :: T', x :: T, ds, ps => match lookP i ps with
  | some v => Wk x' v ∧ WkOver (i + 1) T' T ds ps
  | none => match elemN i ds with
   | true => WkOver (i + 1) T' T ds ps
   | false => Wk x' x ∧ WkOver (i + 1) T' T ds ps
 | _, _, _, _, _ => False
theorem WkOver.wk : ∀ (i : Nat) (T' T : List PV) (ds : List Nat) (ps : List (Nat × PV)), WkOver i T' T ds ps → WkT T' (overT i T ds ps)
 | _, [], [], _, _, _ => .nil
 | _, [], _ :: _, _, _, h => by simp [WkOver] at h
 | _, _ :: _, [], _, _, h => by simp [WkOver] at h
 | i, x' :: T', x :: T, ds, ps, h => by
  simp only [WkOver] at h
  simp only [overT]
  split at h
  ·rename_i hv
   exact .cons h.1 (WkOver.wk (i + 1) T' T ds ps h.2)
  ·split at h
   ·exact .cons (Wk.any _) (WkOver.wk (i + 1) T' T ds ps h)
   ·exact .cons h.1 (WkOver.wk (i + 1) T' T ds ps h.2)
structure JoinEnd {τ : Type} (ds : List Nat) (ps : τ → List (Nat × PV)) (G : τ → List Ent) (J : τ → Prop) (T : List PV) (D0 : Ds) (T' : List PV) (Γ : List Ent) (D : Ds) : Prop where
 h : D = D0 ∧ ∃ t, J t ∧ Weak T' Γ (overT 0 T ds (ps t)) (G t)
theorem joinEnd {τ : Type} {ds : List Nat} {ps : τ → List (Nat × PV)} {G : τ → List Ent} {J : τ → Prop} {T T' : List PV} {Γ Γ1 : List Ent} {D : Ds} (t : τ) (hJ : J t) (hw : WkOver 0 T' T ds (ps t)) [hp : PickL Γ (G t) Γ1] : JoinEnd ds ps G J T D T' Γ D :=
 ⟨rfl, t, hJ, Weak.of (WkOver.wk 0 T' T ds (ps t) hw) (Ghost.drop hp.p)⟩
theorem PSeq.join {τ : Type} {ds : List Nat} {a b : Code} {T : List PV} {Γ : List Ent} {D : Ds} {Q : QT} (ps : τ → List (Nat × PV)) (G : τ → List Ent) (J : τ → Prop)
  (h : W P tt a T Γ D (thenQ (JoinEnd ds ps G J T D) Q)) (h2 : ∀ t, J t → overK 0 T ds (ps t) fun T0 => W P tt b T0 (G t) D Q) : PSeq ds (W P tt a) (W P tt b) T Γ D Q := by
 refine ⟨fun T0 Γ0 => ∃ t, J t ∧ T0 = overT 0 T ds (ps t) ∧ Γ0 = G t, W_mono _ _ _ _ _ _ ?_ h, ?_⟩
 ·intro e T' Γ' D' h
  cases e <;> first | exact h | skip
  obtain ⟨h1, t, h3, h4⟩ := h.h
  exact .inr ⟨h1, _, _, h4, t, h3, rfl, rfl⟩
 ·rintro _ _ ⟨t, h1, rfl, rfl⟩
  have := h2 t h1
  rwa [overK_eq] at this
structure LoopEnd {σ : Type} (R : σ → List (Nat × PV)) (G : σ → List Ent) (I : σ → Prop) (μ : σ → Nat) (len : Nat) (s : σ) (D0 : Ds) (T : List PV) (Γ : List Ent) (D : Ds) : Prop where
 h : D = D0 ∧ ∃ s', I s' ∧ μ s' < μ s ∧ Weak T Γ (maskT 0 len (R s')) (G s')
theorem PLoop.by_ {σ : Type} {c : Code} {T : List PV} {Γ Γ1 : List Ent} {D : Ds} {Q : QT} (R : σ → List (Nat × PV)) (G : σ → List Ent) (I : σ → Prop) (μ : σ → Nat) (len : Nat) (s0 : σ)
  (hI : I s0) (hl : lenIs T len = true) (hw : WkMask T 0 (R s0)) [hp : PickL Γ (G s0) Γ1]
  (round : ∀ s, I s → maskK 0 len (R s) fun T0 => W P tt c T0 (G s) D (thenQ (LoopEnd R G I μ len s D) Q)) : PLoop (W P tt c) T Γ D Q := by
 refine ⟨fun n T Γ => ∃ s, I s ∧ n = μ s ∧ T = maskT 0 len (R s) ∧ Γ = G s, fun _ _ _ => False, ⟨μ s0, _, _, Weak.mask (R s0) hl hw (hp := hp), s0, hI, rfl, rfl, rfl⟩, ?_, fun _ _ _ h => h.elim⟩
 rintro n _ _ ⟨s, hs, rfl, rfl, rfl⟩
 have hr := round s hs
 rw [maskK_eq] at hr
 refine W_mono _ _ _ _ _ _ ?_ hr
 intro e T Γ D' h
 cases e <;> first | exact h | exact .inl h | skip
 obtain ⟨h1, s', h2, h3, h4⟩ := h.h
 exact ⟨h1, μ s', _, _, h3, h4, s', h2, rfl, rfl, rfl⟩
structure LoopExit {τ : Type} (R2 : τ → List (Nat × PV)) (G2 : τ → List Ent) (J : τ → Prop) (len : Nat) (D0 : Ds) (T : List PV) (Γ : List Ent) (D : Ds) : Prop where
 h : D = D0 ∧ ∃ t, J t ∧ Weak T Γ (maskT 0 len (R2 t)) (G2 t)
theorem loopNext {σ : Type} {R : σ → List (Nat × PV)} {G : σ → List Ent} {I : σ → Prop} {μ : σ → Nat} {len : Nat} {s : σ} {T : List PV} {Γ Γ1 : List Ent} {D : Ds} (s' : σ) (hI : I s') (hμ : μ s' < μ s) (hl : lenIs T len = true) (hw : WkMask T 0 (R s')) [hp : PickL Γ (G s') Γ1] :
  LoopEnd R G I μ len s D T Γ D := ⟨rfl, s', hI, hμ, Weak.mask (R s') hl hw⟩
end
end Go.Cb
namespace Go.Cb
open Go.Proofs
theorem PGuard.lazy {g : Bool} {E : PV → Prop} {A B : Prop} {L : PV → Prop} {x : PV} (h1 : g = true → E x) (h2 : L (.opt g x)) : PGuard g E A B L := ⟨.inr ⟨x, h1, h2⟩⟩
theorem PGuard.ways {g : Bool} {E : PV → Prop} {A B : Prop} {L : PV → Prop} (h1 : g = true → A) (h2 : g = false → B) : PGuard g E A B L := ⟨.inl ⟨h1, h2⟩⟩
theorem PNeed.of {q : Bool} {K : Prop} (h : q = true) (k : K) : PNeed q K := ⟨h, k⟩
theorem PCond.ways {p : Bool} {A B : Prop} (h1 : p = true → A) (h2 : p = false → B) : PCond p A B := ⟨h1, h2⟩
theorem PCond.yes {p : Bool} {A B : Prop} (h : p = true) (k : A) : PCond p A B := ⟨fun _ => k, fun e => (by rw [h] at e; cases e)⟩
theorem PCond.no {p : Bool} {A B : Prop} (h : p = false) (k : B) : PCond p A B := ⟨fun e => (by rw [h] at e; cases e), fun _ => k⟩
theorem PSide.of {p K : Prop} (h : p) (k : K) : PSide p K := ⟨h, k⟩
theorem PDiv.of {k : IntKind} {a b : Int} {K : Prop} (h : b ≠ 0) (k' : K) : PDiv k a b K := ⟨h, k'⟩
theorem SS : (∀ (p : Prop) [Decidable p], (decide p = true) = p) ∧ (∀ (p : Prop) [Decidable p], (decide p = false) = ¬ p) ∧ (∀ a b : Int, ((a == b) = true) = (a = b)) ∧ (∀ a b : Int, ((a == b) = false) = ¬ (a = b)) ∧
  (∀ a b : List UInt8, ((a == b) = true) = (a = b)) ∧ (∀ a b : List UInt8, ((a == b) = false) = ¬ (a = b)) ∧ (∀ a b : Int, ((a != b) = true) = ¬ (a = b)) ∧ (∀ a b : Int, ((a != b) = false) = (a = b)) ∧
  (∀ a b : Bool, ((a && b) = true) = (a = true ∧ b = true)) ∧ (∀ a b : Bool, ((a && b) = false) = (a = false ∨ b = false)) ∧ (∀ a b : Bool, ((a || b) = true) = (a = true ∨ b = true)) ∧ (∀ a b : Bool, ((a || b) = false) = (a = false ∧ b = false)) ∧
  (∀ a : Bool, ((!a) = true) = (a = false)) ∧ (∀ a : Bool, ((!a) = false) = (a = true)) ∧ (∀ a b : Int, (¬ a < b) = (b ≤ a)) ∧ (∀ a b : Int, (¬ a ≤ b) = (b < a)) ∧ (∀ a b : Int, (a > b) = (b < a)) ∧ (∀ a b : Int, (a ≥ b) = (b ≤ a)) ∧
  (∀ a : Prop, (¬ ¬ a) = a) ∧ (true = false) = False ∧ (false = true) = False := by
 refine ⟨fun p _ => by simp, fun p _ => by simp, fun a b => by simp, fun a b => by simp, fun a b => by simp, fun a b => by simp, fun a b => by simp, fun a b => by simp, fun a b => by simp, fun a b => by cases a <;> cases b <;> simp,
  fun a b => by simp, fun a b => by simp, fun a => by simp, fun a => by simp, fun a b => by simp, fun a b => by simp, fun a b => rfl, fun a b => rfl, fun a => by simp, by simp, by simp⟩
theorem an1 {a b : Bool} (h : (a && b) = true) : a = true := by simp at h; exact h.1
theorem an2 {a b : Bool} (h : (a && b) = true) : b = true := by simp at h; exact h.2
class CastOf (n : Int) (i : outParam Nat) : Prop where eq : n = (i : Int)
instance (i : Nat) : CastOf (i : Int) i := ⟨rfl⟩
instance : CastOf 0 0 := ⟨rfl⟩
instance : CastOf 1 1 := ⟨rfl⟩
instance : CastOf 2 2 := ⟨rfl⟩
instance : CastOf 3 3 := ⟨rfl⟩
instance (a b : Int) (i j : Nat) [h : CastOf a i] [k : CastOf b j] : CastOf (a + b) (i + j) := ⟨by rw [h.eq, k.eq]; simp⟩
class IdxOf (n : Int) (i : outParam Nat) : Prop where eq : 0 ≤ n → n = (i : Int)
instance (priority := low) (n : Int) : IdxOf n n.toNat := ⟨fun h => by omega⟩
instance (n : Int) (i : Nat) [h : CastOf n i] : IdxOf n i := ⟨fun _ => h.eq⟩
instance (a b : Int) (i j : Nat) [h : CastOf a i] [k : CastOf b j] : IdxOf (a - b) (i - j) := ⟨fun e => by rw [h.eq, k.eq] at *; omega⟩
theorem IdxOf.lt {n : Int} {i : Nat} [x : IdxOf n i] {k : Nat} (h0 : 0 ≤ n) (h1 : n < (k : Int)) : i < k := by have := x.eq h0; omega
theorem PIndexS.ix {s : List UInt8} {k : IntKind} {n : Int} {i : Nat} [x : IdxOf n i] {K : PV → Prop} (h0 : 0 ≤ n) (h1 : n < s.length) (hk : K (.int .u8 (s.getD i 0).toNat)) : PIndexS s (.int k n) K := by
 have hi := IdxOf.lt h0 h1
 have := x.eq h0
 refine ⟨k, n, s.getD i 0, rfl, h0, ?_, hk⟩
 rw [this]
 simp [List.getD, hi]
class CellsOf {α : Type} (f : α → PV) (g : outParam (α → List PV)) : Prop where
 eq : ∀ x, (f x).cellsOf = g x
instance (k : IntKind) : CellsOf (PV.int k) (fun n => [.int k n]) := ⟨fun _ => rfl⟩
instance : CellsOf PV.str (fun s => [.str s]) := ⟨fun _ => rfl⟩
instance : CellsOf PV.bool (fun s => [.bool s]) := ⟨fun _ => rfl⟩
theorem PIndexA.ix {α : Type} {f : α → PV} {g : α → List PV} [c : CellsOf f g] {sz : Nat} {l : List α} {tk : Option Tok} {k : IntKind} {n : Int} {i : Nat} [x : IdxOf n i] {K : PV → Prop} (h0 : 0 ≤ n) (h : n < l.length)
  (hk : K (.ep (g (l[i]'(IdxOf.lt h0 h))))) : PIndexA sz (.sl sz (l.map f) tk) (.int k n) K := by
 have hi := IdxOf.lt h0 h
 have e := x.eq h0
 refine ⟨sz, _, tk, k, _, f l[i], rfl, rfl, h0, ?_, rfl, by rw [c.eq]; exact hk⟩
 rw [e]
 simp [hi]
theorem PIndexA.lit {sz : Nat} {es : List PV} {tk : Option Tok} {k : IntKind} {n : Int} {i : Nat} {e : PV} [x : CastOf n i] {K : PV → Prop} (h : nthP es i = some e) (hk : K (.ep e.cellsOf)) : PIndexA sz (.sl sz es tk) (.int k n) K := by
 have e1 := x.eq
 refine ⟨sz, _, tk, k, _, e, rfl, rfl, by omega, ?_, rfl, hk⟩
 rw [e1, ← h, nthP_eq]; rfl
theorem PLen.map {α : Type} {f : α → PV} {l : List α} {K : Nat → Prop} (h : l.length ≤ 9223372036854775807 → K l.length) : PLen (l.map f) K := ⟨by rw [List.length_map]; exact h⟩
theorem PLen.of {es : List PV} {K : Nat → Prop} (h : es.length ≤ 9223372036854775807 → K es.length) : PLen es K := ⟨h⟩
theorem PSliceS.lo {s : List UInt8} {k : IntKind} {n : Int} {i : Nat} [x : IdxOf n i] {K : PV → Prop} (h0 : 0 ≤ n) (h : n ≤ s.length) (hk : K (.str (s.drop i))) : PSliceS s (some (.int k n)) none K :=
 ⟨i, s.length, rfl, x.eq h0, by have := x.eq h0; omega, Nat.le_refl _, by rw [List.take_length]; exact hk⟩
theorem PSliceS.hi {s : List UInt8} {k : IntKind} {n : Int} {i : Nat} [x : IdxOf n i] {K : PV → Prop} (h0 : 0 ≤ n) (h : n ≤ s.length) (hk : K (.str (s.take i))) : PSliceS s none (some (.int k n)) K :=
 ⟨0, i, x.eq h0, rfl, by omega, by have := x.eq h0; omega, hk⟩
theorem PSliceS.both {s : List UInt8} {k k' : IntKind} {n m : Int} {i j : Nat} [x : IdxOf n i] [y : IdxOf m j] {K : PV → Prop} (h0 : 0 ≤ n) (h1 : n ≤ m) (h : m ≤ s.length) (hk : K (.str ((s.take j).drop i))) : PSliceS s (some (.int k n)) (some (.int k' m)) K :=
 ⟨i, j, y.eq (by omega), x.eq h0, by have := x.eq h0; have := y.eq (by omega); omega, by have := y.eq (by omega); omega, hk⟩
theorem PSliceL.lo {s : Nat} {α : Type} {f : α → PV} {es : List α} {k : IntKind} {n : Int} {i : Nat} [x : IdxOf n i] {K : PV → Prop} (h0 : 0 ≤ n) (h : n ≤ es.length) (hk : K (.sl s ((es.drop i).map f) none)) : PSliceL s (es.map f) (some (.int k n)) none K :=
 ⟨i, _, rfl, x.eq h0, by have := x.eq h0; simp; omega, Nat.le_refl _, by rw [List.take_length, ← List.map_drop]; exact hk⟩
theorem PSliceL.hi {s : Nat} {α : Type} {f : α → PV} {es : List α} {k : IntKind} {n : Int} {i : Nat} [x : IdxOf n i] {K : PV → Prop} (h0 : 0 ≤ n) (h : n ≤ es.length) (hk : K (.sl s ((es.take i).map f) none)) : PSliceL s (es.map f) none (some (.int k n)) K :=
 ⟨0, i, x.eq h0, rfl, by omega, by have := x.eq h0; simp; omega, by rw [List.drop_zero, ← List.map_take]; exact hk⟩
class KRange (k : IntKind) (lo hi : outParam Int) : Prop where eq : ∀ v, lo ≤ v → v ≤ hi → k.wrap v = v
instance : KRange .i64 (-9223372036854775808) 9223372036854775807 := ⟨fun v h1 h2 => by rw [IntKind.wrap_i64]; omega⟩
instance : KRange .u64 0 18446744073709551615 := ⟨fun v h1 h2 => wrap_u64 h1 (by omega)⟩
instance : KRange .u8 0 255 := ⟨fun v h1 h2 => wrap_u8 h1 (by omega)⟩
theorem PInt.ok {k : IntKind} {lo hi v : Int} [x : KRange k lo hi] {K : Int → Prop} (h1 : lo ≤ v) (h2 : v ≤ hi) (hk : K v) : PInt k v K := wrap_of (x.eq v h1 h2) hk
section
variable {P : Program} {tt : Nat → TI}
structure LoopTo {σ : Type} (ds : List Nat) (R : σ → List (Nat × PV)) (G : σ → List Ent) (I : σ → Prop) (μ : σ → Nat) (T0 : List PV) (s : σ) (D0 : Ds) (T : List PV) (Γ : List Ent) (D : Ds) : Prop where
 h : D = D0 ∧ ∃ s', I s' ∧ μ s' < μ s ∧ Weak T Γ (overT 0 T0 ds (R s')) (G s')
theorem PLoop.over {σ : Type} {c : Code} {T : List PV} {Γ Γ1 : List Ent} {D : Ds} {Q : QT} (ds : List Nat) (R : σ → List (Nat × PV)) (G : σ → List Ent) (I : σ → Prop) (μ : σ → Nat) (s0 : σ)
  (hI : I s0) (hw : WkOver 0 T T ds (R s0)) [hp : PickL Γ (G s0) Γ1]
  (round : ∀ s, I s → overK 0 T ds (R s) fun T0 => W P tt c T0 (G s) D (thenQ (LoopTo ds R G I μ T s D) Q)) : PLoop (W P tt c) T Γ D Q := by
 refine ⟨fun n T' Γ => ∃ s, I s ∧ n = μ s ∧ T' = overT 0 T ds (R s) ∧ Γ = G s, fun _ _ _ => False, ⟨μ s0, _, _, Weak.of (WkOver.wk 0 T T ds (R s0) hw) (Ghost.drop hp.p), s0, hI, rfl, rfl, rfl⟩, ?_, fun _ _ _ h => h.elim⟩
 rintro n _ _ ⟨s, hs, rfl, rfl, rfl⟩
 have hr := round s hs
 rw [overK_eq] at hr
 refine W_mono _ _ _ _ _ _ ?_ hr
 intro e T' Γ D' h
 cases e <;> first | exact h | exact .inl h | skip
 obtain ⟨h1, s', h2, h3, h4⟩ := h.h
 exact ⟨h1, μ s', _, _, h3, h4, s', h2, rfl, rfl, rfl⟩
theorem loopTo {σ : Type} {ds : List Nat} {R : σ → List (Nat × PV)} {G : σ → List Ent} {I : σ → Prop} {μ : σ → Nat} {T0 : List PV} {s : σ} {T : List PV} {Γ Γ1 : List Ent} {D : Ds} (s' : σ) (hI : I s') (hμ : μ s' < μ s)
  (hw : WkOver 0 T T0 ds (R s')) [hp : PickL Γ (G s') Γ1] : LoopTo ds R G I μ T0 s D T Γ D := ⟨rfl, s', hI, hμ, Weak.of (WkOver.wk 0 T T0 ds (R s') hw) (Ghost.drop hp.p)⟩
theorem PLoop.keep {σ : Type} {c : Code} {T : List PV} {Γ : List Ent} {D : Ds} {Q : QT} (ds : List Nat) (R : σ → List (Nat × PV)) (I : σ → Prop) (μ : σ → Nat) (s0 : σ)
  (hI : I s0) (hw : WkOver 0 T T ds (R s0))
  (round : ∀ s, I s → overK 0 T ds (R s) fun T0 => W P tt c T0 Γ D (thenQ (LoopTo ds R (fun _ => Γ) I μ T s D) Q)) : PLoop (W P tt c) T Γ D Q :=
 PLoop.over (hp := ⟨by rw [List.append_nil]⟩) (Γ1 := []) ds R (fun _ => Γ) I μ s0 hI hw round
structure LoopOut {τ : Type} (ds : List Nat) (R2 : τ → List (Nat × PV)) (G2 : τ → List Ent) (J : τ → Prop) (T0 : List PV) (D0 : Ds) (T : List PV) (Γ : List Ent) (D : Ds) : Prop where
 h : D = D0 ∧ ∃ t, J t ∧ Weak T Γ (overT 0 T0 ds (R2 t)) (G2 t)
theorem PSeq.keep {τ : Type} {ds : List Nat} {a b : Code} {T : List PV} {Γ : List Ent} {D : Ds} {Q : QT} (ps : τ → List (Nat × PV)) (J : τ → Prop)
  (h : W P tt a T Γ D (thenQ (JoinEnd ds ps (fun _ => Γ) J T D) Q)) (h2 : ∀ t, J t → overK 0 T ds (ps t) fun T0 => W P tt b T0 Γ D Q) : PSeq ds (W P tt a) (W P tt b) T Γ D Q :=
 PSeq.join ps (fun _ => Γ) J h h2
theorem PLoad.all {Γ : List Ent} {b : Nat} {all : List PV} {put : List PV → List Ent} [hp : PickBox Γ b all put] {n : Nat} {K : PV → Prop} (hl : all.length = n) (k : K (.agg all)) : PLoad true n (.ptr b 0) Γ K := by
 obtain ⟨Γ1, Γ2, h1, _⟩ := hp.at_
 exact ⟨all, ⟨all, by rw [h1]; simp, by omega, by rw [List.drop_zero, ← hl, List.take_length]⟩, k⟩
theorem PLoad.cell {Γ : List Ent} {b o : Nat} {all : List PV} {put : List PV → List Ent} [hp : PickBox Γ b all put] {K : PV → Prop} (c : PV) (hl : all[o]? = some c) (k : K c) : PLoad false 1 (.ptr b o) Γ K := by
 obtain ⟨Γ1, Γ2, h1, _⟩ := hp.at_
 have ho : o < all.length := (List.getElem?_eq_some_iff.1 hl).1
 refine ⟨[c], ⟨all, by rw [h1]; simp, by omega, ?_⟩, k⟩
 rw [List.drop_eq_getElem_cons ho]
 have := (List.getElem?_eq_some_iff.1 hl).2
 simp [this]
theorem PStore.cell {Γ : List Ent} {b o : Nat} {all : List PV} {put : List PV → List Ent} [hp : PickBox Γ b all put] {x : PV} {K : List Ent → Prop} (ho : o < all.length) (hx : x.cellsOf = [x]) (hc : x.cellular = true) (k : K (put (all.set o x))) : PStore 1 (.ptr b o) x Γ K := by
 obtain ⟨Γ1, Γ2, h1, h2⟩ := hp.at_
 refine ⟨by rw [hx]; rfl, hc, [x], fun F vs h => by rwa [hx] at h, rfl, .inl ⟨b, o, all, Γ1, Γ2, rfl, h1, by omega, ?_⟩⟩
 rw [h2] at k
 rw [List.set_eq_take_append_cons_drop, if_pos ho] at k
 simpa using k
theorem PStore.all {Γ : List Ent} {b n : Nat} {all : List PV} {put : List PV → List Ent} [hp : PickBox Γ b all put] {xs : List PV} {K : List Ent → Prop} (hl : all.length = n) (hx : xs.length = n) (k : K (put xs)) : PStore n (.ptr b 0) (.agg xs) Γ K := by
 obtain ⟨Γ1, Γ2, h1, h2⟩ := hp.at_
 refine ⟨hx, rfl, xs, fun F vs h => h, hx, .inl ⟨b, 0, all, Γ1, Γ2, rfl, h1, by omega, ?_⟩⟩
 rw [h2] at k
 rw [List.drop_of_length_le (by omega)]
 simpa [PV.cellsOf] using k
def fstDst (ops : Array Oper) : Option Nat := match ops.toList with
 | [] => none
 | o :: _ => o.dst
theorem PDraw.at_ {ops : Array Oper} {T : List PV} {Γ Γ2 : List Ent} {K : List PV → List Ent → Prop} (d : Option Nat) (hd : fstDst ops = d) (hk : TT.ok P tt) (hm : P.follows .mixedOrders = true) (tab A R1 R2 : List Nat) (Γ1 : List Ent)
  (hchk : splitB ops tab A R1 R2 = true) [hp : PickL Γ Γ1 Γ2]
  (h : SSeq P tt ops.toList (pickO ops.toList A) T Γ2 fun T' => WOps P tt ops.toList (pickO ops.toList R1) T' Γ1 [] fun T2 Γ1' _ => appE Γ1' Γ2 fun Γ' => WOps P tt ops.toList (pickO ops.toList R2) T2 Γ' [] fun T' Γ' _ => K T' Γ') : PDraw P ops T Γ K :=
 PDraw.split hk hm tab A R1 R2 Γ1 hchk h
theorem PCall.same {f : FuncId} {args args' : List PV} {Γ : List Ent} {Q K : PV → List Ent → Prop} (h : ACall P f args' Γ Q) (hw : WkT args args') (k : ∀ y Γ', Q y Γ' → K y Γ') : PCall P f args Γ K := ⟨.inl ((h.wk hw).mono k)⟩
theorem PCall.go {f : FuncId} {args args' : List PV} {Γ Γ1 Γ2 : List Ent} {Q K : PV → List Ent → Prop} (h : ACall P f args' Γ1 Q) (hw : WkT args args') [hp : PickL Γ Γ1 Γ2]
  (k : ∀ y Γ1', Q y Γ1' → appE Γ1' Γ2 fun Γ' => K y Γ') : PCall P f args Γ K := PCall.gen h hw (hp := hp) fun y Γ1' hq => by have := k y Γ1' hq; rwa [appE_eq] at this
theorem PCall.read {f : FuncId} {args args' : List PV} {v : PV} {Γ Γ1 Γ2 : List Ent} {K : PV → List Ent → Prop} (h : ACall P f args' Γ1 fun y Γ' => y = v ∧ Γ' = Γ1) (hw : WkT args args') [hp : PickL Γ Γ1 Γ2] (k : K v Γ) : PCall P f args Γ K := by
 refine ⟨.inl ⟨h.1, fun w0 F M w vs hS hT => ?_⟩⟩
 have hS' : Sim w0 F (Γ1 ++ (Γ2 ++ M)) w := by
  have := hS.perm (hp.p.append_right M)
  simpa using this
 refine (h.2 w0 F (Γ2 ++ M) w vs hS' (hw.rep hT)).mono ?_
 rintro e w' ⟨v', F', y, Γ', e1, e2, e3, e4, hv, hg⟩
 subst hv
 rw [hg] at e3
 refine ⟨v', F', _, Γ, e1, e2, ?_, e4, k⟩
 have h2 : Sim w0 F' ((Γ1 ++ Γ2) ++ M) w' := by simpa using e3
 exact h2.perm (hp.p.symm.append_right M)
theorem PIndexR.ix {n sz b o : Nat} {k : IntKind} {m : Int} {i : Nat} [x : IdxOf m i] {K : PV → Prop} (hs : sz = 1) (h0 : 0 ≤ m) (hm : m < n) (hk : K (.ptr b (o + i))) : PIndexR n sz (.ptr b o) (.int k m) K := by
 have := x.eq h0
 refine ⟨b, o, k, m, rfl, rfl, h0, hm, ?_⟩
 subst hs this
 simpa using hk
instance : CellsOf (fun b : UInt8 => PV.int .u8 (b.toNat : Int)) (fun b => [.int .u8 (b.toNat : Int)]) := ⟨fun _ => rfl⟩
instance PickL.self (Γ : List Ent) : PickL Γ Γ [] := ⟨by rw [List.append_nil]⟩
theorem Ghost.nil (s : Nat) (e : TypeId) (Γ : List Ent) : Ghost Γ (.tok (nilTok s e) :: Γ) := fun w0 F M w hS => ⟨F, Fz.le_refl F, hS.nilTok s e⟩
theorem Ghost.nilRow (s : Nat) (e : TypeId) (Γ : List Ent) : Ghost Γ (.row (nilTok s e) [] :: Γ) := fun w0 F M w hS => ⟨F, Fz.le_refl F, hS.nilRow s e⟩
theorem Wk.nilRow (s : Nat) (e : TypeId) : Wk .nil (.ms (nilTok s e)) := fun F v r => by
 simp only [Rep] at r ⊢
 exact ⟨r, rfl⟩
theorem Wk.nilTok (s : Nat) (e : TypeId) : Wk .nil (.sl s [] (some (nilTok s e))) := fun F v r => by
 simp only [Rep] at r ⊢
 exact ⟨fun t ht => by cases ht; exact ⟨r, rfl, rfl⟩, .inl ⟨r, trivial⟩⟩
theorem Ghost.refl (Γ : List Ent) : Ghost Γ Γ := fun w0 F M w hS => ⟨F, Fz.le_refl F, hS⟩
theorem Ghost.trans {Γ Γ' Γ2 : List Ent} (h : Ghost Γ Γ') (k : Ghost Γ' Γ2) : Ghost Γ Γ2 := fun w0 F M w hS => by
 obtain ⟨F1, a1, a2⟩ := h w0 F M w hS
 obtain ⟨F2, b1, b2⟩ := k w0 F1 M w a2
 exact ⟨F2, Fz.le_trans a1 b1, b2⟩
theorem Ghost.pick {Γ Γ' Γ1 : List Ent} [hp : PickL Γ Γ' Γ1] : Ghost Γ Γ' := Ghost.drop hp.p
theorem Ghost.box {Γ Γ1 : List Ent} {b : Nat} {cs cs' : List PV} [hp : PickE Γ (.box b cs) Γ1] (h : WkL cs cs') : Ghost Γ (.box b cs' :: Γ1) := fun w0 F M w hS => by
 have hS' := hS.perm (hp.p.append_right M)
 have hS' : Sim w0 F (.box b cs :: (Γ1 ++ M)) w := by simpa using hS'
 refine ⟨F, Fz.le_refl F, ⟨hS'.below, hS'.fz, fun x hx => ?_, ?_⟩⟩
 ·rcases List.mem_cons.1 hx with rfl | hx
  ·obtain ⟨h1, ⟨vs, el, h2, h3⟩, h4⟩ := hS'.ent _ (List.mem_cons_self ..)
   exact ⟨h1, ⟨vs, el, h2, h.rep h3⟩, h4⟩
  ·exact hS'.ent x (List.mem_cons_of_mem _ hx)
 ·have := List.pairwise_cons.1 hS'.sep
  exact List.pairwise_cons.2 ⟨this.1, this.2⟩
theorem ACall.ghost {f : FuncId} {args : List PV} {Γ Γ' : List Ent} {Q : PV → List Ent → Prop} (hg : Ghost Γ Γ') (h : ACall P f args Γ' Q) : ACall P f args Γ Q :=
 ⟨h.1, fun w0 F M w vs hS hT => by
  obtain ⟨F1, a1, a2⟩ := hg w0 F M w hS
  refine (h.2 w0 F1 M w vs a2 (RepT.mono a1 _ _ hT)).mono ?_
  rintro e w' ⟨v, F', y, Γ2, e1, e2, e3⟩
  exact ⟨v, F', y, Γ2, e1, Fz.le_trans a1 e2, e3⟩⟩
theorem PCall.ghost {f : FuncId} {args : List PV} {Γ Γ' : List Ent} {K : PV → List Ent → Prop} (hg : Ghost Γ Γ') (h : ACall P f args Γ' K) : PCall P f args Γ K := ⟨.inl (ACall.ghost hg h)⟩
theorem PLoop.enter {σ : Type} {c : Code} {T : List PV} {Γ : List Ent} {D : Ds} {Q : QT} (ds : List Nat) (R : σ → List (Nat × PV)) (G : σ → List Ent) (I : σ → Prop) (μ : σ → Nat) (s0 : σ)
  (hI : I s0) (hw : WkOver 0 T T ds (R s0)) (hg : Ghost Γ (G s0))
  (round : ∀ s, I s → overK 0 T ds (R s) fun T0 => W P tt c T0 (G s) D (thenQ (LoopTo ds R G I μ T s D) Q)) : PLoop (W P tt c) T Γ D Q := by
 refine ⟨fun n T' Γ => ∃ s, I s ∧ n = μ s ∧ T' = overT 0 T ds (R s) ∧ Γ = G s, fun _ _ _ => False, ⟨μ s0, _, _, Weak.of (WkOver.wk 0 T T ds (R s0) hw) hg, s0, hI, rfl, rfl, rfl⟩, ?_, fun _ _ _ h => h.elim⟩
 rintro n _ _ ⟨s, hs, rfl, rfl, rfl⟩
 have hr := round s hs
 rw [overK_eq] at hr
 refine W_mono _ _ _ _ _ _ ?_ hr
 intro e T' Γ D' h
 cases e <;> first | exact h | exact .inl h | skip
 obtain ⟨h1, s', h2, h3, h4⟩ := h.h
 exact ⟨h1, μ s', _, _, h3, h4, s', h2, rfl, rfl, rfl⟩
theorem PAppend.one {α : Type} {f : α → PV} {l : List α} {s by_ : Nat} {e : TypeId} {y : PV} {t : Tok} {Γ : List Ent} {put : Tok → List Ent} [hp : PickTok Γ t put] {K : PV → List Ent → Prop} (v : α) (he : t.e = e) (hy : Wk y (.sl s [f v] none))
  (h1 : l.length + 1 ≤ 281474976710655) (h2 : (l.length + 1) * by_ ≤ 140737488355328)
  (k : ∀ t' : Tok, t'.e = e → K (.sl s ((l ++ [v]).map f) (some t')) (put t')) : PAppend s by_ e (.sl s (l.map f) (some t)) y Γ K := by
 obtain ⟨Γ1, Γ2, e1, e2⟩ := hp.at_
 refine ⟨l.map f, [f v], .inl ⟨none, hy⟩, by simpa using h1, by simpa using h2, .inr (.inl ⟨t, Γ1, Γ2, rfl, e1, he, fun t' ht => ?_⟩)⟩
 have := k t' ht
 rw [List.map_append, e2] at this
 exact this
class PickRow (Γ : List Ent) (t : Tok) (es : outParam (List PV)) (put : outParam (Tok → List PV → List Ent)) : Prop where
 at_ : ∃ Γ1 Γ2, Γ = Γ1 ++ .row t es :: Γ2 ∧ ∀ t' es', put t' es' = Γ1 ++ .row t' es' :: Γ2
instance (priority := high) PickRow.head (Γ : List Ent) (t : Tok) (es : List PV) : PickRow (.row t es :: Γ) t es (fun t' es' => .row t' es' :: Γ) := ⟨[], Γ, rfl, fun _ _ => rfl⟩
instance PickRow.tail (e : Ent) (Γ : List Ent) (t : Tok) (es : List PV) (put : Tok → List PV → List Ent) [h : PickRow Γ t es put] : PickRow (e :: Γ) t es (fun t' es' => e :: put t' es') := by
 obtain ⟨Γ1, Γ2, h1, h2⟩ := h.at_
 exact ⟨e :: Γ1, Γ2, by rw [h1]; rfl, fun t' es' => by rw [h2]; rfl⟩
theorem PLenM.at_ {Γ : List Ent} {t : Tok} {es : List PV} {put : Tok → List PV → List Ent} [hp : PickRow Γ t es put] {K : Nat → Prop} (k : es.length ≤ 9223372036854775807 → K es.length) : PLenM t Γ K := by
 obtain ⟨Γ1, Γ2, h1, _⟩ := hp.at_
 exact ⟨es, by rw [h1]; simp, k⟩
theorem PLenM.map {α : Type} {f : α → PV} {l : List α} {Γ : List Ent} {t : Tok} {put : Tok → List PV → List Ent} [hp : PickRow Γ t (l.map f) put] {K : Nat → Prop} (k : l.length ≤ 9223372036854775807 → K l.length) : PLenM t Γ K :=
 PLenM.at_ (hp := hp) (by simpa using k)
theorem PIndexM.at_ {sz : Nat} {Γ : List Ent} {t : Tok} {es : List PV} {put : Tok → List PV → List Ent} [hp : PickRow Γ t es put] {k : IntKind} {n : Int} {i : Nat} [x : IdxOf n i] {K : PV → Prop} (hs : t.s = sz) (h0 : 0 ≤ n) (hl : i < es.length) (hk : K (.rp t i 0)) : PIndexM sz t (.int k n) Γ K := by
 obtain ⟨Γ1, Γ2, h1, _⟩ := hp.at_
 have e := x.eq h0
 refine ⟨es, k, n, rfl, by rw [h1]; simp, h0, by omega, hs, ?_⟩
 rw [e]; exact hk
theorem PLoad.row {α : Type} {f : α → PV} {c : α → List PV} [hc : CellsOf f c] {l : List α} {Γ : List Ent} {t : Tok} {put : Tok → List PV → List Ent} [hp : PickRow Γ t (l.map f) put] {agg : Bool} {i o n : Nat} {K : PV → Prop} (hi : i < l.length)
  (hl : Nat.ble (o + n) (c l[i]).length = true) (k : dropK (c l[i]) o fun r => takeK r n fun cs => mkvK agg cs K) : PLoad agg n (.rp t i o) Γ K := by
 obtain ⟨Γ1, Γ2, h1, _⟩ := hp.at_
 simp only [dropK_eq, takeK_eq] at k
 have hce : (f l[i]).cellsOf = c l[i] := hc.eq _
 exact ⟨_, ⟨l.map f, f l[i], by rw [h1]; simp, by simp [hi], by rw [hce]; exact Nat.le_of_ble_eq_true hl, rfl⟩, by rw [hce]; exact k⟩
theorem PStore.row {α : Type} {f : α → PV} {c : α → List PV} [hc : CellsOf f c] {l : List α} {Γ : List Ent} {t : Tok} {put : Tok → List PV → List Ent} [hp : PickRow Γ t (l.map f) put] {i o n : Nat} {x : PV} {K : List Ent → Prop} (v : α) (hi : i < l.length)
  (hl : Nat.ble (o + n) (c l[i]).length = true) (hx : lenIs x.cellsOf n = true) (hcl : x.cellular = true) {xs : List PV} (hw : WkL x.cellsOf xs) (hv : c v = (c l[i]).take o ++ xs ++ (c l[i]).drop (o + n))
  (k : K (put t ((l.set i v).map f))) : PStore n (.rp t i o) x Γ K := by
 obtain ⟨Γ1, Γ2, h1, h2⟩ := hp.at_
 have hce : ∀ y, (f y).cellsOf = c y := hc.eq
 rw [h2] at k
 refine ⟨lenIs_iff hx, hcl, xs, fun F vs h => hw.rep h, by rw [← hw.length]; exact lenIs_iff hx, .inr ⟨t, i, o, l.map f, f l[i], f v, Γ1, Γ2, rfl, h1, by simp [hi], by rw [hce]; exact Nat.le_of_ble_eq_true hl, by rw [hce, hce]; exact hv, ?_⟩⟩
 rw [List.map_set] at k
 exact k
theorem PAppend.nilRow {α : Type} {f : α → PV} {m : List α} {s by_ : Nat} {e : TypeId} {y : PV} {Γ : List Ent} {K : PV → List Ent → Prop} (hy : Wk y (.sl s (m.map f) none))
  (h1 : m.length ≤ 281474976710655) (h2 : m.length * by_ ≤ 140737488355328)
  (k : ∀ t : Tok, t.e = e → t.s = s → K (.ms t) (.row t (m.map f) :: Γ)) : PAppend s by_ e .nil y Γ K :=
 ⟨[], m.map f, .inl ⟨none, hy⟩, by simpa using h1, by simpa using h2, .inl ⟨rfl, rfl, .inr k⟩⟩
theorem PMake.row {s by_ : Nat} {e : TypeId} {z : PV} {k k' : IntKind} {m p : Int} {K : PV → Ent → Prop} (h1 : 0 ≤ m) (h2 : m ≤ p) (h3 : p ≤ 140737488355328) (h4 : p * by_ ≤ 140737488355328) (h5 : lenIs z.cellsOf s = true)
  (h : ∀ t : Tok, t.e = e → t.s = s → K (.ms t) (.row t (List.replicate m.toNat z))) : PMake s by_ e z (.int k m) (.int k' p) K :=
 ⟨k, k', m, p, rfl, rfl, h1, h2, h3, h4, lenIs_iff h5, .inr h⟩
theorem PMake.sl {s by_ : Nat} {e : TypeId} {z : PV} {k k' : IntKind} {m p : Int} {K : PV → Ent → Prop} (h1 : 0 ≤ m) (h2 : m ≤ p) (h3 : p ≤ 140737488355328) (h4 : p * by_ ≤ 140737488355328) (h5 : lenIs z.cellsOf s = true)
  (h : ∀ t : Tok, t.e = e → K (.sl s (List.replicate m.toNat z) (some t)) (.tok t)) : PMake s by_ e z (.int k m) (.int k' p) K :=
 ⟨k, k', m, p, rfl, rfl, h1, h2, h3, h4, lenIs_iff h5, .inl h⟩
def WkF (t : Tok) (es : List PV) (x y : PV) : Prop := ∀ F v, Rep F (.sl t.s es (some t)) t.v → Rep F x v → Rep F y v
inductive WkFT (t : Tok) (es : List PV) : List PV → List PV → Prop
 | nil : WkFT t es [] []
 | cons {x y : PV} {xs ys : List PV} : WkF t es x y → WkFT t es xs ys → WkFT t es (x :: xs) (y :: ys)
theorem WkF.of {t : Tok} {es : List PV} {x y : PV} (h : Wk x y) : WkF t es x y := fun F v _ r => h F v r
theorem WkF.ms {t : Tok} {es : List PV} : WkF t es (.ms t) (.sl t.s es (some t)) := fun F v h r => by
 simp only [Rep] at r
 rw [r.1]; exact h
theorem WkF.ms' {t : Tok} {es : List PV} {s : Nat} (hs : t.s = s) : WkF t es (.ms t) (.sl s es none) := fun F v h r => by
 simp only [Rep] at r
 rw [r.1, ← hs]
 exact (Wk.tok _ _ _) F _ h
theorem WkFT.rep {t : Tok} {es : List PV} {F : Fz} (hF : Rep F (.sl t.s es (some t)) t.v) : ∀ {xs ys : List PV} {vs : List Value}, WkFT t es xs ys → RepT F xs vs → RepT F ys vs
 | _, _, [], .nil, h => h
 | _, _, _ :: _, .nil, h => h
 | _, _, [], .cons _ _, h => by simp only [RepT] at h
 | _, _, v :: vs, .cons h1 h2, h => by
  simp only [RepT] at h ⊢
  exact ⟨h1 _ _ hF h.1, WkFT.rep hF h2 h.2⟩
theorem WkFT.repL {t : Tok} {es : List PV} {F : Fz} (hF : Rep F (.sl t.s es (some t)) t.v) : ∀ {xs ys : List PV} {vs : List Value}, WkFT t es xs ys → RepL F xs vs → RepL F ys vs
 | _, _, [], .nil, h => h
 | _, _, _ :: _, .nil, h => h
 | _, _, [], .cons _ _, h => by simp only [RepL] at h
 | _, _, v :: vs, .cons h1 h2, h => by
  simp only [RepL] at h ⊢
  exact ⟨⟨h.1.1, h1 _ _ hF h.1.2⟩, WkFT.repL hF h2 h.2⟩
theorem WkF.agg {t : Tok} {es xs ys : List PV} (h : WkFT t es xs ys) : WkF t es (.agg xs) (.agg ys) := fun F v hF r => by
 simp only [Rep] at r ⊢
 obtain ⟨vs, h1, h2⟩ := r
 exact ⟨vs, h1, h.repL hF h2⟩
theorem WkF.tup {t : Tok} {es xs ys : List PV} (h : WkFT t es xs ys) : WkF t es (.tup xs) (.tup ys) := fun F v hF r => by
 simp only [Rep] at r ⊢
 obtain ⟨vs, h1, h2⟩ := r
 exact ⟨vs, h1, h.rep hF h2⟩
theorem WkF.trans {t : Tok} {es : List PV} {x y z : PV} (h : WkF t es x y) (k : Wk y z) : WkF t es x z := fun F v hF r => k F v (h F v hF r)
theorem Shift.freezeRow {t : Tok} {es : List PV} {x y : PV} {Γ Γ1 : List Ent} [hp : PickE Γ (.row t es) Γ1] (h : WkF t es x y) : Shift x Γ y (.tok t :: Γ1) := fun w0 F M w v hS hx => by
 have hS' : Sim w0 F (.row t es :: (Γ1 ++ M)) w := by simpa using hS.perm (hp.p.append_right M)
 obtain ⟨F', h1, h2, h3⟩ := hS'.freezeRow
 exact ⟨F', h1, h2, h F' v h3 (Rep.mono h1 _ _ hx)⟩
theorem Weak.freezeRow {t : Tok} {es : List PV} {T T' : List PV} {Γ Γ1 : List Ent} [hp : PickE Γ (.row t es) Γ1] (h : WkFT t es T T') : Weak T Γ T' (.tok t :: Γ1) := fun w0 F M w vs hS hx => by
 have hS' : Sim w0 F (.row t es :: (Γ1 ++ M)) w := by simpa using hS.perm (hp.p.append_right M)
 obtain ⟨F', h1, h2, h3⟩ := hS'.freezeRow
 exact ⟨F', h1, h2, h.rep h3 (RepT.mono h1 _ _ hx)⟩
theorem Weak.trans {T T' T2 : List PV} {Γ Γ' Γ2 : List Ent} (h : Weak T Γ T' Γ') (k : Weak T' Γ' T2 Γ2) : Weak T Γ T2 Γ2 := fun w0 F M w vs hS hT => by
 obtain ⟨F1, a1, a2, a3⟩ := h w0 F M w vs hS hT
 obtain ⟨F2, b1, b2, b3⟩ := k w0 F1 M w vs a2 a3
 exact ⟨F2, Fz.le_trans a1 b1, b2, b3⟩
theorem Ghost.freezeRow {t : Tok} {es : List PV} {b : Nat} {cs cs' : List PV} {Γ Γ1 Γ2 : List Ent} [hp : PickE Γ (.row t es) Γ1] [hq : PickE Γ1 (.box b cs) Γ2] (h : WkFT t es cs cs') : Ghost Γ (.box b cs' :: .tok t :: Γ2) := fun w0 F M w hS => by
 have hS' : Sim w0 F (.row t es :: (Γ1 ++ M)) w := by simpa using hS.perm (hp.p.append_right M)
 obtain ⟨F', h1, h2, h3⟩ := hS'.freezeRow
 have h4 : Sim w0 F' (.box b cs :: (.tok t :: (Γ2 ++ M))) w := by
  have hpp : (.tok t :: (Γ1 ++ M)).Perm (.box b cs :: (.tok t :: (Γ2 ++ M))) := by
   have := (hq.p.append_right M).cons (.tok t)
   exact this.trans (List.Perm.swap _ _ _)
  exact h2.perm hpp
 refine ⟨F', h1, ⟨h4.below, h4.fz, fun x hx => ?_, ?_⟩⟩
 ·rcases List.mem_cons.1 (by simpa using hx : x ∈ .box b cs' :: (.tok t :: (Γ2 ++ M))) with rfl | hx
  ·obtain ⟨k1, ⟨vs, el, k2, k3⟩, k4⟩ := h4.ent _ (List.mem_cons_self ..)
   exact ⟨k1, ⟨vs, el, k2, h.repL h3 k3⟩, k4⟩
  ·exact h4.ent x (List.mem_cons_of_mem _ hx)
 ·have := List.pairwise_cons.1 h4.sep
  exact List.pairwise_cons.2 ⟨this.1, this.2⟩
theorem ACall.shift {f : FuncId} {args : List PV} {Γ : List Ent} {Q Q' : PV → List Ent → Prop} (h : ACall P f args Γ Q) (hq : ∀ y Γ', Q y Γ' → ∃ y2 Γ2, Shift y Γ' y2 Γ2 ∧ Q' y2 Γ2) : ACall P f args Γ Q' :=
 ⟨h.1, fun w0 F M w vs hS hT => (h.2 w0 F M w vs hS hT).mono fun _ _ ⟨v, F', y, Γ', e1, e2, e3, e4, e5⟩ => by
  obtain ⟨y2, Γ2, k1, k2⟩ := hq y Γ' e5
  obtain ⟨F2, m1, m2, m3⟩ := k1 w0 F' M _ v e3 e4
  exact ⟨v, F2, y2, Γ2, e1, Fz.le_trans e2 m1, m2, m3, k2⟩⟩
theorem PMark.at_ {b : Nat} {Γ Γ' : List Ent} {T : List PV} {vs : List Value} {K : List Ent → Prop} [hp : PickE Γ (.ob b dfrO T vs) Γ'] (hq : Γ = .ob b dfrO T vs :: Γ') (k : K Γ') : PMark b Γ K :=
 ⟨T, vs, [], Γ', hq, k⟩
theorem AYield.mono {l : Nat} {args : List PV} {Γ : List Ent} {Q Q' : PV → List Ent → Prop} (h : AYield P l args Γ Q) (hq : ∀ y Γ', Q y Γ' → Q' y Γ') : AYield P l args Γ Q' := (PYield.mono (K := Q) (K' := Q') hq ⟨h⟩).h
theorem AYield.frame {l : Nat} {args : List PV} {Γ Γ1 Γ2 : List Ent} {Q : PV → List Ent → Prop} (h : AYield P l args Γ1 Q) (hp : Γ.Perm (Γ1 ++ Γ2)) : AYield P l args Γ fun y Γ' => ∃ Γ1', Γ' = Γ1' ++ Γ2 ∧ Q y Γ1' := fun w0 F M w vs hS hT => by
 have hS' : Sim w0 F (Γ1 ++ (Γ2 ++ M)) w := by
  have := hS.perm (hp.append_right M)
  simpa using this
 obtain ⟨fn, tmps, assign, body, h1, h2⟩ := h w0 F (Γ2 ++ M) w vs hS' hT
 refine ⟨fn, tmps, assign, body, h1, h2.mono ?_⟩
 rintro _ _ ⟨v, F', y, Γ', e1, e2, e3, e4, e5⟩
 exact ⟨v, F', y, Γ' ++ Γ2, e1, e2, by simpa using e3, e4, Γ', rfl, e5⟩
theorem AYield.wk {l : Nat} {args args' : List PV} {Γ : List Ent} {Q : PV → List Ent → Prop} (h : AYield P l args' Γ Q) (hw : WkT args args') : AYield P l args Γ Q := fun w0 F M w vs hS hT => h w0 F M w vs hS (hw.rep hT)
theorem PYield.go {l : Nat} {args args' : List PV} {Γ Γ1 Γ2 : List Ent} {Q K : PV → List Ent → Prop} (h : AYield P l args' Γ1 Q) (hw : WkT args args') (hp : Γ.Perm (Γ1 ++ Γ2)) (k : ∀ y Γ1', Q y Γ1' → K y (Γ1' ++ Γ2)) : PYield P l args Γ K :=
 ⟨((h.wk hw).frame hp).mono fun y Γ' ⟨Γ1', e, hq⟩ => by rw [e]; exact k y Γ1' hq⟩
theorem PRange.go {f : FuncId} {cap : List PV} {ps : List Nat} {WA WB : List PV → List Ent → Ds → QT → Prop} {T : List PV} {Γ Γi Γ1 : List Ent} {D : Ds} {Q : QT} {σ : Type} (xs : List (List PV)) (G : σ → List Ent) (I : Nat → σ → Prop) (X : Exit → List Ent → Prop) (s0 : σ)
  (hit : AIter P f cap Γi xs) (hI : I 0 s0) [hp : PickL Γ (G s0 ++ Γi) Γ1] (hl : ∀ ys ∈ xs, ys.length = ps.length)
  (round : ∀ k ys s, xs[k]? = some ys → I k s → setsK T ps ys fun T0 => WA T0 (G s) [] (assignQ WB (roundQ k (fun k Γ => ∃ s, I k s ∧ Γ = G s) X)))
  (done : ∀ b s, I xs.length s → Q .normal T (.ob b dfrO [] [] :: G s) (.mark b :: D)) (stop : ∀ b e Γ', X e Γ' → Q e T (.ob b dfrO [] [] :: Γ') (.mark b :: D)) : PRange P f cap ps WA WB true T Γ D Q := by
 refine ⟨rfl, G s0, Γi, xs, fun k Γ => ∃ s, I k s ∧ Γ = G s, X, ⟨T, Weak.of (WkT.refl T) (Ghost.drop hp.p)⟩, hit, ⟨s0, hI, rfl⟩, hl, ?_, ?_, stop⟩
 ·rintro k ys _ h ⟨s, hs, rfl⟩
  exact round k ys s h hs
 ·rintro b _ ⟨s, hs, rfl⟩
  exact done b s hs
def cellsB (s : Nat) : List PV → Bool
 | [] => true
 | y :: ys => match lenIs y.cellsOf s with
  | true => match y.cellular with
   | true => cellsB s ys
   | false => false
  | false => false
theorem cellsB_iff {s : Nat} : ∀ {ys : List PV}, cellsB s ys = true → (∀ y ∈ ys, y.cellsOf.length = s) ∧ ∀ y ∈ ys, y.cellular = true
 | [], _ => by simp
 | y :: ys, h => by
  unfold cellsB at h
  split at h
  ·rename_i h1
   split at h
   ·rename_i h2
    have := cellsB_iff h
    exact ⟨List.forall_mem_cons.2 ⟨lenIs_iff h1, this.1⟩, List.forall_mem_cons.2 ⟨h2, this.2⟩⟩
   ·cases h
  ·cases h
theorem PRow.lit {s : Nat} {ys : List PV} {e : TypeId} {K : PV → Ent → Prop} (h : cellsB s ys = true) (k : ∀ t : Tok, t.e = e → K (.sl s ys (some t)) (.tok t)) : PRow s ys e K :=
 ⟨(cellsB_iff h).1, (cellsB_iff h).2, .inl k⟩
def flatK {q : Sort _} : List PV → (List PV → q) → q
 | [], k => k []
 | y :: ys, k => flatK ys fun r => appK y.cellsOf r k
theorem flatK_eq {q : Sort _} : ∀ (ys : List PV) (k : List PV → q), flatK ys k = k (flat ys)
 | [], _ => rfl
 | y :: ys, k => by simp only [flatK, flatK_eq ys, appK_eq]; rfl
theorem PArrB.lit {s : Nat} {ys : List PV} {K : List PV → Prop} (h : cellsB s ys = true) (k : flatK ys K) : PArrB s ys K :=
 ⟨(cellsB_iff h).1, (cellsB_iff h).2, by rw [flatK_eq] at k; exact k⟩
def setM (l : List Int) (v : Value) : Option PV := match v with
 | .int .i64 k => if l.contains k then some .btrue else none
 | _ => none
theorem PLook.set {r : Nat} {l : List Int} {n : Int} {Γ : List Ent} {pend : List (Int × Value)} {put : (Value → Option PV) → List (Int × Value) → List Ent} [hp : PickMp Γ r (.int .i64) (setM l) pend put] {K : PV → Bool → Prop} (h : K (.bool (l.contains n)) (l.contains n)) :
  PLook r (.int .i64) (some (.int .i64 n)) .bfalse Γ K :=
 PLook.at_ (hp := hp) (.bool (l.contains n)) (l.contains n) (by simp [IsK, MapKept.IsKey]) (fun p hp => by
  simp only [setM] at hp
  split at hp
  ·rename_i hc; cases hp; exact ⟨Wk.tt hc, hc⟩
  ·cases hp) (fun hn => by
  simp only [setM] at hn
  split at hn
  ·cases hn
  ·rename_i hc; simp only [Bool.not_eq_true] at hc; exact ⟨Wk.ff hc, hc⟩) h
theorem setM_cons_self (l : List Int) (n : Int) : setM (n :: l) (.int .i64 n) = some .btrue := by simp [setM]
theorem setM_cons_ne (l : List Int) (n : Int) (k : Value) (h : k ≠ .int .i64 n) : setM (n :: l) k = setM l k := by
 unfold setM
 split
 ·rename_i m
  have : m ≠ n := fun e => h (by rw [e])
  simp [List.contains_cons, this]
 ·rfl
theorem setM_congr {l m : List Int} (h : ∀ x, x ∈ l ↔ x ∈ m) : setM l = setM m := by
 funext v
 unfold setM
 split
 ·rename_i k
  have : l.contains k = m.contains k := by rw [Bool.eq_iff_iff]; simp [h]
  rw [this]
 ·rfl
theorem PMapPut.set {r : Nat} {l : List Int} {n : Int} {Γ : List Ent} {pend : List (Int × Value)} {put : (Value → Option PV) → List (Int × Value) → List Ent} [hp : PickMp Γ r (.int .i64) (setM l) pend put] {K : List Ent → Prop} (h : K (put (setM (n :: l)) pend)) (hq : setM l (.int .i64 n) ≠ none ∨ ∀ q ∈ pend, q.2 ≠ .tuple #[] := by right; simp) :
  PMapPut r (.int .i64) (some (.int .i64 n)) .btrue Γ K :=
 PMapPut.at_ (hp := hp) (setM (n :: l)) (by simp [IsK, MapKept.IsKey]) (setM_cons_self l n) (setM_cons_ne l n) h hq
def setMZ (l : List Int) (n : Int) (z : PV) (v : Value) : Option PV := match v with
 | .int .i64 k => if k = n then some z else setM l v
 | _ => none
theorem setMZ_ne (l : List Int) (n : Int) (z : PV) (k : Value) (h : k ≠ .int .i64 n) : setMZ l n z k = setM l k := by
 unfold setMZ
 split
 ·rename_i m
  have : m ≠ n := fun e => h (by rw [e])
  simp [this]
 ·rename_i hne
  unfold setM
  split
  ·rename_i m; exact absurd rfl (hne m)
  ·rfl
theorem PMapEntry.set {r : Nat} {l : List Int} {n : Int} {z : PV} {Γ : List Ent} {pend : List (Int × Value)} {put : (Value → Option PV) → List (Int × Value) → List Ent} [hp : PickMp Γ r (.int .i64) (setM l) pend put] {K : PV → List Ent → Prop} (hn : l.contains n = false)
  (h : ∀ j, K (.tup [z, .int .i64 j]) (put (setMZ l n z) ((j, .int .i64 n) :: pend))) (hq : setM l (.int .i64 n) ≠ none ∨ ∀ q ∈ pend, q.2 ≠ .tuple #[] := by right; simp) : PMapEntry r (.int .i64) (some (.int .i64 n)) z Γ K := by
 have hz : setM l (.int .i64 n) = none := by simp only [setM, hn]; rfl
 refine PMapEntry.at_ (hp := hp) (setMZ l n z) (by simp [IsK, MapKept.IsKey]) (by rw [hz]; simp [setMZ]) (fun k hk => setMZ_ne l n z k hk) ?_ hq
 intro j
 rw [hz]
 exact h j
theorem PEntryStore.set {r : Nat} {l : List Int} {n j : Int} {z : PV} {Γ : List Ent} {pend : List (Int × Value)} {put : (Value → Option PV) → List (Int × Value) → List Ent} [hp : PickMp Γ r (.int .i64) (setMZ l n z) ((j, .int .i64 n) :: pend) put] {K : List Ent → Prop}
  (h : K (put (setM (n :: l)) ((j, .int .i64 n) :: pend))) : PEntryStore r j .btrue Γ K :=
 PEntryStore.at_ (hp := hp) (setM (n :: l)) (setM_cons_self l n) (fun k hk => by rw [setM_cons_ne l n k hk, setMZ_ne l n z k hk]) h
theorem PMapDel.set {r : Nat} {l : List Int} {n : Int} {Γ : List Ent} {pend : List (Int × Value)} {put : (Value → Option PV) → List (Int × Value) → List Ent} [hp : PickMp Γ r (.int .i64) (setM l) pend put] {K : List Ent → Prop} (h : K (put (setM (l.filter (· != n))) [])) :
  PMapDel r (.int .i64) (some (.int .i64 n)) Γ K :=
 PMapDel.at_ (hp := hp) (setM (l.filter (· != n))) (by simp [IsK, MapKept.IsKey]) (by simp [setM]) (fun k hk => by
  unfold setM
  split
  ·rename_i m
   have hm : m ≠ n := fun e => hk (by rw [e])
   have : (l.filter (· != n)).contains m = l.contains m := by rw [Bool.eq_iff_iff]; simp [hm]
   rw [this]
  ·rfl) h
end
theorem Ghost.pend {r : Nat} {d : TypeDesc} {m : Value → Option PV} {pend : List (Int × Value)} {Γ : List Ent} {put : (Value → Option PV) → List (Int × Value) → List Ent} [hp : PickMp Γ r d m pend put] : Ghost Γ (put m []) := fun w0 F M w hS => by
 obtain ⟨Γ1, Γ2, e1, e2⟩ := hp.at_
 rw [e1] at hS
 rw [e2]
 have hS' : Sim w0 F (Γ1 ++ .mp r d m pend :: (Γ2 ++ M)) w := by simpa using hS
 have := hS'.remark (pend' := []) fun es clock _ hM => ⟨hM.st, hM.key, hM.get, hM.dom, by simp⟩
 exact ⟨F, Fz.le_refl F, by simpa using this⟩
theorem Ghost.pendE {Γ Γ' : List Ent} (r : Nat) {d : TypeDesc} {m : Value → Option PV} {pend : List (Int × Value)} {put : (Value → Option PV) → List (Int × Value) → List Ent} [hp : PickMp Γ r d m pend put] (h : Γ' = put m [] := by rfl) : Ghost Γ Γ' := h ▸ Ghost.pend (hp := hp)
theorem oA {p : Prop} (h : p := by omega) : p := h
theorem OA {p : Prop} (h : p := by first | omega | (simp only [SS] at hg; omega)) : p := h
theorem gA {p : Prop} (h : p := by first | exact hg | exact an1 hg | exact an2 hg | exact an1 (an1 hg) | exact an2 (an1 hg) | exact an1 (an1 (an1 hg)) | (simp_all; done)) : p := h
theorem nA {p : Prop} (h : p := by first | exact Bool.or_not_self _ | exact Bool.not_or_self _) : p := h
theorem NA {p : Prop} (h : p := by first | exact Bool.or_not_self _ | exact Bool.not_or_self _ | (rw [hg, Bool.true_and]; first | exact Bool.or_not_self _ | exact Bool.not_or_self _) | (simp_all; done)) : p := h
theorem wA {p : Prop} (h : p := by (repeat' (first|exact trivial|exact Wk.refl _|(refine And.intro ?_ ?_)|exact Wk.any _|exact Wk.nil' rfl|exact Wk.tok _ _ _|exact Wk.nilTok _ _|exact Wk.tt rfl|exact Wk.ff rfl|exact Wk.int (by omega)|exact WkT.nil|apply WkT.cons|exact WkL.nil|apply WkL.cons|apply Wk.agg|apply Wk.tup))) : p := h
theorem cA {p : Prop} (h : p := by (repeat' (first|exact WkT.nil|apply WkT.cons|exact Wk.refl _|exact Wk.int (by first|omega|(simp only [SS] at hg; omega))|exact Wk.tt rfl|exact Wk.ff rfl|exact Wk.nil' rfl|exact Wk.tok _ _ _))) : p := h
theorem bA {p : Prop} (h : p := by exact And.intro (Nat.le_of_ble_eq_true rfl) (Nat.le_of_ble_eq_true rfl)) : p := h
theorem PNil.of {es : List PV} {K : Bool → Prop} (h : ∀ q, (q = true → es = []) → K q) : PNil es K := ⟨h⟩
theorem n0 : type_of% @PNil.of := @PNil.of
theorem zA : type_of% @PLook.set := @PLook.set
theorem zB : type_of% @PRow.none := @PRow.none
theorem zC : type_of% @PLen.map := @PLen.map
theorem zD : type_of% @PBytes.mk := @PBytes.mk
theorem zE : type_of% @PMapPut.set := @PMapPut.set
theorem zF : type_of% @PMapDel.set := @PMapDel.set
theorem zG : type_of% @PSeq.go := @PSeq.go
theorem zH : type_of% @PLoad.box := @PLoad.box
theorem zI : type_of% @PSide.of := @PSide.of
theorem zJ : type_of% @PRow.one := @PRow.one
theorem zK : type_of% @PRow.lit := @PRow.lit
theorem zL : type_of% @PLoad.ep := @PLoad.ep
theorem zM : type_of% @PIndexA.lit := @PIndexA.lit
theorem zN : type_of% @PStore.box := @PStore.box
theorem zO : type_of% @PIndexS.ix := @PIndexS.ix
theorem zP : type_of% @PIndexA.ix := @PIndexA.ix
theorem zQ : type_of% @PInt.ok := @PInt.ok
theorem zR : type_of% @PDiv.of := @PDiv.of
theorem zS : type_of% @PSliceS.lo := @PSliceS.lo
theorem zT : type_of% @PSliceL.lo := @PSliceL.lo
theorem zU : type_of% @PSliceS.hi := @PSliceS.hi
theorem zV : type_of% @PSliceL.hi := @PSliceL.hi
theorem zW : type_of% @PNeed.of := @PNeed.of
theorem zX : type_of% @PCond.ways := @PCond.ways
theorem zY : type_of% @PGuard.lazy := @PGuard.lazy
theorem zZ : type_of% @PStb.of := @PStb.of
theorem SY : ((¬True) = False ∧ (¬False) = True ∧ (∀ a : Prop, (False ∧ a) = False) ∧ (∀ a : Prop, (a ∧ False) = False) ∧ (∀ a : Prop, (True ∧ a) = a) ∧ (∀ a : Prop, (a ∧ True) = a) ∧ (∀ a : Prop, (True ∨ a) = True) ∧ (∀ a : Prop, (a ∨ True) = True) ∧ (∀ a : Prop, (False ∨ a) = a) ∧ (∀ a : Prop, (a ∨ False) = a)) ∧
  ((∀ (p : Prop) [Decidable p], (decide p = true) = p) ∧ (∀ (p : Prop) [Decidable p], (decide p = false) = ¬ p) ∧ (∀ a b : Int, ((a == b) = true) = (a = b)) ∧ (∀ a b : Int, ((a == b) = false) = ¬ (a = b)) ∧
  (∀ a b : List UInt8, ((a == b) = true) = (a = b)) ∧ (∀ a b : List UInt8, ((a == b) = false) = ¬ (a = b)) ∧ (∀ a b : Int, ((a != b) = true) = ¬ (a = b)) ∧ (∀ a b : Int, ((a != b) = false) = (a = b)) ∧
  (∀ a b : Bool, ((a && b) = true) = (a = true ∧ b = true)) ∧ (∀ a b : Bool, ((a && b) = false) = (a = false ∨ b = false)) ∧ (∀ a b : Bool, ((a || b) = true) = (a = true ∨ b = true)) ∧ (∀ a b : Bool, ((a || b) = false) = (a = false ∧ b = false)) ∧
  (∀ a : Bool, ((!a) = true) = (a = false)) ∧ (∀ a : Bool, ((!a) = false) = (a = true)) ∧ (∀ a b : Int, (¬ a < b) = (b ≤ a)) ∧ (∀ a b : Int, (¬ a ≤ b) = (b < a)) ∧ (∀ a b : Int, (a > b) = (b < a)) ∧ (∀ a b : Int, (a ≥ b) = (b ≤ a)) ∧
  (∀ a : Prop, (¬ ¬ a) = a) ∧ (true = false) = False ∧ (false = true) = False) := ⟨by simp, SS⟩
def restL : List Oper → Nat → List Nat → List Nat
 | [], _, _ => []
 | _ :: l, i, R => match elemN i R with
  | true => restL l (i + 1) R
  | false => i :: restL l (i + 1) R
section
variable {P : Program} {tt : Nat → TI}
theorem PDraw.sP (d : Option Nat) {ops : Array Oper} (hd : fstDst ops = d) (R1 R2 : List Nat) {T : List PV} {Γ : List Ent} {K : List PV → List Ent → Prop} (hk : TT.ok P tt) (hm : P.follows .mixedOrders = true)
  (h : SSeq P tt ops.toList (pickO ops.toList (restL ops.toList 0 (R1 ++ R2))) T Γ fun T' => WOps P tt ops.toList (pickO ops.toList R1) T' [] [] fun T2 Γ1' _ => appE Γ1' Γ fun Γ' => WOps P tt ops.toList (pickO ops.toList R2) T2 Γ' [] fun T' Γ' _ => K T' Γ')
  (hchk : splitB ops (tabOf ops.toList []) (restL ops.toList 0 (R1 ++ R2)) R1 R2 = true := by kernel_rfl) : PDraw P ops T Γ K :=
 PDraw.split hk hm _ _ R1 R2 [] hchk h
theorem PDraw.sE {ops : Array Oper} (Γ1 : List Ent) (R1 R2 : List Nat) {T : List PV} {Γ Γ2 : List Ent} {K : List PV → List Ent → Prop} (hk : TT.ok P tt) (hm : P.follows .mixedOrders = true) [hp : PickL Γ Γ1 Γ2]
  (h : SSeq P tt ops.toList (pickO ops.toList (restL ops.toList 0 (R1 ++ R2))) T Γ2 fun T' => WOps P tt ops.toList (pickO ops.toList R1) T' Γ1 [] fun T2 Γ1' _ => appE Γ1' Γ2 fun Γ' => WOps P tt ops.toList (pickO ops.toList R2) T2 Γ' [] fun T' Γ' _ => K T' Γ')
  (hchk : splitB ops (tabOf ops.toList []) (restL ops.toList 0 (R1 ++ R2)) R1 R2 = true := by kernel_rfl) : PDraw P ops T Γ K :=
 PDraw.split hk hm _ _ R1 R2 Γ1 hchk h
theorem PDraw.sQ (d : Option Nat) {ops : Array Oper} (hd : fstDst ops = d) (R1 R2 : List Nat) {T : List PV} {e : Ent} {Γ2 : List Ent} {K : List PV → List Ent → Prop} (hk : TT.ok P tt) (hm : P.follows .mixedOrders = true)
  (h : SSeq P tt ops.toList (pickO ops.toList (restL ops.toList 0 (R1 ++ R2))) T Γ2 fun T' => WOps P tt ops.toList (pickO ops.toList R1) T' [e] [] fun T2 Γ1' _ => appE Γ1' Γ2 fun Γ' => WOps P tt ops.toList (pickO ops.toList R2) T2 Γ' [] fun T' Γ' _ => K T' Γ')
  (hchk : splitB ops (tabOf ops.toList []) (restL ops.toList 0 (R1 ++ R2)) R1 R2 = true := by kernel_rfl) : PDraw P ops T (e :: Γ2) K :=
 PDraw.split hk hm _ _ R1 R2 [e] (hp := ⟨List.Perm.refl _⟩) hchk h
end
theorem pC : type_of% @PCall.pure := @PCall.pure
theorem wR {T : List PV} : WkT T T := WkT.refl _
theorem pS : type_of% @PShift.same := @PShift.same
theorem pL : type_of% @PShift.lit := @PShift.lit
theorem pE : type_of% @PShift.ep := @PShift.ep
theorem stA {p : Prop} (h : p := by
 conv => whnf
 repeat ((first|(refine zW ?_ ?_; exact gA)|refine zH rfl ?_|refine zA ?_|refine zI bA ?_|refine zI rfl ?_|refine zJ rfl rfl ?_|refine zB ?_|refine zK rfl ?_|refine zL rfl ?_|refine zC ?_|(refine zO ?_ ?_ ?_; exact OA; exact OA)|(refine zP ?_ ?_ ?_; exact OA; exact OA)|refine zM rfl ?_|(refine zQ ?_ ?_ ?_; exact OA; exact OA)|(refine zR ?_ ?_; exact OA)|(refine zI ?_ ?_; exact NA)|(refine zS ?_ ?_ ?_; exact OA; exact OA)|(refine zT ?_ ?_ ?_; exact OA; exact OA)|(refine zU ?_ ?_ ?_; exact OA; exact OA)|(refine zV ?_ ?_ ?_; exact OA; exact OA)|intro _); conv=>whnf)
 first | exact PShift.same | exact PShift.lit | exact PShift.ep) : p := h
theorem sB {p q : Prop} (k : q) (h : q → p := by intro hq; first | exact zJ rfl rfl hq | exact zB hq | exact zK rfl hq | exact zL rfl hq | exact zC hq) : p := h k
theorem sS {p q : Prop} (k : q) (h : q → p := by intro hq; first | exact zS (by clear hq; omega) (by clear hq; omega) hq | exact zT (by clear hq; omega) (by clear hq; omega) hq | exact zU (by clear hq; omega) (by clear hq; omega) hq | exact zV (by clear hq; omega) (by clear hq; omega) hq) : p := h k
theorem sD {p q : Prop} (k : q) (h : q → p := by intro hq; first | exact zN rfl rfl rfl hq | exact zD hq | exact zE hq | exact zF hq) : p := h k
end Go.Cb
namespace Go.Cb
inductive Datum where
 | mk (kind n d : Int) (s : List UInt8) (l : List Datum)
def Datum.kind : Datum → Int | .mk k _ _ _ _ => k
def Datum.n : Datum → Int | .mk _ n _ _ _ => n
def Datum.d : Datum → Int | .mk _ _ d _ _ => d
def Datum.s : Datum → List UInt8 | .mk _ _ _ s _ => s
def Datum.l : Datum → List Datum | .mk _ _ _ _ l => l
mutual
def Datum.pv : Datum → PV
 | .mk k n d s l => .agg [.int .i64 k, .int .i64 n, .int .i64 d, .str s, .sl 5 (Datum.pvs l) none]
def Datum.pvs : List Datum → List PV
 | [] => []
 | x :: xs => Datum.pv x :: Datum.pvs xs
end
theorem Datum.pvs_eq : ∀ l : List Datum, Datum.pvs l = l.map Datum.pv
 | [] => rfl
 | x :: xs => by simp only [Datum.pvs, List.map_cons, Datum.pvs_eq xs]
def Datum.cells (x : Datum) : List PV := [.int .i64 x.kind, .int .i64 x.n, .int .i64 x.d, .str x.s, .sl 5 (x.l.map Datum.pv) none]
theorem Datum.pv_eq (x : Datum) : x.pv = .agg x.cells := by
 cases x; simp only [Datum.pv, Datum.cells, Datum.pvs_eq, Datum.kind, Datum.n, Datum.d, Datum.s, Datum.l]
instance : CellsOf Datum.pv Datum.cells := ⟨fun x => by rw [Datum.pv_eq]; rfl⟩
mutual
theorem Datum.ind_aux {p : Datum → Prop} (h : ∀ x : Datum, (∀ y ∈ x.l, p y) → p x) : ∀ d, p d
 | .mk k n d s l => h (.mk k n d s l) (Datum.ind_auxs h l)
theorem Datum.ind_auxs {p : Datum → Prop} (h : ∀ x : Datum, (∀ y ∈ x.l, p y) → p x) : ∀ (l : List Datum), ∀ x ∈ l, p x
 | [] => by simp
 | y :: ys => List.forall_mem_cons.2 ⟨Datum.ind_aux h y, Datum.ind_auxs h ys⟩
end
theorem Datum.ind {p : Datum → Prop} (h : ∀ x : Datum, (∀ y ∈ x.l, p y) → p x) (d : Datum) : p d := Datum.ind_aux h d
inductive Trm where
 | mk (op n : Int) (v : List Int) (t : List Trm)
def Trm.op : Trm → Int | .mk o _ _ _ => o
def Trm.n : Trm → Int | .mk _ n _ _ => n
def Trm.v : Trm → List Int | .mk _ _ v _ => v
def Trm.t : Trm → List Trm | .mk _ _ _ t => t
mutual
def Trm.pv : Trm → PV
 | .mk o n v t => .agg [.int .i64 o, .int .i64 n, .sl 1 (v.map (PV.int .i64)) none, .sl 4 (Trm.pvs t) none]
def Trm.pvs : List Trm → List PV
 | [] => []
 | x :: xs => Trm.pv x :: Trm.pvs xs
end
theorem Trm.pvs_eq : ∀ l : List Trm, Trm.pvs l = l.map Trm.pv
 | [] => rfl
 | x :: xs => by simp only [Trm.pvs, List.map_cons, Trm.pvs_eq xs]
def Trm.cells (x : Trm) : List PV := [.int .i64 x.op, .int .i64 x.n, .sl 1 (x.v.map (PV.int .i64)) none, .sl 4 (x.t.map Trm.pv) none]
theorem Trm.pv_eq (x : Trm) : x.pv = .agg x.cells := by
 cases x; simp only [Trm.pv, Trm.cells, Trm.pvs_eq, Trm.op, Trm.n, Trm.v, Trm.t]
instance : CellsOf Trm.pv Trm.cells := ⟨fun x => by rw [Trm.pv_eq]; rfl⟩
mutual
theorem Trm.ind_aux {p : Trm → Prop} (h : ∀ x : Trm, (∀ y ∈ x.t, p y) → p x) : ∀ d, p d
 | .mk o n v t => h (.mk o n v t) (Trm.ind_auxs h t)
theorem Trm.ind_auxs {p : Trm → Prop} (h : ∀ x : Trm, (∀ y ∈ x.t, p y) → p x) : ∀ (l : List Trm), ∀ x ∈ l, p x
 | [] => by simp
 | y :: ys => List.forall_mem_cons.2 ⟨Trm.ind_aux h y, Trm.ind_auxs h ys⟩
end
theorem Trm.ind {p : Trm → Prop} (h : ∀ x : Trm, (∀ y ∈ x.t, p y) → p x) (d : Trm) : p d := Trm.ind_aux h d
def strB (c : UInt8) : Bool := decide ((c.toNat : Int) < 32) || decide ((c.toNat : Int) > 126) || (c.toNat : Int) == 34 || (c.toNat : Int) == 92
theorem drop_at {α : Type} {l : List α} {i : Nat} (h : i < l.length) : l.drop i = l[i] :: l.drop (i + 1) := List.drop_eq_getElem_cons h
theorem drop_getD {s : List UInt8} {i : Nat} (h : i < s.length) : s.drop i = s.getD i 0 :: s.drop (i + 1) := by
 rw [drop_at h]; simp [List.getD, h]
mutual
def Datum.few : Datum → Int → Int
 | .mk _ _ _ _ l, left => Datum.fews l (left - 1)
def Datum.fews : List Datum → Int → Int
 | [], left => left
 | x :: xs, left => if 0 ≤ left then Datum.fews xs (Datum.few x left) else left
end
mutual
def Trm.few : Trm → Int → Int
 | .mk _ _ _ l, left => Trm.fews l (left - 1)
def Trm.fews : List Trm → Int → Int
 | [], left => left
 | x :: xs, left => if 0 ≤ left then Trm.fews xs (Trm.few x left) else left
end
theorem Datum.few_eq (x : Datum) (n : Int) : x.few n = Datum.fews x.l (n - 1) := by cases x; rfl
theorem Trm.few_eq (x : Trm) (n : Int) : x.few n = Trm.fews x.t (n - 1) := by cases x; rfl
theorem Datum.few_bd (d : Datum) : ∀ left : Int, 0 ≤ left → -1 ≤ d.few left ∧ d.few left < left := by
 induction d using Datum.ind with
 | h d ih =>
  intro left h0
  rw [Datum.few_eq]
  have key : ∀ (l : List Datum), (∀ x ∈ l, ∀ left : Int, 0 ≤ left → -1 ≤ x.few left ∧ x.few left < left) → ∀ left : Int, -1 ≤ left → -1 ≤ Datum.fews l left ∧ Datum.fews l left ≤ left := by
   intro l
   induction l with
   | nil => intro _ left h; rw [Datum.fews]; omega
   | cons x xs ihx =>
    intro hx left h
    rw [Datum.fews]
    split
    ·have h1 := hx x (by simp) left (by omega)
     have h2 := ihx (fun y hy => hx y (by simp [hy])) (x.few left) (by omega)
     omega
    ·omega
  have := key d.l ih (left - 1) (by omega)
  omega
theorem Trm.few_bd (d : Trm) : ∀ left : Int, 0 ≤ left → -1 ≤ d.few left ∧ d.few left < left := by
 induction d using Trm.ind with
 | h d ih =>
  intro left h0
  rw [Trm.few_eq]
  have key : ∀ (l : List Trm), (∀ x ∈ l, ∀ left : Int, 0 ≤ left → -1 ≤ x.few left ∧ x.few left < left) → ∀ left : Int, -1 ≤ left → -1 ≤ Trm.fews l left ∧ Trm.fews l left ≤ left := by
   intro l
   induction l with
   | nil => intro _ left h; rw [Trm.fews]; omega
   | cons x xs ihx =>
    intro hx left h
    rw [Trm.fews]
    split
    ·have h1 := hx x (by simp) left (by omega)
     have h2 := ihx (fun y hy => hx y (by simp [hy])) (x.few left) (by omega)
     omega
    ·omega
  have := key d.t ih (left - 1) (by omega)
  omega
mutual
def Datum.bulk : Datum → Nat
 | .mk _ _ _ s l => 1 + s.length + Datum.bulks l
def Datum.bulks : List Datum → Nat
 | [] => 0
 | x :: xs => Datum.bulk x + Datum.bulks xs
end
mutual
def Trm.bulk : Trm → Nat
 | .mk _ _ v l => 1 + v.length + Trm.bulks l
def Trm.bulks : List Trm → Nat
 | [] => 0
 | x :: xs => Trm.bulk x + Trm.bulks xs
end
theorem Datum.bulk_eq (x : Datum) : x.bulk = 1 + x.s.length + Datum.bulks x.l := by cases x; rfl
theorem Trm.bulk_eq (x : Trm) : x.bulk = 1 + x.v.length + Trm.bulks x.t := by cases x; rfl
end Go.Cb
namespace Go.Cb
open Go.RowKit (Below)
set_option maxRecDepth 100000
set_option maxHeartbeats 4000000
section
variable {P : Program} {tt : Nat → TI}
structure Split0 (ops : Array Oper) (tab : List Nat) (A R1 R2 : List Nat) : Prop where
 pa : A.Pairwise fun j i => anc tab i j = true ∨ apartAt ops j i = true
 par : ∀ j ∈ A, ∀ i ∈ R1, anc tab i j = true ∨ apartAt ops j i = true
 r1 : R1.Pairwise fun j i => anc tab i j = true
 tl : ∀ j ∈ A ++ R1, ∀ i ∈ R2, anc tab i j = true
 ug : ∀ i ∈ R1, ∀ o, ops[i]? = some o → o.guard = none
 nd : ∀ i ∈ R1, ∀ o, ops[i]? = some o → noDef o.op = true
theorem Split0.dropA {ops : Array Oper} {tab A1 A2 R1 R2 : List Nat} {i : Nat} (h : Split0 ops tab (A1 ++ i :: A2) R1 R2) : Split0 ops tab (A1 ++ A2) R1 R2 := by
 have hs : List.Sublist (A1 ++ A2) (A1 ++ i :: A2) := List.Sublist.append (List.Sublist.refl _) (List.sublist_cons_self _ _)
 refine ⟨h.pa.sublist hs, fun j hj => h.par j (hs.subset hj), h.r1, fun j hj => h.tl j ?_, h.ug, h.nd⟩
 ·exact (List.Sublist.append hs (List.Sublist.refl R1)).subset hj
theorem Split0.dropR {ops : Array Oper} {tab A R1 R2 : List Nat} {i : Nat} (h : Split0 ops tab A (i :: R1) R2) : Split0 ops tab A R1 R2 := by
 have hs : List.Sublist (A ++ R1) (A ++ i :: R1) := List.Sublist.append (List.Sublist.refl _) (List.sublist_cons_self _ _)
 exact ⟨h.pa, fun j hj i hi => h.par j hj i (by simp [hi]), (List.pairwise_cons.1 h.r1).2, fun j hj => h.tl j (hs.subset hj), fun j hj => h.ug j (by simp [hj]), fun j hj => h.nd j (by simp [hj])⟩
def split2B (ops : Array Oper) (tab A R1 B R2 : List Nat) : Bool :=
 tabChk ops tab &&
 pairB (fun j i => anc tab i j || apartAt ops j i) A && A.all (fun j => R1.all fun i => anc tab i j || apartAt ops j i) &&
 pairB (fun j i => anc tab i j) R1 && (A ++ R1).all (fun j => (B ++ R2).all fun i => anc tab i j) &&
 R1.all (fun i => match ops[i]? with | some o => o.guard.isNone | none => false) && (R1 ++ R2).all (fun i => match ops[i]? with | some o => noDef o.op | none => false) &&
 pairB (fun j i => anc tab i j || apartAt ops j i) B && pairB (fun j i => anc tab i j) R2 && B.all (fun j => R2.all fun i => anc tab i j) &&
 pairB (fun j i => !(Nat.beq j i)) (A ++ (R1 ++ (B ++ R2))) && (List.range ops.size).all (fun i => (A ++ (R1 ++ (B ++ R2))).contains i) && (A ++ (R1 ++ (B ++ R2))).all (fun i => Nat.blt i ops.size)
theorem Split0.of {ops : Array Oper} {tab A R1 B R2 : List Nat} (h : split2B ops tab A R1 B R2 = true) :
  tabChk ops tab = true ∧ Split0 ops tab A R1 (B ++ R2) ∧ Split ops tab B [] R2 ∧ Pend ops (Array.replicate ops.size false) (A ++ (R1 ++ (B ++ R2))) := by
 simp only [split2B, Bool.and_eq_true] at h
 obtain ⟨⟨⟨⟨⟨⟨⟨⟨⟨⟨⟨⟨h0, h1⟩, h2⟩, h3⟩, h5⟩, h6⟩, h6'⟩, b1⟩, b2⟩, b3⟩, h7⟩, h8⟩, h9⟩ := h
 have hlt : ∀ i ∈ A ++ (R1 ++ (B ++ R2)), i < ops.size := fun i hi => by
  have := List.all_eq_true.1 h9 i hi
  simpa [Nat.blt, Nat.succ_le_iff] using this
 have hnd : ∀ i ∈ R1 ++ R2, ∀ o, ops[i]? = some o → noDef o.op = true := by
  intro i hi o ho
  have := List.all_eq_true.1 h6' i hi
  rw [ho] at this
  exact this
 refine ⟨h0, ⟨?_, ?_, pairB_iff h3, ?_, ?_, fun i hi => hnd i (by simp [hi])⟩, ⟨?_, fun _ _ _ h => (by cases h), List.Pairwise.nil, pairB_iff b2, ?_, fun _ h => (by cases h), fun i hi => hnd i (by simpa using .inr (by simpa using hi))⟩, ?_, ?_, ?_⟩
 ·exact (pairB_iff h1).imp fun h => by simpa using h
 ·intro j hj i hi
  have := List.all_eq_true.1 (List.all_eq_true.1 h2 j hj) i hi
  simpa using this
 ·intro j hj i hi
  exact List.all_eq_true.1 (List.all_eq_true.1 h5 j hj) i hi
 ·intro i hi o ho
  have := List.all_eq_true.1 h6 i hi
  rw [ho] at this
  simpa using this
 ·exact (pairB_iff b1).imp fun h => by simpa using h
 ·intro j hj i hi
  exact List.all_eq_true.1 (List.all_eq_true.1 b3 j (by simpa using hj)) i hi
 ·exact (pairB_iff h7).imp fun h => by
   intro e
   subst e
   simp at h
 ·intro i
  constructor
  ·intro hi
   rcases Nat.lt_or_ge i ops.size with h' | h'
   ·have := List.all_eq_true.1 h8 i (List.mem_range.2 h')
    simpa only [List.contains_iff_mem] using this
   ·simp [Array.getElem?_eq_none, h'] at hi
  ·intro hi
   simp [hlt i hi]
 ·intro i hi
  exact ⟨_, Array.getElem?_eq_getElem (hlt i hi)⟩
theorem PCallD.go {f : FuncId} {args args' : List PV} {Γ Γ1 Γ2 : List Ent} {Q K : PV → List Ent → Prop} (h : ACallD P f args' Γ1 Q) (hw : WkT args args') [hp : PickL Γ Γ1 Γ2]
  (k : ∀ y Γ1', Q y Γ1' → appE Γ1' Γ2 fun Γ' => K y Γ') : PCallD P f args Γ K := PCallD.gen h hw (hp := hp) fun y Γ1' hq => by have := k y Γ1' hq; rwa [appE_eq] at this
theorem Wk.opt {q : Bool} (h : q = true) (x : PV) : Wk (.opt q x) x := fun F v r => by
 simp only [Rep] at r
 exact r.1 h
theorem PSliceM.hi {sz : Nat} {Γ : List Ent} {t : Tok} {es : List PV} {put : Tok → List PV → List Ent} [hp : PickRow Γ t es put] {k : IntKind} {n : Int} {i : Nat} [x : IdxOf n i] {K : PV → List Ent → Prop} (hs : t.s = sz) (h0 : 0 ≤ n) (hl : n ≤ es.length)
  (hk : ∀ t' : Tok, t'.e = t.e → t'.s = t.s → K (.ms t') (put t' (es.take i))) : PSliceT sz t none (some (.int k n)) Γ K := by
 obtain ⟨Γ1, Γ2, h1, h2⟩ := hp.at_
 have e := x.eq h0
 exact ⟨.inl ⟨es, Γ1, Γ2, i, h1, hs, rfl, e, by omega, fun t' a b => by rw [← h2]; exact hk t' a b⟩⟩
theorem PSliceT.tail {sz : Nat} {Γ : List Ent} {t : Tok} {es : List PV} {put : Tok → List PV → List Ent} [hp : PickRow Γ t es put] {k : IntKind} {n : Int} {i : Nat} [x : IdxOf n i] {K : PV → List Ent → Prop} (hs : t.s = sz) (h0 : 0 ≤ n) (hl : n ≤ es.length)
  (hk : ∀ v, tailOf t i v → K (.sc v) Γ) : PSliceT sz t (some (.int k n)) none Γ K := by
 obtain ⟨Γ1, Γ2, h1, h2⟩ := hp.at_
 have e := x.eq h0
 exact ⟨.inr ⟨rfl, es, i, by rw [h1]; simp, hs, e, by omega, hk⟩⟩
theorem PClear.at_ {Γ : List Ent} {t : Tok} {es : List PV} {put : Tok → List PV → List Ent} [hp : PickRow Γ t es put] {k : IntKind} {n : Int} {l : Nat} {v : Value} {K : List Ent → Prop} (hv : tailOf t l v) (hs : t.s = 1) (hl : l ≤ es.length)
  (hk : K (put t (es.take l ++ List.replicate (es.length - l) (.int k n)))) : PClear (.int k n) v Γ K := by
 obtain ⟨Γ1, Γ2, h1, h2⟩ := hp.at_
 rw [h2] at hk
 exact ⟨k, n, rfl, t, es, l, Γ1, Γ2, hv, h1, hs, hl, hk⟩
end
end Go.Cb
namespace Go.Cb
open Go.Proofs
set_option maxRecDepth 100000
set_option maxHeartbeats 4000000
theorem Shift.nilRow (s : Nat) (e : TypeId) (Γ : List Ent) : Shift .nil Γ (.ms (nilTok s e)) (.row (nilTok s e) [] :: Γ) := fun w0 F M w v hS hx =>
 let ⟨F', h1, h2⟩ := Ghost.nilRow s e Γ w0 F M w hS
 ⟨F', h1, h2, Wk.nilRow s e F' v (Rep.mono h1 _ _ hx)⟩
theorem Shift.refl (x : PV) (Γ : List Ent) : Shift x Γ x Γ := fun _ F _ _ _ hS hx => ⟨F, Fz.le_refl F, hS, hx⟩
abbrev slI (l : List Int) : PV := .sl 1 (l.map (PV.int .i64)) none
instance : CellsOf slI (fun l => [slI l]) := ⟨fun _ => rfl⟩
end Go.Cb
namespace Go.Cb
open Go.Proofs
set_option maxRecDepth 100000
set_option maxHeartbeats 4000000
structure Ins where
 op : Int
 d : Int
 a : Int
 b : Int
 l : List Int
def Ins.cells (x : Ins) : List PV := [.int .i64 x.op, .int .i64 x.d, .int .i64 x.a, .int .i64 x.b, slI x.l]
def Ins.pv (x : Ins) : PV := .agg x.cells
instance : CellsOf Ins.pv Ins.cells := ⟨fun _ => rfl⟩
structure Prc where
 args : Int
 rest : Bool
 regs : Int
 code : List Ins
 alive : List (List Int)
def Prc.cells (p : Prc) : List PV := [.int .i64 p.args, .bool p.rest, .int .i64 p.regs, .sl 5 (p.code.map Ins.pv) none, .sl 1 (p.alive.map slI) none]
def Prc.pv (p : Prc) : PV := .agg p.cells
instance : CellsOf Prc.pv Prc.cells := ⟨fun _ => rfl⟩
structure Unt where
 consts : List Datum
 procs : List Prc
def Unt.cells (u : Unt) : List PV := [.sl 5 (u.consts.map Datum.pv) none, .sl 5 (u.procs.map Prc.pv) none]
end Go.Cb
namespace Go.Cb
open Go.RowKit (Below)
set_option maxRecDepth 100000
section
variable {P : Program} {tt : Nat → TI}
theorem AYield.frameR {l : Nat} {args : List PV} {Γ Γ1 Γ2 : List Ent} {Q : PV → List Ent → Prop} (h : AYield P l args Γ1 Q) (hp : Γ.Perm (Γ2 ++ Γ1)) : AYield P l args Γ fun y Γ' => ∃ Γ1', Γ' = Γ2 ++ Γ1' ∧ Q y Γ1' := fun w0 F M w vs hS hT => by
 have hS' : Sim w0 F (Γ1 ++ (Γ2 ++ M)) w := hS.perm (by
  rw [← List.append_assoc]
  exact (hp.trans List.perm_append_comm).append_right M)
 obtain ⟨fn, tmps, assign, body, h1, h2⟩ := h w0 F (Γ2 ++ M) w vs hS' hT
 refine ⟨fn, tmps, assign, body, h1, h2.mono ?_⟩
 rintro _ _ ⟨v, F', y, Γ', e1, e2, e3, e4, e5⟩
 exact ⟨v, F', y, Γ2 ++ Γ', e1, e2, e3.perm (by
  rw [← List.append_assoc]
  exact List.perm_append_comm.append_right M), e4, Γ', rfl, e5⟩
theorem ACall.frameR {f : FuncId} {args : List PV} {Γ Γ1 Γ2 : List Ent} {Q : PV → List Ent → Prop} (h : ACall P f args Γ1 Q) (hp : Γ.Perm (Γ2 ++ Γ1)) : ACall P f args Γ fun y Γ' => ∃ Γ1', Γ' = Γ2 ++ Γ1' ∧ Q y Γ1' :=
 ⟨h.1, fun w0 F M w vs hS hT => by
  have hS' : Sim w0 F (Γ1 ++ (Γ2 ++ M)) w := hS.perm (by
   rw [← List.append_assoc]
   exact (hp.trans List.perm_append_comm).append_right M)
  refine (h.2 w0 F (Γ2 ++ M) w vs hS' hT).mono ?_
  rintro _ _ ⟨v, F', y, Γ', e1, e2, e3, e4, e5⟩
  exact ⟨v, F', y, Γ2 ++ Γ', e1, e2, e3.perm (by
   rw [← List.append_assoc]
   exact List.perm_append_comm.append_right M), e4, Γ', rfl, e5⟩⟩
theorem PYield.goR {l : Nat} {args args' : List PV} {Γ Γ1 : List Ent} (Γ2 : List Ent) {Q K : PV → List Ent → Prop} (h : AYield P l args' Γ1 Q) (hw : WkT args args') (hp : Γ.Perm (Γ2 ++ Γ1)) (k : ∀ y Γ1', Q y Γ1' → appE Γ2 Γ1' fun Γ' => K y Γ') : PYield P l args Γ K :=
 ⟨((h.wk hw).frameR hp).mono fun y Γ' ⟨Γ1', e, hq⟩ => by have := k y Γ1' hq; rw [appE_eq] at this; rw [e]; exact this⟩
theorem PCall.goR {f : FuncId} {args args' : List PV} {Γ Γ1 : List Ent} (Γ2 : List Ent) {Q K : PV → List Ent → Prop} (h : ACall P f args' Γ1 Q) (hw : WkT args args') (hp : Γ.Perm (Γ2 ++ Γ1)) (k : ∀ y Γ1', Q y Γ1' → appE Γ2 Γ1' fun Γ' => K y Γ') : PCall P f args Γ K :=
 PCall.same ((h.wk hw).frameR hp) (WkT.refl _) fun y Γ' ⟨Γ1', e, hq⟩ => by have := k y Γ1' hq; rw [appE_eq] at this; rw [e]; exact this
end
end Go.Cb
namespace Go.Cb
open Go.RowKit (Below)
set_option maxRecDepth 100000
set_option maxHeartbeats 4000000
section
variable {P : Program} {tt : Nat → TI}
def fltOf (tt : Nat → TI) : Op → Option (Nat → PV × Ent)
 | .alloc t => match (tt t).und with
  | .other => none
  | _ => some fun b => (.ptr b 0, .box b ((tt t).zero.map ZK.pv))
 | .makeMap t none => match (tt t).und with
  | .mp kt _ => match keyD tt (tt kt).und with
   | some d => some fun r => (.mp r, .mp r d (fun _ => none) [])
   | none => none
  | _ => none
 | _ => none
theorem fltOf_iff {op : Op} {f : Nat → PV × Ent} (h : fltOf tt op = some f) {T : List PV} {Γ : List Ent} {K : PV → List Ent → Prop} : WOp P tt op T Γ K ↔ ∀ b, K (f b).1 ((f b).2 :: Γ) := by
 unfold fltOf at h
 split at h
 ·split at h
  ·cases h
  ·rename_i hne
   cases h
   simp only [WOp, zerosK_eq]
 ·split at h
  ·rename_i hu
   split at h
   ·rename_i hd
    cases h
    simp only [WOp, hu, hd]
   ·cases h
  ·cases h
 ·cases h
theorem fltOf_noDef {op : Op} {f : Nat → PV × Ent} (h : fltOf tt op = some f) : noDef op = true := by
 cases op <;> first | rfl | cases h
def fDst (ops : Array Oper) (i : Nat) : Option Tmp := (ops[i]?).bind (·.dst)
abbrev FE := Nat → Option (PV × Ent)
def putE (ops : Array Oper) (e : FE) : List Nat → List PV → List PV
 | [], T => T
 | i :: l, T => putE ops e l (match e i with
  | some x => putT T (fDst ops i) x.1
  | none => T)
theorem fm_congr {β : Type} {f g : Nat → Option β} : ∀ {l : List Nat}, (∀ x ∈ l, f x = g x) → l.filterMap f = l.filterMap g
 | [], _ => rfl
 | x :: l, h => by
  rw [List.forall_mem_cons] at h
  rw [List.filterMap_cons, List.filterMap_cons, h.1, fm_congr h.2]
theorem beq_ne {i j : Nat} (h : j ≠ i) : Nat.beq j i = false := by
 cases hb : Nat.beq j i
 ·rfl
 ·exact (h (Nat.eq_of_beq_eq_true hb)).elim
def entE (e : FE) (l : List Nat) : List Ent := l.filterMap fun i => (e i).map (·.2)
def updE (e : FE) (i : Nat) (x : PV × Ent) : FE := fun j => if j = i then some x else e j
def pendE (e : FE) (l : List Nat) : List Nat := l.filter fun i => (e i).isNone
theorem entE_none {e : FE} {l : List Nat} (h : ∀ i ∈ l, e i = none) : entE e l = [] := by
 unfold entE
 rw [List.filterMap_eq_nil_iff]
 intro i hi
 rw [h i hi]; rfl
theorem putE_none {ops : Array Oper} {e : FE} : ∀ {l : List Nat} {T : List PV}, (∀ i ∈ l, e i = none) → putE ops e l T = T
 | [], _, _ => rfl
 | i :: l, T, h => by
  rw [List.forall_mem_cons] at h
  rw [putE, h.1]
  exact putE_none h.2
theorem updE_ne {e : FE} {i j : Nat} {x : PV × Ent} (h : j ≠ i) : updE e i x j = e j := by simp [updE, h]
theorem updE_self {e : FE} {i : Nat} {x : PV × Ent} : updE e i x i = some x := by simp [updE]
theorem entE_upd {e : FE} {i : Nat} {x : PV × Ent} (he : e i = none) : ∀ {l : List Nat}, i ∈ l → l.Nodup → (entE (updE e i x) l).Perm (x.2 :: entE e l)
 | [], h, _ => by cases h
 | j :: l, h, hn => by
  rw [List.nodup_cons] at hn
  rcases List.mem_cons.1 h with rfl | h
  ·have h1 : entE (updE e i x) l = entE e l := by
    unfold entE
    refine fm_congr fun j hj => ?_
    rw [updE_ne (j := j) (i := i) fun e => hn.1 (e ▸ hj)]
   unfold entE at h1 ⊢
   rw [List.filterMap_cons, List.filterMap_cons, updE_self, he, h1]
   exact List.Perm.refl _
  ·have hne : j ≠ i := fun e => hn.1 (e ▸ h)
   have ih := entE_upd (x := x) he h hn.2
   unfold entE at ih ⊢
   rw [List.filterMap_cons, List.filterMap_cons, updE_ne hne]
   cases hj : e j with
   | none => simpa using ih
   | some y =>
    simp only [Option.map_some]
    exact (ih.cons _).trans (List.Perm.swap _ _ _)
theorem putE_put {ops : Array Oper} {e : FE} {d : Option Tmp} {v : PV} : ∀ {l : List Nat} {T : List PV}, (∀ i ∈ l, ∀ k, d = some k → fDst ops i ≠ some k) → putE ops e l (putT T d v) = putT (putE ops e l T) d v
 | [], _, _ => rfl
 | i :: l, T, h => by
  rw [List.forall_mem_cons] at h
  rw [putE, putE]
  cases he : e i with
  | none => exact putE_put h.2
  | some x =>
   simp only
   rw [putT_comm T h.1]
   exact putE_put h.2
theorem putE_congr {ops : Array Oper} {e e' : FE} : ∀ {l : List Nat} {T : List PV}, (∀ i ∈ l, e i = e' i) → putE ops e l T = putE ops e' l T
 | [], _, _ => rfl
 | i :: l, T, h => by
  rw [List.forall_mem_cons] at h
  rw [putE, putE, h.1]
  exact putE_congr h.2
theorem putE_upd {ops : Array Oper} {e : FE} {i : Nat} {x : PV × Ent} (he : e i = none) : ∀ {l : List Nat} {T : List PV}, i ∈ l → l.Nodup → (∀ j ∈ l, j ≠ i → ∀ k, fDst ops i = some k → fDst ops j ≠ some k) →
  putE ops (updE e i x) l T = putT (putE ops e l T) (fDst ops i) x.1
 | [], _, h, _, _ => by cases h
 | j :: l, T, h, hn, hd => by
  rw [List.nodup_cons] at hn
  rw [List.forall_mem_cons] at hd
  rcases List.mem_cons.1 h with rfl | h
  ·rw [putE, putE, updE_self, he]
   simp only
   rw [putE_congr (e := updE e i x) (e' := e) fun j hj => updE_ne fun e => hn.1 (e ▸ hj)]
   exact putE_put fun j hj => hd.2 j hj fun e => hn.1 (e ▸ hj)
  ·have hne : j ≠ i := fun e => hn.1 (e ▸ h)
   rw [putE, putE, updE_ne hne]
   exact putE_upd he h hn.2 hd.2
theorem pendE_upd {e : FE} {i : Nat} {x : PV × Ent} {l l1 l2 : List Nat} (hn : l.Nodup) (h : pendE e l = l1 ++ i :: l2) : pendE (updE e i x) l = l1 ++ l2 := by
 have h1 : pendE (updE e i x) l = (pendE e l).filter fun j => !(Nat.beq j i) := by
  unfold pendE
  rw [List.filter_filter]
  refine List.filter_congr fun j _ => ?_
  by_cases hj : j = i
  ·subst hj; rw [updE_self]; simp
  ·rw [updE_ne hj]
   simp [beq_ne hj]
 have hn2 : (l1 ++ i :: l2).Nodup := h ▸ hn.sublist List.filter_sublist
 rw [h1, h, List.filter_append, List.filter_cons]
 have hni := (List.perm_middle (a := i) (l₁ := l1) (l₂ := l2)).nodup_iff.1 hn2
 rw [List.nodup_cons, List.mem_append, not_or] at hni
 have hf : ∀ m : List Nat, i ∉ m → m.filter (fun j => !(Nat.beq j i)) = m := fun m hm => List.filter_eq_self.2 fun j hj => by
  rw [beq_ne (j := j) (i := i) fun e => hm (e ▸ hj)]; rfl
 rw [hf l1 hni.1.1, hf l2 hni.1.2]
 simp
theorem mem_pendE {e : FE} {l : List Nat} {i : Nat} : i ∈ pendE e l ↔ i ∈ l ∧ e i = none := by
 unfold pendE
 rw [List.mem_filter, Option.isNone_iff_eq_none]
theorem ev_putE {ops : Array Oper} {e : FE} {o : Oper} : ∀ {l : List Nat} {T : List PV}, (∀ i ∈ l, ∀ k, fDst ops i = some k → k ∉ o.looksAt ops) → ∀ y ∈ o.op.operands.toList, ev (putE ops e l T) y = ev T y
 | [], _, _ => fun _ _ => rfl
 | i :: l, T, h => fun y hy => by
  rw [List.forall_mem_cons] at h
  rw [putE, ev_putE h.2 y hy]
  cases e i with
  | none => rfl
  | some x => exact looks_operands h.1 y hy
theorem SVal_putE {ops : Array Oper} {e : FE} {o : Oper} {Γ : List Ent} {v : PV} : ∀ {l : List Nat} {T : List PV}, (∀ i ∈ l, ∀ k, fDst ops i = some k → k ∉ o.looksAt ops) → (SVal P tt ops.toList o (putE ops e l T) Γ v ↔ SVal P tt ops.toList o T Γ v)
 | [], _, _ => Iff.rfl
 | i :: l, T, h => by
  rw [List.forall_mem_cons] at h
  rw [putE, SVal_putE h.2]
  cases e i with
  | none => exact Iff.rfl
  | some x => exact SVal_put h.1
def EOk (tt : Nat → TI) (ops : Array Oper) (e : FE) (l : List Nat) : Prop := ∀ i ∈ l, e i = none ∨ ∃ o f b, ops[i]? = some o ∧ fltOf tt o.op = some f ∧ e i = some (f b)
structure Flts (tt : Nat → TI) (ops : Array Oper) (l : List Nat) : Prop where
 fl : ∀ i ∈ l, ∃ o f, ops[i]? = some o ∧ o.guard = none ∧ fltOf tt o.op = some f
 ff : l.Pairwise fun j i => apartAt ops j i = true
 nd : l.Nodup
theorem apart_dst {ops : Array Oper} {j i : Nat} (h : apartAt ops j i = true) : ∀ k, fDst ops i = some k → fDst ops j ≠ some k := by
 intro k hk hj
 unfold apartAt at h
 unfold fDst at hk hj
 cases hx : ops[j]? with
 | none => rw [hx] at hj; cases hj
 | some x =>
  cases hy : ops[i]? with
  | none => rw [hy] at hk; cases hk
  | some y =>
   rw [hx, hy] at h
   rw [hx] at hj
   rw [hy] at hk
   obtain ⟨a1, a2, a3⟩ := Oper.apart_spec h
   simp only [Option.bind_some] at hk hj
   exact a2 k hj hk
theorem Flts.dst {ops : Array Oper} {l : List Nat} (h : Flts tt ops l) : ∀ i ∈ l, ∀ j ∈ l, j ≠ i → ∀ k, fDst ops i = some k → fDst ops j ≠ some k := by
 intro i hi j hj hne k hk hjk
 have key : ∀ {l : List Nat}, l.Pairwise (fun j i => apartAt ops j i = true) → i ∈ l → j ∈ l → apartAt ops i j = true ∨ apartAt ops j i = true := by
  intro l hp hi hj
  induction l with
  | nil => cases hi
  | cons x l ih =>
   rw [List.pairwise_cons] at hp
   rcases List.mem_cons.1 hi with e1 | h1
   ·rcases List.mem_cons.1 hj with e2 | h2
    ·exact (hne (e2.trans e1.symm)).elim
    ·subst e1; exact .inl (hp.1 j h2)
   ·rcases List.mem_cons.1 hj with e2 | h2
    ·subst e2; exact .inr (hp.1 i h1)
    ·exact ih hp.2 h1 h2
 rcases key h.ff hi hj with h | h
 ·exact apart_dst h k hjk hk
 ·exact apart_dst h k hk hjk
theorem flt_step (hk : TT.ok P tt) {rd : Option Nat} {nn : Nat} {ops : Array Oper} {l : List Nat} (hF : Flts tt ops l) {e : FE} {i : Nat} {o : Oper} (hi : i ∈ l) (he : e i = none) (ho : ops[i]? = some o) (hE : EOk tt ops e l)
  {w0 : World} {F : Fz} {Γ M : List Ent} {w : World} {T : List PV} {a : Act} {next : Act → World → Prop} {Q : Exit → Act → World → Prop} (hS : Sim w0 F (Γ ++ (entE e l ++ M)) w) (hT : RepT F (putE ops e l T) a.tmps.toList)
  (hn : ∀ e' F' u w', EOk tt ops e' l → e' = updE e i ((e' i).getD (.any, .tok (nilTok 0 0))) → F.le F' → Sim w0 F' (Γ ++ (entE e' l ++ M)) w' → RepT F' (putE ops e' l T) (a.put o.dst u).tmps.toList → next (a.put o.dst u) w') :
  wpOpIn (Fen rd) nn P ops Q i next a w := by
 obtain ⟨o', f, ho', hg, hf⟩ := hF.fl i hi
 rw [ho] at ho'
 cases ho'
 unfold wpOpIn
 simp only [ho]
 rw [if_pos (by simp [Region.wanted, hg])]
 have hW : WOp P tt o.op (putE ops e l T) [] fun x Γ' => ∃ b, x = (f b).1 ∧ Γ' = [(f b).2] := (fltOf_iff hf).2 fun b => ⟨b, rfl, rfl⟩
 refine WOp_sound hk (Γ := []) (M := Γ ++ (entE e l ++ M)) hS hT hW ?_
 rintro F' x Γ' u w' hle hS' hx ⟨b, rfl, rfl⟩
 have hp := entE_upd (x := f b) he hi hF.nd
 have hd : fDst ops i = o.dst := by simp [fDst, ho]
 refine hn (updE e i (f b)) F' u w' ?_ (by rw [updE_self]; rfl) hle ?_ ?_
 ·intro j hj
  by_cases hji : j = i
  ·subst hji; rw [updE_self]; exact .inr ⟨o, f, b, ho, hf, rfl⟩
  ·rw [updE_ne hji]; exact hE j hj
 ·refine hS'.perm ?_
  have h1 : ((f b).2 :: (Γ ++ (entE e l ++ M))).Perm (Γ ++ ((f b).2 :: (entE e l ++ M))) := List.perm_middle.symm
  refine h1.trans ?_
  have h2 : ((f b).2 :: (entE e l ++ M)).Perm (entE (updE e i (f b)) l ++ M) := (hp.symm.append_right M)
  exact h2.append_left Γ
 ·rw [putE_upd he hi hF.nd (hF.dst i hi), hd]
  exact put_rep (RepT.mono hle _ _ hT) hx o.dst
theorem flts_done {ops : Array Oper} {e : FE} {K : List PV → List Ent → Ds → Prop} : ∀ (l : List Nat) (T : List PV) (Γ : List Ent), (∀ i ∈ l, ∃ o f b, ops[i]? = some o ∧ o.guard = none ∧ fltOf tt o.op = some f ∧ e i = some (f b)) →
  WOps P tt ops.toList (l.filterMap (ops[·]?)) T Γ [] K → ∃ Γ4, K (putE ops e l T) Γ4 [] ∧ Γ4.Perm (entE e l ++ Γ)
 | [], T, Γ, _, h => ⟨Γ, h, List.Perm.refl _⟩
 | i :: l, T, Γ, hl, h => by
  rw [List.forall_mem_cons] at hl
  obtain ⟨o, f, b, ho, hg, hf, he⟩ := hl.1
  rw [List.filterMap_cons, ho] at h
  simp only [WOps, hg, WOpD_noDef (fltOf_noDef hf), putK_T] at h
  have h2 := (fltOf_iff hf).1 h b
  obtain ⟨Γ4, h3, h4⟩ := flts_done l _ _ hl.2 h2
  refine ⟨Γ4, ?_, h4.trans ?_⟩
  ·rw [putE, he]
   have hd : fDst ops i = o.dst := by simp [fDst, ho]
   rw [hd]; exact h3
  ·unfold entE
   rw [List.filterMap_cons, he]
   exact List.perm_middle
theorem gameF (hk : TT.ok P tt) (rd : Option Nat) (nn : Nat) {ops : Array Oper} {tab Fl R2 : List Nat} (hF : Flts tt ops Fl) (hc : tabChk ops tab = true) {w0 : World} {M Γ2 : List Ent} {F0 : Fz} {ds : List Deferred} {Q' : Exit → Act → World → Prop}
  {Tl : List PV → List Ent → Prop} (hTl : ∀ (fuel : Nat) (listed : Array Bool) (T : List PV) (Γ : List Ent) (e : FE) (F : Fz) (a : Act) (w : World), (pendE e Fl).length + R2.length ≤ fuel → Down ops listed → Pend ops listed (pendE e Fl ++ R2) → EOk tt ops e Fl → F0.le F →
   Sim w0 F (Γ ++ (entE e Fl ++ M)) w → RepT F (putE ops e Fl T) a.tmps.toList → a.defers = ds → Tl T Γ → wpAnyIn (Fen rd) nn P .any ops Q' fuel listed a w) :
  ∀ (n : Nat) (A R1 : List Nat) (e : FE) (fuel : Nat) (listed : Array Bool) (T : List PV) (Γ1 : List Ent) (F : Fz) (a : Act) (w : World), A.length + R1.length + (pendE e Fl).length = n → n + R2.length ≤ fuel →
   Down ops listed → Pend ops listed (A ++ (R1 ++ (pendE e Fl ++ R2))) → Split0 ops tab A R1 R2 → (∀ j ∈ A ++ R1, ∀ i ∈ Fl, apartAt ops j i = true) → EOk tt ops e Fl → F0.le F → Sim w0 F (Γ1 ++ (Γ2 ++ (entE e Fl ++ M))) w → RepT F (putE ops e Fl T) a.tmps.toList → a.defers = ds →
   (SSeq P tt ops.toList (A.filterMap (ops[·]?)) T Γ2 fun T' => WOps P tt ops.toList (R1.filterMap (ops[·]?)) T' Γ1 [] fun T2 Γ1' _ => Tl T2 (Γ1' ++ Γ2)) →
   wpAnyIn (Fen rd) nn P .any ops Q' fuel listed a w := by
 intro n
 induction n with
 | zero =>
  intro A R1 e fuel listed T Γ1 F a w hn hf hd hp hsp hfx hE hle hS hT hds h
  obtain rfl : A = [] := List.eq_nil_of_length_eq_zero (by omega)
  obtain rfl : R1 = [] := List.eq_nil_of_length_eq_zero (by omega)
  exact hTl fuel listed T (Γ1 ++ Γ2) e F a w (by simp at hn; rw [hn]; simpa using hf) hd (by simpa using hp) hE hle (by simpa using hS) hT hds h
 | succ n ih =>
  intro A R1 e fuel listed T Γ1 F a w hn hf hd hp hsp hfx hE hle hS hT hds h
  by_cases hAR0 : A = [] ∧ R1 = []
  ·obtain ⟨rfl, rfl⟩ := hAR0
   exact hTl fuel listed T (Γ1 ++ Γ2) e F a w (by simp at hn; omega) hd (by simpa using hp) hE hle (by simpa using hS) hT hds h
  cases fuel with
  | zero => omega
  | succ fuel =>
  refine ⟨fun hnil => ?_, fun i hi => ?_⟩
  ·exfalso
   cases hAR : A ++ (R1 ++ (pendE e Fl ++ R2)) with
   | nil => simp at hAR; exact hAR0 ⟨hAR.1, hAR.2.1⟩
   | cons x xs =>
    rw [hAR] at hp
    obtain ⟨k, hk'⟩ := ready_exists hc hp
    rw [hnil] at hk'
    cases hk'
  ·obtain ⟨o, ho⟩ := hp.2.2 i (hp.ready hi)
   have un : ∀ {j : Nat}, j ∈ A ++ (R1 ++ (pendE e Fl ++ R2)) → anc tab i j = true → False := fun {j} hj ha => blocked hc hd i ho ha ((hp.2.1 j).2 hj) hi
   have free : ∀ {j : Nat} {x : Oper}, j ∈ A ++ (R1 ++ (pendE e Fl ++ R2)) → ops[j]? = some x → (anc tab i j = true ∨ apartAt ops j i = true) → x.apart ops o = true := by
    intro j x hj hx h
    rcases h with h | h
    ·exact (un hj h).elim
    ·simpa [apartAt, hx, ho] using h
   have looks : i ∈ A ++ R1 → ∀ f ∈ Fl, ∀ k, fDst ops f = some k → k ∉ o.looksAt ops := by
    intro hiA f hf k hk
    have := hfx i hiA f hf
    obtain ⟨of, _, hof, _, _⟩ := hF.fl f hf
    simp only [apartAt, ho, hof] at this
    obtain ⟨a1, a2, a3⟩ := Oper.apart_spec this
    exact a3 k (by simpa [fDst, hof] using hk)
   have dsts : i ∈ A ++ R1 → ∀ f ∈ Fl, ∀ k, o.dst = some k → fDst ops f ≠ some k := by
    intro hiA f hf k hk hfk
    exact apart_dst (hfx i hiA f hf) k hfk (by simp [fDst, ho, hk])
   have hmem := hp.ready hi
   rw [List.mem_append, List.mem_append, List.mem_append] at hmem
   rcases hmem with hm | hm | hm | hm
   ·
    obtain ⟨A1, A2, rfl⟩ := List.append_of_mem hm
    rw [filterMap_split ho] at h
    have hap : ∀ x ∈ A1.filterMap (ops[·]?), x.apart ops o = true := by
     intro x hx
     obtain ⟨j, hj, hx⟩ := List.mem_filterMap.1 hx
     exact free (by simp [hj]) hx ((List.pairwise_append.1 hsp.pa).2.2 j hj i (by simp))
    obtain ⟨v, h1, h2⟩ := SSeq_move _ T hap h
    have h1' := (SVal_putE (e := e) (looks (by simp))).2 h1
    have hS2 : Sim w0 F (Γ2 ++ (Γ1 ++ (entE e Fl ++ M))) w := hS.perm (by
     rw [← List.append_assoc, ← List.append_assoc Γ2]
     exact List.perm_append_comm.append_right _)
    unfold wpOpIn
    simp only [ho]
    have key := SVal_sound hk (rd := rd) (nn := nn) (Q := Q') (next := fun a w => wpAnyIn (Fen rd) nn P .any ops Q' fuel (listed.setIfInBounds i true) a w) hS2 hT h1' ?_
    ·split at key <;> rename_i hw
     ·rw [if_pos hw]; exact key
     ·rw [if_neg hw]; exact ⟨fun _ _ => trivial, key⟩
    intro F' u w' hle' hS' hx
    refine ih (A1 ++ A2) R1 e fuel _ (putT T o.dst v) Γ1 F' _ w' (by simp at hn ⊢; omega) (by omega) (hd.set hi) ?_ hsp.dropA (fun j hj => hfx j ?_) hE (Fz.le_trans hle hle') ?_ ?_
     ((put_defers a o.dst u).trans hds) ?_
    ·have := Pend.set (l1 := A1) (l2 := A2 ++ (R1 ++ (pendE e Fl ++ R2))) (i := i) (by simpa using hp)
     rwa [List.append_assoc]
    ·simp only [List.mem_append, List.mem_cons] at hj ⊢
     rcases hj with (h | h) | h
     ·exact .inl (.inl h)
     ·exact .inl (.inr (.inr h))
     ·exact .inr h
    ·exact hS'.perm (by
      rw [← List.append_assoc, ← List.append_assoc Γ1]
      exact List.perm_append_comm.append_right _)
    ·rw [putE_put (dsts (by simp))]
     exact put_rep (RepT.mono hle' _ _ hT) hx o.dst
    ·rw [List.filterMap_append]; exact h2
   ·
    cases R1 with
    | nil => cases hm
    | cons r R1 =>
     rcases List.mem_cons.1 hm with hir | hir
     ·subst hir
      have hg : o.guard = none := hsp.ug i (by simp) o ho
      have e1 : (i :: R1).filterMap (ops[·]?) = o :: R1.filterMap (ops[·]?) := by rw [List.filterMap_cons, ho]
      rw [e1] at h
      have hap : ∀ x ∈ A.filterMap (ops[·]?), x.apart ops o = true := by
       intro x hx
       obtain ⟨j, hj, hx⟩ := List.mem_filterMap.1 hx
       exact free (by simp [hj]) hx (hsp.par j hj i (by simp))
      have h2 := SSeq_eff (kk := fun T' Γ1' => WOps P tt ops.toList (R1.filterMap (ops[·]?)) T' Γ1' [] fun T2 Γ1' _ => Tl T2 (Γ1' ++ Γ2)) _ T hap (by
       have hnd := hsp.nd i (by simp) o ho
       simpa only [WOps, hg, WOpD_noDef hnd, putK_T] using h)
      have h3 := WOp_congr (T' := putE ops e Fl T) (fun y hy => (ev_putE (looks (by simp)) y hy).symm) h2
      unfold wpOpIn
      simp only [ho]
      rw [if_pos (by simp [Region.wanted, hg])]
      refine WOp_sound hk (M := Γ2 ++ (entE e Fl ++ M)) hS hT h3 ?_
      rintro F' x Γ' v' w' hle' hS' hx hK
      refine ih A R1 e fuel _ (putT T o.dst x) Γ' F' _ w' (by simp at hn ⊢; omega) (by omega) (hd.set hi) ?_ hsp.dropR (fun j hj => hfx j ?_) hE (Fz.le_trans hle hle') hS' ?_
       ((put_defers a o.dst v').trans hds) hK
      ·have := Pend.set (l1 := A) (l2 := R1 ++ (pendE e Fl ++ R2)) (i := i) (by simpa using hp)
       simpa using this
      ·simp only [List.mem_append, List.mem_cons] at hj ⊢
       rcases hj with h | h
       ·exact .inl h
       ·exact .inr (.inr h)
      ·rw [putE_put (dsts (by simp))]
       exact put_rep (RepT.mono hle' _ _ hT) hx o.dst
     ·exact (un (j := r) (by simp) ((List.pairwise_cons.1 hsp.r1).1 i hir)).elim
   ·
    obtain ⟨hiF, hie⟩ := mem_pendE.1 hm
    obtain ⟨l1, l2, hl⟩ := List.append_of_mem hm
    have hS2 : Sim w0 F ((Γ1 ++ Γ2) ++ (entE e Fl ++ M)) w := by simpa using hS
    refine flt_step hk hF hiF hie ho hE hS2 hT ?_
    intro e' F' u w' hE' he' hle' hS' hT'
    have hpe : pendE e' Fl = l1 ++ l2 := by rw [he']; exact pendE_upd hF.nd hl
    have hlen : (pendE e Fl).length = l1.length + l2.length + 1 := by rw [hl]; simp; omega
    refine ih A R1 e' fuel _ T Γ1 F' _ w' (by rw [hpe]; simp; omega) (by omega) (hd.set hi) ?_ hsp hfx hE' (Fz.le_trans hle hle') (by simpa using hS') hT' ((put_defers a o.dst u).trans hds) h
    rw [hpe]
    have := Pend.set (l1 := A ++ (R1 ++ l1)) (l2 := l2 ++ R2) (i := i) (by rw [hl] at hp; simpa using hp)
    simpa using this
   ·
    exfalso
    cases A with
    | cons j A => exact un (j := j) (by simp) (hsp.tl j (by simp) i hm)
    | nil =>
     cases R1 with
     | cons j R1 => exact un (j := j) (by simp) (hsp.tl j (by simp) i hm)
     | nil => exact hAR0 ⟨rfl, rfl⟩
theorem gameF2 (hk : TT.ok P tt) (rd : Option Nat) (nn : Nat) {ops : Array Oper} {tab Fl R2 : List Nat} (hF : Flts tt ops Fl) (hc : tabChk ops tab = true) (hr2 : R2.Pairwise fun j i => anc tab i j = true) (hfr : ∀ j ∈ Fl, ∀ i ∈ R2, anc tab i j = true)
  (hnd : ∀ i ∈ R2, ∀ o, ops[i]? = some o → noDef o.op = true) {w0 : World} {M : List Ent} {F0 : Fz} {ds : List Deferred} {Q' : Exit → Act → World → Prop}
  {K : List PV → List Ent → Prop} (hQ : ∀ F' T' Γ' a' w', F0.le F' → Sim w0 F' (Γ' ++ M) w' → RepT F' T' a'.tmps.toList → a'.defers = ds → K T' Γ' → Q' .normal a' w') :
  ∀ (n : Nat) (e : FE) (fuel : Nat) (listed : Array Bool) (T : List PV) (Γ : List Ent) (F : Fz) (a : Act) (w : World), (pendE e Fl).length = n → n + R2.length ≤ fuel →
   Down ops listed → Pend ops listed (pendE e Fl ++ R2) → EOk tt ops e Fl → F0.le F → Sim w0 F (Γ ++ (entE e Fl ++ M)) w → RepT F (putE ops e Fl T) a.tmps.toList → a.defers = ds →
   (WOps P tt ops.toList (Fl.filterMap (ops[·]?)) T Γ [] fun T4 Γ4 _ => WOps P tt ops.toList (R2.filterMap (ops[·]?)) T4 Γ4 [] fun T' Γ' _ => K T' Γ') →
   wpAnyIn (Fen rd) nn P .any ops Q' fuel listed a w := by
 intro n
 induction n with
 | zero =>
  intro e fuel listed T Γ F a w hn hf hd hp hE hle hS hT hds h
  have hnil : pendE e Fl = [] := List.eq_nil_of_length_eq_zero hn
  obtain ⟨Γ4, h4, hpm⟩ := flts_done (e := e) Fl T Γ (fun i hi => by
   rcases hE i hi with h0 | ⟨o, f, b, ho, hf, he⟩
   ·have : i ∈ pendE e Fl := mem_pendE.2 ⟨hi, h0⟩
    rw [hnil] at this; cases this
   ·obtain ⟨o', f', ho', hg, _⟩ := hF.fl i hi
    rw [ho] at ho'; cases ho'
    exact ⟨o, f, b, ho, hg, hf, he⟩) h
  have hS4 : Sim w0 F (Γ4 ++ M) w := hS.perm (by
   rw [← List.append_assoc]
   exact (List.perm_append_comm.trans hpm.symm).append_right M)
  refine wpAny_chain hc R2 fuel listed a w (by omega) hd (by simpa [hnil] using hp) hr2 (wpOps_filter (fun _ => trivial) ops _ _ a w ?_)
  refine WOps_sound hk rd nn ops (ds := ds) (K := fun T' Γ' D' => D' = [] ∧ K T' Γ') ?_ _ (.inr (quiet_of fun o ho => by
   obtain ⟨j, hj, ho⟩ := List.mem_filterMap.1 ho
   exact hnd j hj o ho)) _ Γ4 [] F a w hle hS4 hT (by rw [hds]; exact DRel.nil F ds) (WOps_keep _ _ _ _ _ ?_ h4)
  ·rintro F' T' Γ' D' a' w' k1 k2 k3 ⟨new, k4, k5⟩ ⟨rfl, k6⟩
   have : new = [] := by cases new with
    | nil => rfl
    | cons d l => exact k5.elim
   subst this
   exact hQ F' T' Γ' a' w' k1 k2 k3 k4 k6
  ·intro o ho
   obtain ⟨j, hj, ho⟩ := List.mem_filterMap.1 ho
   exact hnd j hj o ho
 | succ n ih =>
  intro e fuel listed T Γ F a w hn hf hd hp hE hle hS hT hds h
  cases fuel with
  | zero => omega
  | succ fuel =>
  have hpos : ∃ j, j ∈ pendE e Fl := by
   cases hpe : pendE e Fl with
   | nil => rw [hpe] at hn; cases hn
   | cons j l => exact ⟨j, by simp⟩
  obtain ⟨j0, hj0⟩ := hpos
  refine ⟨fun hnil => ?_, fun i hi => ?_⟩
  ·exfalso
   cases hAR : pendE e Fl ++ R2 with
   | nil => simp at hAR; rw [hAR.1] at hn; cases hn
   | cons x xs =>
    rw [hAR] at hp
    obtain ⟨k, hk'⟩ := ready_exists hc hp
    rw [hnil] at hk'
    cases hk'
  ·obtain ⟨o, ho⟩ := hp.2.2 i (hp.ready hi)
   rcases List.mem_append.1 (hp.ready hi) with hm | hm
   ·obtain ⟨hiF, hie⟩ := mem_pendE.1 hm
    obtain ⟨l1, l2, hl⟩ := List.append_of_mem hm
    refine flt_step hk hF hiF hie ho hE hS hT ?_
    intro e' F' u w' hE' he' hle' hS' hT'
    have hpe : pendE e' Fl = l1 ++ l2 := by rw [he']; exact pendE_upd hF.nd hl
    have hlen : (pendE e Fl).length = l1.length + l2.length + 1 := by rw [hl]; simp; omega
    refine ih e' fuel _ T Γ F' _ w' (by rw [hpe]; simp; omega) (by omega) (hd.set hi) ?_ hE' (Fz.le_trans hle hle') hS' hT' ((put_defers a o.dst u).trans hds) h
    rw [hpe]
    have := Pend.set (l1 := l1) (l2 := l2 ++ R2) (i := i) (by rw [hl] at hp; simpa using hp)
    simpa using this
   ·exact (blocked hc hd i ho (hfr j0 (mem_pendE.1 hj0).1 i hm) ((hp.2.1 j0).2 (by simp [hj0])) hi).elim
def splitFB (tt : Nat → TI) (ops : Array Oper) (tab A R1 B Fl R2 : List Nat) : Bool :=
 tabChk ops tab &&
 pairB (fun j i => anc tab i j || apartAt ops j i) A && A.all (fun j => R1.all fun i => anc tab i j || apartAt ops j i) &&
 pairB (fun j i => anc tab i j) R1 && (A ++ R1).all (fun j => (B ++ R2).all fun i => anc tab i j) &&
 R1.all (fun i => match ops[i]? with | some o => o.guard.isNone | none => false) && (R1 ++ R2).all (fun i => match ops[i]? with | some o => noDef o.op | none => false) &&
 pairB (fun j i => anc tab i j || apartAt ops j i) B && pairB (fun j i => anc tab i j) R2 && B.all (fun j => R2.all fun i => anc tab i j) &&
 Fl.all (fun i => match ops[i]? with | some o => o.guard.isNone && (fltOf tt o.op).isSome | none => false) && pairB (fun j i => apartAt ops j i) Fl && (A ++ (R1 ++ B)).all (fun j => Fl.all fun i => apartAt ops j i) && Fl.all (fun j => R2.all fun i => anc tab i j) &&
 pairB (fun j i => !(Nat.beq j i)) (A ++ (R1 ++ (B ++ (Fl ++ R2)))) && (List.range ops.size).all (fun i => (A ++ (R1 ++ (B ++ (Fl ++ R2)))).contains i) && (A ++ (R1 ++ (B ++ (Fl ++ R2)))).all (fun i => Nat.blt i ops.size)
theorem PDraw.splitF (hk : TT.ok P tt) (hm : P.follows .mixedOrders = true) {ops : Array Oper} {T : List PV} {Γ Γ2 : List Ent} {K : List PV → List Ent → Prop} (tab A R1 B Fl R2 : List Nat) (Γ1 : List Ent)
  (hchk : splitFB tt ops tab A R1 B Fl R2 = true) [hp : PickL Γ Γ1 Γ2]
  (h : SSeq P tt ops.toList (pickO ops.toList A) T Γ2 fun T' => WOps P tt ops.toList (pickO ops.toList R1) T' Γ1 [] fun T2 Γ1' _ => appE Γ1' Γ2 fun Γ' =>
   SSeq P tt ops.toList (pickO ops.toList B) T2 Γ' fun T3 => WOps P tt ops.toList (pickO ops.toList Fl) T3 Γ' [] fun T4 Γ4 _ => WOps P tt ops.toList (pickO ops.toList R2) T4 Γ4 [] fun T' Γ' _ => K T' Γ') : PDraw P ops T Γ K := by
 refine ⟨fun rd nn id w0 F M w a Q' hS hT hQ => wpIn_region_any hm ?_⟩
 simp only [splitFB, Bool.and_eq_true] at hchk
 obtain ⟨⟨⟨⟨⟨⟨⟨⟨⟨⟨⟨⟨⟨⟨⟨⟨h0, h1⟩, h2⟩, h3⟩, h5⟩, h6⟩, h6'⟩, b1⟩, b2⟩, b3⟩, f1⟩, f2⟩, f3⟩, f4⟩, h7⟩, h8⟩, h9⟩ := hchk
 have hlt : ∀ i ∈ A ++ (R1 ++ (B ++ (Fl ++ R2))), i < ops.size := fun i hi => by
  have := List.all_eq_true.1 h9 i hi
  simpa [Nat.blt, Nat.succ_le_iff] using this
 have hnd : ∀ i ∈ R1 ++ R2, ∀ o, ops[i]? = some o → noDef o.op = true := by
  intro i hi o ho
  have := List.all_eq_true.1 h6' i hi
  rw [ho] at this
  exact this
 have hnodup : (A ++ (R1 ++ (B ++ (Fl ++ R2)))).Nodup := (pairB_iff h7).imp fun h => by
  intro e
  subst e
  simp at h
 have hpend : Pend ops (Array.replicate ops.size false) (A ++ (R1 ++ (B ++ (Fl ++ R2)))) := by
  refine ⟨hnodup, ?_, fun i hi => ⟨_, Array.getElem?_eq_getElem (hlt i hi)⟩⟩
  intro i
  constructor
  ·intro hi
   rcases Nat.lt_or_ge i ops.size with h' | h'
   ·have := List.all_eq_true.1 h8 i (List.mem_range.2 h')
    simpa only [List.contains_iff_mem] using this
   ·simp [Array.getElem?_eq_none, h'] at hi
  ·intro hi
   simp [hlt i hi]
 have hF : Flts tt ops Fl := by
  refine ⟨fun i hi => ?_, pairB_iff f2, ?_⟩
  ·have := List.all_eq_true.1 f1 i hi
   cases ho : ops[i]? with
   | none => rw [ho] at this; cases this
   | some o =>
    rw [ho] at this
    simp only [Bool.and_eq_true, Option.isNone_iff_eq_none, Option.isSome_iff_exists] at this
    obtain ⟨g, f, hf⟩ := this
    exact ⟨o, f, rfl, g, hf⟩
  ·exact hnodup.sublist (((List.sublist_append_left Fl R2).trans (List.sublist_append_right B _)).trans ((List.sublist_append_right R1 _).trans (List.sublist_append_right A _)))
 have hs1 : Split0 ops tab A R1 (B ++ R2) := by
  refine ⟨(pairB_iff h1).imp fun h => by simpa using h, fun j hj i hi => ?_, pairB_iff h3, fun j hj i hi => ?_, fun i hi o ho => ?_, fun i hi => hnd i (by simp [hi])⟩
  ·have := List.all_eq_true.1 (List.all_eq_true.1 h2 j hj) i hi
   simpa using this
  ·exact List.all_eq_true.1 (List.all_eq_true.1 h5 j hj) i hi
  ·have := List.all_eq_true.1 h6 i hi
   rw [ho] at this
   simpa using this
 have hs2 : Split0 ops tab B [] R2 := by
  refine ⟨(pairB_iff b1).imp fun h => by simpa using h, fun _ _ _ h => (by cases h), List.Pairwise.nil, fun j hj i hi => ?_, fun _ h => (by cases h), fun _ h => (by cases h)⟩
  exact List.all_eq_true.1 (List.all_eq_true.1 b3 j (by simpa using hj)) i hi
 have hfx : ∀ j ∈ A ++ (R1 ++ B), ∀ i ∈ Fl, apartAt ops j i = true := fun j hj i hi => List.all_eq_true.1 (List.all_eq_true.1 f3 j hj) i hi
 have hfr : ∀ j ∈ Fl, ∀ i ∈ R2, anc tab i j = true := fun j hj i hi => List.all_eq_true.1 (List.all_eq_true.1 f4 j hj) i hi
 have hlen : A.length + R1.length + (B.length + (Fl.length + R2.length)) ≤ ops.size := by
  have hsub : (A ++ (R1 ++ (B ++ (Fl ++ R2)))) ⊆ List.range ops.size := fun i hi => List.mem_range.2 (hlt i hi)
  have := hpend.1.length_le_of_subset hsub
  simpa [Nat.add_assoc] using this
 have hS' : Sim w0 F (Γ1 ++ (Γ2 ++ M)) { w with drawn := w.drawn + 1 } := by
  have := (hS.perm (hp.p.append_right M)).of_heap (w' := { w with drawn := w.drawn + 1 }) rfl rfl rfl rfl
  simpa using this
 have e0 : ∀ i ∈ Fl, (fun _ => none : FE) i = none := fun _ _ => rfl
 have p0 : pendE (fun _ => none) Fl = Fl := List.filter_eq_self.2 fun _ _ => rfl
 refine gameF hk rd nn hF h0 (w0 := w0) (tab := tab) (R2 := B ++ R2) (Γ2 := Γ2) (M := M) (F0 := F) (ds := a.defers) (Tl := fun T2 Γ' => SSeq P tt ops.toList (pickO ops.toList B) T2 Γ' fun T3 => WOps P tt ops.toList (pickO ops.toList Fl) T3 Γ' [] fun T4 Γ4 _ => WOps P tt ops.toList (pickO ops.toList R2) T4 Γ4 [] fun T' Γ' _ => K T' Γ') ?_
  _ A R1 (fun _ => none) ops.size _ T Γ1 F a _ rfl ?_ ?_ ?_ hs1 (fun j hj i hi => hfx j (by simp only [List.mem_append] at hj ⊢; rcases hj with h | h; exact .inl h; exact .inr (.inl h)) i hi) (fun i hi => .inl rfl) (Fz.le_refl F) ?_ ?_ rfl ?_
 ·intro fuel listed T2 Γ' e F' a' w' hf hd hpd hE hle hS2 hT2 hds ht
  refine gameF hk rd nn hF h0 (w0 := w0) (tab := tab) (R2 := R2) (Γ2 := Γ') (M := M) (F0 := F) (ds := a.defers) (Tl := fun T3 Γ' => WOps P tt ops.toList (pickO ops.toList Fl) T3 Γ' [] fun T4 Γ4 _ => WOps P tt ops.toList (pickO ops.toList R2) T4 Γ4 [] fun T' Γ' _ => K T' Γ') ?_
   _ B [] e fuel listed T2 [] F' a' w' rfl (by simp at hf ⊢; omega) hd ?_ hs2 (fun j hj i hi => hfx j (by simp at hj ⊢; exact .inr (.inr hj)) i hi) hE hle (by simpa using hS2) hT2 hds ?_
  ·intro fuel3 listed3 T3 Γ3 e3 F3 a3 w3 hf3 hd3 hpd3 hE3 hle3 hS3 hT3 hds3 ht3
   refine gameF2 hk rd nn hF h0 (pairB_iff b2) hfr (fun i hi => hnd i (by simp [hi])) (F0 := F) (ds := a.defers) hQ _ e3 fuel3 listed3 T3 Γ3 F3 a3 w3 rfl hf3 hd3 hpd3 hE3 hle3 hS3 hT3 hds3 ?_
   simpa only [pickO_eq, Array.getElem?_toList] using ht3
  ·simp only [List.nil_append]
   refine ⟨?_, fun i => ?_, fun i hi => hpd.2.2 i ?_⟩
   ·have hperm : (pendE e Fl ++ (B ++ R2)).Perm (B ++ (pendE e Fl ++ R2)) := by
     rw [← List.append_assoc, ← List.append_assoc]
     exact List.perm_append_comm.append_right R2
    exact hperm.nodup_iff.1 hpd.1
   ·rw [hpd.2.1 i]
    simp only [List.mem_append]
    constructor
    ·rintro (h | h | h)
     ·exact .inr (.inl h)
     ·exact .inl h
     ·exact .inr (.inr h)
    ·rintro (h | h | h)
     ·exact .inr (.inl h)
     ·exact .inl h
     ·exact .inr (.inr h)
   ·simp only [List.mem_append] at hi ⊢
    rcases hi with h | h | h
    ·exact .inr (.inl h)
    ·exact .inl h
    ·exact .inr (.inr h)
  ·simpa only [pickO_eq, Array.getElem?_toList, List.filterMap_nil, WOps, List.nil_append] using ht
 ·rw [p0]; simp; omega
 ·intro k o hk'
  rcases Nat.lt_or_ge k ops.size with h' | h'
  ·simp [h'] at hk'
  ·intro ho
   have := (Array.getElem?_eq_some_iff.1 ho).1
   omega
 ·rw [p0]
  refine ⟨?_, fun i => ?_, fun i hi => hpend.2.2 i ?_⟩
  ·have hperm : (A ++ (R1 ++ (B ++ (Fl ++ R2)))).Perm (A ++ (R1 ++ (Fl ++ (B ++ R2)))) := by
    refine List.Perm.append_left A (List.Perm.append_left R1 ?_)
    rw [← List.append_assoc, ← List.append_assoc]
    exact List.perm_append_comm.append_right R2
   exact hperm.nodup_iff.1 hpend.1
  ·rw [hpend.2.1 i]
   simp only [List.mem_append]
   constructor
   ·rintro (h | h | h | h | h)
    ·exact .inl h
    ·exact .inr (.inl h)
    ·exact .inr (.inr (.inr (.inl h)))
    ·exact .inr (.inr (.inl h))
    ·exact .inr (.inr (.inr (.inr h)))
   ·rintro (h | h | h | h | h)
    ·exact .inl h
    ·exact .inr (.inl h)
    ·exact .inr (.inr (.inr (.inl h)))
    ·exact .inr (.inr (.inl h))
    ·exact .inr (.inr (.inr (.inr h)))
  ·simp only [List.mem_append] at hi ⊢
   rcases hi with h | h | h | h | h
   ·exact .inl h
   ·exact .inr (.inl h)
   ·exact .inr (.inr (.inr (.inl h)))
   ·exact .inr (.inr (.inl h))
   ·exact .inr (.inr (.inr (.inr h)))
 ·rw [entE_none e0]; simpa using hS'
 ·rw [putE_none e0]; exact hT
 ·simpa only [pickO_eq, Array.getElem?_toList, appE_eq] using h
def entR (e : FE) : List Nat → List Ent → List Ent
 | [], Γ => Γ
 | i :: l, Γ => entR e l (match e i with
  | some x => x.2 :: Γ
  | none => Γ)
theorem entR_perm (e : FE) : ∀ (l : List Nat) (Γ : List Ent), (entR e l Γ).Perm (entE e l ++ Γ)
 | [], _ => List.Perm.refl _
 | i :: l, Γ => by
  rw [entR]
  refine (entR_perm e l _).trans ?_
  unfold entE
  rw [List.filterMap_cons]
  cases e i with
  | none => exact List.Perm.refl _
  | some x => exact List.perm_middle
theorem flts_run {ops : Array Oper} {e : FE} {K : List PV → List Ent → Ds → Prop} : ∀ (l : List Nat) (T : List PV) (Γ : List Ent), (∀ i ∈ l, ∃ o f b, ops[i]? = some o ∧ o.guard = none ∧ fltOf tt o.op = some f ∧ e i = some (f b)) →
  WOps P tt ops.toList (l.filterMap (ops[·]?)) T Γ [] K → K (putE ops e l T) (entR e l Γ) []
 | [], T, Γ, _, h => h
 | i :: l, T, Γ, hl, h => by
  rw [List.forall_mem_cons] at hl
  obtain ⟨o, f, b, ho, hg, hf, he⟩ := hl.1
  rw [List.filterMap_cons, ho] at h
  simp only [WOps, hg, WOpD_noDef (fltOf_noDef hf), putK_T] at h
  have h3 := flts_run l _ _ hl.2 ((fltOf_iff hf).1 h b)
  have hd : fDst ops i = o.dst := by simp [fDst, ho]
  rw [putE, entR, he, hd]
  exact h3
theorem SSeq_putE {ops : Array Oper} {e : FE} {Fl : List Nat} {Γ : List Ent} {k : List PV → Prop} : ∀ (l : List Nat) (T : List PV), (∀ j ∈ l, ∀ i ∈ Fl, apartAt ops j i = true) → Flts tt ops Fl →
  SSeq P tt ops.toList (l.filterMap (ops[·]?)) T Γ (fun T' => k (putE ops e Fl T')) → SSeq P tt ops.toList (l.filterMap (ops[·]?)) (putE ops e Fl T) Γ k
 | [], T, _, _, h => h
 | j :: l, T, ha, hF, h => by
  rw [List.forall_mem_cons] at ha
  cases ho : ops[j]? with
  | none => rw [List.filterMap_cons, ho] at h ⊢; exact SSeq_putE l T ha.2 hF h
  | some o =>
   rw [List.filterMap_cons, ho] at h ⊢
   obtain ⟨v, h1, h2⟩ := SSeq_cons.1 h
   have looks : ∀ f ∈ Fl, ∀ k, fDst ops f = some k → k ∉ o.looksAt ops := by
    intro f hf k hk
    have := ha.1 f hf
    obtain ⟨of, _, hof, _, _⟩ := hF.fl f hf
    simp only [apartAt, ho, hof] at this
    exact (Oper.apart_spec this).2.2 k (by simpa [fDst, hof] using hk)
   refine SSeq_cons.2 ⟨v, (SVal_putE looks).2 h1, ?_⟩
   have := SSeq_putE l _ ha.2 hF h2
   rwa [putE_put (fun f hf k hk hfk => apart_dst (ha.1 f hf) k hfk (by simp [fDst, ho, hk]))] at this
theorem gameG (hk : TT.ok P tt) (rd : Option Nat) (nn : Nat) {ops : Array Oper} {tab Fl R1 R2 : List Nat} (hF : Flts tt ops Fl) (hc : tabChk ops tab = true) (hfr : ∀ j ∈ Fl, ∀ i ∈ R1 ++ R2, anc tab i j = true) {w0 : World} {M Γ1 Γ2 : List Ent} {F0 : Fz} {ds : List Deferred} {Q' : Exit → Act → World → Prop}
  {K : List PV → List Ent → Prop} (hQ : ∀ F' T' Γ' a' w', F0.le F' → Sim w0 F' (Γ' ++ M) w' → RepT F' T' a'.tmps.toList → a'.defers = ds → K T' Γ' → Q' .normal a' w') :
  ∀ (n : Nat) (A : List Nat) (e : FE) (fuel : Nat) (listed : Array Bool) (T : List PV) (F : Fz) (a : Act) (w : World), A.length + (pendE e Fl).length = n → n + (R1.length + R2.length) ≤ fuel →
   Down ops listed → Pend ops listed (A ++ (pendE e Fl ++ (R1 ++ R2))) → Split ops tab A R1 R2 → (∀ j ∈ A, ∀ i ∈ Fl, apartAt ops j i = true) → EOk tt ops e Fl → F0.le F → Sim w0 F ((Γ1 ++ Γ2) ++ (entE e Fl ++ M)) w → RepT F (putE ops e Fl T) a.tmps.toList → a.defers = ds →
   (SSeq P tt ops.toList (A.filterMap (ops[·]?)) T Γ2 fun T' => WOps P tt ops.toList (Fl.filterMap (ops[·]?)) T' Γ1 [] fun T1 Γ1' _ => WOps P tt ops.toList (R1.filterMap (ops[·]?)) T1 Γ1' [] fun T2 Γ1' _ => WOps P tt ops.toList (R2.filterMap (ops[·]?)) T2 (Γ1' ++ Γ2) [] fun T' Γ' _ => K T' Γ') →
   wpAnyIn (Fen rd) nn P .any ops Q' fuel listed a w := by
 have done : ∀ (A : List Nat) (e : FE) (fuel : Nat) (listed : Array Bool) (T : List PV) (F : Fz) (a : Act) (w : World), pendE e Fl = [] → A.length + (R1.length + R2.length) ≤ fuel →
   Down ops listed → Pend ops listed (A ++ (pendE e Fl ++ (R1 ++ R2))) → Split ops tab A R1 R2 → (∀ j ∈ A, ∀ i ∈ Fl, apartAt ops j i = true) → EOk tt ops e Fl → F0.le F → Sim w0 F ((Γ1 ++ Γ2) ++ (entE e Fl ++ M)) w → RepT F (putE ops e Fl T) a.tmps.toList → a.defers = ds →
   (SSeq P tt ops.toList (A.filterMap (ops[·]?)) T Γ2 fun T' => WOps P tt ops.toList (Fl.filterMap (ops[·]?)) T' Γ1 [] fun T1 Γ1' _ => WOps P tt ops.toList (R1.filterMap (ops[·]?)) T1 Γ1' [] fun T2 Γ1' _ => WOps P tt ops.toList (R2.filterMap (ops[·]?)) T2 (Γ1' ++ Γ2) [] fun T' Γ' _ => K T' Γ') →
   wpAnyIn (Fen rd) nn P .any ops Q' fuel listed a w := by
  intro A e fuel listed T F a w hnil hf hd hp hsp hfx hE hle hS hT hds h
  have hall : ∀ i ∈ Fl, ∃ o f b, ops[i]? = some o ∧ o.guard = none ∧ fltOf tt o.op = some f ∧ e i = some (f b) := fun i hi => by
   rcases hE i hi with h0 | ⟨o, f, b, ho, hf, he⟩
   ·have : i ∈ pendE e Fl := mem_pendE.2 ⟨hi, h0⟩
    rw [hnil] at this; cases this
   ·obtain ⟨o', f', ho', hg, _⟩ := hF.fl i hi
    rw [ho] at ho'; cases ho'
    exact ⟨o, f, b, ho, hg, hf, he⟩
  have h2 := SSeq_putE (e := e) (k := fun T1 => WOps P tt ops.toList (R1.filterMap (ops[·]?)) T1 (entR e Fl Γ1) [] fun T2 Γ1' _ => WOps P tt ops.toList (R2.filterMap (ops[·]?)) T2 (Γ1' ++ Γ2) [] fun T' Γ' _ => K T' Γ') A T hfx hF (by
   have mono : ∀ (l : List Oper) (T : List PV) (k k' : List PV → Prop), (∀ T, k T → k' T) → SSeq P tt ops.toList l T Γ2 k → SSeq P tt ops.toList l T Γ2 k' := by
    intro l
    induction l with
    | nil => intro T k k' hk h; exact hk T h
    | cons o l ih => intro T k k' hk h; obtain ⟨v, h1, h2⟩ := SSeq_cons.1 h; exact SSeq_cons.2 ⟨v, h1, ih _ _ _ hk h2⟩
   exact mono _ _ _ _ (fun T' h => flts_run Fl T' Γ1 hall h) h)
  refine game hk rd nn hc (R2 := R2) (Γ2 := Γ2) (F0 := F0) (ds := ds) hQ _ A R1 fuel listed _ (entR e Fl Γ1) F a w rfl (by omega) hd (by simpa [hnil] using hp) hsp hle (hS.perm ?_) hT hds h2
  have h3 := (entR_perm e Fl Γ1).symm.append_right (Γ2 ++ M)
  refine List.Perm.trans ?_ h3
  have h4 : (Γ1 ++ Γ2 ++ (entE e Fl ++ M)).Perm (entE e Fl ++ (Γ1 ++ Γ2 ++ M)) := by
   rw [← List.append_assoc (Γ1 ++ Γ2), ← List.append_assoc (entE e Fl)]
   exact List.perm_append_comm.append_right M
  simpa using h4
 intro n
 induction n with
 | zero =>
  intro A e fuel listed T F a w hn hf hd hp hsp hfx hE hle hS hT hds h
  exact done A e fuel listed T F a w (List.eq_nil_of_length_eq_zero (by omega)) (by omega) hd hp hsp hfx hE hle hS hT hds h
 | succ n ih =>
  intro A e fuel listed T F a w hn hf hd hp hsp hfx hE hle hS hT hds h
  by_cases hnil : pendE e Fl = []
  ·exact done A e fuel listed T F a w hnil (by rw [hnil] at hn; simp at hn; omega) hd hp hsp hfx hE hle hS hT hds h
  obtain ⟨j0, hj0⟩ : ∃ j, j ∈ pendE e Fl := List.exists_mem_of_ne_nil _ hnil
  cases fuel with
  | zero => omega
  | succ fuel =>
  refine ⟨fun hnil => ?_, fun i hi => ?_⟩
  ·exfalso
   cases hAR : A ++ (pendE e Fl ++ (R1 ++ R2)) with
   | nil => simp at hAR; rw [hAR.2.1] at hj0; cases hj0
   | cons x xs =>
    rw [hAR] at hp
    obtain ⟨k, hk'⟩ := ready_exists hc hp
    rw [hnil] at hk'
    cases hk'
  ·obtain ⟨o, ho⟩ := hp.2.2 i (hp.ready hi)
   have un : ∀ {j : Nat}, j ∈ A ++ (pendE e Fl ++ (R1 ++ R2)) → anc tab i j = true → False := fun {j} hj ha => blocked hc hd i ho ha ((hp.2.1 j).2 hj) hi
   have free : ∀ {j : Nat} {x : Oper}, j ∈ A ++ (pendE e Fl ++ (R1 ++ R2)) → ops[j]? = some x → (anc tab i j = true ∨ apartAt ops j i = true) → x.apart ops o = true := by
    intro j x hj hx h
    rcases h with h | h
    ·exact (un hj h).elim
    ·simpa [apartAt, hx, ho] using h
   have hmem := hp.ready hi
   rw [List.mem_append, List.mem_append] at hmem
   rcases hmem with hm | hm | hm
   ·
    have looks : ∀ f ∈ Fl, ∀ k, fDst ops f = some k → k ∉ o.looksAt ops := by
     intro f hf k hk
     have := hfx i hm f hf
     obtain ⟨of, _, hof, _, _⟩ := hF.fl f hf
     simp only [apartAt, ho, hof] at this
     exact (Oper.apart_spec this).2.2 k (by simpa [fDst, hof] using hk)
    have dsts : ∀ f ∈ Fl, ∀ k, o.dst = some k → fDst ops f ≠ some k := fun f hf k hk hfk => apart_dst (hfx i hm f hf) k hfk (by simp [fDst, ho, hk])
    obtain ⟨A1, A2, rfl⟩ := List.append_of_mem hm
    rw [filterMap_split ho] at h
    have hap : ∀ x ∈ A1.filterMap (ops[·]?), x.apart ops o = true := by
     intro x hx
     obtain ⟨j, hj, hx⟩ := List.mem_filterMap.1 hx
     exact free (by simp [hj]) hx ((List.pairwise_append.1 hsp.pa).2.2 j hj i (by simp))
    obtain ⟨v, h1, h2⟩ := SSeq_move _ T hap h
    have h1' := (SVal_putE (e := e) looks).2 h1
    have hS2 : Sim w0 F (Γ2 ++ (Γ1 ++ (entE e Fl ++ M))) w := hS.perm (by
     rw [← List.append_assoc Γ2]
     exact List.perm_append_comm.append_right _)
    unfold wpOpIn
    simp only [ho]
    have key := SVal_sound hk (rd := rd) (nn := nn) (Q := Q') (next := fun a w => wpAnyIn (Fen rd) nn P .any ops Q' fuel (listed.setIfInBounds i true) a w) hS2 hT h1' ?_
    ·split at key <;> rename_i hw
     ·rw [if_pos hw]; exact key
     ·rw [if_neg hw]; exact ⟨fun _ _ => trivial, key⟩
    intro F' u w' hle' hS' hx
    refine ih (A1 ++ A2) e fuel _ (putT T o.dst v) F' _ w' (by simp at hn ⊢; omega) (by omega) (hd.set hi) ?_ hsp.dropA (fun j hj => hfx j ?_) hE (Fz.le_trans hle hle') ?_ ?_
     ((put_defers a o.dst u).trans hds) ?_
    ·have := Pend.set (l1 := A1) (l2 := A2 ++ (pendE e Fl ++ (R1 ++ R2))) (i := i) (by simpa using hp)
     rwa [List.append_assoc]
    ·simp only [List.mem_append, List.mem_cons] at hj ⊢
     rcases hj with h | h
     ·exact .inl h
     ·exact .inr (.inr h)
    ·exact hS'.perm (by
      rw [← List.append_assoc Γ2]
      exact List.perm_append_comm.append_right _)
    ·rw [putE_put dsts]
     exact put_rep (RepT.mono hle' _ _ hT) hx o.dst
    ·rw [List.filterMap_append]; exact h2
   ·
    obtain ⟨hiF, hie⟩ := mem_pendE.1 hm
    obtain ⟨l1, l2, hl⟩ := List.append_of_mem hm
    refine flt_step hk hF hiF hie ho hE hS hT ?_
    intro e' F' u w' hE' he' hle' hS' hT'
    have hpe : pendE e' Fl = l1 ++ l2 := by rw [he']; exact pendE_upd hF.nd hl
    have hlen : (pendE e Fl).length = l1.length + l2.length + 1 := by rw [hl]; simp; omega
    refine ih A e' fuel _ T F' _ w' (by rw [hpe]; simp; omega) (by omega) (hd.set hi) ?_ hsp hfx hE' (Fz.le_trans hle hle') hS' hT' ((put_defers a o.dst u).trans hds) h
    rw [hpe]
    have := Pend.set (l1 := A ++ l1) (l2 := l2 ++ (R1 ++ R2)) (i := i) (by rw [hl] at hp; simpa using hp)
    simpa using this
   ·exact (un (j := j0) (by simp [hj0]) (hfr j0 (mem_pendE.1 hj0).1 i (by simpa using hm))).elim
def splitGB (tt : Nat → TI) (ops : Array Oper) (tab A Fl R1 R2 : List Nat) : Bool :=
 tabChk ops tab &&
 pairB (fun j i => anc tab i j || apartAt ops j i) A && A.all (fun j => R1.all fun i => anc tab i j || apartAt ops j i) &&
 pairB (fun j i => anc tab i j) R1 && pairB (fun j i => anc tab i j) R2 &&
 (A ++ R1).all (fun j => R2.all fun i => anc tab i j) &&
 R1.all (fun i => match ops[i]? with | some o => o.guard.isNone | none => false) && (R1 ++ R2).all (fun i => match ops[i]? with | some o => noDef o.op | none => false) &&
 Fl.all (fun i => match ops[i]? with | some o => o.guard.isNone && (fltOf tt o.op).isSome | none => false) && pairB (fun j i => apartAt ops j i) Fl && A.all (fun j => Fl.all fun i => apartAt ops j i) && Fl.all (fun j => (R1 ++ R2).all fun i => anc tab i j) &&
 pairB (fun j i => !(Nat.beq j i)) (A ++ (Fl ++ (R1 ++ R2))) && (List.range ops.size).all (fun i => (A ++ (Fl ++ (R1 ++ R2))).contains i) && (A ++ (Fl ++ (R1 ++ R2))).all (fun i => Nat.blt i ops.size)
theorem PDraw.splitG (hk : TT.ok P tt) (hm : P.follows .mixedOrders = true) {ops : Array Oper} {T : List PV} {Γ Γ2 : List Ent} {K : List PV → List Ent → Prop} (tab A Fl R1 R2 : List Nat) (Γ1 : List Ent)
  (hchk : splitGB tt ops tab A Fl R1 R2 = true) [hp : PickL Γ Γ1 Γ2]
  (h : SSeq P tt ops.toList (pickO ops.toList A) T Γ2 fun T' => WOps P tt ops.toList (pickO ops.toList Fl) T' Γ1 [] fun T1 Γ1' _ => WOps P tt ops.toList (pickO ops.toList R1) T1 Γ1' [] fun T2 Γ1' _ => appE Γ1' Γ2 fun Γ' => WOps P tt ops.toList (pickO ops.toList R2) T2 Γ' [] fun T' Γ' _ => K T' Γ') : PDraw P ops T Γ K := by
 refine ⟨fun rd nn id w0 F M w a Q' hS hT hQ => wpIn_region_any hm ?_⟩
 simp only [splitGB, Bool.and_eq_true] at hchk
 obtain ⟨⟨⟨⟨⟨⟨⟨⟨⟨⟨⟨⟨⟨⟨h0, h1⟩, h2⟩, h3⟩, h4⟩, h5⟩, h6⟩, h6'⟩, f1⟩, f2⟩, f3⟩, f4⟩, h7⟩, h8⟩, h9⟩ := hchk
 have hlt : ∀ i ∈ A ++ (Fl ++ (R1 ++ R2)), i < ops.size := fun i hi => by
  have := List.all_eq_true.1 h9 i hi
  simpa [Nat.blt, Nat.succ_le_iff] using this
 have hnodup : (A ++ (Fl ++ (R1 ++ R2))).Nodup := (pairB_iff h7).imp fun h => by
  intro e
  subst e
  simp at h
 have hpend : Pend ops (Array.replicate ops.size false) (A ++ (Fl ++ (R1 ++ R2))) := by
  refine ⟨hnodup, ?_, fun i hi => ⟨_, Array.getElem?_eq_getElem (hlt i hi)⟩⟩
  intro i
  constructor
  ·intro hi
   rcases Nat.lt_or_ge i ops.size with h' | h'
   ·have := List.all_eq_true.1 h8 i (List.mem_range.2 h')
    simpa only [List.contains_iff_mem] using this
   ·simp [Array.getElem?_eq_none, h'] at hi
  ·intro hi
   simp [hlt i hi]
 have hF : Flts tt ops Fl := by
  refine ⟨fun i hi => ?_, pairB_iff f2, ?_⟩
  ·have := List.all_eq_true.1 f1 i hi
   cases ho : ops[i]? with
   | none => rw [ho] at this; cases this
   | some o =>
    rw [ho] at this
    simp only [Bool.and_eq_true, Option.isNone_iff_eq_none, Option.isSome_iff_exists] at this
    obtain ⟨g, f, hf⟩ := this
    exact ⟨o, f, rfl, g, hf⟩
  ·exact hnodup.sublist ((List.sublist_append_left Fl _).trans (List.sublist_append_right A _))
 have hs1 : Split ops tab A R1 R2 := by
  refine ⟨(pairB_iff h1).imp fun h => by simpa using h, fun j hj i hi => ?_, pairB_iff h3, pairB_iff h4, fun j hj i hi => List.all_eq_true.1 (List.all_eq_true.1 h5 j hj) i hi, fun i hi o ho => ?_, fun i hi o ho => ?_⟩
  ·have := List.all_eq_true.1 (List.all_eq_true.1 h2 j hj) i hi
   simpa using this
  ·have := List.all_eq_true.1 h6 i hi
   rw [ho] at this
   simpa using this
  ·have := List.all_eq_true.1 h6' i hi
   rw [ho] at this
   exact this
 have hlen : A.length + (Fl.length + (R1.length + R2.length)) ≤ ops.size := by
  have hsub : (A ++ (Fl ++ (R1 ++ R2))) ⊆ List.range ops.size := fun i hi => List.mem_range.2 (hlt i hi)
  have := hpend.1.length_le_of_subset hsub
  simpa [Nat.add_assoc] using this
 have hS' : Sim w0 F (Γ1 ++ (Γ2 ++ M)) { w with drawn := w.drawn + 1 } := by
  have := (hS.perm (hp.p.append_right M)).of_heap (w' := { w with drawn := w.drawn + 1 }) rfl rfl rfl rfl
  simpa using this
 have e0 : ∀ i ∈ Fl, (fun _ => none : FE) i = none := fun _ _ => rfl
 have p0 : pendE (fun _ => none) Fl = Fl := List.filter_eq_self.2 fun _ _ => rfl
 refine gameG hk rd nn hF h0 (w0 := w0) (tab := tab) (R1 := R1) (R2 := R2) (Γ1 := Γ1) (Γ2 := Γ2) (M := M) (F0 := F) (ds := a.defers) (fun j hj i hi => List.all_eq_true.1 (List.all_eq_true.1 f4 j hj) i hi) hQ
  _ A (fun _ => none) ops.size _ T F a _ rfl ?_ ?_ (by rw [p0]; exact hpend) hs1 (fun j hj i hi => List.all_eq_true.1 (List.all_eq_true.1 f3 j hj) i hi) (fun i hi => .inl rfl) (Fz.le_refl F) ?_ ?_ rfl ?_
 ·rw [p0]; omega
 ·intro k o hk'
  rcases Nat.lt_or_ge k ops.size with h' | h'
  ·simp [h'] at hk'
  ·intro ho
   have := (Array.getElem?_eq_some_iff.1 ho).1
   omega
 ·rw [entE_none e0]; simpa using hS'
 ·rw [putE_none e0]; exact hT
 ·simpa only [pickO_eq, Array.getElem?_toList, appE_eq] using h
theorem PDraw.sF (d : Option Nat) {ops : Array Oper} (hd : fstDst ops = d) (Γ1 : List Ent) (R1 B Fl R2 : List Nat) (hk : TT.ok P tt) (hm : P.follows .mixedOrders = true) {T : List PV} {Γ Γ2 : List Ent} {K : List PV → List Ent → Prop} [hp : PickL Γ Γ1 Γ2]
  (h : SSeq P tt ops.toList (pickO ops.toList (restL ops.toList 0 (R1 ++ (B ++ (Fl ++ R2))))) T Γ2 fun T' => WOps P tt ops.toList (pickO ops.toList R1) T' Γ1 [] fun T2 Γ1' _ => appE Γ1' Γ2 fun Γ' =>
   SSeq P tt ops.toList (pickO ops.toList B) T2 Γ' fun T3 => WOps P tt ops.toList (pickO ops.toList Fl) T3 Γ' [] fun T4 Γ4 _ => WOps P tt ops.toList (pickO ops.toList R2) T4 Γ4 [] fun T' Γ' _ => K T' Γ')
  (hchk : splitFB tt ops (tabOf ops.toList []) (restL ops.toList 0 (R1 ++ (B ++ (Fl ++ R2)))) R1 B Fl R2 = true := by kernel_rfl) : PDraw P ops T Γ K :=
 PDraw.splitF hk hm _ _ R1 B Fl R2 Γ1 hchk h
theorem PDraw.sG (d : Option Nat) {ops : Array Oper} (hd : fstDst ops = d) (Γ1 : List Ent) (Fl R1 R2 : List Nat) (hk : TT.ok P tt) (hm : P.follows .mixedOrders = true) {T : List PV} {Γ Γ2 : List Ent} {K : List PV → List Ent → Prop} [hp : PickL Γ Γ1 Γ2]
  (h : SSeq P tt ops.toList (pickO ops.toList (restL ops.toList 0 (Fl ++ (R1 ++ R2)))) T Γ2 fun T' => WOps P tt ops.toList (pickO ops.toList Fl) T' Γ1 [] fun T1 Γ1' _ => WOps P tt ops.toList (pickO ops.toList R1) T1 Γ1' [] fun T2 Γ1' _ => appE Γ1' Γ2 fun Γ' => WOps P tt ops.toList (pickO ops.toList R2) T2 Γ' [] fun T' Γ' _ => K T' Γ')
  (hchk : splitGB tt ops (tabOf ops.toList []) (restL ops.toList 0 (Fl ++ (R1 ++ R2))) Fl R1 R2 = true := by kernel_rfl) : PDraw P ops T Γ K :=
 PDraw.splitG hk hm _ _ Fl R1 R2 Γ1 hchk h
end
end Go.Cb
namespace Go.Cb
theorem PIndexA.ixE {α : Type} {f : α → PV} {g : α → List PV} [c : CellsOf f g] {sz : Nat} {l : List α} {tk : Option Tok} {k : IntKind} {n : Int} {i : Nat} [x : IdxOf n i] {K : PV → Prop} (d : α) (h0 : 0 ≤ n) (h : n < l.length)
  (hk : K (.ep (g (l.getD i d)))) : PIndexA sz (.sl sz (l.map f) tk) (.int k n) K := by
 have hi := IdxOf.lt h0 h
 refine PIndexA.ix h0 h ?_
 have e : l.getD i d = l[i] := by simp [List.getD, hi]
 rwa [e] at hk
end Go.Cb
namespace Go.Cb
open Go.Proofs
set_option maxRecDepth 100000
class Dfl (α : Type) where
 d : α
instance : Dfl Int := ⟨0⟩
instance : Dfl UInt8 := ⟨0⟩
instance : Dfl Trm := ⟨.mk 0 0 [] []⟩
instance : Dfl Datum := ⟨.mk 0 0 0 [] []⟩
theorem zPG {α : Type} {f : α → PV} {g : α → List PV} [c : CellsOf f g] {sz : Nat} {l : List α} {tk : Option Tok} {k : IntKind} {n : Int} {i : Nat} [x : IdxOf n i] {K : PV → Prop} [q : Dfl α] (h0 : 0 ≤ n) (h : n < l.length)
  (hk : K (.ep (g (l.getD i q.d)))) : PIndexA sz (.sl sz (l.map f) tk) (.int k n) K := PIndexA.ixE q.d h0 h hk
theorem stB {p : Prop} (h : p := by
 conv => whnf
 repeat ((first|(refine zW ?_ ?_; exact gA)|refine zH rfl ?_|refine zA ?_|refine zI bA ?_|refine zI rfl ?_|refine zJ rfl rfl ?_|refine zB ?_|refine zK rfl ?_|refine zL rfl ?_|refine zC ?_|(refine zO ?_ ?_ ?_; exact OA; exact OA)|(refine zPG ?_ ?_ ?_; exact OA; exact OA)|refine zM rfl ?_|(refine zQ ?_ ?_ ?_; exact OA; exact OA)|(refine zR ?_ ?_; exact OA)|(refine zI ?_ ?_; exact NA)|(refine zS ?_ ?_ ?_; exact OA; exact OA)|(refine zT ?_ ?_ ?_; exact OA; exact OA)|(refine zU ?_ ?_ ?_; exact OA; exact OA)|(refine zV ?_ ?_ ?_; exact OA; exact OA)|intro _); conv=>whnf)
 first | exact PShift.same | exact PShift.lit | exact PShift.ep) : p := h
class ElOf {α : Type} (f : α → PV) (x : PV) (v : outParam α) : Prop where
 wk : Wk x (f v)
 wl : WkL x.cellsOf (f v).cellsOf
class RowOf {α : Type} (f : α → PV) (es : List PV) (l : outParam (List α)) : Prop where
 h : WkR es (l.map f)
class SlOf {α : Type} (f : α → PV) (s : Nat) (x : PV) (l : outParam (List α)) : Prop where
 wk : Wk x (.sl s (l.map f) none)
instance (priority := high) RowOf.map {α : Type} (f : α → PV) (l : List α) : RowOf f (l.map f) l := ⟨WkR.refl _⟩
instance RowOf.nil {α : Type} (f : α → PV) : RowOf f [] [] := ⟨.nil⟩
instance RowOf.cons {α : Type} (f : α → PV) (x : PV) (es : List PV) (v : α) (l : List α) [h : ElOf f x v] [k : RowOf f es l] : RowOf f (x :: es) (v :: l) := ⟨.cons h.wl k.h⟩
instance SlOf.nil {α : Type} (f : α → PV) (s : Nat) : SlOf f s .nil [] := ⟨Wk.nil' rfl⟩
instance SlOf.sl {α : Type} (f : α → PV) (s : Nat) (es : List PV) (l : List α) (tk : Option Tok) [h : RowOf f es l] : SlOf f s (.sl s es tk) l := ⟨Wk.trans (Wk.tok _ _ _) (Wk.row h.h)⟩
theorem WkL.one {x y : PV} (h : Wk x y) : WkL [x] [y] := .cons h .nil
instance (k : IntKind) (n : Int) : ElOf (PV.int k) (.int k n) n := ⟨Wk.refl _, WkL.refl _⟩
instance (b : Bool) : ElOf PV.bool (.bool b) b := ⟨Wk.refl _, WkL.refl _⟩
instance (s : List UInt8) : ElOf PV.str (.str s) s := ⟨Wk.refl _, WkL.refl _⟩
instance (priority := high) ElOf.same (t : Trm) : ElOf Trm.pv (Trm.pv t) t := ⟨Wk.refl _, WkL.refl _⟩
instance (priority := high) ElOf.cells (t : Trm) : ElOf Trm.pv (.agg t.cells) t := ⟨by rw [Trm.pv_eq]; exact Wk.refl _, by rw [Trm.pv_eq]; exact WkL.refl _⟩
theorem ElOf.ofL {x : List PV} {t : Trm} (h : WkL x t.cells) : ElOf Trm.pv (.agg x) t := ⟨by rw [Trm.pv_eq]; exact Wk.agg h, by rw [Trm.pv_eq]; exact h⟩
instance (priority := high) ElOf.parts (t : Trm) (tk1 tk2 : Option Tok) : ElOf Trm.pv (.agg [.int .i64 (Trm.op t), .int .i64 (Trm.n t), .sl 1 ((Trm.v t).map (PV.int .i64)) tk1, .sl 4 ((Trm.t t).map Trm.pv) tk2]) t :=
 ElOf.ofL (.cons (Wk.refl _) (.cons (Wk.refl _) (.cons (Wk.tok _ _ _) (.cons (Wk.tok _ _ _) .nil))))
instance ElOf.mk' (a b : Int) (x y : PV) (v : List Int) (t : List Trm) [h : SlOf (PV.int .i64) 1 x v] [k : SlOf Trm.pv 4 y t] : ElOf Trm.pv (.agg [.int .i64 a, .int .i64 b, x, y]) (.mk a b v t) :=
 ElOf.ofL (.cons (Wk.refl _) (.cons (Wk.refl _) (.cons h.wk (.cons k.wk .nil))))
theorem TrmOf.wk {x : PV} {t : Trm} [h : ElOf Trm.pv x t] : Wk x (.agg t.cells) := by rw [← Trm.pv_eq]; exact h.wk
instance (priority := high) ElOf.dsame (t : Datum) : ElOf Datum.pv (Datum.pv t) t := ⟨Wk.refl _, WkL.refl _⟩
instance (priority := high) ElOf.dcells (t : Datum) : ElOf Datum.pv (.agg t.cells) t := ⟨by rw [Datum.pv_eq]; exact Wk.refl _, by rw [Datum.pv_eq]; exact WkL.refl _⟩
theorem ElOf.ofD {x : List PV} {t : Datum} (h : WkL x t.cells) : ElOf Datum.pv (.agg x) t := ⟨by rw [Datum.pv_eq]; exact Wk.agg h, by rw [Datum.pv_eq]; exact h⟩
instance (priority := high) ElOf.dparts (t : Datum) (tk : Option Tok) : ElOf Datum.pv (.agg [.int .i64 (Datum.kind t), .int .i64 (Datum.n t), .int .i64 (Datum.d t), .str (Datum.s t), .sl 5 ((Datum.l t).map Datum.pv) tk]) t :=
 ElOf.ofD (.cons (Wk.refl _) (.cons (Wk.refl _) (.cons (Wk.refl _) (.cons (Wk.refl _) (.cons (Wk.tok _ _ _) .nil)))))
instance ElOf.dmk (a b c : Int) (s : List UInt8) (x : PV) (l : List Datum) [h : SlOf Datum.pv 5 x l] : ElOf Datum.pv (.agg [.int .i64 a, .int .i64 b, .int .i64 c, .str s, x]) (.mk a b c s l) :=
 ElOf.ofD (.cons (Wk.refl _) (.cons (Wk.refl _) (.cons (Wk.refl _) (.cons (Wk.refl _) (.cons h.wk .nil)))))
section
theorem bytes_ok {n by_ : Nat} (hb : Nat.ble by_ 4096 = true) (h : n ≤ 34359738368) : n * by_ ≤ 140737488355328 :=
 Nat.le_trans (Nat.mul_le_mul h (Nat.le_of_ble_eq_true hb)) (by decide)
theorem PAppend.more {α : Type} {f : α → PV} {l m : List α} {es : List PV} {s by_ : Nat} {e : TypeId} {tk : Option Tok} {t : Tok} {Γ : List Ent} {put : Tok → List Ent} [hp : PickTok Γ t put] [hm : RowOf f es m] {K : PV → List Ent → Prop} (he : t.e = e)
  (hb : Nat.ble by_ 4096 = true) (h1 : l.length + m.length ≤ 34359738368)
  (k : ∀ t' : Tok, t'.e = e → K (.sl s ((l ++ m).map f) (some t')) (put t')) : PAppend s by_ e (.sl s (l.map f) (some t)) (.sl s es tk) Γ K := by
 obtain ⟨Γ1, Γ2, e1, e2⟩ := hp.at_
 refine ⟨l.map f, m.map f, .inl ⟨tk, Wk.row hm.h⟩, by simp; omega, by simpa using bytes_ok hb h1, .inr (.inl ⟨t, Γ1, Γ2, rfl, e1, he, fun t' ht => ?_⟩)⟩
 have := k t' ht
 rw [List.map_append, e2] at this
 exact this
theorem PAppend.empty {ys : List PV} {s by_ : Nat} {e : TypeId} {tk : Option Tok} {t : Tok} {Γ : List Ent} {put : Tok → List Ent} [hp : PickTok Γ t put] {K : PV → List Ent → Prop} (he : t.e = e)
  (hb : Nat.ble by_ 4096 = true) (h1 : ys.length ≤ 34359738368)
  (k : ∀ t' : Tok, t'.e = e → K (.sl s ys (some t')) (put t')) : PAppend s by_ e (.sl s [] (some t)) (.sl s ys tk) Γ K := by
 obtain ⟨Γ1, Γ2, e1, e2⟩ := hp.at_
 refine ⟨[], ys, .inl ⟨tk, Wk.refl _⟩, by simp; omega, by simpa using bytes_ok hb h1, .inr (.inl ⟨t, Γ1, Γ2, rfl, e1, he, fun t' ht => ?_⟩)⟩
 have := k t' ht
 rw [e2] at this
 exact this
theorem PAppend.ofNil {ys : List PV} {s by_ : Nat} {e : TypeId} {tk : Option Tok} {Γ : List Ent} {K : PV → List Ent → Prop}
  (hb : Nat.ble by_ 4096 = true) (h1 : ys.length ≤ 34359738368)
  (k : ∀ t : Tok, t.e = e → K (.sl s ys (some t)) (.tok t :: Γ)) : PAppend s by_ e .nil (.sl s ys tk) Γ K :=
 ⟨[], ys, .inl ⟨tk, Wk.refl _⟩, by simp; omega, by simpa using bytes_ok hb h1, .inl ⟨rfl, rfl, .inl k⟩⟩
end
class TokL (Γ : List Ent) (Γ1 Γ2 : outParam (List Ent)) : Prop where
 p : Γ.Perm (Γ1 ++ Γ2)
instance TokL.nil : TokL [] [] [] := ⟨List.Perm.refl _⟩
instance (priority := high) TokL.tok (t : Tok) (Γ Γ1 Γ2 : List Ent) [h : TokL Γ Γ1 Γ2] : TokL (.tok t :: Γ) (.tok t :: Γ1) Γ2 := ⟨h.p.cons _⟩
instance TokL.other (e : Ent) (Γ Γ1 Γ2 : List Ent) [h : TokL Γ Γ1 Γ2] : TokL (e :: Γ) Γ1 (e :: Γ2) := ⟨(h.p.cons e).trans List.perm_middle.symm⟩
section
variable {P : Program} {tt : Nat → TI}
theorem PDraw.sT (d : Option Nat) {ops : Array Oper} (hd : fstDst ops = d) (R1 R2 : List Nat) {T : List PV} {Γ Γ1 Γ2 : List Ent} {K : List PV → List Ent → Prop} (hk : TT.ok P tt) (hm : P.follows .mixedOrders = true) [hp : TokL Γ Γ1 Γ2]
  (h : SSeq P tt ops.toList (pickO ops.toList (restL ops.toList 0 (R1 ++ R2))) T Γ2 fun T' => WOps P tt ops.toList (pickO ops.toList R1) T' Γ1 [] fun T2 Γ1' _ => appE Γ1' Γ2 fun Γ' => WOps P tt ops.toList (pickO ops.toList R2) T2 Γ' [] fun T' Γ' _ => K T' Γ')
  (hchk : splitB ops (tabOf ops.toList []) (restL ops.toList 0 (R1 ++ R2)) R1 R2 = true := by kernel_rfl) : PDraw P ops T Γ K :=
 PDraw.split hk hm _ _ R1 R2 Γ1 (hp := ⟨hp.p⟩) hchk h
end
theorem yA : type_of% @PAppend.more := @PAppend.more
theorem yB : type_of% @PAppend.empty := @PAppend.empty
theorem yC : type_of% @PAppend.ofNil := @PAppend.ofNil
theorem lA {p : Prop} (h : p := by first | omega | (simp only [List.length_cons, List.length_nil, List.length_map, List.length_append, List.length_take, List.length_drop]; omega)) : p := h
theorem sE {p q : Prop} (k : q) (h : q → p := by intro hq; first | exact yA (by clear hq; assumption) rfl lA hq | exact yB (by clear hq; assumption) rfl lA hq | exact yC rfl lA hq) : p := h k
end Go.Cb
namespace Go.Cb
open Go.Proofs
set_option maxRecDepth 100000
set_option maxHeartbeats 4000000
def findI {α : Type} (p : α → Bool) : List α → Int
 | [] => -1
 | x :: l => if p x then 0 else if findI p l = -1 then -1 else findI p l + 1
theorem findI_ge {α : Type} (p : α → Bool) : ∀ l : List α, -1 ≤ findI p l
 | [] => by simp [findI]
 | x :: l => by
  have := findI_ge p l
  rw [findI]; split
  ·omega
  ·split <;> omega
theorem findI_any {α : Type} (p : α → Bool) : ∀ l : List α, decide (findI p l ≥ 0) = l.any p
 | [] => by simp [findI]
 | x :: l => by
  have h := findI_any p l
  have hg := findI_ge p l
  rw [findI, List.any_cons, ← h]
  cases p x
  ·simp only [Bool.false_eq_true, if_false, Bool.false_or]
   split
   ·rename_i e; rw [e]
   ·rw [Bool.eq_iff_iff, decide_eq_true_eq, decide_eq_true_eq]; omega
  ·simp
theorem indexFuncDat_c (k : Nat) (cap : List PV) (Γ1 : List Ent) (p : Datum → Bool) (l : List Datum) (hf : ∀ x ∈ l, ACall Tryz.prog k (.agg (Datum.cells x) :: cap) Γ1 (fun y Γ' => y = .bool (p x) ∧ Γ' = Γ1)) :
  ACall Tryz.prog 124 [.sl 5 (l.map Datum.pv) none, .fn (.func k) cap] Γ1 (fun y Γ' => y = .int .i64 (findI p l) ∧ Γ' = Γ1) := by
 refine ACall.of_body tt_ok Tryz.func124 rfl rfl (n := 19) rfl rfl ?_
 conv => whnf
 repeat ((first|((first|(apply zY;intro hg)|apply zZ);first|exact stA)|(refine zW ?_ ?_;exact gA)|refine zH rfl ?_|refine zA ?_|refine zI bA ?_|refine zI rfl ?_|refine sB ?_|(refine zO ?_ ?_ ?_;omega;omega)|(refine zP ?_ ?_ ?_;omega;omega)|refine zM rfl ?_|(refine zQ ?_ ?_ ?_;omega;omega)|(refine zR ?_ ?_;omega)|(refine zI ?_ ?_;exact nA)|refine sS ?_|refine sD ?_|intro _);conv=>whnf)
 refine PLoop.keep [4, 5, 8, 9, 10, 11, 12, 13, 14, 15, 16, 17, 18] (fun i : Nat => [(8, .int .i64 i)]) (fun i => i ≤ l.length ∧ findI p l = if findI p (l.drop i) = -1 then -1 else i + findI p (l.drop i)) (fun i => l.length - i) 0 ⟨by omega, by simp only [List.drop_zero]; split <;> omega⟩ wA ?_
 rintro i ⟨h1, h2⟩
 conv => whnf
 repeat' (first|((first|((first|(apply zY;intro hg)|apply zZ);first|exact stA)|(refine zW ?_ ?_;exact gA)|refine zH rfl ?_|refine zA ?_|refine zI bA ?_|refine zI rfl ?_|refine sB ?_|(refine zO ?_ ?_ ?_;omega;omega)|(refine zP ?_ ?_ ?_;omega;omega)|refine zM rfl ?_|(refine zQ ?_ ?_ ?_;omega;omega)|(refine zR ?_ ?_;omega)|(refine zI ?_ ?_;exact nA)|refine sS ?_|refine sD ?_|intro _|refine zG ?_);conv=>whnf)|(refine zX (fun hc => ?_) (fun hc => ?_)<;>(try simp only [SY] at hc)<;>first|omega|(conv=>whnf)))
 ·refine PCall.same (hf _ (List.getElem_mem (show i < l.length by omega))) (WkT.refl _) ?_
  rintro _ _ ⟨rfl, rfl⟩
  rw [drop_at (show i < l.length by omega), findI] at h2
  conv => whnf
  repeat' (first|((first|((first|(apply zY;intro hg)|apply zZ);first|exact stA)|(refine zW ?_ ?_;exact gA)|refine zH rfl ?_|refine zA ?_|refine zI bA ?_|refine zI rfl ?_|refine sB ?_|(refine zO ?_ ?_ ?_;omega;omega)|(refine zP ?_ ?_ ?_;omega;omega)|refine zM rfl ?_|(refine zQ ?_ ?_ ?_;omega;omega)|(refine zR ?_ ?_;omega)|(refine zI ?_ ?_;exact nA)|refine sS ?_|refine sD ?_|intro _|refine zG ?_);conv=>whnf)|(refine zX (fun hc => ?_) (fun hc => ?_)<;>(try simp only [SY] at hc)<;>first|omega|(conv=>whnf)))
  ·rw [hc] at h2
   refine PRet.gen (Wk.int ?_) ⟨rfl, rfl⟩
   simpa using h2.symm
  ·rw [hc] at h2
   refine loopTo (i + 1) ⟨by omega, ?_⟩ (by show l.length - (i + 1) < l.length - i; omega) wA
   rw [h2]
   have hg := findI_ge p (l.drop (i + 1))
   simp only [Bool.false_eq_true, if_false]
   split
   ·simp
   ·rw [if_neg (by omega)]; omega
 ·rw [List.drop_of_length_le (by omega)] at h2
  exact PRet.gen (Wk.int (by rw [h2]; rfl)) ⟨rfl, rfl⟩
theorem containsFuncDat_c (k : Nat) (cap : List PV) (Γ1 : List Ent) (p : Datum → Bool) (l : List Datum) (hf : ∀ x ∈ l, ACall Tryz.prog k (.agg (Datum.cells x) :: cap) Γ1 (fun y Γ' => y = .bool (p x) ∧ Γ' = Γ1)) :
  ACall Tryz.prog 71 [.sl 5 (l.map Datum.pv) none, .fn (.func k) cap] Γ1 (fun y Γ' => y = .bool (l.any p) ∧ Γ' = Γ1) := by
 refine ACall.of_body tt_ok Tryz.func71 rfl rfl (n := 9) rfl rfl ?_
 conv => whnf
 repeat ((first|((first|(apply zY;intro hg)|apply zZ);first|exact stA)|(refine zW ?_ ?_;exact gA)|refine zH rfl ?_|refine zA ?_|refine zI bA ?_|refine zI rfl ?_|refine sB ?_|(refine zO ?_ ?_ ?_;omega;omega)|(refine zP ?_ ?_ ?_;omega;omega)|refine zM rfl ?_|(refine zQ ?_ ?_ ?_;omega;omega)|(refine zR ?_ ?_;omega)|(refine zI ?_ ?_;exact nA)|refine sS ?_|refine sD ?_|intro _);conv=>whnf)
 refine PCall.same (indexFuncDat_c k cap Γ1 p l hf) (WkT.refl _) ?_
 rintro _ _ ⟨rfl, rfl⟩
 conv => whnf
 repeat ((first|((first|(apply zY;intro hg)|apply zZ);first|exact stA)|(refine zW ?_ ?_;exact gA)|refine zH rfl ?_|refine zA ?_|refine zI bA ?_|refine zI rfl ?_|refine sB ?_|(refine zO ?_ ?_ ?_;omega;omega)|(refine zP ?_ ?_ ?_;omega;omega)|refine zM rfl ?_|(refine zQ ?_ ?_ ?_;omega;omega)|(refine zR ?_ ?_;omega)|(refine zI ?_ ?_;exact nA)|refine sS ?_|refine sD ?_|intro _);conv=>whnf)
 exact PRet.gen (Wk.bool (findI_any p l)) ⟨rfl, rfl⟩
end Go.Cb
namespace Go.Cb
open Go.Proofs
set_option maxRecDepth 100000
set_option maxHeartbeats 4000000
theorem cloneDat_c (l : List Datum) (hl : l.length ≤ 1000000000) : ACallP Tryz.prog 42 [.sl 5 (l.map Datum.pv) none] (.sl 5 (l.map Datum.pv) none) := by
 refine ACall.of_body tt_ok Tryz.func42 rfl rfl (n := 8) rfl rfl ?_
 conv => whnf
 repeat' (first|((first|((first|(apply zY;intro hg)|apply zZ);first|exact stA|exact stB)|(refine zW ?_ ?_;exact gA)|refine zH rfl ?_|refine zA ?_|refine zI bA ?_|refine zI rfl ?_|refine sB ?_|(refine zO ?_ ?_ ?_;omega;omega)|(refine zP ?_ ?_ ?_;omega;omega)|refine zM rfl ?_|(refine zQ ?_ ?_ ?_;omega;omega)|(refine zR ?_ ?_;omega)|(refine zI ?_ ?_;exact nA)|refine sS ?_|refine sE ?_|refine n0 ?_|refine sD ?_|intro _|refine zG ?_);conv=>whnf)|(refine zX (fun hc => ?_) (fun hc => ?_)<;>(try simp only [SY] at hc)<;>first|omega|(conv=>whnf)))
 ·rename_i q hq
  have : l = [] := by simpa using hq hc
  subst this
  exact PRet.pure (Wk.nil' rfl)
 ·exact PRet.pure wA
theorem indexFuncInt_c (k : Nat) (cap : List PV) (Γ1 : List Ent) (p : Int → Bool) (l : List Int) (hf : ∀ x ∈ l, ACall Tryz.prog k (.int .i64 x :: cap) Γ1 (fun y Γ' => y = .bool (p x) ∧ Γ' = Γ1)) :
  ACall Tryz.prog 177 [slI l, .fn (.func k) cap] Γ1 (fun y Γ' => y = .int .i64 (findI p l) ∧ Γ' = Γ1) := by
 refine ACall.of_body tt_ok Tryz.func177 rfl rfl (n := 19) rfl rfl ?_
 conv => whnf
 repeat ((first|((first|(apply zY;intro hg)|apply zZ);first|exact stA|exact stB)|(refine zW ?_ ?_;exact gA)|refine zH rfl ?_|refine zA ?_|refine zI bA ?_|refine zI rfl ?_|refine sB ?_|(refine zO ?_ ?_ ?_;omega;omega)|(refine zP ?_ ?_ ?_;omega;omega)|refine zM rfl ?_|(refine zQ ?_ ?_ ?_;omega;omega)|(refine zR ?_ ?_;omega)|(refine zI ?_ ?_;exact nA)|refine sS ?_|refine sE ?_|refine n0 ?_|refine sD ?_|intro _);conv=>whnf)
 refine PLoop.keep [4, 5, 8, 9, 10, 11, 12, 13, 14, 15, 16, 17, 18] (fun i : Nat => [(8, .int .i64 i)]) (fun i => i ≤ l.length ∧ findI p l = if findI p (l.drop i) = -1 then -1 else i + findI p (l.drop i)) (fun i => l.length - i) 0 ⟨by omega, by simp only [List.drop_zero]; split <;> omega⟩ wA ?_
 rintro i ⟨h1, h2⟩
 conv => whnf
 repeat' (first|((first|((first|(apply zY;intro hg)|apply zZ);first|exact stA|exact stB)|(refine zW ?_ ?_;exact gA)|refine zH rfl ?_|refine zA ?_|refine zI bA ?_|refine zI rfl ?_|refine sB ?_|(refine zO ?_ ?_ ?_;omega;omega)|(refine zP ?_ ?_ ?_;omega;omega)|refine zM rfl ?_|(refine zQ ?_ ?_ ?_;omega;omega)|(refine zR ?_ ?_;omega)|(refine zI ?_ ?_;exact nA)|refine sS ?_|refine sE ?_|refine n0 ?_|refine sD ?_|intro _|refine zG ?_);conv=>whnf)|(refine zX (fun hc => ?_) (fun hc => ?_)<;>(try simp only [SY] at hc)<;>first|omega|(conv=>whnf)))
 ·refine PCall.same (hf _ (List.getElem_mem (show i < l.length by omega))) (WkT.refl _) ?_
  rintro _ _ ⟨rfl, rfl⟩
  rw [drop_at (show i < l.length by omega), findI] at h2
  conv => whnf
  repeat' (first|((first|((first|(apply zY;intro hg)|apply zZ);first|exact stA|exact stB)|(refine zW ?_ ?_;exact gA)|refine zH rfl ?_|refine zA ?_|refine zI bA ?_|refine zI rfl ?_|refine sB ?_|(refine zO ?_ ?_ ?_;omega;omega)|(refine zP ?_ ?_ ?_;omega;omega)|refine zM rfl ?_|(refine zQ ?_ ?_ ?_;omega;omega)|(refine zR ?_ ?_;omega)|(refine zI ?_ ?_;exact nA)|refine sS ?_|refine sE ?_|refine n0 ?_|refine sD ?_|intro _|refine zG ?_);conv=>whnf)|(refine zX (fun hc => ?_) (fun hc => ?_)<;>(try simp only [SY] at hc)<;>first|omega|(conv=>whnf)))
  ·rw [hc] at h2
   refine PRet.gen (Wk.int ?_) ⟨rfl, rfl⟩
   simpa using h2.symm
  ·rw [hc] at h2
   refine loopTo (i + 1) ⟨by omega, ?_⟩ (by show l.length - (i + 1) < l.length - i; omega) wA
   rw [h2]
   have hg := findI_ge p (l.drop (i + 1))
   simp only [Bool.false_eq_true, if_false]
   split
   ·simp
   ·rw [if_neg (by omega)]; omega
 ·rw [List.drop_of_length_le (by omega)] at h2
  exact PRet.gen (Wk.int (by rw [h2]; rfl)) ⟨rfl, rfl⟩
theorem containsFuncInt_c (k : Nat) (cap : List PV) (Γ1 : List Ent) (p : Int → Bool) (l : List Int) (hf : ∀ x ∈ l, ACall Tryz.prog k (.int .i64 x :: cap) Γ1 (fun y Γ' => y = .bool (p x) ∧ Γ' = Γ1)) :
  ACall Tryz.prog 132 [slI l, .fn (.func k) cap] Γ1 (fun y Γ' => y = .bool (l.any p) ∧ Γ' = Γ1) := by
 refine ACall.of_body tt_ok Tryz.func132 rfl rfl (n := 9) rfl rfl ?_
 conv => whnf
 repeat ((first|((first|(apply zY;intro hg)|apply zZ);first|exact stA|exact stB)|(refine zW ?_ ?_;exact gA)|refine zH rfl ?_|refine zA ?_|refine zI bA ?_|refine zI rfl ?_|refine sB ?_|(refine zO ?_ ?_ ?_;omega;omega)|(refine zP ?_ ?_ ?_;omega;omega)|refine zM rfl ?_|(refine zQ ?_ ?_ ?_;omega;omega)|(refine zR ?_ ?_;omega)|(refine zI ?_ ?_;exact nA)|refine sS ?_|refine sE ?_|refine n0 ?_|refine sD ?_|intro _);conv=>whnf)
 refine PCall.same (indexFuncInt_c k cap Γ1 p l hf) (WkT.refl _) ?_
 rintro _ _ ⟨rfl, rfl⟩
 conv => whnf
 repeat ((first|((first|(apply zY;intro hg)|apply zZ);first|exact stA|exact stB)|(refine zW ?_ ?_;exact gA)|refine zH rfl ?_|refine zA ?_|refine zI bA ?_|refine zI rfl ?_|refine sB ?_|(refine zO ?_ ?_ ?_;omega;omega)|(refine zP ?_ ?_ ?_;omega;omega)|refine zM rfl ?_|(refine zQ ?_ ?_ ?_;omega;omega)|(refine zR ?_ ?_;omega)|(refine zI ?_ ?_;exact nA)|refine sS ?_|refine sE ?_|refine n0 ?_|refine sD ?_|intro _);conv=>whnf)
 exact PRet.gen (Wk.bool (findI_any p l)) ⟨rfl, rfl⟩
end Go.Cb
namespace Go.Cb
open Go.Proofs
set_option maxRecDepth 100000
theorem PAppend.rowMore {α : Type} {f : α → PV} {l m : List α} {es : List PV} {s by_ : Nat} {e : TypeId} {tk : Option Tok} {t : Tok} {Γ : List Ent} {put : Tok → List PV → List Ent} [hp : PickRow Γ t (l.map f) put] [hm : RowOf f es m] {K : PV → List Ent → Prop} (he : t.e = e) (hs : t.s = s)
  (hb : Nat.ble by_ 4096 = true) (h1 : l.length + m.length ≤ 34359738368)
  (k : ∀ t' : Tok, t'.e = e → t'.s = s → K (.ms t') (put t' ((l ++ m).map f))) : PAppend s by_ e (.ms t) (.sl s es tk) Γ K := by
 obtain ⟨Γ1, Γ2, e1, e2⟩ := hp.at_
 refine ⟨l.map f, m.map f, .inl ⟨none, Wk.trans (Wk.tok _ _ _) (Wk.row hm.h)⟩, by simp; omega, by simpa using bytes_ok hb h1, .inr (.inr ⟨t, Γ1, Γ2, rfl, e1, he, hs, fun t' ht hs' => ?_⟩)⟩
 have := k t' ht hs'
 rw [List.map_append, e2] at this
 exact this
theorem yD : type_of% @PAppend.rowMore := @PAppend.rowMore
def mapM {α : Type} (f : α → PV) (m : Int → Option α) (v : Value) : Option PV := match v with
 | .int .i64 k => (m k).map f
 | _ => none
theorem PLook.num {α : Type} {f : α → PV} {r : Nat} {m : Int → Option α} {n : Int} {z : PV} {Γ : List Ent} {pend : List (Int × Value)} {put : (Value → Option PV) → List (Int × Value) → List Ent} [hp : PickMp Γ r (.int .i64) (mapM f m) pend put] {K : PV → Bool → Prop}
  (h : K (match m n with | some x => f x | none => z) (m n).isSome) : PLook r (.int .i64) (some (.int .i64 n)) z Γ K :=
 PLook.at_ (hp := hp) _ _ (by simp [IsK, MapKept.IsKey]) (fun p hp => by
  simp only [mapM] at hp
  cases hm : m n with
  | none => rw [hm] at hp; cases hp
  | some x => rw [hm] at hp; cases hp; exact ⟨Wk.refl _, rfl⟩) (fun hn => by
  simp only [mapM] at hn
  cases hm : m n with
  | none => exact ⟨Wk.refl _, rfl⟩
  | some x => rw [hm] at hn; cases hn) h
theorem yH {α : Type} {f : α → PV} {r : Nat} {m : Int → Option α} {n : Int} {x : α} {z : PV} {Γ : List Ent} {pend : List (Int × Value)} {put : (Value → Option PV) → List (Int × Value) → List Ent} [hp : PickMp Γ r (.int .i64) (mapM f m) pend put] {K : PV → Bool → Prop}
  (hx : m n = some x) (h : K (f x) true) : PLook r (.int .i64) (some (.int .i64 n)) z Γ K := PLook.num (hp := hp) (by rw [hx]; exact h)
theorem yI {α : Type} {f : α → PV} {r : Nat} {m : Int → Option α} {n : Int} {z : PV} {Γ : List Ent} {pend : List (Int × Value)} {put : (Value → Option PV) → List (Int × Value) → List Ent} [hp : PickMp Γ r (.int .i64) (mapM f m) pend put] {K : PV → Bool → Prop}
  (hx : m n = none) (h : K z false) : PLook r (.int .i64) (some (.int .i64 n)) z Γ K := PLook.num (hp := hp) (by rw [hx]; exact h)
def upd {α : Type} (m : Int → Option α) (n : Int) (x : α) : Int → Option α := fun k => if k = n then some x else m k
theorem PMapPut.num {α : Type} {f : α → PV} {r : Nat} {m : Int → Option α} {n : Int} {p : PV} {Γ : List Ent} {pend : List (Int × Value)} {put : (Value → Option PV) → List (Int × Value) → List Ent} [hp : PickMp Γ r (.int .i64) (mapM f m) pend put] {K : List Ent → Prop} (x : α) (hx : p = f x)
  (h : K (put (mapM f (upd m n x)) pend)) (hq : mapM f m (.int .i64 n) ≠ none ∨ ∀ q ∈ pend, q.2 ≠ .tuple #[] := by right; simp) : PMapPut r (.int .i64) (some (.int .i64 n)) p Γ K :=
 PMapPut.at_ (hp := hp) (mapM f (upd m n x)) (by simp [IsK, MapKept.IsKey]) (by simp [mapM, upd, hx]) (fun k hk => by
  unfold mapM
  split
  ·rename_i j
   have : j ≠ n := fun e => hk (by rw [e])
   simp [upd, this]
  ·rfl) h hq
theorem nodup_inj {α β : Type} {f : α → β} : ∀ {l : List α}, (l.map f).Nodup → ∀ {x y : α}, x ∈ l → y ∈ l → f x = f y → x = y
 | [], _, x, _, hx, _, _ => by cases hx
 | a :: l, h, x, y, hx, hy, e => by
  rw [List.map_cons, List.nodup_cons] at h
  rcases List.mem_cons.1 hx with hx1 | hx
  ·rcases List.mem_cons.1 hy with hy1 | hy
   ·rw [hx1, hy1]
   ·exact absurd (List.mem_map.2 ⟨y, hy, by rw [← e, hx1]⟩) h.1
  ·rcases List.mem_cons.1 hy with hy1 | hy
   ·exact absurd (List.mem_map.2 ⟨x, hx, by rw [e, hy1]⟩) h.1
   ·exact nodup_inj h.2 hx hy e
structure AllI {α : Type} (m : Int → Option α) (all : List (Nat × Int)) : Prop where
 dom : ∀ z, m z ≠ none ↔ ∃ n, (n, z) ∈ all
 nk : (all.map (·.2)).Nodup
 nb : (all.map (·.1)).Nodup
def pdI (cl : Nat) (all : List (Nat × Int)) : List (Int × Value) := ((cl : Int), .tuple #[]) :: all.map fun q => ((q.1 : Int), .int .i64 q.2)
abbrev itO (r cl : Nat) (seen : Array Nat) : Obj := .mapIter (some r) cl seen cl
theorem isKeyI {v : Value} (h : IsK (.int .i64) v) : ∃ z, v = .int .i64 z := by
 rcases h with h | ⟨e, a, b, h, _⟩
 ·cases v <;> first | exact h.elim | skip
  rename_i k z
  have : k = .i64 := h
  exact ⟨z, by rw [this]⟩
 ·cases h
theorem allI_ints : ∀ l : List (Int × Value), (∀ q ∈ l, 0 ≤ q.1 ∧ IsK (.int .i64) q.2) → ∃ all : List (Nat × Int), l = all.map fun q => ((q.1 : Int), Value.int .i64 q.2)
 | [], _ => ⟨[], rfl⟩
 | (a, v) :: l, h => by
  obtain ⟨h1, h2⟩ := h (a, v) (by simp)
  obtain ⟨z, rfl⟩ := isKeyI h2
  obtain ⟨all, rfl⟩ := allI_ints l fun q hq => h q (by simp [hq])
  simp only at h1
  exact ⟨(a.toNat, z) :: all, by rw [List.map_cons]; simp only [List.cons.injEq, Prod.mk.injEq, and_true]; omega⟩
theorem PRangeM.num {α : Type} {f : α → PV} {r : Nat} {m : Int → Option α} {Γ : List Ent} {pend : List (Int × Value)} {put : (Value → Option PV) → List (Int × Value) → List Ent} [hp : PickMp Γ r (.int .i64) (mapM f m) pend put] {K : PV → List Ent → Prop}
  (h : ∀ b all cl, AllI m all → (∀ q ∈ all, q.1 < cl) → K (.ptr b 0) (.ob b (itO r cl #[]) [] [] :: put (mapM f m) (pdI cl all))) : PRangeM r (.int .i64) Γ K := by
 obtain ⟨Γ1, Γ2, e1, e2⟩ := hp.at_
 refine ⟨mapM f m, pend, Γ1, Γ2, e1, fun b l cl ha => ?_⟩
 obtain ⟨all, rfl⟩ := allI_ints l fun q hq => ⟨(ha.lt q hq).1, (ha.key q hq).1⟩
 have hA : AllI m all := by
  refine ⟨fun z => ⟨fun hz => ?_, fun ⟨n, hn⟩ hz => ?_⟩, ?_, ?_⟩
  ·cases hm : m z with
   | none => exact absurd hm hz
   | some x =>
    obtain ⟨n, hn⟩ := ha.dom (.int .i64 z) (f x) (by simp [mapM, hm])
    obtain ⟨q, hq, e⟩ := List.mem_map.1 hn
    simp only [Prod.mk.injEq, Value.int.injEq, true_and] at e
    exact ⟨q.1, by rw [← e.2]; exact hq⟩
  ·have := (ha.key ((n : Int), .int .i64 z) (List.mem_map.2 ⟨(n, z), hn, rfl⟩)).2
   exact this (by simp [mapM, hz])
  ·have := ha.nk
   rw [List.map_map, List.Nodup, List.pairwise_map] at this
   rw [List.Nodup, List.pairwise_map]
   exact this.imp fun {x y} h e => h (by simp only [Function.comp, e])
  ·have := ha.nb
   rw [List.map_map, List.Nodup, List.pairwise_map] at this
   rw [List.Nodup, List.pairwise_map]
   exact this.imp fun {x y} h e => h (by simp only [Function.comp, e])
 have := h b all cl hA fun q hq => by have := (ha.lt _ (List.mem_map.2 ⟨q, hq, rfl⟩)).2; simp only at this; omega
 rw [e2] at this
 exact this
class PickOb (Γ : List Ent) (b : Nat) (o : outParam Obj) (put : outParam (Obj → List Ent)) : Prop where
 at_ : ∃ Γ1 Γ2, Γ = Γ1 ++ .ob b o [] [] :: Γ2 ∧ ∀ o', put o' = Γ1 ++ .ob b o' [] [] :: Γ2
instance (priority := high) PickOb.head (Γ : List Ent) (b : Nat) (o : Obj) : PickOb (.ob b o [] [] :: Γ) b o (fun o' => .ob b o' [] [] :: Γ) := ⟨[], Γ, rfl, fun _ => rfl⟩
instance PickOb.tail (e : Ent) (Γ : List Ent) (b : Nat) (o : Obj) (put : Obj → List Ent) [h : PickOb Γ b o put] : PickOb (e :: Γ) b o (fun o' => e :: put o') := by
 obtain ⟨Γ1, Γ2, h1, h2⟩ := h.at_
 exact ⟨e :: Γ1, Γ2, by rw [h1]; rfl, fun o' => by rw [h2]; rfl⟩
theorem mem_pdI {cl : Nat} {all : List (Nat × Int)} {n : Nat} {z : Int} : ((n : Int), Value.int .i64 z) ∈ all.map (fun q => ((q.1 : Int), Value.int .i64 q.2)) ↔ (n, z) ∈ all := by
 rw [List.mem_map]
 constructor
 ·rintro ⟨q, hq, e⟩
  simp only [Prod.mk.injEq, Value.int.injEq, true_and] at e
  have : q = (n, z) := Prod.ext (by have := e.1; simp only; omega) e.2
  rw [← this]; exact hq
 ·intro h; exact ⟨_, h, rfl⟩
theorem PNextM.num {α : Type} {f : α → PV} {b r cl : Nat} {seen : Array Nat} {m : Int → Option α} {all : List (Nat × Int)} {Γ : List Ent} {put : Obj → List Ent} [hb : PickOb Γ b (itO r cl seen) put] {put2 : (Value → Option PV) → List (Int × Value) → List Ent} [hp : PickMp Γ r (.int .i64) (mapM f m) (pdI cl all) put2] {K : PV → List Ent → Prop}
  (hA : AllI m all) (hl : ∀ q ∈ all, q.1 < cl) (h1 : ∀ n z x, (n, z) ∈ all → m z = some x → n ∉ seen.toList → K (.tup [.btrue, .any, .any]) (put (itO r cl (seen.push n)))) (h2 : (∀ q ∈ all, q.1 ∈ seen.toList) → K (.tup [.bfalse]) Γ) : PNextM b Γ K := by
 obtain ⟨Γ1, Γ2, e1, e2⟩ := hb.at_
 obtain ⟨Γ3, Γ4, e3, e4⟩ := hp.at_
 have hdom : ∀ k p, mapM f m k = some p → ∃ z x, k = .int .i64 z ∧ m z = some x := fun k p hk => by
  unfold mapM at hk
  split at hk
  ·rename_i z
   cases hm : m z with
   | none => rw [hm] at hk; cases hk
   | some x => exact ⟨z, x, rfl, hm⟩
  ·cases hk
 refine ⟨r, cl, seen, .int .i64, mapM f m, all.map (fun q => ((q.1 : Int), .int .i64 q.2)), Γ1, Γ2, e1, by rw [e3]; simp [pdI], fun k p hk => ?_, fun q hq => ?_, fun n k p hn hk hs => ?_, fun hs => h2 fun q hq => ?_⟩
 ·obtain ⟨z, x, rfl, hm⟩ := hdom k p hk
  obtain ⟨n, hn⟩ := (hA.dom z).1 (by simp [hm])
  exact ⟨(n : Int), (mem_pdI (cl := cl)).2 hn⟩
 ·obtain ⟨q', hq', rfl⟩ := List.mem_map.1 hq
  have := hl q' hq'
  simp only
  omega
 ·obtain ⟨z, x, rfl, hm⟩ := hdom k p hk
  have := h1 n z x ((mem_pdI (cl := cl)).1 hn) hm hs
  rw [e2] at this
  exact this
 ·obtain ⟨n, z⟩ := q
  have hz : m z ≠ none := (hA.dom z).2 ⟨n, hq⟩
  cases hm : m z with
  | none => exact absurd hm hz
  | some x =>
   obtain ⟨n', hn', hs'⟩ := hs (.int .i64 z) (f x) (by simp [mapM, hm])
   have hn2 := (mem_pdI (cl := cl)).1 hn'
   have := nodup_inj hA.nk hq hn2 rfl
   cases this
   exact hs'
theorem PEntryM.num {α : Type} {f : α → PV} {b r cl n : Nat} {seen : Array Nat} {m : Int → Option α} {all : List (Nat × Int)} {Γ : List Ent} {put : Obj → List Ent} [hb : PickOb Γ b (itO r cl (seen.push n)) put] {put2 : (Value → Option PV) → List (Int × Value) → List Ent} [hp : PickMp Γ r (.int .i64) (mapM f m) (pdI cl all) put2] {K : PV → Prop}
  (z : Int) (x : α) (hn : (n, z) ∈ all) (hm : m z = some x) (h : K (.tup [.int .i64 z, f x])) : PEntryM b Γ K := by
 obtain ⟨Γ1, Γ2, e1, _⟩ := hb.at_
 obtain ⟨Γ3, Γ4, e3, _⟩ := hp.at_
 exact ⟨r, cl, seen, n, .int .i64 z, .int .i64 z, f x, .int .i64, mapM f m, all.map (fun q => ((q.1 : Int), .int .i64 q.2)), by rw [e1]; simp, by rw [e3]; simp [pdI], (mem_pdI (cl := cl)).2 hn, by simp, by simp [mapM, hm], fun F => by simp [Rep], h⟩
theorem PIndexM.atL {α : Type} {f : α → PV} {l : List α} {sz : Nat} {Γ : List Ent} {t : Tok} {put : Tok → List PV → List Ent} [hp : PickRow Γ t (l.map f) put] {k : IntKind} {n : Int} {i : Nat} [x : IdxOf n i] {K : PV → Prop} (hs : t.s = sz) (h0 : 0 ≤ n) (h : n < l.length) (hk : K (.rp t i 0)) : PIndexM sz t (.int k n) Γ K :=
 PIndexM.at_ (hp := hp) hs h0 (by have := x.eq h0; rw [List.length_map]; omega) hk
theorem yE : type_of% @PIndexM.atL := @PIndexM.atL
theorem yF : type_of% @PLoad.row := @PLoad.row
theorem PStore.rowAll {α : Type} {f : α → PV} {c : α → List PV} [hc : CellsOf f c] {l : List α} {Γ : List Ent} {t : Tok} {put : Tok → List PV → List Ent} [hp : PickRow Γ t (l.map f) put] {i n : Nat} {x : PV} {v : α} [hv : ElOf f x v] {K : List Ent → Prop} (hi : i < l.length)
  (hl : Nat.beq (c l[i]).length n = true) (hx : lenIs x.cellsOf n = true) (hcl : x.cellular = true) (k : K (put t ((l.set i v).map f))) : PStore n (.rp t i 0) x Γ K := by
 have hn : (c l[i]).length = n := Nat.eq_of_beq_eq_true hl
 have hw : WkL x.cellsOf (c v) := by have := hv.wl; rwa [hc.eq] at this
 refine PStore.row (hp := hp) v hi (by rw [hn, Nat.zero_add]; exact Nat.ble_eq_true_of_le (Nat.le_refl _)) hx hcl hw ?_ k
 rw [List.take_zero, List.nil_append, Nat.zero_add, List.drop_of_length_le (by omega), List.append_nil]
theorem yG : type_of% @PStore.rowAll := @PStore.rowAll
theorem sG {p q : Prop} (k : q) (h : q → p := by intro hq; first | exact yE (by clear hq; assumption) (by clear hq; omega) (by clear hq; omega) hq | exact yF (by clear hq; omega) rfl hq | exact yH (by clear hq; assumption) hq | exact yI (by clear hq; assumption) hq) : p := h k
theorem sF {p q : Prop} (k : q) (h : q → p := by intro hq; first | exact yA (by clear hq; assumption) rfl lA hq | exact yB (by clear hq; assumption) rfl lA hq | exact yC rfl lA hq | exact yD (by clear hq; assumption) (by clear hq; assumption) rfl lA hq | exact yE (by clear hq; assumption) (by clear hq; omega) (by clear hq; omega) hq | exact yF (by clear hq; omega) rfl hq | exact yH (by clear hq; assumption) hq | exact yI (by clear hq; assumption) hq | exact yG (by clear hq; omega) rfl rfl rfl hq) : p := h k
theorem stC {p : Prop} (h : p := by
 conv => whnf
 repeat ((first|(refine zW ?_ ?_; exact gA)|refine zA ?_|refine zH rfl ?_|refine zB ?_|(refine yE ?_ ?_ ?_ ?_; assumption; omega; omega)|(refine yF ?_ rfl ?_; omega)|(apply yH; assumption)|(refine yI ?_ ?_; assumption)|intro _); conv=>whnf)
 first | exact pS | exact pL | exact pE) : p := h
theorem PLenP.num {α : Type} {f : α → PV} {r : Nat} {m : Int → Option α} {Γ : List Ent} {pend : List (Int × Value)} {put : (Value → Option PV) → List (Int × Value) → List Ent} [hp : PickMp Γ r (.int .i64) (mapM f m) pend put] {K : Nat → Prop}
  (h : ∀ n : Nat, (n = 0 ↔ ∀ z, m z = none) → K n) : PLenP r Γ K := by
 obtain ⟨Γ1, Γ2, e1, _⟩ := hp.at_
 refine ⟨.int .i64, mapM f m, pend, by rw [e1]; simp, fun n hn => h n (hn.trans ⟨fun h z => ?_, fun h k => ?_⟩)⟩
 ·have := h (.int .i64 z)
  simpa [mapM] using this
 ·unfold mapM
  split
  ·rw [h]; rfl
  ·rfl
end Go.Cb

