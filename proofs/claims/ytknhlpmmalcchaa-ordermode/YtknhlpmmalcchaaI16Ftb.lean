/- Functions of the program as the interpreter takes them (printed by a program). -/
import Derived.Test.YtknhlpmmalcchaaI16Ft
set_option linter.all false
set_option linter.unusedVariables false
set_option linter.unusedSimpArgs false
namespace Go.Proofs.Ytknhlpmmalcchaa
open Go Go.VAI Go.Proofs
/- math/bits.Len64 -/
def F140 : AFn := ⟨25, [.tmp 2],
 (.seq (.region [⟨some 2, (.move (.con (.int .i64 0))), none⟩])
 (.seq (.seq (.region [⟨some 3, (.move (.tmp 0)), none⟩,
 ⟨some 4, (.bin .geq .prim (.tmp 3) (.con (.int .u64 4294967296))), none⟩])
 (.join [true, false, true] (.cond (.tmp 4)
 (.seq (.region [⟨some 5, (.move (.tmp 0)), none⟩,
 ⟨some 6, (.bin .shr .prim (.tmp 5) (.con (.int .u64 32))), none⟩,
 ⟨some 0, (.move (.tmp 6)), none⟩])
 (.region [⟨some 2, (.move (.con (.int .i64 32))), none⟩]))
 .skip)))
 (.seq (.seq (.region [⟨some 7, (.move (.tmp 0)), none⟩,
 ⟨some 8, (.bin .geq .prim (.tmp 7) (.con (.int .u64 65536))), none⟩])
 (.join [true, false, true] (.cond (.tmp 8)
 (.seq (.region [⟨some 9, (.move (.tmp 0)), none⟩,
 ⟨some 10, (.bin .shr .prim (.tmp 9) (.con (.int .u64 16))), none⟩,
 ⟨some 0, (.move (.tmp 10)), none⟩])
 (.region [⟨some 11, (.move (.tmp 2)), none⟩,
 ⟨some 12, (.bin .add .prim (.tmp 11) (.con (.int .i64 16))), none⟩,
 ⟨some 2, (.move (.tmp 12)), none⟩]))
 .skip)))
 (.seq (.seq (.region [⟨some 13, (.move (.tmp 0)), none⟩,
 ⟨some 14, (.bin .geq .prim (.tmp 13) (.con (.int .u64 256))), none⟩])
 (.join [true, false, true] (.cond (.tmp 14)
 (.seq (.region [⟨some 15, (.move (.tmp 0)), none⟩,
 ⟨some 16, (.bin .shr .prim (.tmp 15) (.con (.int .u64 8))), none⟩,
 ⟨some 0, (.move (.tmp 16)), none⟩])
 (.region [⟨some 17, (.move (.tmp 2)), none⟩,
 ⟨some 18, (.bin .add .prim (.tmp 17) (.con (.int .i64 8))), none⟩,
 ⟨some 2, (.move (.tmp 18)), none⟩]))
 .skip)))
 (.seq (.region [⟨some 19, (.move (.tmp 2)), none⟩,
 ⟨some 20, (.move (.tmp 0)), none⟩,
 ⟨some 21, (.toInt .u8 (.tmp 20)), none⟩,
 ⟨some 22, (.indexStr (.con (.str ⟨#[0, 1, 2, 2, 3, 3, 3, 3, 4, 4, 4, 4, 4, 4, 4, 4, 5, 5, 5, 5, 5, 5, 5, 5, 5, 5, 5, 5, 5, 5, 5, 5, 6, 6, 6, 6, 6, 6, 6, 6, 6, 6, 6, 6, 6, 6, 6, 6, 6, 6, 6, 6, 6, 6, 6, 6, 6, 6, 6, 6, 6, 6, 6, 6, 7, 7, 7, 7, 7, 7, 7, 7, 7, 7, 7, 7, 7, 7, 7, 7, 7, 7, 7, 7, 7, 7, 7, 7, 7, 7, 7, 7, 7, 7, 7, 7, 7, 7, 7, 7, 7, 7, 7, 7, 7, 7, 7, 7, 7, 7, 7, 7, 7, 7, 7, 7, 7, 7, 7, 7, 7, 7, 7, 7, 7, 7, 7, 7, 8, 8, 8, 8, 8, 8, 8, 8, 8, 8, 8, 8, 8, 8, 8, 8, 8, 8, 8, 8, 8, 8, 8, 8, 8, 8, 8, 8, 8, 8, 8, 8, 8, 8, 8, 8, 8, 8, 8, 8, 8, 8, 8, 8, 8, 8, 8, 8, 8, 8, 8, 8, 8, 8, 8, 8, 8, 8, 8, 8, 8, 8, 8, 8, 8, 8, 8, 8, 8, 8, 8, 8, 8, 8, 8, 8, 8, 8, 8, 8, 8, 8, 8, 8, 8, 8, 8, 8, 8, 8, 8, 8, 8, 8, 8, 8, 8, 8, 8, 8, 8, 8, 8, 8, 8, 8, 8, 8, 8, 8, 8, 8, 8, 8, 8, 8, 8, 8, 8, 8, 8, 8, 8, 8, 8, 8, 8, 8]⟩)) (.tmp 21)), none⟩,
 ⟨some 23, (.toInt .i64 (.tmp 22)), none⟩,
 ⟨some 24, (.bin .add .prim (.tmp 19) (.tmp 23)), none⟩,
 ⟨some 2, (.move (.tmp 24)), none⟩])
 .ret)))))⟩
theorem F140_ok : cfn tab F140.body Try.f140 = some F140 := by kernel_rfl

/- cmp.isNaN[int] -/
def F141 : AFn := ⟨6, [.tmp 2],
 (.seq (.region [⟨some 2, (.move (.con (.bool false))), none⟩])
 (.seq (.region [⟨some 3, (.move (.tmp 0)), none⟩,
 ⟨some 4, (.move (.tmp 0)), none⟩,
 ⟨some 5, (.bin .neq .prim (.tmp 3) (.tmp 4)), none⟩,
 ⟨some 2, (.move (.tmp 5)), none⟩])
 .ret))⟩
theorem F141_ok : cfn tab F141.body Try.f141 = some F141 := by kernel_rfl

/- slices.siftDownCmpFunc[milestone/order.ranked] -/
def F144 : AFn := ⟨82, [],
 (.seq (.region [⟨some 12, (.move (.tmp 1)), none⟩,
 ⟨some 10, (.move (.tmp 12)), none⟩])
 (.block 0 (.loop [true, false, true, true, true, false, false, false, false, false, true] []
 (.block 1 (.seq (.region [⟨some 13, (.move (.tmp 10)), none⟩,
 ⟨some 14, (.bin .mul .prim (.con (.int .i64 2)) (.tmp 13)), none⟩,
 ⟨some 15, (.bin .add .prim (.tmp 14) (.con (.int .i64 1))), none⟩,
 ⟨some 11, (.move (.tmp 15)), none⟩])
 (.seq (.seq (.region [⟨some 16, (.move (.tmp 11)), none⟩,
 ⟨some 17, (.move (.tmp 2)), none⟩,
 ⟨some 18, (.bin .geq .prim (.tmp 16) (.tmp 17)), none⟩])
 (.cond (.tmp 18)
 (.exit 0)
 .skip))
 (.seq (.seq (.dregion [[], [0], [], [2, 0, 1], [1, 0, 2, 3], [3, 2, 0, 1, 4], [3, 2, 0, 1, 4], [3, 2, 0, 1, 4], [3, 2, 0, 1, 4], [8, 4, 1, 0, 2, 3, 7], [7, 8, 9, 4, 1, 0, 2, 3, 6], [6, 3, 2, 0, 1, 4, 9, 8, 7, 10], [3, 2, 0, 1, 4], [3, 2, 0, 1, 4], [3, 2, 0, 1, 4], [14, 4, 1, 0, 2, 3, 13], [13, 3, 2, 0, 1, 4, 14, 15], [15, 14, 13, 16, 4, 1, 0, 2, 3, 12], [12, 3, 2, 0, 1, 4, 16, 13, 14, 15, 17], [17, 15, 14, 13, 16, 12, 18, 10, 7, 8, 9, 6, 11, 4, 1, 0, 2, 3, 5], [5, 3, 2, 0, 1, 4, 11, 6, 9, 8, 7, 10, 18, 12, 16, 13, 14, 15, 17, 19], [19, 17, 15, 14, 13, 16, 12, 18, 10, 7, 8, 9, 6, 11, 5, 20, 3, 2, 0, 1, 4]] [.op 0 ⟨some 19, (.move (.tmp 11)), none⟩,
 .op 1 ⟨some 20, (.bin .add .prim (.tmp 19) (.con (.int .i64 1))), none⟩,
 .op 2 ⟨some 21, (.move (.tmp 2)), none⟩,
 .op 3 ⟨some 22, (.bin .lss .prim (.tmp 20) (.tmp 21)), none⟩,
 .op 4 ⟨some 23, (.move (.tmp 22)), none⟩,
 .op 5 ⟨some 24, (.move (.tmp 4)), some (23, true)⟩,
 .op 6 ⟨some 25, (.move (.tmp 0)), some (23, true)⟩,
 .op 7 ⟨some 26, (.move (.tmp 3)), some (23, true)⟩,
 .op 8 ⟨some 27, (.move (.tmp 11)), some (23, true)⟩,
 .op 9 ⟨some 28, (.bin .add .prim (.tmp 26) (.tmp 27)), some (23, true)⟩,
 .op 10 ⟨some 29, (.indexAddrS 2 (.tmp 25) (.tmp 28)), some (23, true)⟩,
 .op 11 ⟨some 30, (.loadN 2 (.tmp 29)), some (23, true)⟩,
 .op 12 ⟨some 31, (.move (.tmp 0)), some (23, true)⟩,
 .op 13 ⟨some 32, (.move (.tmp 3)), some (23, true)⟩,
 .op 14 ⟨some 33, (.move (.tmp 11)), some (23, true)⟩,
 .op 15 ⟨some 34, (.bin .add .prim (.tmp 32) (.tmp 33)), some (23, true)⟩,
 .op 16 ⟨some 35, (.bin .add .prim (.tmp 34) (.con (.int .i64 1))), some (23, true)⟩,
 .op 17 ⟨some 36, (.indexAddrS 2 (.tmp 31) (.tmp 35)), some (23, true)⟩,
 .op 18 ⟨some 37, (.loadN 2 (.tmp 36)), some (23, true)⟩,
 .op 19 ⟨some 38, (.callv (.tmp 24) [(.tmp 30), (.tmp 37)]), some (23, true)⟩,
 .op 20 ⟨some 39, (.bin .lss .prim (.tmp 38) (.con (.int .i64 0))), some (23, true)⟩,
 .op 21 ⟨some 40, (.pick (.tmp 23) (.tmp 39) (.con (.bool false))), none⟩])
 (.join [true, false, true, true, true, false, false, false, false, false, true, true] (.cond (.tmp 40)
 (.region [⟨some 41, (.move (.tmp 11)), none⟩,
 ⟨some 42, (.bin .add .prim (.tmp 41) (.con (.int .i64 1))), none⟩,
 ⟨some 11, (.move (.tmp 42)), none⟩])
 .skip)))
 (.seq (.seq (.dregion [[], [], [], [], [3, 2], [2, 3, 4, 1], [1, 4, 3, 2, 5], [], [], [], [9, 8], [8, 9, 10, 7], [7, 10, 9, 8, 11], [11, 8, 9, 10, 7, 12, 5, 2, 3, 4, 1, 6, 0], [0, 6, 1, 4, 3, 2, 5, 12, 7, 10, 9, 8, 11, 13], [13, 11, 8, 9, 10, 7, 12, 5, 2, 3, 4, 1, 6, 0, 14]] [.op 0 ⟨some 43, (.move (.tmp 4)), none⟩,
 .op 1 ⟨some 44, (.move (.tmp 0)), none⟩,
 .op 2 ⟨some 45, (.move (.tmp 3)), none⟩,
 .op 3 ⟨some 46, (.move (.tmp 10)), none⟩,
 .op 4 ⟨some 47, (.bin .add .prim (.tmp 45) (.tmp 46)), none⟩,
 .op 5 ⟨some 48, (.indexAddrS 2 (.tmp 44) (.tmp 47)), none⟩,
 .op 6 ⟨some 49, (.loadN 2 (.tmp 48)), none⟩,
 .op 7 ⟨some 50, (.move (.tmp 0)), none⟩,
 .op 8 ⟨some 51, (.move (.tmp 3)), none⟩,
 .op 9 ⟨some 52, (.move (.tmp 11)), none⟩,
 .op 10 ⟨some 53, (.bin .add .prim (.tmp 51) (.tmp 52)), none⟩,
 .op 11 ⟨some 54, (.indexAddrS 2 (.tmp 50) (.tmp 53)), none⟩,
 .op 12 ⟨some 55, (.loadN 2 (.tmp 54)), none⟩,
 .op 13 ⟨some 56, (.callv (.tmp 43) [(.tmp 49), (.tmp 55)]), none⟩,
 .op 14 ⟨some 57, (.bin .lss .prim (.tmp 56) (.con (.int .i64 0))), none⟩,
 .op 15 ⟨some 58, (.un .not (.tmp 57)), none⟩])
 (.cond (.tmp 58)
 .ret
 .skip))
 (.seq (.dregion [[], [], [], [2, 1], [], [], [], [6, 5], [], [], [], [10, 9], [9, 10, 11, 8], [8, 11, 10, 9, 12], [], [], [], [16, 15], [15, 16, 17, 14], [14, 17, 16, 15, 18], [18, 15, 16, 17, 14, 19, 13, 12, 11, 10, 9, 8, 1, 2, 3, 0], [0, 3, 2, 1, 8, 9, 10, 11, 12, 13, 19, 14, 17, 16, 15, 18, 20], [21, 20, 19, 18, 17, 16, 15, 14, 13, 12, 11, 10, 9, 8, 3, 2, 1, 0, 5, 6, 7, 4], [4, 7, 6, 5, 0, 1, 2, 3, 8, 9, 10, 11, 12, 13, 14, 15, 16, 17, 18, 19, 20, 21, 22]] [.op 0 ⟨some 59, (.move (.tmp 0)), none⟩,
 .op 1 ⟨some 60, (.move (.tmp 3)), none⟩,
 .op 2 ⟨some 61, (.move (.tmp 10)), none⟩,
 .op 3 ⟨some 62, (.bin .add .prim (.tmp 60) (.tmp 61)), none⟩,
 .op 4 ⟨some 63, (.move (.tmp 0)), none⟩,
 .op 5 ⟨some 64, (.move (.tmp 3)), none⟩,
 .op 6 ⟨some 65, (.move (.tmp 11)), none⟩,
 .op 7 ⟨some 66, (.bin .add .prim (.tmp 64) (.tmp 65)), none⟩,
 .op 8 ⟨some 67, (.move (.tmp 0)), none⟩,
 .op 9 ⟨some 68, (.move (.tmp 3)), none⟩,
 .op 10 ⟨some 69, (.move (.tmp 11)), none⟩,
 .op 11 ⟨some 70, (.bin .add .prim (.tmp 68) (.tmp 69)), none⟩,
 .op 12 ⟨some 71, (.indexAddrS 2 (.tmp 67) (.tmp 70)), none⟩,
 .op 13 ⟨some 72, (.loadN 2 (.tmp 71)), none⟩,
 .op 14 ⟨some 73, (.move (.tmp 0)), none⟩,
 .op 15 ⟨some 74, (.move (.tmp 3)), none⟩,
 .op 16 ⟨some 75, (.move (.tmp 10)), none⟩,
 .op 17 ⟨some 76, (.bin .add .prim (.tmp 74) (.tmp 75)), none⟩,
 .op 18 ⟨some 77, (.indexAddrS 2 (.tmp 73) (.tmp 76)), none⟩,
 .op 19 ⟨some 78, (.loadN 2 (.tmp 77)), none⟩,
 .op 20 ⟨some 79, (.indexAddrS 2 (.tmp 59) (.tmp 62)), none⟩,
 .op 21 ⟨none, (.store 2 (.tmp 79) (.tmp 72)), none⟩,
 .op 22 ⟨some 80, (.indexAddrS 2 (.tmp 63) (.tmp 66)), none⟩,
 .op 23 ⟨none, (.store 2 (.tmp 80) (.tmp 78)), none⟩])
 (.region [⟨some 81, (.move (.tmp 11)), none⟩,
 ⟨some 10, (.move (.tmp 81)), none⟩]))))))))))⟩
theorem F144_ok : cfn tab F144.body Try.f144 = some F144 := by kernel_rfl

/- slices.nextPowerOfTwo -/
def F145 : AFn := ⟨7, [.tmp 2],
 (.seq (.region [⟨some 2, (.move (.con (.int .u64 0))), none⟩])
 (.seq (.region [⟨some 3, (.move (.tmp 0)), none⟩,
 ⟨some 4, (.toInt .u64 (.tmp 3)), none⟩,
 ⟨some 5, (.call 116 [(.tmp 4)]), none⟩,
 ⟨some 6, (.bin .shl .prim (.con (.int .u64 1)) (.tmp 5)), none⟩,
 ⟨some 2, (.move (.tmp 6)), none⟩])
 .ret))⟩
theorem F145_ok : cfn tab F145.body Try.f145 = some F145 := by kernel_rfl

/- (*slices.xorshift).Next -/
def F146 : AFn := ⟨33, [.tmp 2],
 (.seq (.region [⟨some 2, (.move (.con (.int .u64 0))), none⟩])
 (.seq (.dregion [[], [0], [0, 1], [], [3], [3, 4], [4, 3, 5], [5, 3, 4, 6, 1, 0, 2], [7, 6, 5, 4, 3, 2, 1, 0], [0, 1, 2, 3, 4, 5, 6, 7, 8]] [.op 0 ⟨some 3, (.move (.tmp 0)), none⟩,
 .op 1 ⟨some 4, (.nilCheck (.tmp 3)), none⟩,
 .op 2 ⟨some 5, (.load1 (.tmp 4)), none⟩,
 .op 3 ⟨some 6, (.move (.tmp 0)), none⟩,
 .op 4 ⟨some 7, (.nilCheck (.tmp 6)), none⟩,
 .op 5 ⟨some 8, (.load1 (.tmp 7)), none⟩,
 .op 6 ⟨some 9, (.bin .shl .prim (.tmp 8) (.con (.int .u64 13))), none⟩,
 .op 7 ⟨some 10, (.bin .xor .prim (.tmp 5) (.tmp 9)), none⟩,
 .op 8 ⟨some 11, (.nilCheck (.tmp 3)), none⟩,
 .op 9 ⟨none, (.store 1 (.tmp 11) (.tmp 10)), none⟩])
 (.seq (.dregion [[], [0], [0, 1], [], [3], [3, 4], [4, 3, 5], [5, 3, 4, 6, 1, 0, 2], [7, 6, 5, 4, 3, 2, 1, 0], [0, 1, 2, 3, 4, 5, 6, 7, 8]] [.op 0 ⟨some 12, (.move (.tmp 0)), none⟩,
 .op 1 ⟨some 13, (.nilCheck (.tmp 12)), none⟩,
 .op 2 ⟨some 14, (.load1 (.tmp 13)), none⟩,
 .op 3 ⟨some 15, (.move (.tmp 0)), none⟩,
 .op 4 ⟨some 16, (.nilCheck (.tmp 15)), none⟩,
 .op 5 ⟨some 17, (.load1 (.tmp 16)), none⟩,
 .op 6 ⟨some 18, (.bin .shr .prim (.tmp 17) (.con (.int .u64 7))), none⟩,
 .op 7 ⟨some 19, (.bin .xor .prim (.tmp 14) (.tmp 18)), none⟩,
 .op 8 ⟨some 20, (.nilCheck (.tmp 12)), none⟩,
 .op 9 ⟨none, (.store 1 (.tmp 20) (.tmp 19)), none⟩])
 (.seq (.dregion [[], [0], [0, 1], [], [3], [3, 4], [4, 3, 5], [5, 3, 4, 6, 1, 0, 2], [7, 6, 5, 4, 3, 2, 1, 0], [0, 1, 2, 3, 4, 5, 6, 7, 8]] [.op 0 ⟨some 21, (.move (.tmp 0)), none⟩,
 .op 1 ⟨some 22, (.nilCheck (.tmp 21)), none⟩,
 .op 2 ⟨some 23, (.load1 (.tmp 22)), none⟩,
 .op 3 ⟨some 24, (.move (.tmp 0)), none⟩,
 .op 4 ⟨some 25, (.nilCheck (.tmp 24)), none⟩,
 .op 5 ⟨some 26, (.load1 (.tmp 25)), none⟩,
 .op 6 ⟨some 27, (.bin .shl .prim (.tmp 26) (.con (.int .u64 17))), none⟩,
 .op 7 ⟨some 28, (.bin .xor .prim (.tmp 23) (.tmp 27)), none⟩,
 .op 8 ⟨some 29, (.nilCheck (.tmp 21)), none⟩,
 .op 9 ⟨none, (.store 1 (.tmp 29) (.tmp 28)), none⟩])
 (.seq (.region [⟨some 30, (.move (.tmp 0)), none⟩,
 ⟨some 31, (.nilCheck (.tmp 30)), none⟩,
 ⟨some 32, (.load1 (.tmp 31)), none⟩,
 ⟨some 2, (.move (.tmp 32)), none⟩])
 .ret)))))⟩
theorem F146_ok : cfn tab F146.body Try.f146 = some F146 := by kernel_rfl

/- slices.medianAdjacentCmpFunc[milestone/order.ranked] -/
def F147 : AFn := ⟨18, [.tmp 8],
 (.seq (.region [⟨some 8, (.move (.con (.int .i64 0))), none⟩])
 (.seq (.region [⟨some 9, (.move (.tmp 0)), none⟩,
 ⟨some 10, (.move (.tmp 1)), none⟩,
 ⟨some 11, (.bin .sub .prim (.tmp 10) (.con (.int .i64 1))), none⟩,
 ⟨some 12, (.move (.tmp 1)), none⟩,
 ⟨some 13, (.move (.tmp 1)), none⟩,
 ⟨some 14, (.bin .add .prim (.tmp 13) (.con (.int .i64 1))), none⟩,
 ⟨some 15, (.move (.tmp 2)), none⟩,
 ⟨some 16, (.move (.tmp 3)), none⟩,
 ⟨some 17, (.call 148 [(.tmp 9), (.tmp 11), (.tmp 12), (.tmp 14), (.tmp 15), (.tmp 16)]), none⟩,
 ⟨some 8, (.move (.tmp 17)), none⟩])
 .ret))⟩
theorem F147_ok : cfn tab F147.body Try.f147 = some F147 := by kernel_rfl

/- slices.medianCmpFunc[milestone/order.ranked] -/
def F148 : AFn := ⟨41, [.tmp 12],
 (.seq (.region [⟨some 12, (.move (.con (.int .i64 0))), none⟩])
 (.seq (.region [⟨some 14, (.move (.tmp 0)), none⟩,
 ⟨some 15, (.move (.tmp 1)), none⟩,
 ⟨some 16, (.move (.tmp 2)), none⟩,
 ⟨some 17, (.move (.tmp 4)), none⟩,
 ⟨some 18, (.move (.tmp 5)), none⟩,
 ⟨some 19, (.call 157 [(.tmp 14), (.tmp 15), (.tmp 16), (.tmp 17), (.tmp 18)]), none⟩,
 ⟨some 13, (.move (.tmp 19)), none⟩,
 ⟨some 20, (.extract (.tmp 13) 0), none⟩,
 ⟨some 21, (.extract (.tmp 13) 1), none⟩,
 ⟨some 1, (.move (.tmp 20)), none⟩,
 ⟨some 2, (.move (.tmp 21)), none⟩])
 (.seq (.region [⟨some 23, (.move (.tmp 0)), none⟩,
 ⟨some 24, (.move (.tmp 2)), none⟩,
 ⟨some 25, (.move (.tmp 3)), none⟩,
 ⟨some 26, (.move (.tmp 4)), none⟩,
 ⟨some 27, (.move (.tmp 5)), none⟩,
 ⟨some 28, (.call 157 [(.tmp 23), (.tmp 24), (.tmp 25), (.tmp 26), (.tmp 27)]), none⟩,
 ⟨some 22, (.move (.tmp 28)), none⟩,
 ⟨some 29, (.extract (.tmp 22) 0), none⟩,
 ⟨some 30, (.extract (.tmp 22) 1), none⟩,
 ⟨some 2, (.move (.tmp 29)), none⟩,
 ⟨some 3, (.move (.tmp 30)), none⟩])
 (.seq (.region [⟨some 32, (.move (.tmp 0)), none⟩,
 ⟨some 33, (.move (.tmp 1)), none⟩,
 ⟨some 34, (.move (.tmp 2)), none⟩,
 ⟨some 35, (.move (.tmp 4)), none⟩,
 ⟨some 36, (.move (.tmp 5)), none⟩,
 ⟨some 37, (.call 157 [(.tmp 32), (.tmp 33), (.tmp 34), (.tmp 35), (.tmp 36)]), none⟩,
 ⟨some 31, (.move (.tmp 37)), none⟩,
 ⟨some 38, (.extract (.tmp 31) 0), none⟩,
 ⟨some 39, (.extract (.tmp 31) 1), none⟩,
 ⟨some 1, (.move (.tmp 38)), none⟩,
 ⟨some 2, (.move (.tmp 39)), none⟩])
 (.seq (.region [⟨some 40, (.move (.tmp 2)), none⟩,
 ⟨some 12, (.move (.tmp 40)), none⟩])
 .ret)))))⟩
theorem F148_ok : cfn tab F148.body Try.f148 = some F148 := by kernel_rfl

/- slices.order2CmpFunc[milestone/order.ranked] -/
def F157 : AFn := ⟨32, [.tmp 10, .tmp 11],
 (.seq (.region [⟨some 10, (.move (.con (.int .i64 0))), none⟩,
 ⟨some 11, (.move (.con (.int .i64 0))), none⟩])
 (.seq (.seq (.dregion [[], [], [], [2, 1], [1, 2, 3], [], [], [6, 5], [5, 6, 7], [7, 6, 5, 8, 3, 2, 1, 4, 0], [0, 4, 1, 2, 3, 8, 5, 6, 7, 9]] [.op 0 ⟨some 12, (.move (.tmp 4)), none⟩,
 .op 1 ⟨some 13, (.move (.tmp 0)), none⟩,
 .op 2 ⟨some 14, (.move (.tmp 2)), none⟩,
 .op 3 ⟨some 15, (.indexAddrS 2 (.tmp 13) (.tmp 14)), none⟩,
 .op 4 ⟨some 16, (.loadN 2 (.tmp 15)), none⟩,
 .op 5 ⟨some 17, (.move (.tmp 0)), none⟩,
 .op 6 ⟨some 18, (.move (.tmp 1)), none⟩,
 .op 7 ⟨some 19, (.indexAddrS 2 (.tmp 17) (.tmp 18)), none⟩,
 .op 8 ⟨some 20, (.loadN 2 (.tmp 19)), none⟩,
 .op 9 ⟨some 21, (.callv (.tmp 12) [(.tmp 16), (.tmp 20)]), none⟩,
 .op 10 ⟨some 22, (.bin .lss .prim (.tmp 21) (.con (.int .i64 0))), none⟩])
 (.cond (.tmp 22)
 (.seq (.region [⟨some 23, (.move (.tmp 3)), none⟩,
 ⟨some 24, (.nilCheck (.tmp 23)), none⟩,
 ⟨some 25, (.load1 (.tmp 24)), none⟩,
 ⟨some 26, (.bin .add .prim (.tmp 25) (.con (.int .i64 1))), none⟩,
 ⟨some 27, (.nilCheck (.tmp 23)), none⟩,
 ⟨none, (.store 1 (.tmp 27) (.tmp 26)), none⟩])
 (.seq (.region [⟨some 28, (.move (.tmp 2)), none⟩,
 ⟨some 29, (.move (.tmp 1)), none⟩,
 ⟨some 10, (.move (.tmp 28)), none⟩,
 ⟨some 11, (.move (.tmp 29)), none⟩])
 .ret))
 .skip))
 (.seq (.region [⟨some 30, (.move (.tmp 1)), none⟩,
 ⟨some 31, (.move (.tmp 2)), none⟩,
 ⟨some 10, (.move (.tmp 30)), none⟩,
 ⟨some 11, (.move (.tmp 31)), none⟩])
 .ret)))⟩
theorem F157_ok : cfn tab F157.body Try.f157 = some F157 := by kernel_rfl

end Go.Proofs.Ytknhlpmmalcchaa
