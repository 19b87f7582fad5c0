/- Functions of the program as the interpreter takes them (printed by a program). -/
import Derived.Test.YtknhlpmmalcchaaI13Ft
set_option linter.all false
set_option linter.unusedVariables false
set_option linter.unusedSimpArgs false
namespace Go.Proofs.Ytknhlpmmalcchaa
open Go Go.VAI Go.Proofs
/- (*slices.xorshift).Next -/
def F146 : AFn := ⟨33, [.tmp 2],
 (.seq (.region [⟨some 2, (.move (.con (.int .u64 0))), none⟩])
 (.seq (.dregion [[], [0], [0, 1], [], [3], [3, 4], [4, 3, 5], [5, 3, 4, 6, 1, 0, 2], [7, 6, 5, 4, 3, 2, 1, 0], [0, 1, 2, 3, 4, 5, 6, 7, 8]] [.op 0 ⟨some 3, (.move (.tmp 0)), none⟩,
 .op 1 ⟨some 4, (.nilCheck (.tmp 3)), none⟩,
 .op 2 ⟨some 5, (.load1 (.tmp 4)), none⟩,
 .op 3 ⟨some 6, (.move (.tmp 0)), none⟩,
 .op 4 ⟨some 7, (.nilCheck (.tmp 6)), none⟩,
 .op 5 ⟨some 8, (.load1 (.tmp 7)), none⟩,
 .op 6 ⟨some 9, (.bin .shl .prim (.tmp 8) (.con (.int .u64 13))), none⟩,
 .op 7 ⟨some 10, (.bin .xor .prim (.tmp 5) (.tmp 9)), none⟩,
 .op 8 ⟨some 11, (.nilCheck (.tmp 3)), none⟩,
 .op 9 ⟨none, (.store 1 (.tmp 11) (.tmp 10)), none⟩])
 (.seq (.dregion [[], [0], [0, 1], [], [3], [3, 4], [4, 3, 5], [5, 3, 4, 6, 1, 0, 2], [7, 6, 5, 4, 3, 2, 1, 0], [0, 1, 2, 3, 4, 5, 6, 7, 8]] [.op 0 ⟨some 12, (.move (.tmp 0)), none⟩,
 .op 1 ⟨some 13, (.nilCheck (.tmp 12)), none⟩,
 .op 2 ⟨some 14, (.load1 (.tmp 13)), none⟩,
 .op 3 ⟨some 15, (.move (.tmp 0)), none⟩,
 .op 4 ⟨some 16, (.nilCheck (.tmp 15)), none⟩,
 .op 5 ⟨some 17, (.load1 (.tmp 16)), none⟩,
 .op 6 ⟨some 18, (.bin .shr .prim (.tmp 17) (.con (.int .u64 7))), none⟩,
 .op 7 ⟨some 19, (.bin .xor .prim (.tmp 14) (.tmp 18)), none⟩,
 .op 8 ⟨some 20, (.nilCheck (.tmp 12)), none⟩,
 .op 9 ⟨none, (.store 1 (.tmp 20) (.tmp 19)), none⟩])
 (.seq (.dregion [[], [0], [0, 1], [], [3], [3, 4], [4, 3, 5], [5, 3, 4, 6, 1, 0, 2], [7, 6, 5, 4, 3, 2, 1, 0], [0, 1, 2, 3, 4, 5, 6, 7, 8]] [.op 0 ⟨some 21, (.move (.tmp 0)), none⟩,
 .op 1 ⟨some 22, (.nilCheck (.tmp 21)), none⟩,
 .op 2 ⟨some 23, (.load1 (.tmp 22)), none⟩,
 .op 3 ⟨some 24, (.move (.tmp 0)), none⟩,
 .op 4 ⟨some 25, (.nilCheck (.tmp 24)), none⟩,
 .op 5 ⟨some 26, (.load1 (.tmp 25)), none⟩,
 .op 6 ⟨some 27, (.bin .shl .prim (.tmp 26) (.con (.int .u64 17))), none⟩,
 .op 7 ⟨some 28, (.bin .xor .prim (.tmp 23) (.tmp 27)), none⟩,
 .op 8 ⟨some 29, (.nilCheck (.tmp 21)), none⟩,
 .op 9 ⟨none, (.store 1 (.tmp 29) (.tmp 28)), none⟩])
 (.seq (.region [⟨some 30, (.move (.tmp 0)), none⟩,
 ⟨some 31, (.nilCheck (.tmp 30)), none⟩,
 ⟨some 32, (.load1 (.tmp 31)), none⟩,
 ⟨some 2, (.move (.tmp 32)), none⟩])
 .ret)))))⟩
theorem F146_ok : cfn tab F146.body Try.f146 = some F146 := by kernel_rfl

/- slices.medianAdjacentCmpFunc[milestone/order.ranked] -/
def F147 : AFn := ⟨18, [.tmp 8],
 (.seq (.region [⟨some 8, (.move (.con (.int .i64 0))), none⟩])
 (.seq (.region [⟨some 9, (.move (.tmp 0)), none⟩,
 ⟨some 10, (.move (.tmp 1)), none⟩,
 ⟨some 11, (.bin .sub .prim (.tmp 10) (.con (.int .i64 1))), none⟩,
 ⟨some 12, (.move (.tmp 1)), none⟩,
 ⟨some 13, (.move (.tmp 1)), none⟩,
 ⟨some 14, (.bin .add .prim (.tmp 13) (.con (.int .i64 1))), none⟩,
 ⟨some 15, (.move (.tmp 2)), none⟩,
 ⟨some 16, (.move (.tmp 3)), none⟩,
 ⟨some 17, (.call 148 [(.tmp 9), (.tmp 11), (.tmp 12), (.tmp 14), (.tmp 15), (.tmp 16)]), none⟩,
 ⟨some 8, (.move (.tmp 17)), none⟩])
 .ret))⟩
theorem F147_ok : cfn tab F147.body Try.f147 = some F147 := by kernel_rfl

/- slices.medianCmpFunc[milestone/order.ranked] -/
def F148 : AFn := ⟨41, [.tmp 12],
 (.seq (.region [⟨some 12, (.move (.con (.int .i64 0))), none⟩])
 (.seq (.region [⟨some 14, (.move (.tmp 0)), none⟩,
 ⟨some 15, (.move (.tmp 1)), none⟩,
 ⟨some 16, (.move (.tmp 2)), none⟩,
 ⟨some 17, (.move (.tmp 4)), none⟩,
 ⟨some 18, (.move (.tmp 5)), none⟩,
 ⟨some 19, (.call 157 [(.tmp 14), (.tmp 15), (.tmp 16), (.tmp 17), (.tmp 18)]), none⟩,
 ⟨some 13, (.move (.tmp 19)), none⟩,
 ⟨some 20, (.extract (.tmp 13) 0), none⟩,
 ⟨some 21, (.extract (.tmp 13) 1), none⟩,
 ⟨some 1, (.move (.tmp 20)), none⟩,
 ⟨some 2, (.move (.tmp 21)), none⟩])
 (.seq (.region [⟨some 23, (.move (.tmp 0)), none⟩,
 ⟨some 24, (.move (.tmp 2)), none⟩,
 ⟨some 25, (.move (.tmp 3)), none⟩,
 ⟨some 26, (.move (.tmp 4)), none⟩,
 ⟨some 27, (.move (.tmp 5)), none⟩,
 ⟨some 28, (.call 157 [(.tmp 23), (.tmp 24), (.tmp 25), (.tmp 26), (.tmp 27)]), none⟩,
 ⟨some 22, (.move (.tmp 28)), none⟩,
 ⟨some 29, (.extract (.tmp 22) 0), none⟩,
 ⟨some 30, (.extract (.tmp 22) 1), none⟩,
 ⟨some 2, (.move (.tmp 29)), none⟩,
 ⟨some 3, (.move (.tmp 30)), none⟩])
 (.seq (.region [⟨some 32, (.move (.tmp 0)), none⟩,
 ⟨some 33, (.move (.tmp 1)), none⟩,
 ⟨some 34, (.move (.tmp 2)), none⟩,
 ⟨some 35, (.move (.tmp 4)), none⟩,
 ⟨some 36, (.move (.tmp 5)), none⟩,
 ⟨some 37, (.call 157 [(.tmp 32), (.tmp 33), (.tmp 34), (.tmp 35), (.tmp 36)]), none⟩,
 ⟨some 31, (.move (.tmp 37)), none⟩,
 ⟨some 38, (.extract (.tmp 31) 0), none⟩,
 ⟨some 39, (.extract (.tmp 31) 1), none⟩,
 ⟨some 1, (.move (.tmp 38)), none⟩,
 ⟨some 2, (.move (.tmp 39)), none⟩])
 (.seq (.region [⟨some 40, (.move (.tmp 2)), none⟩,
 ⟨some 12, (.move (.tmp 40)), none⟩])
 .ret)))))⟩
theorem F148_ok : cfn tab F148.body Try.f148 = some F148 := by kernel_rfl

/- slices.order2CmpFunc[milestone/order.ranked] -/
def F157 : AFn := ⟨32, [.tmp 10, .tmp 11],
 (.seq (.region [⟨some 10, (.move (.con (.int .i64 0))), none⟩,
 ⟨some 11, (.move (.con (.int .i64 0))), none⟩])
 (.seq (.seq (.dregion [[], [], [], [2, 1], [1, 2, 3], [], [], [6, 5], [5, 6, 7], [7, 6, 5, 8, 3, 2, 1, 4, 0], [0, 4, 1, 2, 3, 8, 5, 6, 7, 9]] [.op 0 ⟨some 12, (.move (.tmp 4)), none⟩,
 .op 1 ⟨some 13, (.move (.tmp 0)), none⟩,
 .op 2 ⟨some 14, (.move (.tmp 2)), none⟩,
 .op 3 ⟨some 15, (.indexAddrS 2 (.tmp 13) (.tmp 14)), none⟩,
 .op 4 ⟨some 16, (.loadN 2 (.tmp 15)), none⟩,
 .op 5 ⟨some 17, (.move (.tmp 0)), none⟩,
 .op 6 ⟨some 18, (.move (.tmp 1)), none⟩,
 .op 7 ⟨some 19, (.indexAddrS 2 (.tmp 17) (.tmp 18)), none⟩,
 .op 8 ⟨some 20, (.loadN 2 (.tmp 19)), none⟩,
 .op 9 ⟨some 21, (.callv (.tmp 12) [(.tmp 16), (.tmp 20)]), none⟩,
 .op 10 ⟨some 22, (.bin .lss .prim (.tmp 21) (.con (.int .i64 0))), none⟩])
 (.cond (.tmp 22)
 (.seq (.region [⟨some 23, (.move (.tmp 3)), none⟩,
 ⟨some 24, (.nilCheck (.tmp 23)), none⟩,
 ⟨some 25, (.load1 (.tmp 24)), none⟩,
 ⟨some 26, (.bin .add .prim (.tmp 25) (.con (.int .i64 1))), none⟩,
 ⟨some 27, (.nilCheck (.tmp 23)), none⟩,
 ⟨none, (.store 1 (.tmp 27) (.tmp 26)), none⟩])
 (.seq (.region [⟨some 28, (.move (.tmp 2)), none⟩,
 ⟨some 29, (.move (.tmp 1)), none⟩,
 ⟨some 10, (.move (.tmp 28)), none⟩,
 ⟨some 11, (.move (.tmp 29)), none⟩])
 .ret))
 .skip))
 (.seq (.region [⟨some 30, (.move (.tmp 1)), none⟩,
 ⟨some 31, (.move (.tmp 2)), none⟩,
 ⟨some 10, (.move (.tmp 30)), none⟩,
 ⟨some 11, (.move (.tmp 31)), none⟩])
 .ret)))⟩
theorem F157_ok : cfn tab F157.body Try.f157 = some F157 := by kernel_rfl

end Go.Proofs.Ytknhlpmmalcchaa
