/- Functions of the program as the interpreter takes them (printed by a program). -/
import Derived.Test.YtknhlpmmalcchaaI15Ft
set_option linter.all false
set_option linter.unusedVariables false
set_option linter.unusedSimpArgs false
namespace Go.Proofs.Ytknhlpmmalcchaa
open Go Go.VAI Go.Proofs
/- milestone/milestonelaw10.OrderKnown -/
def F15 : AFn := ⟨99, [.tmp 2],
 (.seq (.region [⟨some 2, (.move (.con (.bool false))), none⟩])
 (.seq (.seq (.region [⟨some 10, (.call 37 []), none⟩,
 ⟨some 11, (.un .not (.tmp 10)), none⟩])
 (.cond (.tmp 11)
 (.seq (.region [⟨some 2, (.move (.con (.bool false))), none⟩])
 .ret)
 .skip))
 (.seq (.region [⟨some 12, (.build [(.int .i64 0), .nilSlice] [(0, 1, (.con (.int .i64 3)))]), none⟩,
 ⟨some 13, (.build [(.int .i64 0), (.int .i64 0), (.int .i64 0), (.int .i64 0)] [(0, 1, (.con (.int .i64 0))), (1, 1, (.con (.int .i64 1)))]), none⟩,
 ⟨some 14, (.build [(.int .i64 0), (.int .i64 0), (.int .i64 0), (.int .i64 0)] [(0, 1, (.con (.int .i64 1))), (1, 1, (.con (.int .i64 2)))]), none⟩,
 ⟨some 15, (.buildSlice [(.int .i64 0), (.int .i64 0), (.int .i64 0), (.int .i64 0), (.int .i64 0), (.int .i64 0), (.int .i64 0), (.int .i64 0)] 2 [(0, 4, (.tmp 13)), (4, 4, (.tmp 14))]), none⟩,
 ⟨some 16, (.build [(.int .i64 0), .nilSlice] [(0, 1, (.con (.int .i64 3))), (1, 1, (.tmp 15))]), none⟩,
 ⟨some 17, (.build [(.int .i64 0), (.int .i64 0), (.int .i64 0), (.int .i64 0)] [(0, 1, (.con (.int .i64 0))), (1, 1, (.con (.int .i64 1)))]), none⟩,
 ⟨some 18, (.build [(.int .i64 0), (.int .i64 0), (.int .i64 0), (.int .i64 0)] [(0, 1, (.con (.int .i64 1))), (1, 1, (.con (.int .i64 2))), (2, 1, (.con (.int .i64 1)))]), none⟩,
 ⟨some 19, (.buildSlice [(.int .i64 0), (.int .i64 0), (.int .i64 0), (.int .i64 0), (.int .i64 0), (.int .i64 0), (.int .i64 0), (.int .i64 0)] 2 [(0, 4, (.tmp 17)), (4, 4, (.tmp 18))]), none⟩,
 ⟨some 20, (.build [(.int .i64 0), .nilSlice] [(0, 1, (.con (.int .i64 3))), (1, 1, (.tmp 19))]), none⟩,
 ⟨some 21, (.build [(.int .i64 0), (.int .i64 0), (.int .i64 0), (.int .i64 0)] [(0, 1, (.con (.int .i64 0))), (1, 1, (.con (.int .i64 0))), (2, 1, (.con (.int .i64 3)))]), none⟩,
 ⟨some 22, (.buildSlice [(.int .i64 0), (.int .i64 0), (.int .i64 0), (.int .i64 0)] 1 [(0, 4, (.tmp 21))]), none⟩,
 ⟨some 23, (.build [(.int .i64 0), .nilSlice] [(0, 1, (.con (.int .i64 2))), (1, 1, (.tmp 22))]), none⟩,
 ⟨some 24, (.build [(.int .i64 0), (.int .i64 0), (.int .i64 0), (.int .i64 0)] [(0, 1, (.con (.int .i64 3))), (1, 1, (.con (.int .i64 2)))]), none⟩,
 ⟨some 25, (.build [(.int .i64 0), (.int .i64 0), (.int .i64 0), (.int .i64 0)] [(0, 1, (.con (.int .i64 3))), (1, 1, (.con (.int .i64 1)))]), none⟩,
 ⟨some 26, (.build [(.int .i64 0), (.int .i64 0), (.int .i64 0), (.int .i64 0)] [(0, 1, (.con (.int .i64 3))), (1, 1, (.con (.int .i64 0)))]), none⟩,
 ⟨some 27, (.build [(.int .i64 0), (.int .i64 0), (.int .i64 0), (.int .i64 0)] [(0, 1, (.con (.int .i64 0))), (1, 1, (.con (.int .i64 0)))]), none⟩,
 ⟨some 28, (.buildSlice [(.int .i64 0), (.int .i64 0), (.int .i64 0), (.int .i64 0), (.int .i64 0), (.int .i64 0), (.int .i64 0), (.int .i64 0), (.int .i64 0), (.int .i64 0), (.int .i64 0), (.int .i64 0), (.int .i64 0), (.int .i64 0), (.int .i64 0), (.int .i64 0)] 4 [(0, 4, (.tmp 24)), (4, 4, (.tmp 25)), (8, 4, (.tmp 26)), (12, 4, (.tmp 27))]), none⟩,
 ⟨some 29, (.build [(.int .i64 0), .nilSlice] [(0, 1, (.con (.int .i64 4))), (1, 1, (.tmp 28))]), none⟩,
 ⟨some 30, (.build [(.int .i64 0), (.int .i64 0), (.int .i64 0), (.int .i64 0)] [(0, 1, (.con (.int .i64 0))), (1, 1, (.con (.int .i64 0)))]), none⟩,
 ⟨some 31, (.build [(.int .i64 0), (.int .i64 0), (.int .i64 0), (.int .i64 0)] [(0, 1, (.con (.int .i64 0))), (1, 1, (.con (.int .i64 0))), (2, 1, (.con (.int .i64 4)))]), none⟩,
 ⟨some 32, (.buildSlice [(.int .i64 0), (.int .i64 0), (.int .i64 0), (.int .i64 0), (.int .i64 0), (.int .i64 0), (.int .i64 0), (.int .i64 0)] 2 [(0, 4, (.tmp 30)), (4, 4, (.tmp 31))]), none⟩,
 ⟨some 33, (.build [(.int .i64 0), .nilSlice] [(0, 1, (.con (.int .i64 2))), (1, 1, (.tmp 32))]), none⟩,
 ⟨some 34, (.buildSlice [(.int .i64 0), .nilSlice, (.int .i64 0), .nilSlice, (.int .i64 0), .nilSlice, (.int .i64 0), .nilSlice, (.int .i64 0), .nilSlice, (.int .i64 0), .nilSlice] 6 [(0, 2, (.tmp 12)), (2, 2, (.tmp 16)), (4, 2, (.tmp 20)), (6, 2, (.tmp 23)), (8, 2, (.tmp 29)), (10, 2, (.tmp 33))]), none⟩,
 ⟨some 3, (.move (.tmp 34)), none⟩])
 (.seq (.region [⟨some 35, (.buildSlice [(.int .i64 0), (.int .i64 0), (.int .i64 0)] 3 [(0, 1, (.con (.int .i64 0))), (1, 1, (.con (.int .i64 1))), (2, 1, (.con (.int .i64 2)))]), none⟩,
 ⟨some 36, (.buildSlice [(.int .i64 0), (.int .i64 0), (.int .i64 0)] 3 [(0, 1, (.con (.int .i64 0))), (1, 1, (.con (.int .i64 2))), (2, 1, (.con (.int .i64 1)))]), none⟩,
 ⟨some 37, (.buildSlice [(.int .i64 0), (.int .i64 0)] 2 [(0, 1, (.con (.int .i64 0))), (1, 1, (.con (.int .i64 2)))]), none⟩,
 ⟨some 38, (.buildSlice [(.int .i64 0), (.int .i64 0)] 2 [(0, 1, (.con (.int .i64 1))), (1, 1, (.con (.int .i64 0)))]), none⟩,
 ⟨some 39, (.buildSlice [(.int .i64 0), (.int .i64 0), (.int .i64 0), (.int .i64 0)] 4 [(0, 1, (.con (.int .i64 1))), (1, 1, (.con (.int .i64 2))), (2, 1, (.con (.int .i64 0))), (3, 1, (.con (.int .i64 3)))]), none⟩,
 ⟨some 40, (.buildSlice [(.int .i64 0)] 1 [(0, 1, (.con (.int .i64 1)))]), none⟩,
 ⟨some 41, (.buildSlice [.nilSlice, .nilSlice, .nilSlice, .nilSlice, .nilSlice, .nilSlice] 6 [(0, 1, (.tmp 35)), (1, 1, (.tmp 36)), (2, 1, (.tmp 37)), (3, 1, (.tmp 38)), (4, 1, (.tmp 39)), (5, 1, (.tmp 40))]), none⟩,
 ⟨some 4, (.move (.tmp 41)), none⟩])
 (.seq (.region [⟨some 42, (.move (.tmp 0)), none⟩,
 ⟨some 43, (.move (.tmp 3)), none⟩,
 ⟨some 44, (.lenS (.tmp 43)), none⟩,
 ⟨some 45, (.call 46 [(.tmp 42), (.tmp 44)]), none⟩,
 ⟨some 5, (.move (.tmp 45)), none⟩])
 (.seq (.dregion [[], [], [1, 0], [0, 1, 2], [2, 1, 0, 3], [], [], [6, 5], [5, 6, 7], [3, 0, 1, 2, 4, 7, 6, 5, 8], [8, 5, 6, 7, 9, 3, 0, 1, 2, 4], [10, 8, 5, 6, 7, 4, 2, 1, 0, 3, 9]] [.op 0 ⟨some 46, (.move (.tmp 3)), none⟩,
 .op 1 ⟨some 47, (.move (.tmp 5)), none⟩,
 .op 2 ⟨some 48, (.indexAddrS 2 (.tmp 46) (.tmp 47)), none⟩,
 .op 3 ⟨some 49, (.loadN 2 (.tmp 48)), none⟩,
 .op 5 ⟨some 51, (.move (.tmp 3)), none⟩,
 .op 6 ⟨some 52, (.move (.tmp 5)), none⟩,
 .op 7 ⟨some 53, (.indexAddrS 2 (.tmp 51) (.tmp 52)), none⟩,
 .op 8 ⟨some 54, (.loadN 2 (.tmp 53)), none⟩,
 .op 4 ⟨some 50, (.call 41 [(.tmp 49)]), none⟩,
 .re 8 ⟨some 54, (.loadN 2 (.tmp 53)), none⟩,
 .op 9 ⟨some 55, (.call 38 [(.tmp 54)]), none⟩,
 .op 10 ⟨some 6, (.move (.tmp 50)), none⟩,
 .op 11 ⟨some 7, (.move (.tmp 55)), none⟩])
 (.seq (.region [⟨some 8, (.move (.con (.int .i64 0))), none⟩])
 (.seq (.seq (.region [⟨some 9, (.move (.con (.int .i64 0))), none⟩])
 (.join [false, false, true, true, true, true, true, true, true] (.block 0 (.loop [false, false, false, true, true, true, true, true, true, true] [false, false, true, true, true, true, true, true, true]
 (.seq (.seq (.region [⟨some 56, (.move (.tmp 9)), none⟩,
 ⟨some 57, (.move (.tmp 7)), none⟩,
 ⟨some 58, (.lenS (.tmp 57)), none⟩,
 ⟨some 59, (.bin .lss .prim (.tmp 56) (.tmp 58)), none⟩])
 (.cond (.tmp 59)
 .skip
 (.exit 0)))
 (.seq (.block 1 (.seq (.region [⟨some 62, (.move (.tmp 7)), none⟩,
 ⟨some 63, (.move (.tmp 9)), none⟩,
 ⟨some 64, (.indexAddrS 1 (.tmp 62) (.tmp 63)), none⟩,
 ⟨some 65, (.load1 (.tmp 64)), none⟩])
 (.cond (.tmp 65)
 (.region [⟨some 66, (.move (.tmp 8)), none⟩,
 ⟨some 67, (.bin .add .prim (.tmp 66) (.con (.int .i64 1))), none⟩,
 ⟨some 8, (.move (.tmp 67)), none⟩])
 .skip)))
 (.region [⟨some 60, (.move (.tmp 9)), none⟩,
 ⟨some 61, (.bin .add .prim (.tmp 60) (.con (.int .i64 1))), none⟩,
 ⟨some 9, (.move (.tmp 61)), none⟩])))))))
 (.seq (.dregion [[], [], [], [2, 1], [1, 2, 3], [3, 2, 1, 4, 0], [0, 4, 1, 2, 3, 5], [5, 3, 2, 1, 4, 0, 6], [5, 3, 2, 1, 4, 0, 6], [5, 3, 2, 1, 4, 0, 6], [9, 6, 0, 4, 1, 2, 3, 5, 8], [8, 5, 3, 2, 1, 4, 0, 6, 9, 10], [10, 9, 6, 0, 4, 1, 2, 3, 5, 8, 11], [5, 3, 2, 1, 4, 0, 6], [5, 3, 2, 1, 4, 0, 6], [14, 6, 0, 4, 1, 2, 3, 5, 13], [13, 5, 3, 2, 1, 4, 0, 6, 14, 15], [15, 14, 6, 0, 4, 1, 2, 3, 5, 13, 16], [16, 13, 14, 15, 17, 11, 8, 5, 3, 2, 1, 4, 0, 6, 9, 10, 12], [12, 10, 9, 8, 11, 17, 15, 14, 13, 16, 18, 6, 0, 4, 1, 2, 3, 5, 7], [7, 18, 16, 13, 14, 15, 17, 11, 8, 9, 10, 12, 19, 5, 3, 2, 1, 4, 0, 6], [6, 0, 4, 1, 2, 3, 5, 19, 12, 10, 9, 8, 11, 17, 15, 14, 13, 16, 18, 7, 20], [20, 7, 18, 16, 13, 14, 15, 17, 11, 8, 9, 10, 12, 19, 5, 3, 2, 1, 4, 0, 6, 21], [21, 6, 0, 4, 1, 2, 3, 5, 19, 12, 10, 9, 8, 11, 17, 15, 14, 13, 16, 18, 7, 20, 22], [20, 7, 18, 16, 13, 14, 15, 17, 11, 8, 9, 10, 12, 19, 5, 3, 2, 1, 4, 0, 6, 21], [20, 7, 18, 16, 13, 14, 15, 17, 11, 8, 9, 10, 12, 19, 5, 3, 2, 1, 4, 0, 6, 21], [25, 21, 6, 0, 4, 1, 2, 3, 5, 19, 12, 10, 9, 8, 11, 17, 15, 14, 13, 16, 18, 7, 20, 24], [24, 20, 7, 18, 16, 13, 14, 15, 17, 11, 8, 9, 10, 12, 19, 5, 3, 2, 1, 4, 0, 6, 21, 25, 26], [26, 25, 21, 6, 0, 4, 1, 2, 3, 5, 19, 12, 10, 9, 8, 11, 17, 15, 14, 13, 16, 18, 7, 20, 24, 27], [27, 24, 25, 26, 28, 22, 20, 7, 18, 16, 13, 14, 15, 17, 11, 8, 9, 10, 12, 19, 5, 3, 2, 1, 4, 0, 6, 21, 23], [23, 22, 28, 26, 25, 24, 27, 29, 20, 7, 18, 16, 13, 14, 15, 17, 11, 8, 9, 10, 12, 19, 5, 3, 2, 1, 4, 0, 6, 21], [21, 6, 0, 4, 1, 2, 3, 5, 19, 12, 10, 9, 8, 11, 17, 15, 14, 13, 16, 18, 7, 20, 29, 27, 24, 25, 26, 28, 22, 23, 30]] [.op 0 ⟨some 68, (.move (.tmp 6)), none⟩,
 .op 1 ⟨some 69, (.move (.tmp 4)), none⟩,
 .op 2 ⟨some 70, (.move (.tmp 5)), none⟩,
 .op 3 ⟨some 71, (.indexAddrS 1 (.tmp 69) (.tmp 70)), none⟩,
 .op 4 ⟨some 72, (.load1 (.tmp 71)), none⟩,
 .op 5 ⟨some 73, (.call 40 [(.tmp 68), (.tmp 72)]), none⟩,
 .op 6 ⟨some 74, (.move (.tmp 73)), none⟩,
 .op 7 ⟨some 75, (.move (.tmp 8)), some (74, true)⟩,
 .op 8 ⟨some 76, (.move (.tmp 3)), some (74, true)⟩,
 .op 9 ⟨some 77, (.move (.tmp 5)), some (74, true)⟩,
 .op 10 ⟨some 78, (.indexAddrS 2 (.tmp 76) (.tmp 77)), some (74, true)⟩,
 .op 11 ⟨some 79, (.fieldAddr 0 (.tmp 78)), some (74, true)⟩,
 .op 12 ⟨some 80, (.load1 (.tmp 79)), some (74, true)⟩,
 .op 13 ⟨some 81, (.move (.tmp 4)), some (74, true)⟩,
 .op 14 ⟨some 82, (.move (.tmp 5)), some (74, true)⟩,
 .op 15 ⟨some 83, (.indexAddrS 1 (.tmp 81) (.tmp 82)), some (74, true)⟩,
 .op 16 ⟨some 84, (.load1 (.tmp 83)), some (74, true)⟩,
 .op 17 ⟨some 85, (.lenS (.tmp 84)), some (74, true)⟩,
 .op 18 ⟨some 86, (.bin .sub .prim (.tmp 80) (.tmp 85)), some (74, true)⟩,
 .op 19 ⟨some 87, (.bin .eql .prim (.tmp 75) (.tmp 86)), some (74, true)⟩,
 .op 20 ⟨some 88, (.pick (.tmp 74) (.tmp 87) (.con (.bool false))), none⟩,
 .op 21 ⟨some 89, (.move (.tmp 88)), none⟩,
 .op 22 ⟨some 90, (.move (.tmp 7)), some (89, true)⟩,
 .op 23 ⟨some 91, (.lenS (.tmp 90)), some (89, true)⟩,
 .op 24 ⟨some 92, (.move (.tmp 3)), some (89, true)⟩,
 .op 25 ⟨some 93, (.move (.tmp 5)), some (89, true)⟩,
 .op 26 ⟨some 94, (.indexAddrS 2 (.tmp 92) (.tmp 93)), some (89, true)⟩,
 .op 27 ⟨some 95, (.fieldAddr 0 (.tmp 94)), some (89, true)⟩,
 .op 28 ⟨some 96, (.load1 (.tmp 95)), some (89, true)⟩,
 .op 29 ⟨some 97, (.bin .eql .prim (.tmp 91) (.tmp 96)), some (89, true)⟩,
 .op 30 ⟨some 98, (.pick (.tmp 89) (.tmp 97) (.con (.bool false))), none⟩,
 .op 31 ⟨some 2, (.move (.tmp 98)), none⟩])
 .ret)))))))))⟩
theorem F15_ok : cfn tab F15.body Try.f15 = some F15 := by kernel_rfl

/- milestone/milestonelaw12.within -/
def F33 : AFn := ⟨15, [.tmp 4],
 (.seq (.region [⟨some 4, (.move (.con (.int .i64 0))), none⟩])
 (.seq (.region [⟨some 6, (.move (.tmp 0)), none⟩,
 ⟨some 7, (.move (.tmp 1)), none⟩,
 ⟨some 8, (.bin .rem .prim (.tmp 6) (.tmp 7)), none⟩,
 ⟨some 5, (.move (.tmp 8)), none⟩])
 (.seq (.seq (.region [⟨some 9, (.move (.tmp 5)), none⟩,
 ⟨some 10, (.bin .lss .prim (.tmp 9) (.con (.int .i64 0))), none⟩])
 (.join [false, false, false, false, true, true] (.cond (.tmp 10)
 (.region [⟨some 11, (.move (.tmp 5)), none⟩,
 ⟨some 12, (.move (.tmp 1)), none⟩,
 ⟨some 13, (.bin .add .prim (.tmp 11) (.tmp 12)), none⟩,
 ⟨some 5, (.move (.tmp 13)), none⟩])
 .skip)))
 (.seq (.region [⟨some 14, (.move (.tmp 5)), none⟩,
 ⟨some 4, (.move (.tmp 14)), none⟩])
 .ret))))⟩
theorem F33_ok : cfn tab F33.body Try.f33 = some F33 := by kernel_rfl

/- milestone/milestonelaw10.known -/
def F37 : AFn := ⟨34, [.tmp 0],
 (.seq (.region [⟨some 0, (.move (.con (.bool false))), none⟩])
 (.seq (.region [⟨some 3, (.build [(.int .i64 0), .nilSlice] [(0, 1, (.con (.int .i64 1)))]), none⟩,
 ⟨some 4, (.call 41 [(.tmp 3)]), none⟩,
 ⟨some 1, (.move (.tmp 4)), none⟩])
 (.seq (.region [⟨some 5, (.build [(.int .i64 0), (.int .i64 0), (.int .i64 0), (.int .i64 0)] [(0, 1, (.con (.int .i64 0))), (1, 1, (.con (.int .i64 1)))]), none⟩,
 ⟨some 6, (.build [(.int .i64 0), (.int .i64 0), (.int .i64 0), (.int .i64 0)] [(0, 1, (.con (.int .i64 1))), (1, 1, (.con (.int .i64 0))), (2, 1, (.con (.int .i64 1)))]), none⟩,
 ⟨some 7, (.buildSlice [(.int .i64 0), (.int .i64 0), (.int .i64 0), (.int .i64 0), (.int .i64 0), (.int .i64 0), (.int .i64 0), (.int .i64 0)] 2 [(0, 4, (.tmp 5)), (4, 4, (.tmp 6))]), none⟩,
 ⟨some 8, (.build [(.int .i64 0), .nilSlice] [(0, 1, (.con (.int .i64 2))), (1, 1, (.tmp 7))]), none⟩,
 ⟨some 9, (.call 38 [(.tmp 8)]), none⟩,
 ⟨some 2, (.move (.tmp 9)), none⟩])
 (.seq (.region [⟨some 10, (.move (.tmp 1)), none⟩,
 ⟨some 11, (.lenS (.tmp 10)), none⟩,
 ⟨some 12, (.bin .eql .prim (.tmp 11) (.con (.int .i64 1))), none⟩,
 ⟨some 13, (.move (.tmp 12)), none⟩,
 ⟨some 14, (.move (.tmp 1)), some (13, true)⟩,
 ⟨some 15, (.indexAddrS 1 (.tmp 14) (.con (.int .i64 0))), some (13, true)⟩,
 ⟨some 16, (.load1 (.tmp 15)), some (13, true)⟩,
 ⟨some 17, (.bin .eql .prim (.tmp 16) (.con (.int .i64 0))), some (13, true)⟩,
 ⟨some 18, (.pick (.tmp 13) (.tmp 17) (.con (.bool false))), none⟩,
 ⟨some 19, (.move (.tmp 18)), none⟩,
 ⟨some 20, (.move (.tmp 2)), some (19, true)⟩,
 ⟨some 21, (.lenS (.tmp 20)), some (19, true)⟩,
 ⟨some 22, (.bin .eql .prim (.tmp 21) (.con (.int .i64 2))), some (19, true)⟩,
 ⟨some 23, (.pick (.tmp 19) (.tmp 22) (.con (.bool false))), none⟩,
 ⟨some 24, (.move (.tmp 23)), none⟩,
 ⟨some 25, (.move (.tmp 2)), some (24, true)⟩,
 ⟨some 26, (.indexAddrS 1 (.tmp 25) (.con (.int .i64 0))), some (24, true)⟩,
 ⟨some 27, (.load1 (.tmp 26)), some (24, true)⟩,
 ⟨some 28, (.pick (.tmp 24) (.tmp 27) (.con (.bool false))), none⟩,
 ⟨some 29, (.move (.tmp 28)), none⟩,
 ⟨some 30, (.move (.tmp 2)), some (29, true)⟩,
 ⟨some 31, (.indexAddrS 1 (.tmp 30) (.con (.int .i64 1))), some (29, true)⟩,
 ⟨some 32, (.load1 (.tmp 31)), some (29, true)⟩,
 ⟨some 33, (.pick (.tmp 29) (.tmp 32) (.con (.bool false))), none⟩,
 ⟨some 0, (.move (.tmp 33)), none⟩])
 .ret))))⟩
theorem F37_ok : cfn tab F37.body Try.f37 = some F37 := by kernel_rfl

/- milestone/order.Links -/
def F38 : AFn := ⟨29, [.tmp 2],
 (.seq (.region [⟨some 1, (.box 2 (.tmp 0)), none⟩,
 ⟨some 2, (.move (.con .nilSlice)), none⟩])
 (.seq (.region [⟨some 6, (.loadN 2 (.tmp 1)), none⟩,
 ⟨some 7, (.call 81 [(.tmp 6)]), none⟩,
 ⟨some 8, (.mkFunc (.func 82) [(.tmp 7)] []), none⟩,
 ⟨some 3, (.move (.tmp 8)), none⟩])
 (.seq (.region [⟨some 9, (.fieldAddr 0 (.tmp 1)), none⟩,
 ⟨some 10, (.load1 (.tmp 9)), none⟩,
 ⟨some 11, (.max [(.tmp 10), (.con (.int .i64 0))]), none⟩,
 ⟨some 12, (.mkSlice [(.bool false)] 1 (.tmp 11) (.tmp 11)), none⟩,
 ⟨some 4, (.move (.tmp 12)), none⟩])
 (.seq (.seq (.region [⟨some 13, (.move (.tmp 4)), none⟩,
 ⟨some 14, (.lenS (.tmp 13)), none⟩,
 ⟨some 15, (.move (.con (.int .i64 0))), none⟩])
 (.join [false, false, true, false, true] (.block 0 (.loop [false, false, false, true, true, false, false, false, false, false, false, false, false, false, true, true] [false, false, true, false, true]
 (.seq (.region [⟨some 16, (.bin .lss .prim (.tmp 15) (.tmp 14)), none⟩])
 (.seq (.cond (.tmp 16)
 .skip
 (.exit 0))
 (.seq (.block 1 (.seq (.region [⟨some 17, (.move (.tmp 15)), none⟩,
 ⟨some 5, (.move (.tmp 17)), none⟩])
 (.region [⟨some 18, (.move (.tmp 4)), none⟩,
 ⟨some 19, (.move (.tmp 5)), none⟩,
 ⟨some 20, (.move (.tmp 3)), none⟩,
 ⟨some 21, (.move (.tmp 5)), none⟩,
 ⟨some 22, (.callv (.tmp 20) [(.tmp 21)]), none⟩,
 ⟨some 23, (.toInt .u64 (.tmp 22)), none⟩,
 ⟨some 24, (.call 83 [(.tmp 23)]), none⟩,
 ⟨some 25, (.bin .gtr .prim (.tmp 24) (.con (.int .i64 1))), none⟩,
 ⟨some 26, (.indexAddrS 1 (.tmp 18) (.tmp 19)), none⟩,
 ⟨none, (.store 1 (.tmp 26) (.tmp 25)), none⟩])))
 (.region [⟨some 27, (.bin .add .prim (.tmp 15) (.con (.int .i64 1))), none⟩,
 ⟨some 15, (.move (.tmp 27)), none⟩]))))))))
 (.seq (.region [⟨some 28, (.move (.tmp 4)), none⟩,
 ⟨some 2, (.move (.tmp 28)), none⟩])
 .ret)))))⟩
theorem F38_ok : cfn tab F38.body Try.f38 = some F38 := by kernel_rfl

/- milestone/milestoneref1.Ints -/
def F40 : AFn := ⟨26, [.tmp 4],
 (.seq (.region [⟨some 4, (.move (.con (.bool false))), none⟩])
 (.seq (.seq (.region [⟨some 6, (.move (.tmp 0)), none⟩,
 ⟨some 7, (.lenS (.tmp 6)), none⟩,
 ⟨some 8, (.move (.tmp 1)), none⟩,
 ⟨some 9, (.lenS (.tmp 8)), none⟩,
 ⟨some 10, (.bin .neq .prim (.tmp 7) (.tmp 9)), none⟩])
 (.cond (.tmp 10)
 (.seq (.region [⟨some 4, (.move (.con (.bool false))), none⟩])
 .ret)
 .skip))
 (.seq (.seq (.region [⟨some 5, (.move (.con (.int .i64 0))), none⟩])
 (.join [false, false, false, false, true] (.block 0 (.loop [true, true, false, false, false, true] [false, false, false, false, true]
 (.seq (.seq (.region [⟨some 11, (.move (.tmp 5)), none⟩,
 ⟨some 12, (.move (.tmp 0)), none⟩,
 ⟨some 13, (.lenS (.tmp 12)), none⟩,
 ⟨some 14, (.bin .lss .prim (.tmp 11) (.tmp 13)), none⟩])
 (.cond (.tmp 14)
 .skip
 (.exit 0)))
 (.seq (.block 1 (.seq (.dregion [[], [], [1, 0], [0, 1, 2], [], [], [5, 4], [4, 5, 6], [6, 5, 4, 7, 2, 1, 0, 3]] [.op 0 ⟨some 17, (.move (.tmp 0)), none⟩,
 .op 1 ⟨some 18, (.move (.tmp 5)), none⟩,
 .op 2 ⟨some 19, (.indexAddrS 1 (.tmp 17) (.tmp 18)), none⟩,
 .op 3 ⟨some 20, (.load1 (.tmp 19)), none⟩,
 .op 4 ⟨some 21, (.move (.tmp 1)), none⟩,
 .op 5 ⟨some 22, (.move (.tmp 5)), none⟩,
 .op 6 ⟨some 23, (.indexAddrS 1 (.tmp 21) (.tmp 22)), none⟩,
 .op 7 ⟨some 24, (.load1 (.tmp 23)), none⟩,
 .op 8 ⟨some 25, (.bin .neq .prim (.tmp 20) (.tmp 24)), none⟩])
 (.cond (.tmp 25)
 (.seq (.region [⟨some 4, (.move (.con (.bool false))), none⟩])
 .ret)
 .skip)))
 (.region [⟨some 15, (.move (.tmp 5)), none⟩,
 ⟨some 16, (.bin .add .prim (.tmp 15) (.con (.int .i64 1))), none⟩,
 ⟨some 5, (.move (.tmp 16)), none⟩])))))))
 (.seq (.region [⟨some 4, (.move (.con (.bool true))), none⟩])
 .ret))))⟩
theorem F40_ok : cfn tab F40.body Try.f40 = some F40 := by kernel_rfl

/- milestone/order.Order -/
def F41 : AFn := ⟨63, [.tmp 2],
 (.seq (.region [⟨some 1, (.box 2 (.tmp 0)), none⟩,
 ⟨some 2, (.move (.con .nilSlice)), none⟩])
 (.seq (.region [⟨some 12, (.loadN 2 (.tmp 1)), none⟩,
 ⟨some 13, (.call 81 [(.tmp 12)]), none⟩,
 ⟨some 3, (.move (.tmp 13)), none⟩])
 (.seq (.region [⟨some 14, (.move (.tmp 3)), none⟩,
 ⟨some 15, (.mkFunc (.func 85) [(.tmp 14)] []), none⟩,
 ⟨some 16, (.move (.tmp 3)), none⟩,
 ⟨some 17, (.mkFunc (.func 86) [(.tmp 16)] []), none⟩,
 ⟨some 4, (.move (.tmp 15)), none⟩,
 ⟨some 5, (.move (.tmp 17)), none⟩])
 (.seq (.region [⟨some 6, (.move (.con .nilSlice)), none⟩])
 (.seq (.seq (.region [⟨some 18, (.loadN 2 (.tmp 1)), none⟩,
 ⟨some 19, (.call 38 [(.tmp 18)]), none⟩,
 ⟨some 20, (.lenS (.tmp 19)), none⟩,
 ⟨some 21, (.move (.con (.int .i64 0))), none⟩])
 (.join [false, false, true, false, false, false, true] (.block 0 (.loop [false, false, false, false, true, true, true, false, false, false, false, false, false, false, false, false, false, false, false, true, true, true] [false, false, true, false, false, false, true]
 (.seq (.region [⟨some 22, (.bin .lss .prim (.tmp 21) (.tmp 20)), none⟩])
 (.seq (.cond (.tmp 22)
 .skip
 (.exit 0))
 (.seq (.block 1 (.seq (.region [⟨some 23, (.move (.tmp 21)), none⟩,
 ⟨some 24, (.indexAddrS 1 (.tmp 19) (.tmp 21)), none⟩,
 ⟨some 25, (.load1 (.tmp 24)), none⟩,
 ⟨some 7, (.move (.tmp 23)), none⟩,
 ⟨some 8, (.move (.tmp 25)), none⟩])
 (.seq (.region [⟨some 26, (.move (.tmp 8)), none⟩,
 ⟨some 27, (.un .not (.tmp 26)), none⟩])
 (.cond (.tmp 27)
 (.region [⟨some 28, (.move (.tmp 6)), none⟩,
 ⟨some 29, (.move (.tmp 7)), none⟩,
 ⟨some 30, (.move (.tmp 4)), none⟩,
 ⟨some 31, (.move (.tmp 7)), none⟩,
 ⟨some 32, (.callv (.tmp 30) [(.tmp 31)]), none⟩,
 ⟨some 33, (.lenS (.tmp 32)), none⟩,
 ⟨some 34, (.move (.tmp 5)), none⟩,
 ⟨some 35, (.move (.tmp 7)), none⟩,
 ⟨some 36, (.callv (.tmp 34) [(.tmp 35)]), none⟩,
 ⟨some 37, (.lenS (.tmp 36)), none⟩,
 ⟨some 38, (.bin .add .prim (.tmp 33) (.tmp 37)), none⟩,
 ⟨some 39, (.build [(.int .i64 0), (.int .i64 0)] [(0, 1, (.tmp 29)), (1, 1, (.tmp 38))]), none⟩,
 ⟨some 40, (.buildSlice [(.int .i64 0), (.int .i64 0)] 1 [(0, 2, (.tmp 39))]), none⟩,
 ⟨some 41, (.append 2 16 (.tmp 28) (.tmp 40)), none⟩,
 ⟨some 6, (.move (.tmp 41)), none⟩])
 .skip))))
 (.region [⟨some 42, (.bin .add .prim (.tmp 21) (.con (.int .i64 1))), none⟩,
 ⟨some 21, (.move (.tmp 42)), none⟩]))))))))
 (.seq (.region [⟨some 43, (.move (.tmp 6)), none⟩,
 ⟨some 44, (.call 87 [(.tmp 43), (.con (.func (.func 88) [] []))]), none⟩])
 (.seq (.region [⟨some 9, (.move (.con .nilSlice)), none⟩])
 (.seq (.seq (.region [⟨some 45, (.move (.tmp 6)), none⟩,
 ⟨some 46, (.lenS (.tmp 45)), none⟩,
 ⟨some 47, (.move (.con (.int .i64 0))), none⟩])
 (.join [false, false, true, false, false, false, false, false, false, true] (.block 2 (.loop [false, false, false, false, false, false, false, false, false, true, false, false, false, false, false, false, false, false, false, false, false, false, false, false, false, false, false, false, false, false, false, false, false, false, false, false, false, false, false, false, false, false, false, false, false, true, true, true] [false, false, true, false, false, false, false, false, false, true]
 (.seq (.region [⟨some 48, (.bin .lss .prim (.tmp 47) (.tmp 46)), none⟩])
 (.seq (.cond (.tmp 48)
 .skip
 (.exit 2))
 (.seq (.block 3 (.seq (.region [⟨some 49, (.indexAddrS 2 (.tmp 45) (.tmp 47)), none⟩,
 ⟨some 50, (.loadN 2 (.tmp 49)), none⟩,
 ⟨some 11, (.alloc [(.int .i64 0), (.int .i64 0)]), none⟩,
 ⟨none, (.store 2 (.tmp 11) (.tmp 50)), none⟩])
 (.region [⟨some 51, (.move (.tmp 9)), none⟩,
 ⟨some 52, (.fieldAddr 0 (.tmp 11)), none⟩,
 ⟨some 53, (.load1 (.tmp 52)), none⟩,
 ⟨some 54, (.buildSlice [(.int .i64 0)] 1 [(0, 1, (.tmp 53))]), none⟩,
 ⟨some 55, (.append 1 8 (.tmp 51) (.tmp 54)), none⟩,
 ⟨some 9, (.move (.tmp 55)), none⟩])))
 (.region [⟨some 56, (.bin .add .prim (.tmp 47) (.con (.int .i64 1))), none⟩,
 ⟨some 47, (.move (.tmp 56)), none⟩]))))))))
 (.seq (.region [⟨some 57, (.move (.tmp 9)), none⟩,
 ⟨some 58, (.move (.tmp 9)), none⟩,
 ⟨some 59, (.lenS (.tmp 58)), none⟩,
 ⟨some 60, (.move (.tmp 9)), none⟩,
 ⟨some 61, (.lenS (.tmp 60)), none⟩,
 ⟨some 62, (.slice 1 (.tmp 57) none (some (.tmp 59)) (some (.tmp 61))), none⟩,
 ⟨some 2, (.move (.tmp 62)), none⟩])
 .ret)))))))))⟩
theorem F41_ok : cfn tab F41.body Try.f41 = some F41 := by kernel_rfl

/- milestone/milestonelaw10.within -/
def F46 : AFn := ⟨15, [.tmp 4],
 (.seq (.region [⟨some 4, (.move (.con (.int .i64 0))), none⟩])
 (.seq (.region [⟨some 6, (.move (.tmp 0)), none⟩,
 ⟨some 7, (.move (.tmp 1)), none⟩,
 ⟨some 8, (.bin .rem .prim (.tmp 6) (.tmp 7)), none⟩,
 ⟨some 5, (.move (.tmp 8)), none⟩])
 (.seq (.seq (.region [⟨some 9, (.move (.tmp 5)), none⟩,
 ⟨some 10, (.bin .lss .prim (.tmp 9) (.con (.int .i64 0))), none⟩])
 (.join [false, false, false, false, true, true] (.cond (.tmp 10)
 (.region [⟨some 11, (.move (.tmp 5)), none⟩,
 ⟨some 12, (.move (.tmp 1)), none⟩,
 ⟨some 13, (.bin .add .prim (.tmp 11) (.tmp 12)), none⟩,
 ⟨some 5, (.move (.tmp 13)), none⟩])
 .skip)))
 (.seq (.region [⟨some 14, (.move (.tmp 5)), none⟩,
 ⟨some 4, (.move (.tmp 14)), none⟩])
 .ret))))⟩
theorem F46_ok : cfn tab F46.body Try.f46 = some F46 := by kernel_rfl

/- slices.Clone[[]milestone/api.Edge,milestone/api.Edge] -/
def F69 : AFn := ⟨8, [.tmp 2],
 (.seq (.region [⟨some 2, (.move (.con .nilSlice)), none⟩])
 (.seq (.seq (.region [⟨some 3, (.move (.tmp 0)), none⟩,
 ⟨some 4, (.bin .eql .nilS (.tmp 3) (.con .nilSlice)), none⟩])
 (.cond (.tmp 4)
 (.seq (.region [⟨some 2, (.move (.con .nilSlice)), none⟩])
 .ret)
 .skip))
 (.seq (.region [⟨some 5, (.buildSlice [] 0 []), none⟩,
 ⟨some 6, (.move (.tmp 0)), none⟩,
 ⟨some 7, (.append 4 32 (.tmp 5) (.tmp 6)), none⟩,
 ⟨some 2, (.move (.tmp 7)), none⟩])
 .ret)))⟩
theorem F69_ok : cfn tab F69.body Try.f69 = some F69 := by kernel_rfl

/- slices.Clone[[]int,int] -/
def F70 : AFn := ⟨8, [.tmp 2],
 (.seq (.region [⟨some 2, (.move (.con .nilSlice)), none⟩])
 (.seq (.seq (.region [⟨some 3, (.move (.tmp 0)), none⟩,
 ⟨some 4, (.bin .eql .nilS (.tmp 3) (.con .nilSlice)), none⟩])
 (.cond (.tmp 4)
 (.seq (.region [⟨some 2, (.move (.con .nilSlice)), none⟩])
 .ret)
 .skip))
 (.seq (.region [⟨some 5, (.buildSlice [] 0 []), none⟩,
 ⟨some 6, (.move (.tmp 0)), none⟩,
 ⟨some 7, (.append 1 8 (.tmp 5) (.tmp 6)), none⟩,
 ⟨some 2, (.move (.tmp 7)), none⟩])
 .ret)))⟩
theorem F70_ok : cfn tab F70.body Try.f70 = some F70 := by kernel_rfl

/- milestone/adj.New -/
def F81 : AFn := ⟨67, [.tmp 2],
 (.seq (.region [⟨some 1, (.box 2 (.tmp 0)), none⟩,
 ⟨some 2, (.move (.con .nilPtr)), none⟩])
 (.seq (.dregion [[], [0], [0, 1], [1, 0, 2], [], [4], [4, 5], [5, 4, 6], [6, 4, 5, 7, 2, 0, 1, 3], [3, 1, 0, 2, 7, 5, 4, 6, 8], [8, 6, 4, 5, 7, 2, 0, 1, 3, 9]] [.op 0 ⟨some 6, (.fieldAddr 0 (.tmp 1)), none⟩,
 .op 1 ⟨some 7, (.load1 (.tmp 6)), none⟩,
 .op 2 ⟨some 8, (.max [(.tmp 7), (.con (.int .i64 0))]), none⟩,
 .op 3 ⟨some 9, (.mkSlice [.nilSlice, .nilSlice] 48 (.tmp 8) (.tmp 8)), none⟩,
 .op 4 ⟨some 10, (.fieldAddr 0 (.tmp 1)), none⟩,
 .op 5 ⟨some 11, (.load1 (.tmp 10)), none⟩,
 .op 6 ⟨some 12, (.max [(.tmp 11), (.con (.int .i64 0))]), none⟩,
 .op 7 ⟨some 13, (.mkSlice [.nilSlice, .nilSlice] 48 (.tmp 12) (.tmp 12)), none⟩,
 .op 8 ⟨some 14, (.build [(.int .i64 0), .nilSlice, .nilSlice, .nilSlice] [(2, 1, (.tmp 9)), (3, 1, (.tmp 13))]), none⟩,
 .op 9 ⟨some 15, (.box 4 (.tmp 14)), none⟩,
 .op 10 ⟨some 3, (.move (.tmp 15)), none⟩])
 (.seq (.dregion [[], [], [1], [], [3], [3, 4], [4, 3, 5, 1, 2], [6, 5, 4, 3, 2, 1, 0], [0, 1, 2, 3, 4, 5, 6, 7], [7, 6, 5, 4, 3, 2, 1, 0, 8]] [.op 0 ⟨some 16, (.move (.tmp 3)), none⟩,
 .op 1 ⟨some 17, (.fieldAddr 0 (.tmp 1)), none⟩,
 .op 2 ⟨some 18, (.load1 (.tmp 17)), none⟩,
 .op 3 ⟨some 19, (.fieldAddr 1 (.tmp 1)), none⟩,
 .op 4 ⟨some 20, (.load1 (.tmp 19)), none⟩,
 .op 5 ⟨some 21, (.call 69 [(.tmp 20)]), none⟩,
 .re 2 ⟨some 18, (.load1 (.tmp 17)), none⟩,
 .op 6 ⟨some 22, (.build [(.int .i64 0), .nilSlice] [(0, 1, (.tmp 18)), (1, 1, (.tmp 21))]), none⟩,
 .op 7 ⟨some 23, (.nilCheck (.tmp 16)), none⟩,
 .op 8 ⟨some 24, (.fieldAddr 0 (.tmp 23)), none⟩,
 .op 9 ⟨none, (.store 2 (.tmp 24) (.tmp 22)), none⟩])
 (.seq (.seq (.region [⟨some 25, (.fieldAddr 1 (.tmp 1)), none⟩,
 ⟨some 26, (.load1 (.tmp 25)), none⟩,
 ⟨some 27, (.lenS (.tmp 26)), none⟩,
 ⟨some 28, (.move (.con (.int .i64 0))), none⟩])
 (.join [false, false, true, true] (.block 0 (.loop [false, false, false, true, false, false, false, false, false, false, false, false, false, false, false, false, false, false, false, false, false, false, false, false, false, false, true, true, true] [false, false, true, true]
 (.seq (.region [⟨some 29, (.bin .lss .prim (.tmp 28) (.tmp 27)), none⟩])
 (.seq (.cond (.tmp 29)
 .skip
 (.exit 0))
 (.seq (.block 1 (.seq (.region [⟨some 30, (.move (.tmp 28)), none⟩,
 ⟨some 31, (.indexAddrS 4 (.tmp 26) (.tmp 28)), none⟩,
 ⟨some 32, (.loadN 4 (.tmp 31)), none⟩,
 ⟨some 5, (.alloc [(.int .i64 0), (.int .i64 0), (.int .i64 0), (.int .i64 0)]), none⟩,
 ⟨some 4, (.move (.tmp 30)), none⟩,
 ⟨none, (.store 4 (.tmp 5) (.tmp 32)), none⟩])
 (.seq (.region [⟨some 33, (.move (.tmp 3)), none⟩,
 ⟨some 34, (.fieldAddr 0 (.tmp 5)), none⟩,
 ⟨some 35, (.load1 (.tmp 34)), none⟩,
 ⟨some 36, (.call 109 [(.tmp 33), (.tmp 35)]), none⟩,
 ⟨some 37, (.move (.tmp 36)), none⟩,
 ⟨some 38, (.move (.tmp 3)), some (37, true)⟩,
 ⟨some 39, (.fieldAddr 1 (.tmp 5)), some (37, true)⟩,
 ⟨some 40, (.load1 (.tmp 39)), some (37, true)⟩,
 ⟨some 41, (.call 109 [(.tmp 38), (.tmp 40)]), some (37, true)⟩,
 ⟨some 42, (.pick (.tmp 37) (.tmp 41) (.con (.bool false))), none⟩])
 (.cond (.tmp 42)
 (.seq (.dregion [[], [0], [0, 1], [1, 0, 2], [], [4], [4, 5, 2, 0, 1, 3], [], [], [8], [8, 9, 7, 3, 1, 0, 2, 5, 4, 6]] [.op 0 ⟨some 43, (.move (.tmp 3)), none⟩,
 .op 1 ⟨some 44, (.nilCheck (.tmp 43)), none⟩,
 .op 2 ⟨some 45, (.fieldAddr 2 (.tmp 44)), none⟩,
 .op 3 ⟨some 46, (.load1 (.tmp 45)), none⟩,
 .op 4 ⟨some 47, (.fieldAddr 0 (.tmp 5)), none⟩,
 .op 5 ⟨some 48, (.load1 (.tmp 47)), none⟩,
 .op 6 ⟨some 49, (.indexAddrS 2 (.tmp 46) (.tmp 48)), none⟩,
 .op 7 ⟨some 50, (.move (.tmp 4)), none⟩,
 .op 8 ⟨some 51, (.fieldAddr 1 (.tmp 5)), none⟩,
 .op 9 ⟨some 52, (.load1 (.tmp 51)), none⟩,
 .op 10 ⟨some 53, (.call 110 [(.tmp 49), (.tmp 50), (.tmp 52)]), none⟩])
 (.dregion [[], [0], [0, 1], [1, 0, 2], [], [4], [4, 5, 2, 0, 1, 3], [], [], [8], [8, 9, 7, 3, 1, 0, 2, 5, 4, 6]] [.op 0 ⟨some 54, (.move (.tmp 3)), none⟩,
 .op 1 ⟨some 55, (.nilCheck (.tmp 54)), none⟩,
 .op 2 ⟨some 56, (.fieldAddr 3 (.tmp 55)), none⟩,
 .op 3 ⟨some 57, (.load1 (.tmp 56)), none⟩,
 .op 4 ⟨some 58, (.fieldAddr 1 (.tmp 5)), none⟩,
 .op 5 ⟨some 59, (.load1 (.tmp 58)), none⟩,
 .op 6 ⟨some 60, (.indexAddrS 2 (.tmp 57) (.tmp 59)), none⟩,
 .op 7 ⟨some 61, (.move (.tmp 4)), none⟩,
 .op 8 ⟨some 62, (.fieldAddr 0 (.tmp 5)), none⟩,
 .op 9 ⟨some 63, (.load1 (.tmp 62)), none⟩,
 .op 10 ⟨some 64, (.call 110 [(.tmp 60), (.tmp 61), (.tmp 63)]), none⟩]))
 .skip))))
 (.region [⟨some 65, (.bin .add .prim (.tmp 28) (.con (.int .i64 1))), none⟩,
 ⟨some 28, (.move (.tmp 65)), none⟩]))))))))
 (.seq (.region [⟨some 66, (.move (.tmp 3)), none⟩,
 ⟨some 2, (.move (.tmp 66)), none⟩])
 .ret)))))⟩
theorem F81_ok : cfn tab F81.body Try.f81 = some F81 := by kernel_rfl

/- (*milestone/adj.Adj).Modes -/
def F82 : AFn := ⟨47, [.tmp 4],
 (.seq (.region [⟨some 4, (.move (.con (.int .i64 0))), none⟩])
 (.seq (.region [⟨some 5, (.move (.con (.int .i64 0))), none⟩])
 (.seq (.seq (.dregion [[], [0], [0, 1], [1, 0, 2], [], [4], [4, 5], [5, 4, 6], [6, 4, 5, 7, 2, 0, 1, 3], []] [.op 0 ⟨some 10, (.move (.tmp 0)), none⟩,
 .op 1 ⟨some 11, (.nilCheck (.tmp 10)), none⟩,
 .op 2 ⟨some 12, (.fieldAddr 2 (.tmp 11)), none⟩,
 .op 3 ⟨some 13, (.load1 (.tmp 12)), none⟩,
 .op 4 ⟨some 14, (.move (.tmp 0)), none⟩,
 .op 5 ⟨some 15, (.nilCheck (.tmp 14)), none⟩,
 .op 6 ⟨some 16, (.fieldAddr 3 (.tmp 15)), none⟩,
 .op 7 ⟨some 17, (.load1 (.tmp 16)), none⟩,
 .op 8 ⟨some 18, (.build [.nilSlice, .nilSlice] [(0, 1, (.tmp 13)), (1, 1, (.tmp 17))]), none⟩,
 .op 9 ⟨some 19, (.move (.con (.int .i64 0))), none⟩])
 (.join [false, false, false, false, true, true] (.block 0 (.loop [true, true, false, false, false, true, false, false, false, false, false, false, false, false, false, false, false, false, true, true] [false, false, false, false, true, true]
 (.seq (.region [⟨some 20, (.bin .lss .prim (.tmp 19) (.con (.int .i64 2))), none⟩])
 (.seq (.cond (.tmp 20)
 .skip
 (.exit 0))
 (.seq (.block 1 (.seq (.region [⟨some 21, (.indexA 2 1 false (.tmp 18) (.tmp 19)), none⟩,
 ⟨some 7, (.move (.tmp 21)), none⟩])
 (.seq (.region [⟨some 22, (.move (.tmp 0)), none⟩,
 ⟨some 23, (.move (.tmp 7)), none⟩,
 ⟨some 24, (.move (.tmp 1)), none⟩,
 ⟨some 25, (.call 111 [(.tmp 22), (.tmp 23), (.tmp 24)]), none⟩,
 ⟨some 26, (.field 0 1 false (.tmp 25)), none⟩,
 ⟨some 27, (.lenS (.tmp 26)), none⟩,
 ⟨some 28, (.move (.con (.int .i64 0))), none⟩])
 (.block 2 (.loop [true, true, false, false, false, true, false, false, false, false, false, false, false, false, false, false, false, false, true, true, false, false, false, false, false, false, true, true, true] [true, true, false, false, true, true, false, false, false, false, false, false, false, false, false, false, false, false, true, true]
 (.seq (.region [⟨some 29, (.bin .lss .prim (.tmp 28) (.tmp 27)), none⟩])
 (.seq (.cond (.tmp 29)
 .skip
 (.exit 2))
 (.seq (.block 3 (.seq (.region [⟨some 30, (.indexAddrS 1 (.tmp 26) (.tmp 28)), none⟩,
 ⟨some 31, (.load1 (.tmp 30)), none⟩,
 ⟨some 9, (.move (.tmp 31)), none⟩])
 (.region [⟨some 32, (.move (.tmp 5)), none⟩,
 ⟨some 33, (.move (.tmp 0)), none⟩,
 ⟨some 34, (.nilCheck (.tmp 33)), none⟩,
 ⟨some 35, (.fieldAddr 0 (.tmp 34)), none⟩,
 ⟨some 36, (.fieldAddr 1 (.tmp 35)), none⟩,
 ⟨some 37, (.load1 (.tmp 36)), none⟩,
 ⟨some 38, (.move (.tmp 9)), none⟩,
 ⟨some 39, (.indexAddrS 4 (.tmp 37) (.tmp 38)), none⟩,
 ⟨some 40, (.fieldAddr 2 (.tmp 39)), none⟩,
 ⟨some 41, (.load1 (.tmp 40)), none⟩,
 ⟨some 42, (.bin .shl .prim (.con (.int .i64 1)) (.tmp 41)), none⟩,
 ⟨some 43, (.bin .or .prim (.tmp 32) (.tmp 42)), none⟩,
 ⟨some 5, (.move (.tmp 43)), none⟩])))
 (.region [⟨some 44, (.bin .add .prim (.tmp 28) (.con (.int .i64 1))), none⟩,
 ⟨some 28, (.move (.tmp 44)), none⟩])))))))))
 (.region [⟨some 45, (.bin .add .prim (.tmp 19) (.con (.int .i64 1))), none⟩,
 ⟨some 19, (.move (.tmp 45)), none⟩]))))))))
 (.seq (.region [⟨some 46, (.move (.tmp 5)), none⟩,
 ⟨some 4, (.move (.tmp 46)), none⟩])
 .ret))))⟩
theorem F82_ok : cfn tab F82.body Try.f82 = some F82 := by kernel_rfl

/- math/bits.OnesCount -/
def F83 : AFn := ⟨8, [.tmp 2],
 (.seq (.region [⟨some 2, (.move (.con (.int .i64 0))), none⟩])
 (.seq (.cond (.con (.bool false))
 (.seq (.region [⟨some 3, (.move (.tmp 0)), none⟩,
 ⟨some 4, (.toInt .u32 (.tmp 3)), none⟩,
 ⟨some 5, (.call 112 [(.tmp 4)]), none⟩,
 ⟨some 2, (.move (.tmp 5)), none⟩])
 .ret)
 .skip)
 (.seq (.region [⟨some 6, (.move (.tmp 0)), none⟩,
 ⟨some 7, (.call 113 [(.tmp 6)]), none⟩,
 ⟨some 2, (.move (.tmp 7)), none⟩])
 .ret)))⟩
theorem F83_ok : cfn tab F83.body Try.f83 = some F83 := by kernel_rfl

/- (*milestone/adj.Adj).Out -/
def F85 : AFn := ⟨15, [.tmp 4],
 (.seq (.region [⟨some 4, (.move (.con .nilSlice)), none⟩])
 (.seq (.region [⟨some 5, (.move (.con (.func (.func 114) [] []))), none⟩])
 (.seq (.region [⟨some 6, (.move (.tmp 5)), none⟩,
 ⟨some 7, (.move (.tmp 0)), none⟩,
 ⟨some 8, (.move (.tmp 0)), none⟩,
 ⟨some 9, (.nilCheck (.tmp 8)), none⟩,
 ⟨some 10, (.fieldAddr 2 (.tmp 9)), none⟩,
 ⟨some 11, (.load1 (.tmp 10)), none⟩,
 ⟨some 12, (.move (.tmp 1)), none⟩,
 ⟨some 13, (.call 111 [(.tmp 7), (.tmp 11), (.tmp 12)]), none⟩,
 ⟨some 14, (.callv (.tmp 6) [(.tmp 13)]), none⟩,
 ⟨some 4, (.move (.tmp 14)), none⟩])
 .ret)))⟩
theorem F85_ok : cfn tab F85.body Try.f85 = some F85 := by kernel_rfl

/- (*milestone/adj.Adj).In -/
def F86 : AFn := ⟨15, [.tmp 4],
 (.seq (.region [⟨some 4, (.move (.con .nilSlice)), none⟩])
 (.seq (.region [⟨some 5, (.move (.con (.func (.func 114) [] []))), none⟩])
 (.seq (.region [⟨some 6, (.move (.tmp 5)), none⟩,
 ⟨some 7, (.move (.tmp 0)), none⟩,
 ⟨some 8, (.move (.tmp 0)), none⟩,
 ⟨some 9, (.nilCheck (.tmp 8)), none⟩,
 ⟨some 10, (.fieldAddr 3 (.tmp 9)), none⟩,
 ⟨some 11, (.load1 (.tmp 10)), none⟩,
 ⟨some 12, (.move (.tmp 1)), none⟩,
 ⟨some 13, (.call 111 [(.tmp 7), (.tmp 11), (.tmp 12)]), none⟩,
 ⟨some 14, (.callv (.tmp 6) [(.tmp 13)]), none⟩,
 ⟨some 4, (.move (.tmp 14)), none⟩])
 .ret)))⟩
theorem F86_ok : cfn tab F86.body Try.f86 = some F86 := by kernel_rfl

/- slices.SortFunc[[]milestone/order.ranked,milestone/order.ranked] -/
def F87 : AFn := ⟨14, [],
 (.seq (.region [⟨some 5, (.move (.tmp 0)), none⟩,
 ⟨some 6, (.lenS (.tmp 5)), none⟩,
 ⟨some 4, (.move (.tmp 6)), none⟩])
 (.region [⟨some 7, (.move (.tmp 0)), none⟩,
 ⟨some 8, (.move (.tmp 4)), none⟩,
 ⟨some 9, (.move (.tmp 4)), none⟩,
 ⟨some 10, (.toInt .u64 (.tmp 9)), none⟩,
 ⟨some 11, (.call 116 [(.tmp 10)]), none⟩,
 ⟨some 12, (.move (.tmp 1)), none⟩,
 ⟨some 13, (.call 115 [(.tmp 7), (.con (.int .i64 0)), (.tmp 8), (.tmp 11), (.tmp 12)]), none⟩]))⟩
theorem F87_ok : cfn tab F87.body Try.f87 = some F87 := by kernel_rfl

/- milestone/order.Order$1 -/
def F88 : AFn := ⟨8, [.tmp 4],
 (.seq (.region [⟨some 2, (.box 2 (.tmp 0)), none⟩,
 ⟨some 3, (.box 2 (.tmp 1)), none⟩,
 ⟨some 4, (.move (.con (.int .i64 0))), none⟩])
 (.seq (.region [⟨some 5, (.loadN 2 (.tmp 2)), none⟩,
 ⟨some 6, (.loadN 2 (.tmp 3)), none⟩,
 ⟨some 7, (.call 89 [(.tmp 5), (.tmp 6)]), none⟩,
 ⟨some 4, (.move (.tmp 7)), none⟩])
 .ret))⟩
theorem F88_ok : cfn tab F88.body Try.f88 = some F88 := by kernel_rfl

/- (milestone/order.ranked).before -/
def F89 : AFn := ⟨17, [.tmp 4],
 (.seq (.region [⟨some 2, (.box 2 (.tmp 0)), none⟩,
 ⟨some 3, (.box 2 (.tmp 1)), none⟩,
 ⟨some 4, (.move (.con (.int .i64 0))), none⟩])
 (.seq (.dregion [[], [0], [], [2], [2, 3, 0, 1], [], [5], [], [7], [1, 0, 3, 2, 4, 7, 8, 5, 6], [6, 5, 8, 7, 9, 1, 0, 3, 2, 4], [4, 2, 3, 0, 1, 9, 7, 8, 5, 6, 10], [10, 6, 5, 8, 7, 9, 1, 0, 3, 2, 4, 11]] [.op 0 ⟨some 5, (.fieldAddr 1 (.tmp 2)), none⟩,
 .op 1 ⟨some 6, (.load1 (.tmp 5)), none⟩,
 .op 2 ⟨some 7, (.fieldAddr 1 (.tmp 3)), none⟩,
 .op 3 ⟨some 8, (.load1 (.tmp 7)), none⟩,
 .op 5 ⟨some 10, (.fieldAddr 0 (.tmp 2)), none⟩,
 .op 6 ⟨some 11, (.load1 (.tmp 10)), none⟩,
 .op 7 ⟨some 12, (.fieldAddr 0 (.tmp 3)), none⟩,
 .op 8 ⟨some 13, (.load1 (.tmp 12)), none⟩,
 .op 4 ⟨some 9, (.call 118 [(.tmp 6), (.tmp 8)]), none⟩,
 .re 6 ⟨some 11, (.load1 (.tmp 10)), none⟩,
 .re 8 ⟨some 13, (.load1 (.tmp 12)), none⟩,
 .op 9 ⟨some 14, (.call 118 [(.tmp 11), (.tmp 13)]), none⟩,
 .op 10 ⟨some 15, (.buildSlice [(.int .i64 0), (.int .i64 0)] 2 [(0, 1, (.tmp 9)), (1, 1, (.tmp 14))]), none⟩,
 .op 11 ⟨some 16, (.call 117 [(.tmp 15)]), none⟩,
 .op 12 ⟨some 4, (.move (.tmp 16)), none⟩])
 .ret))⟩
theorem F89_ok : cfn tab F89.body Try.f89 = some F89 := by kernel_rfl

/- (*milestone/adj.Adj).is -/
def F109 : AFn := ⟨16, [.tmp 4],
 (.seq (.region [⟨some 4, (.move (.con (.bool false))), none⟩])
 (.seq (.region [⟨some 5, (.move (.tmp 1)), none⟩,
 ⟨some 6, (.bin .geq .prim (.tmp 5) (.con (.int .i64 0))), none⟩,
 ⟨some 7, (.move (.tmp 6)), none⟩,
 ⟨some 8, (.move (.tmp 1)), some (7, true)⟩,
 ⟨some 9, (.move (.tmp 0)), some (7, true)⟩,
 ⟨some 10, (.nilCheck (.tmp 9)), some (7, true)⟩,
 ⟨some 11, (.fieldAddr 2 (.tmp 10)), some (7, true)⟩,
 ⟨some 12, (.load1 (.tmp 11)), some (7, true)⟩,
 ⟨some 13, (.lenS (.tmp 12)), some (7, true)⟩,
 ⟨some 14, (.bin .lss .prim (.tmp 8) (.tmp 13)), some (7, true)⟩,
 ⟨some 15, (.pick (.tmp 7) (.tmp 14) (.con (.bool false))), none⟩,
 ⟨some 4, (.move (.tmp 15)), none⟩])
 .ret))⟩
theorem F109_ok : cfn tab F109.body Try.f109 = some F109 := by kernel_rfl

/- (*milestone/adj.ends).add -/
def F110 : AFn := ⟨26, [],
 (.dregion [[], [], [], [2], [2, 3], [3, 2, 4], [], [6], [6, 7, 4, 2, 3, 5], [], [9], [9, 10], [10, 9, 11], [], [13], [5, 3, 2, 4, 7, 6, 8, 13, 14, 11, 9, 10, 12], [14, 13, 15, 11, 9, 10, 12, 8, 7, 6, 5, 4, 3, 2, 0], [0, 2, 3, 4, 5, 6, 7, 8, 12, 10, 9, 11, 15, 13, 14, 16], [16, 14, 13, 15, 11, 9, 10, 12, 8, 7, 6, 5, 4, 3, 2, 0, 17], [18, 17, 16, 15, 14, 13, 12, 11, 10, 9, 8, 7, 6, 5, 4, 3, 2, 0, 1], [1, 0, 2, 3, 4, 5, 6, 7, 8, 9, 10, 11, 12, 13, 14, 15, 16, 17, 18, 19], [19, 18, 17, 16, 15, 14, 13, 12, 11, 10, 9, 8, 7, 6, 5, 4, 3, 2, 0, 1, 20]] [.op 0 ⟨some 6, (.move (.tmp 0)), none⟩,
 .op 1 ⟨some 7, (.move (.tmp 0)), none⟩,
 .op 2 ⟨some 8, (.move (.tmp 0)), none⟩,
 .op 3 ⟨some 9, (.nilCheck (.tmp 8)), none⟩,
 .op 4 ⟨some 10, (.fieldAddr 0 (.tmp 9)), none⟩,
 .op 5 ⟨some 11, (.load1 (.tmp 10)), none⟩,
 .op 6 ⟨some 12, (.move (.tmp 1)), none⟩,
 .op 7 ⟨some 13, (.buildSlice [(.int .i64 0)] 1 [(0, 1, (.tmp 12))]), none⟩,
 .op 9 ⟨some 15, (.move (.tmp 0)), none⟩,
 .op 10 ⟨some 16, (.nilCheck (.tmp 15)), none⟩,
 .op 11 ⟨some 17, (.fieldAddr 1 (.tmp 16)), none⟩,
 .op 12 ⟨some 18, (.load1 (.tmp 17)), none⟩,
 .op 13 ⟨some 19, (.move (.tmp 2)), none⟩,
 .op 14 ⟨some 20, (.buildSlice [(.int .i64 0)] 1 [(0, 1, (.tmp 19))]), none⟩,
 .op 8 ⟨some 14, (.append 1 8 (.tmp 11) (.tmp 13)), none⟩,
 .re 12 ⟨some 18, (.load1 (.tmp 17)), none⟩,
 .op 15 ⟨some 21, (.append 1 8 (.tmp 18) (.tmp 20)), none⟩,
 .op 16 ⟨some 22, (.nilCheck (.tmp 6)), none⟩,
 .op 17 ⟨some 23, (.fieldAddr 0 (.tmp 22)), none⟩,
 .op 18 ⟨none, (.store 1 (.tmp 23) (.tmp 14)), none⟩,
 .op 19 ⟨some 24, (.nilCheck (.tmp 7)), none⟩,
 .op 20 ⟨some 25, (.fieldAddr 1 (.tmp 24)), none⟩,
 .op 21 ⟨none, (.store 1 (.tmp 25) (.tmp 21)), none⟩])⟩
theorem F110_ok : cfn tab F110.body Try.f110 = some F110 := by kernel_rfl

/- (*milestone/adj.Adj).side -/
def F111 : AFn := ⟨16, [.cell 2 true 6],
 (.seq (.region [⟨some 6, (.alloc [.nilSlice, .nilSlice]), none⟩])
 (.seq (.seq (.region [⟨some 7, (.move (.tmp 0)), none⟩,
 ⟨some 8, (.move (.tmp 2)), none⟩,
 ⟨some 9, (.call 109 [(.tmp 7), (.tmp 8)]), none⟩,
 ⟨some 10, (.un .not (.tmp 9)), none⟩])
 (.cond (.tmp 10)
 (.seq (.region [⟨some 11, (.build [.nilSlice, .nilSlice] []), none⟩,
 ⟨none, (.store 2 (.tmp 6) (.tmp 11)), none⟩])
 .ret)
 .skip))
 (.seq (.region [⟨some 12, (.move (.tmp 1)), none⟩,
 ⟨some 13, (.move (.tmp 2)), none⟩,
 ⟨some 14, (.indexAddrS 2 (.tmp 12) (.tmp 13)), none⟩,
 ⟨some 15, (.loadN 2 (.tmp 14)), none⟩,
 ⟨none, (.store 2 (.tmp 6) (.tmp 15)), none⟩])
 .ret)))⟩
theorem F111_ok : cfn tab F111.body Try.f111 = some F111 := by kernel_rfl

/- math/bits.OnesCount32 -/
def F112 : AFn := ⟨21, [.tmp 2],
 (.seq (.region [⟨some 2, (.move (.con (.int .i64 0))), none⟩])
 (.seq (.dregion [[], [0], [0, 1], [], [3], [3, 4], [4, 3, 5], [5, 3, 4, 6, 1, 0, 2], [], [8], [8, 9], [9, 8, 10], [10, 8, 9, 11, 2, 0, 1, 6, 4, 3, 5, 7], [], [13], [13, 14], [14, 13, 15, 7, 5, 3, 4, 6, 1, 0, 2, 11, 9, 8, 10, 12], [12, 10, 8, 9, 11, 2, 0, 1, 6, 4, 3, 5, 7, 15, 13, 14, 16], [16, 14, 13, 15, 7, 5, 3, 4, 6, 1, 0, 2, 11, 9, 8, 10, 12, 17]] [.op 0 ⟨some 3, (.move (.tmp 0)), none⟩,
 .op 1 ⟨some 4, (.bin .shr .prim (.tmp 3) (.con (.int .u64 24))), none⟩,
 .op 2 ⟨some 5, (.indexStr (.con (.str ⟨#[0, 1, 1, 2, 1, 2, 2, 3, 1, 2, 2, 3, 2, 3, 3, 4, 1, 2, 2, 3, 2, 3, 3, 4, 2, 3, 3, 4, 3, 4, 4, 5, 1, 2, 2, 3, 2, 3, 3, 4, 2, 3, 3, 4, 3, 4, 4, 5, 2, 3, 3, 4, 3, 4, 4, 5, 3, 4, 4, 5, 4, 5, 5, 6, 1, 2, 2, 3, 2, 3, 3, 4, 2, 3, 3, 4, 3, 4, 4, 5, 2, 3, 3, 4, 3, 4, 4, 5, 3, 4, 4, 5, 4, 5, 5, 6, 2, 3, 3, 4, 3, 4, 4, 5, 3, 4, 4, 5, 4, 5, 5, 6, 3, 4, 4, 5, 4, 5, 5, 6, 4, 5, 5, 6, 5, 6, 6, 7, 1, 2, 2, 3, 2, 3, 3, 4, 2, 3, 3, 4, 3, 4, 4, 5, 2, 3, 3, 4, 3, 4, 4, 5, 3, 4, 4, 5, 4, 5, 5, 6, 2, 3, 3, 4, 3, 4, 4, 5, 3, 4, 4, 5, 4, 5, 5, 6, 3, 4, 4, 5, 4, 5, 5, 6, 4, 5, 5, 6, 5, 6, 6, 7, 2, 3, 3, 4, 3, 4, 4, 5, 3, 4, 4, 5, 4, 5, 5, 6, 3, 4, 4, 5, 4, 5, 5, 6, 4, 5, 5, 6, 5, 6, 6, 7, 3, 4, 4, 5, 4, 5, 5, 6, 4, 5, 5, 6, 5, 6, 6, 7, 4, 5, 5, 6, 5, 6, 6, 7, 5, 6, 6, 7, 6, 7, 7, 8]⟩)) (.tmp 4)), none⟩,
 .op 3 ⟨some 6, (.move (.tmp 0)), none⟩,
 .op 4 ⟨some 7, (.bin .shr .prim (.tmp 6) (.con (.int .u64 16))), none⟩,
 .op 5 ⟨some 8, (.bin .and .prim (.tmp 7) (.con (.int .u32 255))), none⟩,
 .op 6 ⟨some 9, (.indexStr (.con (.str ⟨#[0, 1, 1, 2, 1, 2, 2, 3, 1, 2, 2, 3, 2, 3, 3, 4, 1, 2, 2, 3, 2, 3, 3, 4, 2, 3, 3, 4, 3, 4, 4, 5, 1, 2, 2, 3, 2, 3, 3, 4, 2, 3, 3, 4, 3, 4, 4, 5, 2, 3, 3, 4, 3, 4, 4, 5, 3, 4, 4, 5, 4, 5, 5, 6, 1, 2, 2, 3, 2, 3, 3, 4, 2, 3, 3, 4, 3, 4, 4, 5, 2, 3, 3, 4, 3, 4, 4, 5, 3, 4, 4, 5, 4, 5, 5, 6, 2, 3, 3, 4, 3, 4, 4, 5, 3, 4, 4, 5, 4, 5, 5, 6, 3, 4, 4, 5, 4, 5, 5, 6, 4, 5, 5, 6, 5, 6, 6, 7, 1, 2, 2, 3, 2, 3, 3, 4, 2, 3, 3, 4, 3, 4, 4, 5, 2, 3, 3, 4, 3, 4, 4, 5, 3, 4, 4, 5, 4, 5, 5, 6, 2, 3, 3, 4, 3, 4, 4, 5, 3, 4, 4, 5, 4, 5, 5, 6, 3, 4, 4, 5, 4, 5, 5, 6, 4, 5, 5, 6, 5, 6, 6, 7, 2, 3, 3, 4, 3, 4, 4, 5, 3, 4, 4, 5, 4, 5, 5, 6, 3, 4, 4, 5, 4, 5, 5, 6, 4, 5, 5, 6, 5, 6, 6, 7, 3, 4, 4, 5, 4, 5, 5, 6, 4, 5, 5, 6, 5, 6, 6, 7, 4, 5, 5, 6, 5, 6, 6, 7, 5, 6, 6, 7, 6, 7, 7, 8]⟩)) (.tmp 8)), none⟩,
 .op 7 ⟨some 10, (.bin .add .prim (.tmp 5) (.tmp 9)), none⟩,
 .op 8 ⟨some 11, (.move (.tmp 0)), none⟩,
 .op 9 ⟨some 12, (.bin .shr .prim (.tmp 11) (.con (.int .u64 8))), none⟩,
 .op 10 ⟨some 13, (.bin .and .prim (.tmp 12) (.con (.int .u32 255))), none⟩,
 .op 11 ⟨some 14, (.indexStr (.con (.str ⟨#[0, 1, 1, 2, 1, 2, 2, 3, 1, 2, 2, 3, 2, 3, 3, 4, 1, 2, 2, 3, 2, 3, 3, 4, 2, 3, 3, 4, 3, 4, 4, 5, 1, 2, 2, 3, 2, 3, 3, 4, 2, 3, 3, 4, 3, 4, 4, 5, 2, 3, 3, 4, 3, 4, 4, 5, 3, 4, 4, 5, 4, 5, 5, 6, 1, 2, 2, 3, 2, 3, 3, 4, 2, 3, 3, 4, 3, 4, 4, 5, 2, 3, 3, 4, 3, 4, 4, 5, 3, 4, 4, 5, 4, 5, 5, 6, 2, 3, 3, 4, 3, 4, 4, 5, 3, 4, 4, 5, 4, 5, 5, 6, 3, 4, 4, 5, 4, 5, 5, 6, 4, 5, 5, 6, 5, 6, 6, 7, 1, 2, 2, 3, 2, 3, 3, 4, 2, 3, 3, 4, 3, 4, 4, 5, 2, 3, 3, 4, 3, 4, 4, 5, 3, 4, 4, 5, 4, 5, 5, 6, 2, 3, 3, 4, 3, 4, 4, 5, 3, 4, 4, 5, 4, 5, 5, 6, 3, 4, 4, 5, 4, 5, 5, 6, 4, 5, 5, 6, 5, 6, 6, 7, 2, 3, 3, 4, 3, 4, 4, 5, 3, 4, 4, 5, 4, 5, 5, 6, 3, 4, 4, 5, 4, 5, 5, 6, 4, 5, 5, 6, 5, 6, 6, 7, 3, 4, 4, 5, 4, 5, 5, 6, 4, 5, 5, 6, 5, 6, 6, 7, 4, 5, 5, 6, 5, 6, 6, 7, 5, 6, 6, 7, 6, 7, 7, 8]⟩)) (.tmp 13)), none⟩,
 .op 12 ⟨some 15, (.bin .add .prim (.tmp 10) (.tmp 14)), none⟩,
 .op 13 ⟨some 16, (.move (.tmp 0)), none⟩,
 .op 14 ⟨some 17, (.bin .and .prim (.tmp 16) (.con (.int .u32 255))), none⟩,
 .op 15 ⟨some 18, (.indexStr (.con (.str ⟨#[0, 1, 1, 2, 1, 2, 2, 3, 1, 2, 2, 3, 2, 3, 3, 4, 1, 2, 2, 3, 2, 3, 3, 4, 2, 3, 3, 4, 3, 4, 4, 5, 1, 2, 2, 3, 2, 3, 3, 4, 2, 3, 3, 4, 3, 4, 4, 5, 2, 3, 3, 4, 3, 4, 4, 5, 3, 4, 4, 5, 4, 5, 5, 6, 1, 2, 2, 3, 2, 3, 3, 4, 2, 3, 3, 4, 3, 4, 4, 5, 2, 3, 3, 4, 3, 4, 4, 5, 3, 4, 4, 5, 4, 5, 5, 6, 2, 3, 3, 4, 3, 4, 4, 5, 3, 4, 4, 5, 4, 5, 5, 6, 3, 4, 4, 5, 4, 5, 5, 6, 4, 5, 5, 6, 5, 6, 6, 7, 1, 2, 2, 3, 2, 3, 3, 4, 2, 3, 3, 4, 3, 4, 4, 5, 2, 3, 3, 4, 3, 4, 4, 5, 3, 4, 4, 5, 4, 5, 5, 6, 2, 3, 3, 4, 3, 4, 4, 5, 3, 4, 4, 5, 4, 5, 5, 6, 3, 4, 4, 5, 4, 5, 5, 6, 4, 5, 5, 6, 5, 6, 6, 7, 2, 3, 3, 4, 3, 4, 4, 5, 3, 4, 4, 5, 4, 5, 5, 6, 3, 4, 4, 5, 4, 5, 5, 6, 4, 5, 5, 6, 5, 6, 6, 7, 3, 4, 4, 5, 4, 5, 5, 6, 4, 5, 5, 6, 5, 6, 6, 7, 4, 5, 5, 6, 5, 6, 6, 7, 5, 6, 6, 7, 6, 7, 7, 8]⟩)) (.tmp 17)), none⟩,
 .op 16 ⟨some 19, (.bin .add .prim (.tmp 15) (.tmp 18)), none⟩,
 .op 17 ⟨some 20, (.toInt .i64 (.tmp 19)), none⟩,
 .op 18 ⟨some 2, (.move (.tmp 20)), none⟩])
 .ret))⟩
theorem F112_ok : cfn tab F112.body Try.f112 = some F112 := by kernel_rfl

/- math/bits.OnesCount64 -/
def F113 : AFn := ⟨35, [.tmp 2],
 (.seq (.region [⟨some 2, (.move (.con (.int .i64 0))), none⟩])
 (.seq (.region [⟨some 3, (.move (.tmp 0)), none⟩,
 ⟨some 4, (.bin .shr .prim (.tmp 3) (.con (.int .u64 1))), none⟩,
 ⟨some 5, (.bin .and .prim (.tmp 4) (.con (.int .u64 6148914691236517205))), none⟩,
 ⟨some 6, (.move (.tmp 0)), none⟩,
 ⟨some 7, (.bin .and .prim (.tmp 6) (.con (.int .u64 6148914691236517205))), none⟩,
 ⟨some 8, (.bin .add .prim (.tmp 5) (.tmp 7)), none⟩,
 ⟨some 0, (.move (.tmp 8)), none⟩])
 (.seq (.region [⟨some 9, (.move (.tmp 0)), none⟩,
 ⟨some 10, (.bin .shr .prim (.tmp 9) (.con (.int .u64 2))), none⟩,
 ⟨some 11, (.bin .and .prim (.tmp 10) (.con (.int .u64 3689348814741910323))), none⟩,
 ⟨some 12, (.move (.tmp 0)), none⟩,
 ⟨some 13, (.bin .and .prim (.tmp 12) (.con (.int .u64 3689348814741910323))), none⟩,
 ⟨some 14, (.bin .add .prim (.tmp 11) (.tmp 13)), none⟩,
 ⟨some 0, (.move (.tmp 14)), none⟩])
 (.seq (.region [⟨some 15, (.move (.tmp 0)), none⟩,
 ⟨some 16, (.bin .shr .prim (.tmp 15) (.con (.int .u64 4))), none⟩,
 ⟨some 17, (.move (.tmp 0)), none⟩,
 ⟨some 18, (.bin .add .prim (.tmp 16) (.tmp 17)), none⟩,
 ⟨some 19, (.bin .and .prim (.tmp 18) (.con (.int .u64 1085102592571150095))), none⟩,
 ⟨some 0, (.move (.tmp 19)), none⟩])
 (.seq (.region [⟨some 20, (.move (.tmp 0)), none⟩,
 ⟨some 21, (.move (.tmp 0)), none⟩,
 ⟨some 22, (.bin .shr .prim (.tmp 21) (.con (.int .u64 8))), none⟩,
 ⟨some 23, (.bin .add .prim (.tmp 20) (.tmp 22)), none⟩,
 ⟨some 0, (.move (.tmp 23)), none⟩])
 (.seq (.region [⟨some 24, (.move (.tmp 0)), none⟩,
 ⟨some 25, (.move (.tmp 0)), none⟩,
 ⟨some 26, (.bin .shr .prim (.tmp 25) (.con (.int .u64 16))), none⟩,
 ⟨some 27, (.bin .add .prim (.tmp 24) (.tmp 26)), none⟩,
 ⟨some 0, (.move (.tmp 27)), none⟩])
 (.seq (.region [⟨some 28, (.move (.tmp 0)), none⟩,
 ⟨some 29, (.move (.tmp 0)), none⟩,
 ⟨some 30, (.bin .shr .prim (.tmp 29) (.con (.int .u64 32))), none⟩,
 ⟨some 31, (.bin .add .prim (.tmp 28) (.tmp 30)), none⟩,
 ⟨some 0, (.move (.tmp 31)), none⟩])
 (.seq (.region [⟨some 32, (.move (.tmp 0)), none⟩,
 ⟨some 33, (.toInt .i64 (.tmp 32)), none⟩,
 ⟨some 34, (.bin .and .prim (.tmp 33) (.con (.int .i64 127))), none⟩,
 ⟨some 2, (.move (.tmp 34)), none⟩])
 .ret))))))))⟩
theorem F113_ok : cfn tab F113.body Try.f113 = some F113 := by kernel_rfl

/- (milestone/adj.ends).list -/
def F114 : AFn := ⟨13, [.tmp 2],
 (.seq (.region [⟨some 1, (.box 2 (.tmp 0)), none⟩,
 ⟨some 2, (.move (.con .nilSlice)), none⟩])
 (.seq (.region [⟨some 4, (.fieldAddr 0 (.tmp 1)), none⟩,
 ⟨some 5, (.load1 (.tmp 4)), none⟩,
 ⟨some 6, (.lenS (.tmp 5)), none⟩,
 ⟨some 3, (.move (.tmp 6)), none⟩])
 (.seq (.region [⟨some 7, (.fieldAddr 0 (.tmp 1)), none⟩,
 ⟨some 8, (.load1 (.tmp 7)), none⟩,
 ⟨some 9, (.move (.tmp 3)), none⟩,
 ⟨some 10, (.move (.tmp 3)), none⟩,
 ⟨some 11, (.slice 1 (.tmp 8) none (some (.tmp 9)) (some (.tmp 10))), none⟩,
 ⟨some 12, (.call 70 [(.tmp 11)]), none⟩,
 ⟨some 2, (.move (.tmp 12)), none⟩])
 .ret)))⟩
theorem F114_ok : cfn tab F114.body Try.f114 = some F114 := by kernel_rfl

/- slices.pdqsortCmpFunc[milestone/order.ranked] -/
def F115 : AFn := ⟨148, [],
 (.seq (.region [⟨some 10, (.move (.con (.bool true))), none⟩])
 (.seq (.region [⟨some 11, (.move (.con (.bool true))), none⟩])
 (.block 0 (.loop [true, true, true, true, true, false, false, false, false, false, true, true] []
 (.block 1 (.seq (.region [⟨some 21, (.move (.tmp 2)), none⟩,
 ⟨some 22, (.move (.tmp 1)), none⟩,
 ⟨some 23, (.bin .sub .prim (.tmp 21) (.tmp 22)), none⟩,
 ⟨some 12, (.move (.tmp 23)), none⟩])
 (.seq (.seq (.region [⟨some 24, (.move (.tmp 12)), none⟩,
 ⟨some 25, (.bin .leq .prim (.tmp 24) (.con (.int .i64 12))), none⟩])
 (.cond (.tmp 25)
 (.seq (.region [⟨some 26, (.move (.tmp 0)), none⟩,
 ⟨some 27, (.move (.tmp 1)), none⟩,
 ⟨some 28, (.move (.tmp 2)), none⟩,
 ⟨some 29, (.move (.tmp 4)), none⟩,
 ⟨some 30, (.call 131 [(.tmp 26), (.tmp 27), (.tmp 28), (.tmp 29)]), none⟩])
 .ret)
 .skip))
 (.seq (.seq (.region [⟨some 31, (.move (.tmp 3)), none⟩,
 ⟨some 32, (.bin .eql .prim (.tmp 31) (.con (.int .i64 0))), none⟩])
 (.cond (.tmp 32)
 (.seq (.region [⟨some 33, (.move (.tmp 0)), none⟩,
 ⟨some 34, (.move (.tmp 1)), none⟩,
 ⟨some 35, (.move (.tmp 2)), none⟩,
 ⟨some 36, (.move (.tmp 4)), none⟩,
 ⟨some 37, (.call 132 [(.tmp 33), (.tmp 34), (.tmp 35), (.tmp 36)]), none⟩])
 .ret)
 .skip))
 (.seq (.seq (.region [⟨some 38, (.move (.tmp 10)), none⟩,
 ⟨some 39, (.un .not (.tmp 38)), none⟩])
 (.join [true, true, true, true, true, false, false, false, false, false, true, true, true] (.cond (.tmp 39)
 (.seq (.region [⟨some 40, (.move (.tmp 0)), none⟩,
 ⟨some 41, (.move (.tmp 1)), none⟩,
 ⟨some 42, (.move (.tmp 2)), none⟩,
 ⟨some 43, (.move (.tmp 4)), none⟩,
 ⟨some 44, (.call 133 [(.tmp 40), (.tmp 41), (.tmp 42), (.tmp 43)]), none⟩])
 (.region [⟨some 45, (.move (.tmp 3)), none⟩,
 ⟨some 46, (.bin .sub .prim (.tmp 45) (.con (.int .i64 1))), none⟩,
 ⟨some 3, (.move (.tmp 46)), none⟩]))
 .skip)))
 (.seq (.region [⟨some 48, (.move (.tmp 0)), none⟩,
 ⟨some 49, (.move (.tmp 1)), none⟩,
 ⟨some 50, (.move (.tmp 2)), none⟩,
 ⟨some 51, (.move (.tmp 4)), none⟩,
 ⟨some 52, (.call 134 [(.tmp 48), (.tmp 49), (.tmp 50), (.tmp 51)]), none⟩,
 ⟨some 47, (.move (.tmp 52)), none⟩,
 ⟨some 53, (.extract (.tmp 47) 0), none⟩,
 ⟨some 54, (.extract (.tmp 47) 1), none⟩,
 ⟨some 13, (.move (.tmp 53)), none⟩,
 ⟨some 14, (.move (.tmp 54)), none⟩])
 (.seq (.seq (.region [⟨some 55, (.move (.tmp 14)), none⟩,
 ⟨some 56, (.bin .eql .prim (.tmp 55) (.con (.int .i64 2))), none⟩])
 (.join [true, true, true, true, true, false, false, false, false, false, true, true, true, true, true] (.cond (.tmp 56)
 (.seq (.region [⟨some 57, (.move (.tmp 0)), none⟩,
 ⟨some 58, (.move (.tmp 1)), none⟩,
 ⟨some 59, (.move (.tmp 2)), none⟩,
 ⟨some 60, (.move (.tmp 4)), none⟩,
 ⟨some 61, (.call 135 [(.tmp 57), (.tmp 58), (.tmp 59), (.tmp 60)]), none⟩])
 (.seq (.region [⟨some 62, (.move (.tmp 2)), none⟩,
 ⟨some 63, (.bin .sub .prim (.tmp 62) (.con (.int .i64 1))), none⟩,
 ⟨some 64, (.move (.tmp 13)), none⟩,
 ⟨some 65, (.move (.tmp 1)), none⟩,
 ⟨some 66, (.bin .sub .prim (.tmp 64) (.tmp 65)), none⟩,
 ⟨some 67, (.bin .sub .prim (.tmp 63) (.tmp 66)), none⟩,
 ⟨some 13, (.move (.tmp 67)), none⟩])
 (.region [⟨some 14, (.move (.con (.int .i64 1))), none⟩])))
 .skip)))
 (.seq (.seq (.region [⟨some 68, (.move (.tmp 10)), none⟩,
 ⟨some 69, (.move (.tmp 68)), none⟩,
 ⟨some 70, (.move (.tmp 11)), some (69, true)⟩,
 ⟨some 71, (.pick (.tmp 69) (.tmp 70) (.con (.bool false))), none⟩,
 ⟨some 72, (.move (.tmp 71)), none⟩,
 ⟨some 73, (.move (.tmp 14)), some (72, true)⟩,
 ⟨some 74, (.bin .eql .prim (.tmp 73) (.con (.int .i64 1))), some (72, true)⟩,
 ⟨some 75, (.pick (.tmp 72) (.tmp 74) (.con (.bool false))), none⟩])
 (.join [true, true, true, true, true, false, false, false, false, false, true, true, true, true] (.cond (.tmp 75)
 (.seq (.region [⟨some 76, (.move (.tmp 0)), none⟩,
 ⟨some 77, (.move (.tmp 1)), none⟩,
 ⟨some 78, (.move (.tmp 2)), none⟩,
 ⟨some 79, (.move (.tmp 4)), none⟩,
 ⟨some 80, (.call 136 [(.tmp 76), (.tmp 77), (.tmp 78), (.tmp 79)]), none⟩])
 (.cond (.tmp 80)
 .ret
 .skip))
 .skip)))
 (.seq (.seq (.dregion [[], [0], [0, 1], [1, 0, 2], [1, 0, 2], [1, 0, 2], [2, 0, 1, 5], [5, 6, 2, 0, 1, 4], [4, 1, 0, 2, 6, 5, 7], [1, 0, 2], [1, 0, 2], [10, 2, 0, 1, 9], [9, 1, 0, 2, 10, 11], [11, 10, 9, 12, 7, 5, 6, 4, 8, 2, 0, 1, 3], [3, 1, 0, 2, 8, 4, 6, 5, 7, 12, 9, 10, 11, 13], [13, 11, 10, 9, 12, 7, 5, 6, 4, 8, 2, 0, 1, 3, 14], [14, 3, 8, 4, 6, 5, 7, 12, 9, 10, 11, 13, 15, 1, 0, 2]] [.op 0 ⟨some 81, (.move (.tmp 1)), none⟩,
 .op 1 ⟨some 82, (.bin .gtr .prim (.tmp 81) (.con (.int .i64 0))), none⟩,
 .op 2 ⟨some 83, (.move (.tmp 82)), none⟩,
 .op 3 ⟨some 84, (.move (.tmp 4)), some (83, true)⟩,
 .op 4 ⟨some 85, (.move (.tmp 0)), some (83, true)⟩,
 .op 5 ⟨some 86, (.move (.tmp 1)), some (83, true)⟩,
 .op 6 ⟨some 87, (.bin .sub .prim (.tmp 86) (.con (.int .i64 1))), some (83, true)⟩,
 .op 7 ⟨some 88, (.indexAddrS 2 (.tmp 85) (.tmp 87)), some (83, true)⟩,
 .op 8 ⟨some 89, (.loadN 2 (.tmp 88)), some (83, true)⟩,
 .op 9 ⟨some 90, (.move (.tmp 0)), some (83, true)⟩,
 .op 10 ⟨some 91, (.move (.tmp 13)), some (83, true)⟩,
 .op 11 ⟨some 92, (.indexAddrS 2 (.tmp 90) (.tmp 91)), some (83, true)⟩,
 .op 12 ⟨some 93, (.loadN 2 (.tmp 92)), some (83, true)⟩,
 .op 13 ⟨some 94, (.callv (.tmp 84) [(.tmp 89), (.tmp 93)]), some (83, true)⟩,
 .op 14 ⟨some 95, (.bin .lss .prim (.tmp 94) (.con (.int .i64 0))), some (83, true)⟩,
 .op 15 ⟨some 96, (.un .not (.tmp 95)), some (83, true)⟩,
 .op 16 ⟨some 97, (.pick (.tmp 83) (.tmp 96) (.con (.bool false))), none⟩])
 (.cond (.tmp 97)
 (.seq (.region [⟨some 98, (.move (.tmp 0)), none⟩,
 ⟨some 99, (.move (.tmp 1)), none⟩,
 ⟨some 100, (.move (.tmp 2)), none⟩,
 ⟨some 101, (.move (.tmp 13)), none⟩,
 ⟨some 102, (.move (.tmp 4)), none⟩,
 ⟨some 103, (.call 137 [(.tmp 98), (.tmp 99), (.tmp 100), (.tmp 101), (.tmp 102)]), none⟩,
 ⟨some 15, (.move (.tmp 103)), none⟩])
 (.seq (.region [⟨some 104, (.move (.tmp 15)), none⟩,
 ⟨some 1, (.move (.tmp 104)), none⟩])
 (.exit 1)))
 .skip))
 (.seq (.region [⟨some 106, (.move (.tmp 0)), none⟩,
 ⟨some 107, (.move (.tmp 1)), none⟩,
 ⟨some 108, (.move (.tmp 2)), none⟩,
 ⟨some 109, (.move (.tmp 13)), none⟩,
 ⟨some 110, (.move (.tmp 4)), none⟩,
 ⟨some 111, (.call 138 [(.tmp 106), (.tmp 107), (.tmp 108), (.tmp 109), (.tmp 110)]), none⟩,
 ⟨some 105, (.move (.tmp 111)), none⟩,
 ⟨some 112, (.extract (.tmp 105) 0), none⟩,
 ⟨some 113, (.extract (.tmp 105) 1), none⟩,
 ⟨some 16, (.move (.tmp 112)), none⟩,
 ⟨some 17, (.move (.tmp 113)), none⟩])
 (.seq (.region [⟨some 114, (.move (.tmp 17)), none⟩,
 ⟨some 11, (.move (.tmp 114)), none⟩])
 (.seq (.region [⟨some 115, (.move (.tmp 16)), none⟩,
 ⟨some 116, (.move (.tmp 1)), none⟩,
 ⟨some 117, (.bin .sub .prim (.tmp 115) (.tmp 116)), none⟩,
 ⟨some 118, (.move (.tmp 2)), none⟩,
 ⟨some 119, (.move (.tmp 16)), none⟩,
 ⟨some 120, (.bin .sub .prim (.tmp 118) (.tmp 119)), none⟩,
 ⟨some 18, (.move (.tmp 117)), none⟩,
 ⟨some 19, (.move (.tmp 120)), none⟩])
 (.seq (.region [⟨some 121, (.move (.tmp 12)), none⟩,
 ⟨some 122, (.bin .quo .prim (.tmp 121) (.con (.int .i64 8))), none⟩,
 ⟨some 20, (.move (.tmp 122)), none⟩])
 (.seq (.region [⟨some 123, (.move (.tmp 18)), none⟩,
 ⟨some 124, (.move (.tmp 19)), none⟩,
 ⟨some 125, (.bin .lss .prim (.tmp 123) (.tmp 124)), none⟩])
 (.cond (.tmp 125)
 (.seq (.region [⟨some 126, (.move (.tmp 18)), none⟩,
 ⟨some 127, (.move (.tmp 20)), none⟩,
 ⟨some 128, (.bin .geq .prim (.tmp 126) (.tmp 127)), none⟩,
 ⟨some 10, (.move (.tmp 128)), none⟩])
 (.seq (.region [⟨some 129, (.move (.tmp 0)), none⟩,
 ⟨some 130, (.move (.tmp 1)), none⟩,
 ⟨some 131, (.move (.tmp 16)), none⟩,
 ⟨some 132, (.move (.tmp 3)), none⟩,
 ⟨some 133, (.move (.tmp 4)), none⟩,
 ⟨some 134, (.call 115 [(.tmp 129), (.tmp 130), (.tmp 131), (.tmp 132), (.tmp 133)]), none⟩])
 (.region [⟨some 135, (.move (.tmp 16)), none⟩,
 ⟨some 136, (.bin .add .prim (.tmp 135) (.con (.int .i64 1))), none⟩,
 ⟨some 1, (.move (.tmp 136)), none⟩])))
 (.seq (.region [⟨some 137, (.move (.tmp 19)), none⟩,
 ⟨some 138, (.move (.tmp 20)), none⟩,
 ⟨some 139, (.bin .geq .prim (.tmp 137) (.tmp 138)), none⟩,
 ⟨some 10, (.move (.tmp 139)), none⟩])
 (.seq (.region [⟨some 140, (.move (.tmp 0)), none⟩,
 ⟨some 141, (.move (.tmp 16)), none⟩,
 ⟨some 142, (.bin .add .prim (.tmp 141) (.con (.int .i64 1))), none⟩,
 ⟨some 143, (.move (.tmp 2)), none⟩,
 ⟨some 144, (.move (.tmp 3)), none⟩,
 ⟨some 145, (.move (.tmp 4)), none⟩,
 ⟨some 146, (.call 115 [(.tmp 140), (.tmp 142), (.tmp 143), (.tmp 144), (.tmp 145)]), none⟩])
 (.region [⟨some 147, (.move (.tmp 16)), none⟩,
 ⟨some 2, (.move (.tmp 147)), none⟩]))))))))))))))))))))))⟩
theorem F115_ok : cfn tab F115.body Try.f115 = some F115 := by kernel_rfl

/- math/bits.Len -/
def F116 : AFn := ⟨8, [.tmp 2],
 (.seq (.region [⟨some 2, (.move (.con (.int .i64 0))), none⟩])
 (.seq (.cond (.con (.bool false))
 (.seq (.region [⟨some 3, (.move (.tmp 0)), none⟩,
 ⟨some 4, (.toInt .u32 (.tmp 3)), none⟩,
 ⟨some 5, (.call 139 [(.tmp 4)]), none⟩,
 ⟨some 2, (.move (.tmp 5)), none⟩])
 .ret)
 .skip)
 (.seq (.region [⟨some 6, (.move (.tmp 0)), none⟩,
 ⟨some 7, (.call 140 [(.tmp 6)]), none⟩,
 ⟨some 2, (.move (.tmp 7)), none⟩])
 .ret)))⟩
theorem F116_ok : cfn tab F116.body Try.f116 = some F116 := by kernel_rfl

/- cmp.Or[int] -/
def F117 : AFn := ⟨18, [.tmp 2],
 (.seq (.region [⟨some 2, (.move (.con (.int .i64 0))), none⟩])
 (.seq (.region [⟨some 3, (.move (.con (.int .i64 0))), none⟩])
 (.seq (.seq (.region [⟨some 6, (.move (.tmp 0)), none⟩,
 ⟨some 7, (.lenS (.tmp 6)), none⟩,
 ⟨some 8, (.move (.con (.int .i64 0))), none⟩])
 (.join [false, false, true, true] (.block 0 (.loop [false, false, false, true, false, false, true, true, true] [false, false, true, true]
 (.seq (.region [⟨some 9, (.bin .lss .prim (.tmp 8) (.tmp 7)), none⟩])
 (.seq (.cond (.tmp 9)
 .skip
 (.exit 0))
 (.seq (.block 1 (.seq (.region [⟨some 10, (.indexAddrS 1 (.tmp 6) (.tmp 8)), none⟩,
 ⟨some 11, (.load1 (.tmp 10)), none⟩,
 ⟨some 5, (.move (.tmp 11)), none⟩])
 (.seq (.region [⟨some 12, (.move (.tmp 5)), none⟩,
 ⟨some 13, (.move (.tmp 3)), none⟩,
 ⟨some 14, (.bin .neq .prim (.tmp 12) (.tmp 13)), none⟩])
 (.cond (.tmp 14)
 (.seq (.region [⟨some 15, (.move (.tmp 5)), none⟩,
 ⟨some 2, (.move (.tmp 15)), none⟩])
 .ret)
 .skip))))
 (.region [⟨some 16, (.bin .add .prim (.tmp 8) (.con (.int .i64 1))), none⟩,
 ⟨some 8, (.move (.tmp 16)), none⟩]))))))))
 (.seq (.region [⟨some 17, (.move (.tmp 3)), none⟩,
 ⟨some 2, (.move (.tmp 17)), none⟩])
 .ret))))⟩
theorem F117_ok : cfn tab F117.body Try.f117 = some F117 := by kernel_rfl

/- cmp.Compare[int] -/
def F118 : AFn := ⟨20, [.tmp 4],
 (.seq (.region [⟨some 4, (.move (.con (.int .i64 0))), none⟩])
 (.seq (.region [⟨some 7, (.move (.tmp 0)), none⟩,
 ⟨some 8, (.call 141 [(.tmp 7)]), none⟩,
 ⟨some 5, (.move (.tmp 8)), none⟩])
 (.seq (.region [⟨some 9, (.move (.tmp 1)), none⟩,
 ⟨some 10, (.call 141 [(.tmp 9)]), none⟩,
 ⟨some 6, (.move (.tmp 10)), none⟩])
 (.seq (.seq (.region [⟨some 11, (.move (.tmp 5)), none⟩])
 (.cond (.tmp 11)
 (.seq (.seq (.region [⟨some 12, (.move (.tmp 6)), none⟩])
 (.cond (.tmp 12)
 (.seq (.region [⟨some 4, (.move (.con (.int .i64 0))), none⟩])
 .ret)
 .skip))
 (.seq (.region [⟨some 4, (.move (.con (.int .i64 (-1)))), none⟩])
 .ret))
 .skip))
 (.seq (.seq (.region [⟨some 13, (.move (.tmp 6)), none⟩])
 (.cond (.tmp 13)
 (.seq (.region [⟨some 4, (.move (.con (.int .i64 1))), none⟩])
 .ret)
 .skip))
 (.seq (.seq (.region [⟨some 14, (.move (.tmp 0)), none⟩,
 ⟨some 15, (.move (.tmp 1)), none⟩,
 ⟨some 16, (.bin .lss .prim (.tmp 14) (.tmp 15)), none⟩])
 (.cond (.tmp 16)
 (.seq (.region [⟨some 4, (.move (.con (.int .i64 (-1)))), none⟩])
 .ret)
 .skip))
 (.seq (.seq (.region [⟨some 17, (.move (.tmp 0)), none⟩,
 ⟨some 18, (.move (.tmp 1)), none⟩,
 ⟨some 19, (.bin .gtr .prim (.tmp 17) (.tmp 18)), none⟩])
 (.cond (.tmp 19)
 (.seq (.region [⟨some 4, (.move (.con (.int .i64 1))), none⟩])
 .ret)
 .skip))
 (.seq (.region [⟨some 4, (.move (.con (.int .i64 0))), none⟩])
 .ret))))))))⟩
theorem F118_ok : cfn tab F118.body Try.f118 = some F118 := by kernel_rfl

/- slices.insertionSortCmpFunc[milestone/order.ranked] -/
def F131 : AFn := ⟨53, [],
 (.seq (.region [⟨some 10, (.move (.tmp 1)), none⟩,
 ⟨some 11, (.bin .add .prim (.tmp 10) (.con (.int .i64 1))), none⟩,
 ⟨some 8, (.move (.tmp 11)), none⟩])
 (.block 0 (.loop [true, true, true, true, false, false, false, false, true] []
 (.seq (.seq (.region [⟨some 12, (.move (.tmp 8)), none⟩,
 ⟨some 13, (.move (.tmp 2)), none⟩,
 ⟨some 14, (.bin .lss .prim (.tmp 12) (.tmp 13)), none⟩])
 (.cond (.tmp 14)
 .skip
 (.exit 0)))
 (.seq (.block 1 (.seq (.region [⟨some 17, (.move (.tmp 8)), none⟩,
 ⟨some 9, (.move (.tmp 17)), none⟩])
 (.block 2 (.loop [true, true, true, true, false, false, false, false, true, true] [true, true, true, true, false, false, false, false, true]
 (.seq (.seq (.dregion [[], [], [1, 0], [0, 1, 2], [2, 1, 0, 3], [2, 1, 0, 3], [2, 1, 0, 3], [6, 3, 0, 1, 2, 5], [5, 2, 1, 0, 3, 6, 7], [2, 1, 0, 3], [2, 1, 0, 3], [3, 0, 1, 2, 10], [10, 11, 3, 0, 1, 2, 9], [9, 2, 1, 0, 3, 11, 10, 12], [12, 10, 11, 9, 13, 7, 6, 5, 8, 3, 0, 1, 2, 4], [4, 2, 1, 0, 3, 8, 5, 6, 7, 13, 9, 11, 10, 12, 14], [14, 12, 10, 11, 9, 13, 7, 6, 5, 8, 4, 15, 2, 1, 0, 3]] [.op 0 ⟨some 18, (.move (.tmp 9)), none⟩,
 .op 1 ⟨some 19, (.move (.tmp 1)), none⟩,
 .op 2 ⟨some 20, (.bin .gtr .prim (.tmp 18) (.tmp 19)), none⟩,
 .op 3 ⟨some 21, (.move (.tmp 20)), none⟩,
 .op 4 ⟨some 22, (.move (.tmp 3)), some (21, true)⟩,
 .op 5 ⟨some 23, (.move (.tmp 0)), some (21, true)⟩,
 .op 6 ⟨some 24, (.move (.tmp 9)), some (21, true)⟩,
 .op 7 ⟨some 25, (.indexAddrS 2 (.tmp 23) (.tmp 24)), some (21, true)⟩,
 .op 8 ⟨some 26, (.loadN 2 (.tmp 25)), some (21, true)⟩,
 .op 9 ⟨some 27, (.move (.tmp 0)), some (21, true)⟩,
 .op 10 ⟨some 28, (.move (.tmp 9)), some (21, true)⟩,
 .op 11 ⟨some 29, (.bin .sub .prim (.tmp 28) (.con (.int .i64 1))), some (21, true)⟩,
 .op 12 ⟨some 30, (.indexAddrS 2 (.tmp 27) (.tmp 29)), some (21, true)⟩,
 .op 13 ⟨some 31, (.loadN 2 (.tmp 30)), some (21, true)⟩,
 .op 14 ⟨some 32, (.callv (.tmp 22) [(.tmp 26), (.tmp 31)]), some (21, true)⟩,
 .op 15 ⟨some 33, (.bin .lss .prim (.tmp 32) (.con (.int .i64 0))), some (21, true)⟩,
 .op 16 ⟨some 34, (.pick (.tmp 21) (.tmp 33) (.con (.bool false))), none⟩])
 (.cond (.tmp 34)
 .skip
 (.exit 2)))
 (.seq (.block 3 (.dregion [[], [], [], [], [3], [], [], [6], [6, 7, 5], [5, 7, 6, 8], [], [], [11, 10], [10, 11, 12], [12, 11, 10, 13, 9, 8, 7, 6, 5, 1, 0], [0, 1, 5, 6, 7, 8, 9, 13, 10, 11, 12, 14], [15, 14, 13, 12, 11, 10, 9, 8, 7, 6, 5, 1, 0, 3, 4, 2], [2, 4, 3, 0, 1, 5, 6, 7, 8, 9, 10, 11, 12, 13, 14, 15, 16]] [.op 0 ⟨some 37, (.move (.tmp 0)), none⟩,
 .op 1 ⟨some 38, (.move (.tmp 9)), none⟩,
 .op 2 ⟨some 39, (.move (.tmp 0)), none⟩,
 .op 3 ⟨some 40, (.move (.tmp 9)), none⟩,
 .op 4 ⟨some 41, (.bin .sub .prim (.tmp 40) (.con (.int .i64 1))), none⟩,
 .op 5 ⟨some 42, (.move (.tmp 0)), none⟩,
 .op 6 ⟨some 43, (.move (.tmp 9)), none⟩,
 .op 7 ⟨some 44, (.bin .sub .prim (.tmp 43) (.con (.int .i64 1))), none⟩,
 .op 8 ⟨some 45, (.indexAddrS 2 (.tmp 42) (.tmp 44)), none⟩,
 .op 9 ⟨some 46, (.loadN 2 (.tmp 45)), none⟩,
 .op 10 ⟨some 47, (.move (.tmp 0)), none⟩,
 .op 11 ⟨some 48, (.move (.tmp 9)), none⟩,
 .op 12 ⟨some 49, (.indexAddrS 2 (.tmp 47) (.tmp 48)), none⟩,
 .op 13 ⟨some 50, (.loadN 2 (.tmp 49)), none⟩,
 .op 14 ⟨some 51, (.indexAddrS 2 (.tmp 37) (.tmp 38)), none⟩,
 .op 15 ⟨none, (.store 2 (.tmp 51) (.tmp 46)), none⟩,
 .op 16 ⟨some 52, (.indexAddrS 2 (.tmp 39) (.tmp 41)), none⟩,
 .op 17 ⟨none, (.store 2 (.tmp 52) (.tmp 50)), none⟩]))
 (.region [⟨some 35, (.move (.tmp 9)), none⟩,
 ⟨some 36, (.bin .sub .prim (.tmp 35) (.con (.int .i64 1))), none⟩,
 ⟨some 9, (.move (.tmp 36)), none⟩])))))))
 (.region [⟨some 15, (.move (.tmp 8)), none⟩,
 ⟨some 16, (.bin .add .prim (.tmp 15) (.con (.int .i64 1))), none⟩,
 ⟨some 8, (.move (.tmp 16)), none⟩]))))))⟩
theorem F131_ok : cfn tab F131.body Try.f131 = some F131 := by kernel_rfl

/- slices.heapSortCmpFunc[milestone/order.ranked] -/
def F132 : AFn := ⟨60, [],
 (.seq (.region [⟨some 13, (.move (.tmp 1)), none⟩,
 ⟨some 8, (.move (.tmp 13)), none⟩])
 (.seq (.region [⟨some 9, (.move (.con (.int .i64 0))), none⟩])
 (.seq (.region [⟨some 14, (.move (.tmp 2)), none⟩,
 ⟨some 15, (.move (.tmp 1)), none⟩,
 ⟨some 16, (.bin .sub .prim (.tmp 14) (.tmp 15)), none⟩,
 ⟨some 10, (.move (.tmp 16)), none⟩])
 (.seq (.seq (.region [⟨some 17, (.move (.tmp 10)), none⟩,
 ⟨some 18, (.bin .sub .prim (.tmp 17) (.con (.int .i64 1))), none⟩,
 ⟨some 19, (.bin .quo .prim (.tmp 18) (.con (.int .i64 2))), none⟩,
 ⟨some 11, (.move (.tmp 19)), none⟩])
 (.join [true, false, false, true, false, false, false, false, true, true, true] (.block 0 (.loop [true, false, false, true, false, false, false, false, true, true, true, true] [true, false, false, true, false, false, false, false, true, true, true]
 (.seq (.seq (.region [⟨some 20, (.move (.tmp 11)), none⟩,
 ⟨some 21, (.bin .geq .prim (.tmp 20) (.con (.int .i64 0))), none⟩])
 (.cond (.tmp 21)
 .skip
 (.exit 0)))
 (.seq (.block 1 (.region [⟨some 24, (.move (.tmp 0)), none⟩,
 ⟨some 25, (.move (.tmp 11)), none⟩,
 ⟨some 26, (.move (.tmp 10)), none⟩,
 ⟨some 27, (.move (.tmp 8)), none⟩,
 ⟨some 28, (.move (.tmp 3)), none⟩,
 ⟨some 29, (.call 144 [(.tmp 24), (.tmp 25), (.tmp 26), (.tmp 27), (.tmp 28)]), none⟩]))
 (.region [⟨some 22, (.move (.tmp 11)), none⟩,
 ⟨some 23, (.bin .sub .prim (.tmp 22) (.con (.int .i64 1))), none⟩,
 ⟨some 11, (.move (.tmp 23)), none⟩])))))))
 (.seq (.region [⟨some 30, (.move (.tmp 10)), none⟩,
 ⟨some 31, (.bin .sub .prim (.tmp 30) (.con (.int .i64 1))), none⟩,
 ⟨some 12, (.move (.tmp 31)), none⟩])
 (.block 2 (.loop [true, false, false, true, false, false, false, false, true, true, false, false, true] []
 (.seq (.seq (.region [⟨some 32, (.move (.tmp 12)), none⟩,
 ⟨some 33, (.bin .geq .prim (.tmp 32) (.con (.int .i64 0))), none⟩])
 (.cond (.tmp 33)
 .skip
 (.exit 2)))
 (.seq (.block 3 (.seq (.dregion [[], [], [], [], [], [4, 3], [], [], [], [8, 7], [7, 8, 9, 6], [6, 9, 8, 7, 10], [], [], [13, 12], [12, 13, 14], [14, 13, 12, 15, 11, 10, 9, 8, 7, 6, 1, 0], [0, 1, 6, 7, 8, 9, 10, 11, 15, 12, 13, 14, 16], [17, 16, 15, 14, 13, 12, 11, 10, 9, 8, 7, 6, 1, 0, 3, 4, 5, 2], [2, 5, 4, 3, 0, 1, 6, 7, 8, 9, 10, 11, 12, 13, 14, 15, 16, 17, 18]] [.op 0 ⟨some 36, (.move (.tmp 0)), none⟩,
 .op 1 ⟨some 37, (.move (.tmp 8)), none⟩,
 .op 2 ⟨some 38, (.move (.tmp 0)), none⟩,
 .op 3 ⟨some 39, (.move (.tmp 8)), none⟩,
 .op 4 ⟨some 40, (.move (.tmp 12)), none⟩,
 .op 5 ⟨some 41, (.bin .add .prim (.tmp 39) (.tmp 40)), none⟩,
 .op 6 ⟨some 42, (.move (.tmp 0)), none⟩,
 .op 7 ⟨some 43, (.move (.tmp 8)), none⟩,
 .op 8 ⟨some 44, (.move (.tmp 12)), none⟩,
 .op 9 ⟨some 45, (.bin .add .prim (.tmp 43) (.tmp 44)), none⟩,
 .op 10 ⟨some 46, (.indexAddrS 2 (.tmp 42) (.tmp 45)), none⟩,
 .op 11 ⟨some 47, (.loadN 2 (.tmp 46)), none⟩,
 .op 12 ⟨some 48, (.move (.tmp 0)), none⟩,
 .op 13 ⟨some 49, (.move (.tmp 8)), none⟩,
 .op 14 ⟨some 50, (.indexAddrS 2 (.tmp 48) (.tmp 49)), none⟩,
 .op 15 ⟨some 51, (.loadN 2 (.tmp 50)), none⟩,
 .op 16 ⟨some 52, (.indexAddrS 2 (.tmp 36) (.tmp 37)), none⟩,
 .op 17 ⟨none, (.store 2 (.tmp 52) (.tmp 47)), none⟩,
 .op 18 ⟨some 53, (.indexAddrS 2 (.tmp 38) (.tmp 41)), none⟩,
 .op 19 ⟨none, (.store 2 (.tmp 53) (.tmp 51)), none⟩])
 (.region [⟨some 54, (.move (.tmp 0)), none⟩,
 ⟨some 55, (.move (.tmp 9)), none⟩,
 ⟨some 56, (.move (.tmp 12)), none⟩,
 ⟨some 57, (.move (.tmp 8)), none⟩,
 ⟨some 58, (.move (.tmp 3)), none⟩,
 ⟨some 59, (.call 144 [(.tmp 54), (.tmp 55), (.tmp 56), (.tmp 57), (.tmp 58)]), none⟩])))
 (.region [⟨some 34, (.move (.tmp 12)), none⟩,
 ⟨some 35, (.bin .sub .prim (.tmp 34) (.con (.int .i64 1))), none⟩,
 ⟨some 12, (.move (.tmp 35)), none⟩]))))))))))⟩
theorem F132_ok : cfn tab F132.body Try.f132 = some F132 := by kernel_rfl

/- slices.breakPatternsCmpFunc[milestone/order.ranked] -/
def F133 : AFn := ⟨67, [],
 (.seq (.region [⟨some 13, (.move (.tmp 2)), none⟩,
 ⟨some 14, (.move (.tmp 1)), none⟩,
 ⟨some 15, (.bin .sub .prim (.tmp 13) (.tmp 14)), none⟩,
 ⟨some 8, (.move (.tmp 15)), none⟩])
 (.seq (.region [⟨some 16, (.move (.tmp 8)), none⟩,
 ⟨some 17, (.bin .geq .prim (.tmp 16) (.con (.int .i64 8))), none⟩])
 (.cond (.tmp 17)
 (.seq (.region [⟨some 18, (.move (.tmp 8)), none⟩,
 ⟨some 19, (.toInt .u64 (.tmp 18)), none⟩,
 ⟨some 9, (.alloc [(.int .u64 0)]), none⟩,
 ⟨none, (.store 1 (.tmp 9) (.tmp 19)), none⟩])
 (.seq (.region [⟨some 20, (.move (.tmp 8)), none⟩,
 ⟨some 21, (.call 145 [(.tmp 20)]), none⟩,
 ⟨some 10, (.move (.tmp 21)), none⟩])
 (.seq (.region [⟨some 22, (.move (.tmp 1)), none⟩,
 ⟨some 23, (.move (.tmp 8)), none⟩,
 ⟨some 24, (.bin .quo .prim (.tmp 23) (.con (.int .i64 4))), none⟩,
 ⟨some 25, (.bin .mul .prim (.tmp 24) (.con (.int .i64 2))), none⟩,
 ⟨some 26, (.bin .add .prim (.tmp 22) (.tmp 25)), none⟩,
 ⟨some 27, (.bin .sub .prim (.tmp 26) (.con (.int .i64 1))), none⟩,
 ⟨some 11, (.move (.tmp 27)), none⟩])
 (.block 0 (.loop [true, true, false, false, false, false, false, false, true, true, true, true] []
 (.seq (.seq (.region [⟨some 28, (.move (.tmp 11)), none⟩,
 ⟨some 29, (.move (.tmp 1)), none⟩,
 ⟨some 30, (.move (.tmp 8)), none⟩,
 ⟨some 31, (.bin .quo .prim (.tmp 30) (.con (.int .i64 4))), none⟩,
 ⟨some 32, (.bin .mul .prim (.tmp 31) (.con (.int .i64 2))), none⟩,
 ⟨some 33, (.bin .add .prim (.tmp 29) (.tmp 32)), none⟩,
 ⟨some 34, (.bin .add .prim (.tmp 33) (.con (.int .i64 1))), none⟩,
 ⟨some 35, (.bin .leq .prim (.tmp 28) (.tmp 34)), none⟩])
 (.cond (.tmp 35)
 .skip
 (.exit 0)))
 (.seq (.block 1 (.seq (.region [⟨some 38, (.call 146 [(.tmp 9)]), none⟩,
 ⟨some 39, (.move (.tmp 10)), none⟩,
 ⟨some 40, (.bin .sub .prim (.tmp 39) (.con (.int .u64 1))), none⟩,
 ⟨some 41, (.bin .and .prim (.tmp 38) (.tmp 40)), none⟩,
 ⟨some 42, (.toInt .i64 (.tmp 41)), none⟩,
 ⟨some 12, (.move (.tmp 42)), none⟩])
 (.seq (.seq (.region [⟨some 43, (.move (.tmp 12)), none⟩,
 ⟨some 44, (.move (.tmp 8)), none⟩,
 ⟨some 45, (.bin .geq .prim (.tmp 43) (.tmp 44)), none⟩])
 (.join [true, true, false, false, false, false, false, false, true, true, true, true, true] (.cond (.tmp 45)
 (.region [⟨some 46, (.move (.tmp 12)), none⟩,
 ⟨some 47, (.move (.tmp 8)), none⟩,
 ⟨some 48, (.bin .sub .prim (.tmp 46) (.tmp 47)), none⟩,
 ⟨some 12, (.move (.tmp 48)), none⟩])
 .skip)))
 (.dregion [[], [], [], [], [], [4, 3], [], [], [], [8, 7], [7, 8, 9, 6], [6, 9, 8, 7, 10], [], [], [13, 12], [12, 13, 14], [14, 13, 12, 15, 11, 10, 9, 8, 7, 6, 1, 0], [0, 1, 6, 7, 8, 9, 10, 11, 15, 12, 13, 14, 16], [17, 16, 15, 14, 13, 12, 11, 10, 9, 8, 7, 6, 1, 0, 3, 4, 5, 2], [2, 5, 4, 3, 0, 1, 6, 7, 8, 9, 10, 11, 12, 13, 14, 15, 16, 17, 18]] [.op 0 ⟨some 49, (.move (.tmp 0)), none⟩,
 .op 1 ⟨some 50, (.move (.tmp 11)), none⟩,
 .op 2 ⟨some 51, (.move (.tmp 0)), none⟩,
 .op 3 ⟨some 52, (.move (.tmp 1)), none⟩,
 .op 4 ⟨some 53, (.move (.tmp 12)), none⟩,
 .op 5 ⟨some 54, (.bin .add .prim (.tmp 52) (.tmp 53)), none⟩,
 .op 6 ⟨some 55, (.move (.tmp 0)), none⟩,
 .op 7 ⟨some 56, (.move (.tmp 1)), none⟩,
 .op 8 ⟨some 57, (.move (.tmp 12)), none⟩,
 .op 9 ⟨some 58, (.bin .add .prim (.tmp 56) (.tmp 57)), none⟩,
 .op 10 ⟨some 59, (.indexAddrS 2 (.tmp 55) (.tmp 58)), none⟩,
 .op 11 ⟨some 60, (.loadN 2 (.tmp 59)), none⟩,
 .op 12 ⟨some 61, (.move (.tmp 0)), none⟩,
 .op 13 ⟨some 62, (.move (.tmp 11)), none⟩,
 .op 14 ⟨some 63, (.indexAddrS 2 (.tmp 61) (.tmp 62)), none⟩,
 .op 15 ⟨some 64, (.loadN 2 (.tmp 63)), none⟩,
 .op 16 ⟨some 65, (.indexAddrS 2 (.tmp 49) (.tmp 50)), none⟩,
 .op 17 ⟨none, (.store 2 (.tmp 65) (.tmp 60)), none⟩,
 .op 18 ⟨some 66, (.indexAddrS 2 (.tmp 51) (.tmp 54)), none⟩,
 .op 19 ⟨none, (.store 2 (.tmp 66) (.tmp 64)), none⟩]))))
 (.region [⟨some 36, (.move (.tmp 11)), none⟩,
 ⟨some 37, (.bin .add .prim (.tmp 36) (.con (.int .i64 1))), none⟩,
 ⟨some 11, (.move (.tmp 37)), none⟩]))))))))
 .skip)))⟩
theorem F133_ok : cfn tab F133.body Try.f133 = some F133 := by kernel_rfl

/- slices.choosePivotCmpFunc[milestone/order.ranked] -/
def F134 : AFn := ⟨63, [.tmp 8, .tmp 9],
 (.seq (.region [⟨some 8, (.move (.con (.int .i64 0))), none⟩,
 ⟨some 9, (.move (.con (.int .i64 0))), none⟩])
 (.seq (.region [⟨some 15, (.move (.tmp 2)), none⟩,
 ⟨some 16, (.move (.tmp 1)), none⟩,
 ⟨some 17, (.bin .sub .prim (.tmp 15) (.tmp 16)), none⟩,
 ⟨some 10, (.move (.tmp 17)), none⟩])
 (.seq (.region [⟨some 11, (.alloc [(.int .i64 0)]), none⟩])
 (.seq (.region [⟨some 18, (.move (.tmp 1)), none⟩,
 ⟨some 19, (.move (.tmp 10)), none⟩,
 ⟨some 20, (.bin .quo .prim (.tmp 19) (.con (.int .i64 4))), none⟩,
 ⟨some 21, (.bin .mul .prim (.tmp 20) (.con (.int .i64 1))), none⟩,
 ⟨some 22, (.bin .add .prim (.tmp 18) (.tmp 21)), none⟩,
 ⟨some 12, (.move (.tmp 22)), none⟩])
 (.seq (.region [⟨some 23, (.move (.tmp 1)), none⟩,
 ⟨some 24, (.move (.tmp 10)), none⟩,
 ⟨some 25, (.bin .quo .prim (.tmp 24) (.con (.int .i64 4))), none⟩,
 ⟨some 26, (.bin .mul .prim (.tmp 25) (.con (.int .i64 2))), none⟩,
 ⟨some 27, (.bin .add .prim (.tmp 23) (.tmp 26)), none⟩,
 ⟨some 13, (.move (.tmp 27)), none⟩])
 (.seq (.region [⟨some 28, (.move (.tmp 1)), none⟩,
 ⟨some 29, (.move (.tmp 10)), none⟩,
 ⟨some 30, (.bin .quo .prim (.tmp 29) (.con (.int .i64 4))), none⟩,
 ⟨some 31, (.bin .mul .prim (.tmp 30) (.con (.int .i64 3))), none⟩,
 ⟨some 32, (.bin .add .prim (.tmp 28) (.tmp 31)), none⟩,
 ⟨some 14, (.move (.tmp 32)), none⟩])
 (.seq (.seq (.region [⟨some 33, (.move (.tmp 10)), none⟩,
 ⟨some 34, (.bin .geq .prim (.tmp 33) (.con (.int .i64 8))), none⟩])
 (.join [false, false, false, false, false, false, false, false, true, true, false, true, false, true] (.cond (.tmp 34)
 (.seq (.seq (.region [⟨some 35, (.move (.tmp 10)), none⟩,
 ⟨some 36, (.bin .geq .prim (.tmp 35) (.con (.int .i64 50))), none⟩])
 (.join [true, false, false, true, false, false, false, false, true, true, false, true, true, true, true] (.cond (.tmp 36)
 (.seq (.region [⟨some 37, (.move (.tmp 0)), none⟩,
 ⟨some 38, (.move (.tmp 12)), none⟩,
 ⟨some 39, (.move (.tmp 3)), none⟩,
 ⟨some 40, (.call 147 [(.tmp 37), (.tmp 38), (.tmp 11), (.tmp 39)]), none⟩,
 ⟨some 12, (.move (.tmp 40)), none⟩])
 (.seq (.region [⟨some 41, (.move (.tmp 0)), none⟩,
 ⟨some 42, (.move (.tmp 13)), none⟩,
 ⟨some 43, (.move (.tmp 3)), none⟩,
 ⟨some 44, (.call 147 [(.tmp 41), (.tmp 42), (.tmp 11), (.tmp 43)]), none⟩,
 ⟨some 13, (.move (.tmp 44)), none⟩])
 (.region [⟨some 45, (.move (.tmp 0)), none⟩,
 ⟨some 46, (.move (.tmp 14)), none⟩,
 ⟨some 47, (.move (.tmp 3)), none⟩,
 ⟨some 48, (.call 147 [(.tmp 45), (.tmp 46), (.tmp 11), (.tmp 47)]), none⟩,
 ⟨some 14, (.move (.tmp 48)), none⟩])))
 .skip)))
 (.region [⟨some 49, (.move (.tmp 0)), none⟩,
 ⟨some 50, (.move (.tmp 12)), none⟩,
 ⟨some 51, (.move (.tmp 13)), none⟩,
 ⟨some 52, (.move (.tmp 14)), none⟩,
 ⟨some 53, (.move (.tmp 3)), none⟩,
 ⟨some 54, (.call 148 [(.tmp 49), (.tmp 50), (.tmp 51), (.tmp 52), (.tmp 11), (.tmp 53)]), none⟩,
 ⟨some 13, (.move (.tmp 54)), none⟩]))
 .skip)))
 (.seq (.region [⟨some 55, (.load1 (.tmp 11)), none⟩])
 (.block 0 (.seq (.region [⟨some 58, (.bin .eql .prim (.tmp 55) (.con (.int .i64 0))), none⟩,
 ⟨some 57, (.move (.tmp 58)), none⟩])
 (.cond (.tmp 57)
 (.seq (.region [⟨some 59, (.move (.tmp 13)), none⟩,
 ⟨some 8, (.move (.tmp 59)), none⟩,
 ⟨some 9, (.move (.con (.int .i64 1))), none⟩])
 .ret)
 (.seq (.region [⟨some 61, (.bin .eql .prim (.tmp 55) (.con (.int .i64 12))), none⟩,
 ⟨some 60, (.move (.tmp 61)), none⟩])
 (.cond (.tmp 60)
 (.seq (.region [⟨some 62, (.move (.tmp 13)), none⟩,
 ⟨some 8, (.move (.tmp 62)), none⟩,
 ⟨some 9, (.move (.con (.int .i64 2))), none⟩])
 .ret)
 (.seq (.region [⟨some 56, (.move (.tmp 13)), none⟩,
 ⟨some 8, (.move (.tmp 56)), none⟩,
 ⟨some 9, (.move (.con (.int .i64 0))), none⟩])
 .ret))))))))))))))⟩
theorem F134_ok : cfn tab F134.body Try.f134 = some F134 := by kernel_rfl

/- slices.reverseRangeCmpFunc[milestone/order.ranked] -/
def F135 : AFn := ⟨34, [],
 (.seq (.region [⟨some 10, (.move (.tmp 1)), none⟩,
 ⟨some 8, (.move (.tmp 10)), none⟩])
 (.seq (.region [⟨some 11, (.move (.tmp 2)), none⟩,
 ⟨some 12, (.bin .sub .prim (.tmp 11) (.con (.int .i64 1))), none⟩,
 ⟨some 9, (.move (.tmp 12)), none⟩])
 (.block 0 (.loop [true, false, false, false, false, false, false, false, true, true] []
 (.seq (.seq (.region [⟨some 13, (.move (.tmp 8)), none⟩,
 ⟨some 14, (.move (.tmp 9)), none⟩,
 ⟨some 15, (.bin .lss .prim (.tmp 13) (.tmp 14)), none⟩])
 (.cond (.tmp 15)
 .skip
 (.exit 0)))
 (.block 1 (.seq (.dregion [[], [], [], [], [], [], [5, 4], [4, 5, 6], [], [], [9, 8], [8, 9, 10], [10, 9, 8, 11, 7, 6, 5, 4, 1, 0], [0, 1, 4, 5, 6, 7, 11, 8, 9, 10, 12], [13, 12, 11, 10, 9, 8, 7, 6, 5, 4, 1, 0, 3, 2], [2, 3, 0, 1, 4, 5, 6, 7, 8, 9, 10, 11, 12, 13, 14]] [.op 0 ⟨some 16, (.move (.tmp 0)), none⟩,
 .op 1 ⟨some 17, (.move (.tmp 8)), none⟩,
 .op 2 ⟨some 18, (.move (.tmp 0)), none⟩,
 .op 3 ⟨some 19, (.move (.tmp 9)), none⟩,
 .op 4 ⟨some 20, (.move (.tmp 0)), none⟩,
 .op 5 ⟨some 21, (.move (.tmp 9)), none⟩,
 .op 6 ⟨some 22, (.indexAddrS 2 (.tmp 20) (.tmp 21)), none⟩,
 .op 7 ⟨some 23, (.loadN 2 (.tmp 22)), none⟩,
 .op 8 ⟨some 24, (.move (.tmp 0)), none⟩,
 .op 9 ⟨some 25, (.move (.tmp 8)), none⟩,
 .op 10 ⟨some 26, (.indexAddrS 2 (.tmp 24) (.tmp 25)), none⟩,
 .op 11 ⟨some 27, (.loadN 2 (.tmp 26)), none⟩,
 .op 12 ⟨some 28, (.indexAddrS 2 (.tmp 16) (.tmp 17)), none⟩,
 .op 13 ⟨none, (.store 2 (.tmp 28) (.tmp 23)), none⟩,
 .op 14 ⟨some 29, (.indexAddrS 2 (.tmp 18) (.tmp 19)), none⟩,
 .op 15 ⟨none, (.store 2 (.tmp 29) (.tmp 27)), none⟩])
 (.seq (.region [⟨some 30, (.move (.tmp 8)), none⟩,
 ⟨some 31, (.bin .add .prim (.tmp 30) (.con (.int .i64 1))), none⟩,
 ⟨some 8, (.move (.tmp 31)), none⟩])
 (.region [⟨some 32, (.move (.tmp 9)), none⟩,
 ⟨some 33, (.bin .sub .prim (.tmp 32) (.con (.int .i64 1))), none⟩,
 ⟨some 9, (.move (.tmp 33)), none⟩])))))))))⟩
theorem F135_ok : cfn tab F135.body Try.f135 = some F135 := by kernel_rfl

/- slices.partialInsertionSortCmpFunc[milestone/order.ranked] -/
def F136 : AFn := ⟨141, [.tmp 8],
 (.seq (.region [⟨some 8, (.move (.con (.bool false))), none⟩])
 (.seq (.region [⟨some 13, (.move (.tmp 1)), none⟩,
 ⟨some 14, (.bin .add .prim (.tmp 13) (.con (.int .i64 1))), none⟩,
 ⟨some 9, (.move (.tmp 14)), none⟩])
 (.seq (.seq (.region [⟨some 10, (.move (.con (.int .i64 0))), none⟩])
 (.join [false, false, false, false, false, false, false, false, true] (.block 0 (.loop [true, true, true, true, false, false, false, false, false, true, true] [false, false, false, false, false, false, false, false, true]
 (.seq (.seq (.region [⟨some 15, (.move (.tmp 10)), none⟩,
 ⟨some 16, (.bin .lss .prim (.tmp 15) (.con (.int .i64 5))), none⟩])
 (.cond (.tmp 16)
 .skip
 (.exit 0)))
 (.seq (.block 1 (.seq (.join [true, true, true, true, false, false, false, false, true, true, true] (.block 2 (.loop [true, true, true, true, false, false, false, false, false, true, true] [true, true, true, true, false, false, false, false, true, true, true]
 (.seq (.seq (.dregion [[], [], [1, 0], [0, 1, 2], [2, 1, 0, 3], [2, 1, 0, 3], [2, 1, 0, 3], [6, 3, 0, 1, 2, 5], [5, 2, 1, 0, 3, 6, 7], [2, 1, 0, 3], [2, 1, 0, 3], [3, 0, 1, 2, 10], [10, 11, 3, 0, 1, 2, 9], [9, 2, 1, 0, 3, 11, 10, 12], [12, 10, 11, 9, 13, 7, 6, 5, 8, 3, 0, 1, 2, 4], [4, 2, 1, 0, 3, 8, 5, 6, 7, 13, 9, 11, 10, 12, 14], [14, 12, 10, 11, 9, 13, 7, 6, 5, 8, 3, 0, 1, 2, 4, 15], [15, 4, 8, 5, 6, 7, 13, 9, 11, 10, 12, 14, 16, 2, 1, 0, 3]] [.op 0 ⟨some 19, (.move (.tmp 9)), none⟩,
 .op 1 ⟨some 20, (.move (.tmp 2)), none⟩,
 .op 2 ⟨some 21, (.bin .lss .prim (.tmp 19) (.tmp 20)), none⟩,
 .op 3 ⟨some 22, (.move (.tmp 21)), none⟩,
 .op 4 ⟨some 23, (.move (.tmp 3)), some (22, true)⟩,
 .op 5 ⟨some 24, (.move (.tmp 0)), some (22, true)⟩,
 .op 6 ⟨some 25, (.move (.tmp 9)), some (22, true)⟩,
 .op 7 ⟨some 26, (.indexAddrS 2 (.tmp 24) (.tmp 25)), some (22, true)⟩,
 .op 8 ⟨some 27, (.loadN 2 (.tmp 26)), some (22, true)⟩,
 .op 9 ⟨some 28, (.move (.tmp 0)), some (22, true)⟩,
 .op 10 ⟨some 29, (.move (.tmp 9)), some (22, true)⟩,
 .op 11 ⟨some 30, (.bin .sub .prim (.tmp 29) (.con (.int .i64 1))), some (22, true)⟩,
 .op 12 ⟨some 31, (.indexAddrS 2 (.tmp 28) (.tmp 30)), some (22, true)⟩,
 .op 13 ⟨some 32, (.loadN 2 (.tmp 31)), some (22, true)⟩,
 .op 14 ⟨some 33, (.callv (.tmp 23) [(.tmp 27), (.tmp 32)]), some (22, true)⟩,
 .op 15 ⟨some 34, (.bin .lss .prim (.tmp 33) (.con (.int .i64 0))), some (22, true)⟩,
 .op 16 ⟨some 35, (.un .not (.tmp 34)), some (22, true)⟩,
 .op 17 ⟨some 36, (.pick (.tmp 22) (.tmp 35) (.con (.bool false))), none⟩])
 (.cond (.tmp 36)
 .skip
 (.exit 2)))
 (.block 3 (.region [⟨some 37, (.move (.tmp 9)), none⟩,
 ⟨some 38, (.bin .add .prim (.tmp 37) (.con (.int .i64 1))), none⟩,
 ⟨some 9, (.move (.tmp 38)), none⟩]))))))
 (.seq (.seq (.region [⟨some 39, (.move (.tmp 9)), none⟩,
 ⟨some 40, (.move (.tmp 2)), none⟩,
 ⟨some 41, (.bin .eql .prim (.tmp 39) (.tmp 40)), none⟩])
 (.cond (.tmp 41)
 (.seq (.region [⟨some 8, (.move (.con (.bool true))), none⟩])
 .ret)
 .skip))
 (.seq (.seq (.region [⟨some 42, (.move (.tmp 2)), none⟩,
 ⟨some 43, (.move (.tmp 1)), none⟩,
 ⟨some 44, (.bin .sub .prim (.tmp 42) (.tmp 43)), none⟩,
 ⟨some 45, (.bin .lss .prim (.tmp 44) (.con (.int .i64 50))), none⟩])
 (.cond (.tmp 45)
 (.seq (.region [⟨some 8, (.move (.con (.bool false))), none⟩])
 .ret)
 .skip))
 (.seq (.dregion [[], [], [], [], [3], [], [], [6], [6, 7, 5], [5, 7, 6, 8], [], [], [11, 10], [10, 11, 12], [12, 11, 10, 13, 9, 8, 7, 6, 5, 1, 0], [0, 1, 5, 6, 7, 8, 9, 13, 10, 11, 12, 14], [15, 14, 13, 12, 11, 10, 9, 8, 7, 6, 5, 1, 0, 3, 4, 2], [2, 4, 3, 0, 1, 5, 6, 7, 8, 9, 10, 11, 12, 13, 14, 15, 16]] [.op 0 ⟨some 46, (.move (.tmp 0)), none⟩,
 .op 1 ⟨some 47, (.move (.tmp 9)), none⟩,
 .op 2 ⟨some 48, (.move (.tmp 0)), none⟩,
 .op 3 ⟨some 49, (.move (.tmp 9)), none⟩,
 .op 4 ⟨some 50, (.bin .sub .prim (.tmp 49) (.con (.int .i64 1))), none⟩,
 .op 5 ⟨some 51, (.move (.tmp 0)), none⟩,
 .op 6 ⟨some 52, (.move (.tmp 9)), none⟩,
 .op 7 ⟨some 53, (.bin .sub .prim (.tmp 52) (.con (.int .i64 1))), none⟩,
 .op 8 ⟨some 54, (.indexAddrS 2 (.tmp 51) (.tmp 53)), none⟩,
 .op 9 ⟨some 55, (.loadN 2 (.tmp 54)), none⟩,
 .op 10 ⟨some 56, (.move (.tmp 0)), none⟩,
 .op 11 ⟨some 57, (.move (.tmp 9)), none⟩,
 .op 12 ⟨some 58, (.indexAddrS 2 (.tmp 56) (.tmp 57)), none⟩,
 .op 13 ⟨some 59, (.loadN 2 (.tmp 58)), none⟩,
 .op 14 ⟨some 60, (.indexAddrS 2 (.tmp 46) (.tmp 47)), none⟩,
 .op 15 ⟨none, (.store 2 (.tmp 60) (.tmp 55)), none⟩,
 .op 16 ⟨some 61, (.indexAddrS 2 (.tmp 48) (.tmp 50)), none⟩,
 .op 17 ⟨none, (.store 2 (.tmp 61) (.tmp 59)), none⟩])
 (.seq (.seq (.region [⟨some 62, (.move (.tmp 9)), none⟩,
 ⟨some 63, (.move (.tmp 1)), none⟩,
 ⟨some 64, (.bin .sub .prim (.tmp 62) (.tmp 63)), none⟩,
 ⟨some 65, (.bin .geq .prim (.tmp 64) (.con (.int .i64 2))), none⟩])
 (.join [true, true, true, true, false, false, false, false, true, true, true] (.cond (.tmp 65)
 (.seq (.region [⟨some 66, (.move (.tmp 9)), none⟩,
 ⟨some 67, (.bin .sub .prim (.tmp 66) (.con (.int .i64 1))), none⟩,
 ⟨some 11, (.move (.tmp 67)), none⟩])
 (.join [true, true, true, true, false, false, false, false, true, true, true] (.block 4 (.loop [true, true, true, true, false, false, false, false, false, true, true, true] [true, true, true, true, false, false, false, false, true, true, true]
 (.seq (.seq (.region [⟨some 68, (.move (.tmp 11)), none⟩,
 ⟨some 69, (.bin .geq .prim (.tmp 68) (.con (.int .i64 1))), none⟩])
 (.cond (.tmp 69)
 .skip
 (.exit 4)))
 (.seq (.block 5 (.seq (.seq (.dregion [[], [], [], [2, 1], [1, 2, 3], [], [], [6], [6, 7, 5], [5, 7, 6, 8], [8, 6, 7, 5, 9, 3, 2, 1, 4, 0], [0, 4, 1, 2, 3, 9, 5, 7, 6, 8, 10], [10, 8, 6, 7, 5, 9, 3, 2, 1, 4, 0, 11]] [.op 0 ⟨some 72, (.move (.tmp 3)), none⟩,
 .op 1 ⟨some 73, (.move (.tmp 0)), none⟩,
 .op 2 ⟨some 74, (.move (.tmp 11)), none⟩,
 .op 3 ⟨some 75, (.indexAddrS 2 (.tmp 73) (.tmp 74)), none⟩,
 .op 4 ⟨some 76, (.loadN 2 (.tmp 75)), none⟩,
 .op 5 ⟨some 77, (.move (.tmp 0)), none⟩,
 .op 6 ⟨some 78, (.move (.tmp 11)), none⟩,
 .op 7 ⟨some 79, (.bin .sub .prim (.tmp 78) (.con (.int .i64 1))), none⟩,
 .op 8 ⟨some 80, (.indexAddrS 2 (.tmp 77) (.tmp 79)), none⟩,
 .op 9 ⟨some 81, (.loadN 2 (.tmp 80)), none⟩,
 .op 10 ⟨some 82, (.callv (.tmp 72) [(.tmp 76), (.tmp 81)]), none⟩,
 .op 11 ⟨some 83, (.bin .lss .prim (.tmp 82) (.con (.int .i64 0))), none⟩,
 .op 12 ⟨some 84, (.un .not (.tmp 83)), none⟩])
 (.cond (.tmp 84)
 (.exit 4)
 .skip))
 (.dregion [[], [], [], [], [3], [], [], [6], [6, 7, 5], [5, 7, 6, 8], [], [], [11, 10], [10, 11, 12], [12, 11, 10, 13, 9, 8, 7, 6, 5, 1, 0], [0, 1, 5, 6, 7, 8, 9, 13, 10, 11, 12, 14], [15, 14, 13, 12, 11, 10, 9, 8, 7, 6, 5, 1, 0, 3, 4, 2], [2, 4, 3, 0, 1, 5, 6, 7, 8, 9, 10, 11, 12, 13, 14, 15, 16]] [.op 0 ⟨some 85, (.move (.tmp 0)), none⟩,
 .op 1 ⟨some 86, (.move (.tmp 11)), none⟩,
 .op 2 ⟨some 87, (.move (.tmp 0)), none⟩,
 .op 3 ⟨some 88, (.move (.tmp 11)), none⟩,
 .op 4 ⟨some 89, (.bin .sub .prim (.tmp 88) (.con (.int .i64 1))), none⟩,
 .op 5 ⟨some 90, (.move (.tmp 0)), none⟩,
 .op 6 ⟨some 91, (.move (.tmp 11)), none⟩,
 .op 7 ⟨some 92, (.bin .sub .prim (.tmp 91) (.con (.int .i64 1))), none⟩,
 .op 8 ⟨some 93, (.indexAddrS 2 (.tmp 90) (.tmp 92)), none⟩,
 .op 9 ⟨some 94, (.loadN 2 (.tmp 93)), none⟩,
 .op 10 ⟨some 95, (.move (.tmp 0)), none⟩,
 .op 11 ⟨some 96, (.move (.tmp 11)), none⟩,
 .op 12 ⟨some 97, (.indexAddrS 2 (.tmp 95) (.tmp 96)), none⟩,
 .op 13 ⟨some 98, (.loadN 2 (.tmp 97)), none⟩,
 .op 14 ⟨some 99, (.indexAddrS 2 (.tmp 85) (.tmp 86)), none⟩,
 .op 15 ⟨none, (.store 2 (.tmp 99) (.tmp 94)), none⟩,
 .op 16 ⟨some 100, (.indexAddrS 2 (.tmp 87) (.tmp 89)), none⟩,
 .op 17 ⟨none, (.store 2 (.tmp 100) (.tmp 98)), none⟩])))
 (.region [⟨some 70, (.move (.tmp 11)), none⟩,
 ⟨some 71, (.bin .sub .prim (.tmp 70) (.con (.int .i64 1))), none⟩,
 ⟨some 11, (.move (.tmp 71)), none⟩])))))))
 .skip)))
 (.seq (.region [⟨some 101, (.move (.tmp 2)), none⟩,
 ⟨some 102, (.move (.tmp 9)), none⟩,
 ⟨some 103, (.bin .sub .prim (.tmp 101) (.tmp 102)), none⟩,
 ⟨some 104, (.bin .geq .prim (.tmp 103) (.con (.int .i64 2))), none⟩])
 (.cond (.tmp 104)
 (.seq (.region [⟨some 105, (.move (.tmp 9)), none⟩,
 ⟨some 106, (.bin .add .prim (.tmp 105) (.con (.int .i64 1))), none⟩,
 ⟨some 12, (.move (.tmp 106)), none⟩])
 (.block 6 (.loop [true, true, true, true, false, false, false, false, false, true, true, false, true] [true, true, true, true, false, false, false, false, true, true, true]
 (.seq (.seq (.region [⟨some 107, (.move (.tmp 12)), none⟩,
 ⟨some 108, (.move (.tmp 2)), none⟩,
 ⟨some 109, (.bin .lss .prim (.tmp 107) (.tmp 108)), none⟩])
 (.cond (.tmp 109)
 .skip
 (.exit 6)))
 (.seq (.block 7 (.seq (.seq (.dregion [[], [], [], [2, 1], [1, 2, 3], [], [], [6], [6, 7, 5], [5, 7, 6, 8], [8, 6, 7, 5, 9, 3, 2, 1, 4, 0], [0, 4, 1, 2, 3, 9, 5, 7, 6, 8, 10], [10, 8, 6, 7, 5, 9, 3, 2, 1, 4, 0, 11]] [.op 0 ⟨some 112, (.move (.tmp 3)), none⟩,
 .op 1 ⟨some 113, (.move (.tmp 0)), none⟩,
 .op 2 ⟨some 114, (.move (.tmp 12)), none⟩,
 .op 3 ⟨some 115, (.indexAddrS 2 (.tmp 113) (.tmp 114)), none⟩,
 .op 4 ⟨some 116, (.loadN 2 (.tmp 115)), none⟩,
 .op 5 ⟨some 117, (.move (.tmp 0)), none⟩,
 .op 6 ⟨some 118, (.move (.tmp 12)), none⟩,
 .op 7 ⟨some 119, (.bin .sub .prim (.tmp 118) (.con (.int .i64 1))), none⟩,
 .op 8 ⟨some 120, (.indexAddrS 2 (.tmp 117) (.tmp 119)), none⟩,
 .op 9 ⟨some 121, (.loadN 2 (.tmp 120)), none⟩,
 .op 10 ⟨some 122, (.callv (.tmp 112) [(.tmp 116), (.tmp 121)]), none⟩,
 .op 11 ⟨some 123, (.bin .lss .prim (.tmp 122) (.con (.int .i64 0))), none⟩,
 .op 12 ⟨some 124, (.un .not (.tmp 123)), none⟩])
 (.cond (.tmp 124)
 (.exit 6)
 .skip))
 (.dregion [[], [], [], [], [3], [], [], [6], [6, 7, 5], [5, 7, 6, 8], [], [], [11, 10], [10, 11, 12], [12, 11, 10, 13, 9, 8, 7, 6, 5, 1, 0], [0, 1, 5, 6, 7, 8, 9, 13, 10, 11, 12, 14], [15, 14, 13, 12, 11, 10, 9, 8, 7, 6, 5, 1, 0, 3, 4, 2], [2, 4, 3, 0, 1, 5, 6, 7, 8, 9, 10, 11, 12, 13, 14, 15, 16]] [.op 0 ⟨some 125, (.move (.tmp 0)), none⟩,
 .op 1 ⟨some 126, (.move (.tmp 12)), none⟩,
 .op 2 ⟨some 127, (.move (.tmp 0)), none⟩,
 .op 3 ⟨some 128, (.move (.tmp 12)), none⟩,
 .op 4 ⟨some 129, (.bin .sub .prim (.tmp 128) (.con (.int .i64 1))), none⟩,
 .op 5 ⟨some 130, (.move (.tmp 0)), none⟩,
 .op 6 ⟨some 131, (.move (.tmp 12)), none⟩,
 .op 7 ⟨some 132, (.bin .sub .prim (.tmp 131) (.con (.int .i64 1))), none⟩,
 .op 8 ⟨some 133, (.indexAddrS 2 (.tmp 130) (.tmp 132)), none⟩,
 .op 9 ⟨some 134, (.loadN 2 (.tmp 133)), none⟩,
 .op 10 ⟨some 135, (.move (.tmp 0)), none⟩,
 .op 11 ⟨some 136, (.move (.tmp 12)), none⟩,
 .op 12 ⟨some 137, (.indexAddrS 2 (.tmp 135) (.tmp 136)), none⟩,
 .op 13 ⟨some 138, (.loadN 2 (.tmp 137)), none⟩,
 .op 14 ⟨some 139, (.indexAddrS 2 (.tmp 125) (.tmp 126)), none⟩,
 .op 15 ⟨none, (.store 2 (.tmp 139) (.tmp 134)), none⟩,
 .op 16 ⟨some 140, (.indexAddrS 2 (.tmp 127) (.tmp 129)), none⟩,
 .op 17 ⟨none, (.store 2 (.tmp 140) (.tmp 138)), none⟩])))
 (.region [⟨some 110, (.move (.tmp 12)), none⟩,
 ⟨some 111, (.bin .add .prim (.tmp 110) (.con (.int .i64 1))), none⟩,
 ⟨some 12, (.move (.tmp 111)), none⟩]))))))
 .skip))))))))
 (.region [⟨some 17, (.move (.tmp 10)), none⟩,
 ⟨some 18, (.bin .add .prim (.tmp 17) (.con (.int .i64 1))), none⟩,
 ⟨some 10, (.move (.tmp 18)), none⟩])))))))
 (.seq (.region [⟨some 8, (.move (.con (.bool false))), none⟩])
 .ret))))⟩
theorem F136_ok : cfn tab F136.body Try.f136 = some F136 := by kernel_rfl

/- slices.partitionEqualCmpFunc[milestone/order.ranked] -/
def F137 : AFn := ⟨90, [.tmp 10],
 (.seq (.region [⟨some 10, (.move (.con (.int .i64 0))), none⟩])
 (.seq (.dregion [[], [], [], [], [], [], [5, 4], [4, 5, 6], [], [], [9, 8], [8, 9, 10], [10, 9, 8, 11, 7, 6, 5, 4, 1, 0], [0, 1, 4, 5, 6, 7, 11, 8, 9, 10, 12], [13, 12, 11, 10, 9, 8, 7, 6, 5, 4, 1, 0, 3, 2], [2, 3, 0, 1, 4, 5, 6, 7, 8, 9, 10, 11, 12, 13, 14]] [.op 0 ⟨some 13, (.move (.tmp 0)), none⟩,
 .op 1 ⟨some 14, (.move (.tmp 1)), none⟩,
 .op 2 ⟨some 15, (.move (.tmp 0)), none⟩,
 .op 3 ⟨some 16, (.move (.tmp 3)), none⟩,
 .op 4 ⟨some 17, (.move (.tmp 0)), none⟩,
 .op 5 ⟨some 18, (.move (.tmp 3)), none⟩,
 .op 6 ⟨some 19, (.indexAddrS 2 (.tmp 17) (.tmp 18)), none⟩,
 .op 7 ⟨some 20, (.loadN 2 (.tmp 19)), none⟩,
 .op 8 ⟨some 21, (.move (.tmp 0)), none⟩,
 .op 9 ⟨some 22, (.move (.tmp 1)), none⟩,
 .op 10 ⟨some 23, (.indexAddrS 2 (.tmp 21) (.tmp 22)), none⟩,
 .op 11 ⟨some 24, (.loadN 2 (.tmp 23)), none⟩,
 .op 12 ⟨some 25, (.indexAddrS 2 (.tmp 13) (.tmp 14)), none⟩,
 .op 13 ⟨none, (.store 2 (.tmp 25) (.tmp 20)), none⟩,
 .op 14 ⟨some 26, (.indexAddrS 2 (.tmp 15) (.tmp 16)), none⟩,
 .op 15 ⟨none, (.store 2 (.tmp 26) (.tmp 24)), none⟩])
 (.seq (.region [⟨some 27, (.move (.tmp 1)), none⟩,
 ⟨some 28, (.bin .add .prim (.tmp 27) (.con (.int .i64 1))), none⟩,
 ⟨some 29, (.move (.tmp 2)), none⟩,
 ⟨some 30, (.bin .sub .prim (.tmp 29) (.con (.int .i64 1))), none⟩,
 ⟨some 11, (.move (.tmp 28)), none⟩,
 ⟨some 12, (.move (.tmp 30)), none⟩])
 (.seq (.join [false, false, false, false, false, false, false, false, false, false, true, true] (.block 0 (.loop [true, true, false, false, true, false, false, false, false, false, false, true, true] [false, false, false, false, false, false, false, false, false, false, true, true]
 (.block 1 (.seq (.join [true, true, false, false, true, false, false, false, false, false, true, true, true] (.block 2 (.loop [true, true, false, false, true, false, false, false, false, false, false, true, true] [true, true, false, false, true, false, false, false, false, false, true, true, true]
 (.seq (.seq (.dregion [[], [], [1, 0], [0, 1, 2], [2, 1, 0, 3], [2, 1, 0, 3], [2, 1, 0, 3], [6, 3, 0, 1, 2, 5], [5, 2, 1, 0, 3, 6, 7], [2, 1, 0, 3], [2, 1, 0, 3], [10, 3, 0, 1, 2, 9], [9, 2, 1, 0, 3, 10, 11], [11, 10, 9, 12, 7, 6, 5, 8, 3, 0, 1, 2, 4], [4, 2, 1, 0, 3, 8, 5, 6, 7, 12, 9, 10, 11, 13], [13, 11, 10, 9, 12, 7, 6, 5, 8, 3, 0, 1, 2, 4, 14], [14, 4, 8, 5, 6, 7, 12, 9, 10, 11, 13, 15, 2, 1, 0, 3]] [.op 0 ⟨some 31, (.move (.tmp 11)), none⟩,
 .op 1 ⟨some 32, (.move (.tmp 12)), none⟩,
 .op 2 ⟨some 33, (.bin .leq .prim (.tmp 31) (.tmp 32)), none⟩,
 .op 3 ⟨some 34, (.move (.tmp 33)), none⟩,
 .op 4 ⟨some 35, (.move (.tmp 4)), some (34, true)⟩,
 .op 5 ⟨some 36, (.move (.tmp 0)), some (34, true)⟩,
 .op 6 ⟨some 37, (.move (.tmp 1)), some (34, true)⟩,
 .op 7 ⟨some 38, (.indexAddrS 2 (.tmp 36) (.tmp 37)), some (34, true)⟩,
 .op 8 ⟨some 39, (.loadN 2 (.tmp 38)), some (34, true)⟩,
 .op 9 ⟨some 40, (.move (.tmp 0)), some (34, true)⟩,
 .op 10 ⟨some 41, (.move (.tmp 11)), some (34, true)⟩,
 .op 11 ⟨some 42, (.indexAddrS 2 (.tmp 40) (.tmp 41)), some (34, true)⟩,
 .op 12 ⟨some 43, (.loadN 2 (.tmp 42)), some (34, true)⟩,
 .op 13 ⟨some 44, (.callv (.tmp 35) [(.tmp 39), (.tmp 43)]), some (34, true)⟩,
 .op 14 ⟨some 45, (.bin .lss .prim (.tmp 44) (.con (.int .i64 0))), some (34, true)⟩,
 .op 15 ⟨some 46, (.un .not (.tmp 45)), some (34, true)⟩,
 .op 16 ⟨some 47, (.pick (.tmp 34) (.tmp 46) (.con (.bool false))), none⟩])
 (.cond (.tmp 47)
 .skip
 (.exit 2)))
 (.block 3 (.region [⟨some 48, (.move (.tmp 11)), none⟩,
 ⟨some 49, (.bin .add .prim (.tmp 48) (.con (.int .i64 1))), none⟩,
 ⟨some 11, (.move (.tmp 49)), none⟩]))))))
 (.seq (.join [true, true, false, false, true, false, false, false, false, false, true, true, true] (.block 4 (.loop [true, true, false, false, true, false, false, false, false, false, false, true, true] [true, true, false, false, true, false, false, false, false, false, true, true, true]
 (.seq (.seq (.dregion [[], [], [1, 0], [0, 1, 2], [2, 1, 0, 3], [2, 1, 0, 3], [2, 1, 0, 3], [6, 3, 0, 1, 2, 5], [5, 2, 1, 0, 3, 6, 7], [2, 1, 0, 3], [2, 1, 0, 3], [10, 3, 0, 1, 2, 9], [9, 2, 1, 0, 3, 10, 11], [11, 10, 9, 12, 7, 6, 5, 8, 3, 0, 1, 2, 4], [4, 2, 1, 0, 3, 8, 5, 6, 7, 12, 9, 10, 11, 13], [13, 11, 10, 9, 12, 7, 6, 5, 8, 4, 14, 2, 1, 0, 3]] [.op 0 ⟨some 50, (.move (.tmp 11)), none⟩,
 .op 1 ⟨some 51, (.move (.tmp 12)), none⟩,
 .op 2 ⟨some 52, (.bin .leq .prim (.tmp 50) (.tmp 51)), none⟩,
 .op 3 ⟨some 53, (.move (.tmp 52)), none⟩,
 .op 4 ⟨some 54, (.move (.tmp 4)), some (53, true)⟩,
 .op 5 ⟨some 55, (.move (.tmp 0)), some (53, true)⟩,
 .op 6 ⟨some 56, (.move (.tmp 1)), some (53, true)⟩,
 .op 7 ⟨some 57, (.indexAddrS 2 (.tmp 55) (.tmp 56)), some (53, true)⟩,
 .op 8 ⟨some 58, (.loadN 2 (.tmp 57)), some (53, true)⟩,
 .op 9 ⟨some 59, (.move (.tmp 0)), some (53, true)⟩,
 .op 10 ⟨some 60, (.move (.tmp 12)), some (53, true)⟩,
 .op 11 ⟨some 61, (.indexAddrS 2 (.tmp 59) (.tmp 60)), some (53, true)⟩,
 .op 12 ⟨some 62, (.loadN 2 (.tmp 61)), some (53, true)⟩,
 .op 13 ⟨some 63, (.callv (.tmp 54) [(.tmp 58), (.tmp 62)]), some (53, true)⟩,
 .op 14 ⟨some 64, (.bin .lss .prim (.tmp 63) (.con (.int .i64 0))), some (53, true)⟩,
 .op 15 ⟨some 65, (.pick (.tmp 53) (.tmp 64) (.con (.bool false))), none⟩])
 (.cond (.tmp 65)
 .skip
 (.exit 4)))
 (.block 5 (.region [⟨some 66, (.move (.tmp 12)), none⟩,
 ⟨some 67, (.bin .sub .prim (.tmp 66) (.con (.int .i64 1))), none⟩,
 ⟨some 12, (.move (.tmp 67)), none⟩]))))))
 (.seq (.seq (.region [⟨some 68, (.move (.tmp 11)), none⟩,
 ⟨some 69, (.move (.tmp 12)), none⟩,
 ⟨some 70, (.bin .gtr .prim (.tmp 68) (.tmp 69)), none⟩])
 (.cond (.tmp 70)
 (.exit 0)
 .skip))
 (.seq (.dregion [[], [], [], [], [], [], [5, 4], [4, 5, 6], [], [], [9, 8], [8, 9, 10], [10, 9, 8, 11, 7, 6, 5, 4, 1, 0], [0, 1, 4, 5, 6, 7, 11, 8, 9, 10, 12], [13, 12, 11, 10, 9, 8, 7, 6, 5, 4, 1, 0, 3, 2], [2, 3, 0, 1, 4, 5, 6, 7, 8, 9, 10, 11, 12, 13, 14]] [.op 0 ⟨some 71, (.move (.tmp 0)), none⟩,
 .op 1 ⟨some 72, (.move (.tmp 11)), none⟩,
 .op 2 ⟨some 73, (.move (.tmp 0)), none⟩,
 .op 3 ⟨some 74, (.move (.tmp 12)), none⟩,
 .op 4 ⟨some 75, (.move (.tmp 0)), none⟩,
 .op 5 ⟨some 76, (.move (.tmp 12)), none⟩,
 .op 6 ⟨some 77, (.indexAddrS 2 (.tmp 75) (.tmp 76)), none⟩,
 .op 7 ⟨some 78, (.loadN 2 (.tmp 77)), none⟩,
 .op 8 ⟨some 79, (.move (.tmp 0)), none⟩,
 .op 9 ⟨some 80, (.move (.tmp 11)), none⟩,
 .op 10 ⟨some 81, (.indexAddrS 2 (.tmp 79) (.tmp 80)), none⟩,
 .op 11 ⟨some 82, (.loadN 2 (.tmp 81)), none⟩,
 .op 12 ⟨some 83, (.indexAddrS 2 (.tmp 71) (.tmp 72)), none⟩,
 .op 13 ⟨none, (.store 2 (.tmp 83) (.tmp 78)), none⟩,
 .op 14 ⟨some 84, (.indexAddrS 2 (.tmp 73) (.tmp 74)), none⟩,
 .op 15 ⟨none, (.store 2 (.tmp 84) (.tmp 82)), none⟩])
 (.seq (.region [⟨some 85, (.move (.tmp 11)), none⟩,
 ⟨some 86, (.bin .add .prim (.tmp 85) (.con (.int .i64 1))), none⟩,
 ⟨some 11, (.move (.tmp 86)), none⟩])
 (.region [⟨some 87, (.move (.tmp 12)), none⟩,
 ⟨some 88, (.bin .sub .prim (.tmp 87) (.con (.int .i64 1))), none⟩,
 ⟨some 12, (.move (.tmp 88)), none⟩]))))))))))
 (.seq (.region [⟨some 89, (.move (.tmp 11)), none⟩,
 ⟨some 10, (.move (.tmp 89)), none⟩])
 .ret)))))⟩
theorem F137_ok : cfn tab F137.body Try.f137 = some F137 := by kernel_rfl

/- slices.partitionCmpFunc[milestone/order.ranked] -/
def F138 : AFn := ⟨178, [.tmp 10, .tmp 11],
 (.seq (.region [⟨some 10, (.move (.con (.int .i64 0))), none⟩,
 ⟨some 11, (.move (.con (.bool false))), none⟩])
 (.seq (.dregion [[], [], [], [], [], [], [5, 4], [4, 5, 6], [], [], [9, 8], [8, 9, 10], [10, 9, 8, 11, 7, 6, 5, 4, 1, 0], [0, 1, 4, 5, 6, 7, 11, 8, 9, 10, 12], [13, 12, 11, 10, 9, 8, 7, 6, 5, 4, 1, 0, 3, 2], [2, 3, 0, 1, 4, 5, 6, 7, 8, 9, 10, 11, 12, 13, 14]] [.op 0 ⟨some 14, (.move (.tmp 0)), none⟩,
 .op 1 ⟨some 15, (.move (.tmp 1)), none⟩,
 .op 2 ⟨some 16, (.move (.tmp 0)), none⟩,
 .op 3 ⟨some 17, (.move (.tmp 3)), none⟩,
 .op 4 ⟨some 18, (.move (.tmp 0)), none⟩,
 .op 5 ⟨some 19, (.move (.tmp 3)), none⟩,
 .op 6 ⟨some 20, (.indexAddrS 2 (.tmp 18) (.tmp 19)), none⟩,
 .op 7 ⟨some 21, (.loadN 2 (.tmp 20)), none⟩,
 .op 8 ⟨some 22, (.move (.tmp 0)), none⟩,
 .op 9 ⟨some 23, (.move (.tmp 1)), none⟩,
 .op 10 ⟨some 24, (.indexAddrS 2 (.tmp 22) (.tmp 23)), none⟩,
 .op 11 ⟨some 25, (.loadN 2 (.tmp 24)), none⟩,
 .op 12 ⟨some 26, (.indexAddrS 2 (.tmp 14) (.tmp 15)), none⟩,
 .op 13 ⟨none, (.store 2 (.tmp 26) (.tmp 21)), none⟩,
 .op 14 ⟨some 27, (.indexAddrS 2 (.tmp 16) (.tmp 17)), none⟩,
 .op 15 ⟨none, (.store 2 (.tmp 27) (.tmp 25)), none⟩])
 (.seq (.region [⟨some 28, (.move (.tmp 1)), none⟩,
 ⟨some 29, (.bin .add .prim (.tmp 28) (.con (.int .i64 1))), none⟩,
 ⟨some 30, (.move (.tmp 2)), none⟩,
 ⟨some 31, (.bin .sub .prim (.tmp 30) (.con (.int .i64 1))), none⟩,
 ⟨some 12, (.move (.tmp 29)), none⟩,
 ⟨some 13, (.move (.tmp 31)), none⟩])
 (.seq (.join [true, true, false, false, true, false, false, false, false, false, true, true, true, true] (.block 0 (.loop [true, true, false, false, true, false, false, false, false, false, false, false, true, true] [true, true, false, false, true, false, false, false, false, false, true, true, true, true]
 (.seq (.seq (.dregion [[], [], [1, 0], [0, 1, 2], [2, 1, 0, 3], [2, 1, 0, 3], [2, 1, 0, 3], [6, 3, 0, 1, 2, 5], [5, 2, 1, 0, 3, 6, 7], [2, 1, 0, 3], [2, 1, 0, 3], [10, 3, 0, 1, 2, 9], [9, 2, 1, 0, 3, 10, 11], [11, 10, 9, 12, 7, 6, 5, 8, 3, 0, 1, 2, 4], [4, 2, 1, 0, 3, 8, 5, 6, 7, 12, 9, 10, 11, 13], [13, 11, 10, 9, 12, 7, 6, 5, 8, 4, 14, 2, 1, 0, 3]] [.op 0 ⟨some 32, (.move (.tmp 12)), none⟩,
 .op 1 ⟨some 33, (.move (.tmp 13)), none⟩,
 .op 2 ⟨some 34, (.bin .leq .prim (.tmp 32) (.tmp 33)), none⟩,
 .op 3 ⟨some 35, (.move (.tmp 34)), none⟩,
 .op 4 ⟨some 36, (.move (.tmp 4)), some (35, true)⟩,
 .op 5 ⟨some 37, (.move (.tmp 0)), some (35, true)⟩,
 .op 6 ⟨some 38, (.move (.tmp 12)), some (35, true)⟩,
 .op 7 ⟨some 39, (.indexAddrS 2 (.tmp 37) (.tmp 38)), some (35, true)⟩,
 .op 8 ⟨some 40, (.loadN 2 (.tmp 39)), some (35, true)⟩,
 .op 9 ⟨some 41, (.move (.tmp 0)), some (35, true)⟩,
 .op 10 ⟨some 42, (.move (.tmp 1)), some (35, true)⟩,
 .op 11 ⟨some 43, (.indexAddrS 2 (.tmp 41) (.tmp 42)), some (35, true)⟩,
 .op 12 ⟨some 44, (.loadN 2 (.tmp 43)), some (35, true)⟩,
 .op 13 ⟨some 45, (.callv (.tmp 36) [(.tmp 40), (.tmp 44)]), some (35, true)⟩,
 .op 14 ⟨some 46, (.bin .lss .prim (.tmp 45) (.con (.int .i64 0))), some (35, true)⟩,
 .op 15 ⟨some 47, (.pick (.tmp 35) (.tmp 46) (.con (.bool false))), none⟩])
 (.cond (.tmp 47)
 .skip
 (.exit 0)))
 (.block 1 (.region [⟨some 48, (.move (.tmp 12)), none⟩,
 ⟨some 49, (.bin .add .prim (.tmp 48) (.con (.int .i64 1))), none⟩,
 ⟨some 12, (.move (.tmp 49)), none⟩]))))))
 (.seq (.join [true, true, false, false, true, false, false, false, false, false, true, true, true, true] (.block 2 (.loop [true, true, false, false, true, false, false, false, false, false, false, false, true, true] [true, true, false, false, true, false, false, false, false, false, true, true, true, true]
 (.seq (.seq (.dregion [[], [], [1, 0], [0, 1, 2], [2, 1, 0, 3], [2, 1, 0, 3], [2, 1, 0, 3], [6, 3, 0, 1, 2, 5], [5, 2, 1, 0, 3, 6, 7], [2, 1, 0, 3], [2, 1, 0, 3], [10, 3, 0, 1, 2, 9], [9, 2, 1, 0, 3, 10, 11], [11, 10, 9, 12, 7, 6, 5, 8, 3, 0, 1, 2, 4], [4, 2, 1, 0, 3, 8, 5, 6, 7, 12, 9, 10, 11, 13], [13, 11, 10, 9, 12, 7, 6, 5, 8, 3, 0, 1, 2, 4, 14], [14, 4, 8, 5, 6, 7, 12, 9, 10, 11, 13, 15, 2, 1, 0, 3]] [.op 0 ⟨some 50, (.move (.tmp 12)), none⟩,
 .op 1 ⟨some 51, (.move (.tmp 13)), none⟩,
 .op 2 ⟨some 52, (.bin .leq .prim (.tmp 50) (.tmp 51)), none⟩,
 .op 3 ⟨some 53, (.move (.tmp 52)), none⟩,
 .op 4 ⟨some 54, (.move (.tmp 4)), some (53, true)⟩,
 .op 5 ⟨some 55, (.move (.tmp 0)), some (53, true)⟩,
 .op 6 ⟨some 56, (.move (.tmp 13)), some (53, true)⟩,
 .op 7 ⟨some 57, (.indexAddrS 2 (.tmp 55) (.tmp 56)), some (53, true)⟩,
 .op 8 ⟨some 58, (.loadN 2 (.tmp 57)), some (53, true)⟩,
 .op 9 ⟨some 59, (.move (.tmp 0)), some (53, true)⟩,
 .op 10 ⟨some 60, (.move (.tmp 1)), some (53, true)⟩,
 .op 11 ⟨some 61, (.indexAddrS 2 (.tmp 59) (.tmp 60)), some (53, true)⟩,
 .op 12 ⟨some 62, (.loadN 2 (.tmp 61)), some (53, true)⟩,
 .op 13 ⟨some 63, (.callv (.tmp 54) [(.tmp 58), (.tmp 62)]), some (53, true)⟩,
 .op 14 ⟨some 64, (.bin .lss .prim (.tmp 63) (.con (.int .i64 0))), some (53, true)⟩,
 .op 15 ⟨some 65, (.un .not (.tmp 64)), some (53, true)⟩,
 .op 16 ⟨some 66, (.pick (.tmp 53) (.tmp 65) (.con (.bool false))), none⟩])
 (.cond (.tmp 66)
 .skip
 (.exit 2)))
 (.block 3 (.region [⟨some 67, (.move (.tmp 13)), none⟩,
 ⟨some 68, (.bin .sub .prim (.tmp 67) (.con (.int .i64 1))), none⟩,
 ⟨some 13, (.move (.tmp 68)), none⟩]))))))
 (.seq (.seq (.region [⟨some 69, (.move (.tmp 12)), none⟩,
 ⟨some 70, (.move (.tmp 13)), none⟩,
 ⟨some 71, (.bin .gtr .prim (.tmp 69) (.tmp 70)), none⟩])
 (.cond (.tmp 71)
 (.seq (.dregion [[], [], [], [], [], [], [5, 4], [4, 5, 6], [], [], [9, 8], [8, 9, 10], [10, 9, 8, 11, 7, 6, 5, 4, 1, 0], [0, 1, 4, 5, 6, 7, 11, 8, 9, 10, 12], [13, 12, 11, 10, 9, 8, 7, 6, 5, 4, 1, 0, 3, 2], [2, 3, 0, 1, 4, 5, 6, 7, 8, 9, 10, 11, 12, 13, 14]] [.op 0 ⟨some 72, (.move (.tmp 0)), none⟩,
 .op 1 ⟨some 73, (.move (.tmp 13)), none⟩,
 .op 2 ⟨some 74, (.move (.tmp 0)), none⟩,
 .op 3 ⟨some 75, (.move (.tmp 1)), none⟩,
 .op 4 ⟨some 76, (.move (.tmp 0)), none⟩,
 .op 5 ⟨some 77, (.move (.tmp 1)), none⟩,
 .op 6 ⟨some 78, (.indexAddrS 2 (.tmp 76) (.tmp 77)), none⟩,
 .op 7 ⟨some 79, (.loadN 2 (.tmp 78)), none⟩,
 .op 8 ⟨some 80, (.move (.tmp 0)), none⟩,
 .op 9 ⟨some 81, (.move (.tmp 13)), none⟩,
 .op 10 ⟨some 82, (.indexAddrS 2 (.tmp 80) (.tmp 81)), none⟩,
 .op 11 ⟨some 83, (.loadN 2 (.tmp 82)), none⟩,
 .op 12 ⟨some 84, (.indexAddrS 2 (.tmp 72) (.tmp 73)), none⟩,
 .op 13 ⟨none, (.store 2 (.tmp 84) (.tmp 79)), none⟩,
 .op 14 ⟨some 85, (.indexAddrS 2 (.tmp 74) (.tmp 75)), none⟩,
 .op 15 ⟨none, (.store 2 (.tmp 85) (.tmp 83)), none⟩])
 (.seq (.region [⟨some 86, (.move (.tmp 13)), none⟩,
 ⟨some 10, (.move (.tmp 86)), none⟩,
 ⟨some 11, (.move (.con (.bool true))), none⟩])
 .ret))
 .skip))
 (.seq (.dregion [[], [], [], [], [], [], [5, 4], [4, 5, 6], [], [], [9, 8], [8, 9, 10], [10, 9, 8, 11, 7, 6, 5, 4, 1, 0], [0, 1, 4, 5, 6, 7, 11, 8, 9, 10, 12], [13, 12, 11, 10, 9, 8, 7, 6, 5, 4, 1, 0, 3, 2], [2, 3, 0, 1, 4, 5, 6, 7, 8, 9, 10, 11, 12, 13, 14]] [.op 0 ⟨some 87, (.move (.tmp 0)), none⟩,
 .op 1 ⟨some 88, (.move (.tmp 12)), none⟩,
 .op 2 ⟨some 89, (.move (.tmp 0)), none⟩,
 .op 3 ⟨some 90, (.move (.tmp 13)), none⟩,
 .op 4 ⟨some 91, (.move (.tmp 0)), none⟩,
 .op 5 ⟨some 92, (.move (.tmp 13)), none⟩,
 .op 6 ⟨some 93, (.indexAddrS 2 (.tmp 91) (.tmp 92)), none⟩,
 .op 7 ⟨some 94, (.loadN 2 (.tmp 93)), none⟩,
 .op 8 ⟨some 95, (.move (.tmp 0)), none⟩,
 .op 9 ⟨some 96, (.move (.tmp 12)), none⟩,
 .op 10 ⟨some 97, (.indexAddrS 2 (.tmp 95) (.tmp 96)), none⟩,
 .op 11 ⟨some 98, (.loadN 2 (.tmp 97)), none⟩,
 .op 12 ⟨some 99, (.indexAddrS 2 (.tmp 87) (.tmp 88)), none⟩,
 .op 13 ⟨none, (.store 2 (.tmp 99) (.tmp 94)), none⟩,
 .op 14 ⟨some 100, (.indexAddrS 2 (.tmp 89) (.tmp 90)), none⟩,
 .op 15 ⟨none, (.store 2 (.tmp 100) (.tmp 98)), none⟩])
 (.seq (.region [⟨some 101, (.move (.tmp 12)), none⟩,
 ⟨some 102, (.bin .add .prim (.tmp 101) (.con (.int .i64 1))), none⟩,
 ⟨some 12, (.move (.tmp 102)), none⟩])
 (.seq (.region [⟨some 103, (.move (.tmp 13)), none⟩,
 ⟨some 104, (.bin .sub .prim (.tmp 103) (.con (.int .i64 1))), none⟩,
 ⟨some 13, (.move (.tmp 104)), none⟩])
 (.seq (.join [true, true, false, false, false, false, false, false, false, false, true, true, false, true] (.block 4 (.loop [true, true, false, false, true, false, false, false, false, false, false, false, true, true] [true, true, false, false, false, false, false, false, false, false, true, true, false, true]
 (.block 5 (.seq (.join [true, true, false, false, true, false, false, false, false, false, true, true, true, true] (.block 6 (.loop [true, true, false, false, true, false, false, false, false, false, false, false, true, true] [true, true, false, false, true, false, false, false, false, false, true, true, true, true]
 (.seq (.seq (.dregion [[], [], [1, 0], [0, 1, 2], [2, 1, 0, 3], [2, 1, 0, 3], [2, 1, 0, 3], [6, 3, 0, 1, 2, 5], [5, 2, 1, 0, 3, 6, 7], [2, 1, 0, 3], [2, 1, 0, 3], [10, 3, 0, 1, 2, 9], [9, 2, 1, 0, 3, 10, 11], [11, 10, 9, 12, 7, 6, 5, 8, 3, 0, 1, 2, 4], [4, 2, 1, 0, 3, 8, 5, 6, 7, 12, 9, 10, 11, 13], [13, 11, 10, 9, 12, 7, 6, 5, 8, 4, 14, 2, 1, 0, 3]] [.op 0 ⟨some 105, (.move (.tmp 12)), none⟩,
 .op 1 ⟨some 106, (.move (.tmp 13)), none⟩,
 .op 2 ⟨some 107, (.bin .leq .prim (.tmp 105) (.tmp 106)), none⟩,
 .op 3 ⟨some 108, (.move (.tmp 107)), none⟩,
 .op 4 ⟨some 109, (.move (.tmp 4)), some (108, true)⟩,
 .op 5 ⟨some 110, (.move (.tmp 0)), some (108, true)⟩,
 .op 6 ⟨some 111, (.move (.tmp 12)), some (108, true)⟩,
 .op 7 ⟨some 112, (.indexAddrS 2 (.tmp 110) (.tmp 111)), some (108, true)⟩,
 .op 8 ⟨some 113, (.loadN 2 (.tmp 112)), some (108, true)⟩,
 .op 9 ⟨some 114, (.move (.tmp 0)), some (108, true)⟩,
 .op 10 ⟨some 115, (.move (.tmp 1)), some (108, true)⟩,
 .op 11 ⟨some 116, (.indexAddrS 2 (.tmp 114) (.tmp 115)), some (108, true)⟩,
 .op 12 ⟨some 117, (.loadN 2 (.tmp 116)), some (108, true)⟩,
 .op 13 ⟨some 118, (.callv (.tmp 109) [(.tmp 113), (.tmp 117)]), some (108, true)⟩,
 .op 14 ⟨some 119, (.bin .lss .prim (.tmp 118) (.con (.int .i64 0))), some (108, true)⟩,
 .op 15 ⟨some 120, (.pick (.tmp 108) (.tmp 119) (.con (.bool false))), none⟩])
 (.cond (.tmp 120)
 .skip
 (.exit 6)))
 (.block 7 (.region [⟨some 121, (.move (.tmp 12)), none⟩,
 ⟨some 122, (.bin .add .prim (.tmp 121) (.con (.int .i64 1))), none⟩,
 ⟨some 12, (.move (.tmp 122)), none⟩]))))))
 (.seq (.join [true, true, false, false, true, false, false, false, false, false, true, true, true, true] (.block 8 (.loop [true, true, false, false, true, false, false, false, false, false, false, false, true, true] [true, true, false, false, true, false, false, false, false, false, true, true, true, true]
 (.seq (.seq (.dregion [[], [], [1, 0], [0, 1, 2], [2, 1, 0, 3], [2, 1, 0, 3], [2, 1, 0, 3], [6, 3, 0, 1, 2, 5], [5, 2, 1, 0, 3, 6, 7], [2, 1, 0, 3], [2, 1, 0, 3], [10, 3, 0, 1, 2, 9], [9, 2, 1, 0, 3, 10, 11], [11, 10, 9, 12, 7, 6, 5, 8, 3, 0, 1, 2, 4], [4, 2, 1, 0, 3, 8, 5, 6, 7, 12, 9, 10, 11, 13], [13, 11, 10, 9, 12, 7, 6, 5, 8, 3, 0, 1, 2, 4, 14], [14, 4, 8, 5, 6, 7, 12, 9, 10, 11, 13, 15, 2, 1, 0, 3]] [.op 0 ⟨some 123, (.move (.tmp 12)), none⟩,
 .op 1 ⟨some 124, (.move (.tmp 13)), none⟩,
 .op 2 ⟨some 125, (.bin .leq .prim (.tmp 123) (.tmp 124)), none⟩,
 .op 3 ⟨some 126, (.move (.tmp 125)), none⟩,
 .op 4 ⟨some 127, (.move (.tmp 4)), some (126, true)⟩,
 .op 5 ⟨some 128, (.move (.tmp 0)), some (126, true)⟩,
 .op 6 ⟨some 129, (.move (.tmp 13)), some (126, true)⟩,
 .op 7 ⟨some 130, (.indexAddrS 2 (.tmp 128) (.tmp 129)), some (126, true)⟩,
 .op 8 ⟨some 131, (.loadN 2 (.tmp 130)), some (126, true)⟩,
 .op 9 ⟨some 132, (.move (.tmp 0)), some (126, true)⟩,
 .op 10 ⟨some 133, (.move (.tmp 1)), some (126, true)⟩,
 .op 11 ⟨some 134, (.indexAddrS 2 (.tmp 132) (.tmp 133)), some (126, true)⟩,
 .op 12 ⟨some 135, (.loadN 2 (.tmp 134)), some (126, true)⟩,
 .op 13 ⟨some 136, (.callv (.tmp 127) [(.tmp 131), (.tmp 135)]), some (126, true)⟩,
 .op 14 ⟨some 137, (.bin .lss .prim (.tmp 136) (.con (.int .i64 0))), some (126, true)⟩,
 .op 15 ⟨some 138, (.un .not (.tmp 137)), some (126, true)⟩,
 .op 16 ⟨some 139, (.pick (.tmp 126) (.tmp 138) (.con (.bool false))), none⟩])
 (.cond (.tmp 139)
 .skip
 (.exit 8)))
 (.block 9 (.region [⟨some 140, (.move (.tmp 13)), none⟩,
 ⟨some 141, (.bin .sub .prim (.tmp 140) (.con (.int .i64 1))), none⟩,
 ⟨some 13, (.move (.tmp 141)), none⟩]))))))
 (.seq (.seq (.region [⟨some 142, (.move (.tmp 12)), none⟩,
 ⟨some 143, (.move (.tmp 13)), none⟩,
 ⟨some 144, (.bin .gtr .prim (.tmp 142) (.tmp 143)), none⟩])
 (.cond (.tmp 144)
 (.exit 4)
 .skip))
 (.seq (.dregion [[], [], [], [], [], [], [5, 4], [4, 5, 6], [], [], [9, 8], [8, 9, 10], [10, 9, 8, 11, 7, 6, 5, 4, 1, 0], [0, 1, 4, 5, 6, 7, 11, 8, 9, 10, 12], [13, 12, 11, 10, 9, 8, 7, 6, 5, 4, 1, 0, 3, 2], [2, 3, 0, 1, 4, 5, 6, 7, 8, 9, 10, 11, 12, 13, 14]] [.op 0 ⟨some 145, (.move (.tmp 0)), none⟩,
 .op 1 ⟨some 146, (.move (.tmp 12)), none⟩,
 .op 2 ⟨some 147, (.move (.tmp 0)), none⟩,
 .op 3 ⟨some 148, (.move (.tmp 13)), none⟩,
 .op 4 ⟨some 149, (.move (.tmp 0)), none⟩,
 .op 5 ⟨some 150, (.move (.tmp 13)), none⟩,
 .op 6 ⟨some 151, (.indexAddrS 2 (.tmp 149) (.tmp 150)), none⟩,
 .op 7 ⟨some 152, (.loadN 2 (.tmp 151)), none⟩,
 .op 8 ⟨some 153, (.move (.tmp 0)), none⟩,
 .op 9 ⟨some 154, (.move (.tmp 12)), none⟩,
 .op 10 ⟨some 155, (.indexAddrS 2 (.tmp 153) (.tmp 154)), none⟩,
 .op 11 ⟨some 156, (.loadN 2 (.tmp 155)), none⟩,
 .op 12 ⟨some 157, (.indexAddrS 2 (.tmp 145) (.tmp 146)), none⟩,
 .op 13 ⟨none, (.store 2 (.tmp 157) (.tmp 152)), none⟩,
 .op 14 ⟨some 158, (.indexAddrS 2 (.tmp 147) (.tmp 148)), none⟩,
 .op 15 ⟨none, (.store 2 (.tmp 158) (.tmp 156)), none⟩])
 (.seq (.region [⟨some 159, (.move (.tmp 12)), none⟩,
 ⟨some 160, (.bin .add .prim (.tmp 159) (.con (.int .i64 1))), none⟩,
 ⟨some 12, (.move (.tmp 160)), none⟩])
 (.region [⟨some 161, (.move (.tmp 13)), none⟩,
 ⟨some 162, (.bin .sub .prim (.tmp 161) (.con (.int .i64 1))), none⟩,
 ⟨some 13, (.move (.tmp 162)), none⟩]))))))))))
 (.seq (.dregion [[], [], [], [], [], [], [5, 4], [4, 5, 6], [], [], [9, 8], [8, 9, 10], [10, 9, 8, 11, 7, 6, 5, 4, 1, 0], [0, 1, 4, 5, 6, 7, 11, 8, 9, 10, 12], [13, 12, 11, 10, 9, 8, 7, 6, 5, 4, 1, 0, 3, 2], [2, 3, 0, 1, 4, 5, 6, 7, 8, 9, 10, 11, 12, 13, 14]] [.op 0 ⟨some 163, (.move (.tmp 0)), none⟩,
 .op 1 ⟨some 164, (.move (.tmp 13)), none⟩,
 .op 2 ⟨some 165, (.move (.tmp 0)), none⟩,
 .op 3 ⟨some 166, (.move (.tmp 1)), none⟩,
 .op 4 ⟨some 167, (.move (.tmp 0)), none⟩,
 .op 5 ⟨some 168, (.move (.tmp 1)), none⟩,
 .op 6 ⟨some 169, (.indexAddrS 2 (.tmp 167) (.tmp 168)), none⟩,
 .op 7 ⟨some 170, (.loadN 2 (.tmp 169)), none⟩,
 .op 8 ⟨some 171, (.move (.tmp 0)), none⟩,
 .op 9 ⟨some 172, (.move (.tmp 13)), none⟩,
 .op 10 ⟨some 173, (.indexAddrS 2 (.tmp 171) (.tmp 172)), none⟩,
 .op 11 ⟨some 174, (.loadN 2 (.tmp 173)), none⟩,
 .op 12 ⟨some 175, (.indexAddrS 2 (.tmp 163) (.tmp 164)), none⟩,
 .op 13 ⟨none, (.store 2 (.tmp 175) (.tmp 170)), none⟩,
 .op 14 ⟨some 176, (.indexAddrS 2 (.tmp 165) (.tmp 166)), none⟩,
 .op 15 ⟨none, (.store 2 (.tmp 176) (.tmp 174)), none⟩])
 (.seq (.region [⟨some 177, (.move (.tmp 13)), none⟩,
 ⟨some 10, (.move (.tmp 177)), none⟩,
 ⟨some 11, (.move (.con (.bool false))), none⟩])
 .ret))))))))))))⟩
theorem F138_ok : cfn tab F138.body Try.f138 = some F138 := by kernel_rfl

/- math/bits.Len32 -/
def F139 : AFn := ⟨19, [.tmp 2],
 (.seq (.region [⟨some 2, (.move (.con (.int .i64 0))), none⟩])
 (.seq (.seq (.region [⟨some 3, (.move (.tmp 0)), none⟩,
 ⟨some 4, (.bin .geq .prim (.tmp 3) (.con (.int .u32 65536))), none⟩])
 (.join [true, false, true] (.cond (.tmp 4)
 (.seq (.region [⟨some 5, (.move (.tmp 0)), none⟩,
 ⟨some 6, (.bin .shr .prim (.tmp 5) (.con (.int .u64 16))), none⟩,
 ⟨some 0, (.move (.tmp 6)), none⟩])
 (.region [⟨some 2, (.move (.con (.int .i64 16))), none⟩]))
 .skip)))
 (.seq (.seq (.region [⟨some 7, (.move (.tmp 0)), none⟩,
 ⟨some 8, (.bin .geq .prim (.tmp 7) (.con (.int .u32 256))), none⟩])
 (.join [true, false, true] (.cond (.tmp 8)
 (.seq (.region [⟨some 9, (.move (.tmp 0)), none⟩,
 ⟨some 10, (.bin .shr .prim (.tmp 9) (.con (.int .u64 8))), none⟩,
 ⟨some 0, (.move (.tmp 10)), none⟩])
 (.region [⟨some 11, (.move (.tmp 2)), none⟩,
 ⟨some 12, (.bin .add .prim (.tmp 11) (.con (.int .i64 8))), none⟩,
 ⟨some 2, (.move (.tmp 12)), none⟩]))
 .skip)))
 (.seq (.region [⟨some 13, (.move (.tmp 2)), none⟩,
 ⟨some 14, (.move (.tmp 0)), none⟩,
 ⟨some 15, (.toInt .u8 (.tmp 14)), none⟩,
 ⟨some 16, (.indexStr (.con (.str ⟨#[0, 1, 2, 2, 3, 3, 3, 3, 4, 4, 4, 4, 4, 4, 4, 4, 5, 5, 5, 5, 5, 5, 5, 5, 5, 5, 5, 5, 5, 5, 5, 5, 6, 6, 6, 6, 6, 6, 6, 6, 6, 6, 6, 6, 6, 6, 6, 6, 6, 6, 6, 6, 6, 6, 6, 6, 6, 6, 6, 6, 6, 6, 6, 6, 7, 7, 7, 7, 7, 7, 7, 7, 7, 7, 7, 7, 7, 7, 7, 7, 7, 7, 7, 7, 7, 7, 7, 7, 7, 7, 7, 7, 7, 7, 7, 7, 7, 7, 7, 7, 7, 7, 7, 7, 7, 7, 7, 7, 7, 7, 7, 7, 7, 7, 7, 7, 7, 7, 7, 7, 7, 7, 7, 7, 7, 7, 7, 7, 8, 8, 8, 8, 8, 8, 8, 8, 8, 8, 8, 8, 8, 8, 8, 8, 8, 8, 8, 8, 8, 8, 8, 8, 8, 8, 8, 8, 8, 8, 8, 8, 8, 8, 8, 8, 8, 8, 8, 8, 8, 8, 8, 8, 8, 8, 8, 8, 8, 8, 8, 8, 8, 8, 8, 8, 8, 8, 8, 8, 8, 8, 8, 8, 8, 8, 8, 8, 8, 8, 8, 8, 8, 8, 8, 8, 8, 8, 8, 8, 8, 8, 8, 8, 8, 8, 8, 8, 8, 8, 8, 8, 8, 8, 8, 8, 8, 8, 8, 8, 8, 8, 8, 8, 8, 8, 8, 8, 8, 8, 8, 8, 8, 8, 8, 8, 8, 8, 8, 8, 8, 8, 8, 8, 8, 8, 8, 8]⟩)) (.tmp 15)), none⟩,
 ⟨some 17, (.toInt .i64 (.tmp 16)), none⟩,
 ⟨some 18, (.bin .add .prim (.tmp 13) (.tmp 17)), none⟩,
 ⟨some 2, (.move (.tmp 18)), none⟩])
 .ret))))⟩
theorem F139_ok : cfn tab F139.body Try.f139 = some F139 := by kernel_rfl

/- math/bits.Len64 -/
def F140 : AFn := ⟨25, [.tmp 2],
 (.seq (.region [⟨some 2, (.move (.con (.int .i64 0))), none⟩])
 (.seq (.seq (.region [⟨some 3, (.move (.tmp 0)), none⟩,
 ⟨some 4, (.bin .geq .prim (.tmp 3) (.con (.int .u64 4294967296))), none⟩])
 (.join [true, false, true] (.cond (.tmp 4)
 (.seq (.region [⟨some 5, (.move (.tmp 0)), none⟩,
 ⟨some 6, (.bin .shr .prim (.tmp 5) (.con (.int .u64 32))), none⟩,
 ⟨some 0, (.move (.tmp 6)), none⟩])
 (.region [⟨some 2, (.move (.con (.int .i64 32))), none⟩]))
 .skip)))
 (.seq (.seq (.region [⟨some 7, (.move (.tmp 0)), none⟩,
 ⟨some 8, (.bin .geq .prim (.tmp 7) (.con (.int .u64 65536))), none⟩])
 (.join [true, false, true] (.cond (.tmp 8)
 (.seq (.region [⟨some 9, (.move (.tmp 0)), none⟩,
 ⟨some 10, (.bin .shr .prim (.tmp 9) (.con (.int .u64 16))), none⟩,
 ⟨some 0, (.move (.tmp 10)), none⟩])
 (.region [⟨some 11, (.move (.tmp 2)), none⟩,
 ⟨some 12, (.bin .add .prim (.tmp 11) (.con (.int .i64 16))), none⟩,
 ⟨some 2, (.move (.tmp 12)), none⟩]))
 .skip)))
 (.seq (.seq (.region [⟨some 13, (.move (.tmp 0)), none⟩,
 ⟨some 14, (.bin .geq .prim (.tmp 13) (.con (.int .u64 256))), none⟩])
 (.join [true, false, true] (.cond (.tmp 14)
 (.seq (.region [⟨some 15, (.move (.tmp 0)), none⟩,
 ⟨some 16, (.bin .shr .prim (.tmp 15) (.con (.int .u64 8))), none⟩,
 ⟨some 0, (.move (.tmp 16)), none⟩])
 (.region [⟨some 17, (.move (.tmp 2)), none⟩,
 ⟨some 18, (.bin .add .prim (.tmp 17) (.con (.int .i64 8))), none⟩,
 ⟨some 2, (.move (.tmp 18)), none⟩]))
 .skip)))
 (.seq (.region [⟨some 19, (.move (.tmp 2)), none⟩,
 ⟨some 20, (.move (.tmp 0)), none⟩,
 ⟨some 21, (.toInt .u8 (.tmp 20)), none⟩,
 ⟨some 22, (.indexStr (.con (.str ⟨#[0, 1, 2, 2, 3, 3, 3, 3, 4, 4, 4, 4, 4, 4, 4, 4, 5, 5, 5, 5, 5, 5, 5, 5, 5, 5, 5, 5, 5, 5, 5, 5, 6, 6, 6, 6, 6, 6, 6, 6, 6, 6, 6, 6, 6, 6, 6, 6, 6, 6, 6, 6, 6, 6, 6, 6, 6, 6, 6, 6, 6, 6, 6, 6, 7, 7, 7, 7, 7, 7, 7, 7, 7, 7, 7, 7, 7, 7, 7, 7, 7, 7, 7, 7, 7, 7, 7, 7, 7, 7, 7, 7, 7, 7, 7, 7, 7, 7, 7, 7, 7, 7, 7, 7, 7, 7, 7, 7, 7, 7, 7, 7, 7, 7, 7, 7, 7, 7, 7, 7, 7, 7, 7, 7, 7, 7, 7, 7, 8, 8, 8, 8, 8, 8, 8, 8, 8, 8, 8, 8, 8, 8, 8, 8, 8, 8, 8, 8, 8, 8, 8, 8, 8, 8, 8, 8, 8, 8, 8, 8, 8, 8, 8, 8, 8, 8, 8, 8, 8, 8, 8, 8, 8, 8, 8, 8, 8, 8, 8, 8, 8, 8, 8, 8, 8, 8, 8, 8, 8, 8, 8, 8, 8, 8, 8, 8, 8, 8, 8, 8, 8, 8, 8, 8, 8, 8, 8, 8, 8, 8, 8, 8, 8, 8, 8, 8, 8, 8, 8, 8, 8, 8, 8, 8, 8, 8, 8, 8, 8, 8, 8, 8, 8, 8, 8, 8, 8, 8, 8, 8, 8, 8, 8, 8, 8, 8, 8, 8, 8, 8, 8, 8, 8, 8, 8, 8]⟩)) (.tmp 21)), none⟩,
 ⟨some 23, (.toInt .i64 (.tmp 22)), none⟩,
 ⟨some 24, (.bin .add .prim (.tmp 19) (.tmp 23)), none⟩,
 ⟨some 2, (.move (.tmp 24)), none⟩])
 .ret)))))⟩
theorem F140_ok : cfn tab F140.body Try.f140 = some F140 := by kernel_rfl

/- cmp.isNaN[int] -/
def F141 : AFn := ⟨6, [.tmp 2],
 (.seq (.region [⟨some 2, (.move (.con (.bool false))), none⟩])
 (.seq (.region [⟨some 3, (.move (.tmp 0)), none⟩,
 ⟨some 4, (.move (.tmp 0)), none⟩,
 ⟨some 5, (.bin .neq .prim (.tmp 3) (.tmp 4)), none⟩,
 ⟨some 2, (.move (.tmp 5)), none⟩])
 .ret))⟩
theorem F141_ok : cfn tab F141.body Try.f141 = some F141 := by kernel_rfl

/- slices.siftDownCmpFunc[milestone/order.ranked] -/
def F144 : AFn := ⟨82, [],
 (.seq (.region [⟨some 12, (.move (.tmp 1)), none⟩,
 ⟨some 10, (.move (.tmp 12)), none⟩])
 (.block 0 (.loop [true, false, true, true, true, false, false, false, false, false, true] []
 (.block 1 (.seq (.region [⟨some 13, (.move (.tmp 10)), none⟩,
 ⟨some 14, (.bin .mul .prim (.con (.int .i64 2)) (.tmp 13)), none⟩,
 ⟨some 15, (.bin .add .prim (.tmp 14) (.con (.int .i64 1))), none⟩,
 ⟨some 11, (.move (.tmp 15)), none⟩])
 (.seq (.seq (.region [⟨some 16, (.move (.tmp 11)), none⟩,
 ⟨some 17, (.move (.tmp 2)), none⟩,
 ⟨some 18, (.bin .geq .prim (.tmp 16) (.tmp 17)), none⟩])
 (.cond (.tmp 18)
 (.exit 0)
 .skip))
 (.seq (.seq (.dregion [[], [0], [], [2, 0, 1], [1, 0, 2, 3], [3, 2, 0, 1, 4], [3, 2, 0, 1, 4], [3, 2, 0, 1, 4], [3, 2, 0, 1, 4], [8, 4, 1, 0, 2, 3, 7], [7, 8, 9, 4, 1, 0, 2, 3, 6], [6, 3, 2, 0, 1, 4, 9, 8, 7, 10], [3, 2, 0, 1, 4], [3, 2, 0, 1, 4], [3, 2, 0, 1, 4], [14, 4, 1, 0, 2, 3, 13], [13, 3, 2, 0, 1, 4, 14, 15], [15, 14, 13, 16, 4, 1, 0, 2, 3, 12], [12, 3, 2, 0, 1, 4, 16, 13, 14, 15, 17], [17, 15, 14, 13, 16, 12, 18, 10, 7, 8, 9, 6, 11, 4, 1, 0, 2, 3, 5], [5, 3, 2, 0, 1, 4, 11, 6, 9, 8, 7, 10, 18, 12, 16, 13, 14, 15, 17, 19], [19, 17, 15, 14, 13, 16, 12, 18, 10, 7, 8, 9, 6, 11, 5, 20, 3, 2, 0, 1, 4]] [.op 0 ⟨some 19, (.move (.tmp 11)), none⟩,
 .op 1 ⟨some 20, (.bin .add .prim (.tmp 19) (.con (.int .i64 1))), none⟩,
 .op 2 ⟨some 21, (.move (.tmp 2)), none⟩,
 .op 3 ⟨some 22, (.bin .lss .prim (.tmp 20) (.tmp 21)), none⟩,
 .op 4 ⟨some 23, (.move (.tmp 22)), none⟩,
 .op 5 ⟨some 24, (.move (.tmp 4)), some (23, true)⟩,
 .op 6 ⟨some 25, (.move (.tmp 0)), some (23, true)⟩,
 .op 7 ⟨some 26, (.move (.tmp 3)), some (23, true)⟩,
 .op 8 ⟨some 27, (.move (.tmp 11)), some (23, true)⟩,
 .op 9 ⟨some 28, (.bin .add .prim (.tmp 26) (.tmp 27)), some (23, true)⟩,
 .op 10 ⟨some 29, (.indexAddrS 2 (.tmp 25) (.tmp 28)), some (23, true)⟩,
 .op 11 ⟨some 30, (.loadN 2 (.tmp 29)), some (23, true)⟩,
 .op 12 ⟨some 31, (.move (.tmp 0)), some (23, true)⟩,
 .op 13 ⟨some 32, (.move (.tmp 3)), some (23, true)⟩,
 .op 14 ⟨some 33, (.move (.tmp 11)), some (23, true)⟩,
 .op 15 ⟨some 34, (.bin .add .prim (.tmp 32) (.tmp 33)), some (23, true)⟩,
 .op 16 ⟨some 35, (.bin .add .prim (.tmp 34) (.con (.int .i64 1))), some (23, true)⟩,
 .op 17 ⟨some 36, (.indexAddrS 2 (.tmp 31) (.tmp 35)), some (23, true)⟩,
 .op 18 ⟨some 37, (.loadN 2 (.tmp 36)), some (23, true)⟩,
 .op 19 ⟨some 38, (.callv (.tmp 24) [(.tmp 30), (.tmp 37)]), some (23, true)⟩,
 .op 20 ⟨some 39, (.bin .lss .prim (.tmp 38) (.con (.int .i64 0))), some (23, true)⟩,
 .op 21 ⟨some 40, (.pick (.tmp 23) (.tmp 39) (.con (.bool false))), none⟩])
 (.join [true, false, true, true, true, false, false, false, false, false, true, true] (.cond (.tmp 40)
 (.region [⟨some 41, (.move (.tmp 11)), none⟩,
 ⟨some 42, (.bin .add .prim (.tmp 41) (.con (.int .i64 1))), none⟩,
 ⟨some 11, (.move (.tmp 42)), none⟩])
 .skip)))
 (.seq (.seq (.dregion [[], [], [], [], [3, 2], [2, 3, 4, 1], [1, 4, 3, 2, 5], [], [], [], [9, 8], [8, 9, 10, 7], [7, 10, 9, 8, 11], [11, 8, 9, 10, 7, 12, 5, 2, 3, 4, 1, 6, 0], [0, 6, 1, 4, 3, 2, 5, 12, 7, 10, 9, 8, 11, 13], [13, 11, 8, 9, 10, 7, 12, 5, 2, 3, 4, 1, 6, 0, 14]] [.op 0 ⟨some 43, (.move (.tmp 4)), none⟩,
 .op 1 ⟨some 44, (.move (.tmp 0)), none⟩,
 .op 2 ⟨some 45, (.move (.tmp 3)), none⟩,
 .op 3 ⟨some 46, (.move (.tmp 10)), none⟩,
 .op 4 ⟨some 47, (.bin .add .prim (.tmp 45) (.tmp 46)), none⟩,
 .op 5 ⟨some 48, (.indexAddrS 2 (.tmp 44) (.tmp 47)), none⟩,
 .op 6 ⟨some 49, (.loadN 2 (.tmp 48)), none⟩,
 .op 7 ⟨some 50, (.move (.tmp 0)), none⟩,
 .op 8 ⟨some 51, (.move (.tmp 3)), none⟩,
 .op 9 ⟨some 52, (.move (.tmp 11)), none⟩,
 .op 10 ⟨some 53, (.bin .add .prim (.tmp 51) (.tmp 52)), none⟩,
 .op 11 ⟨some 54, (.indexAddrS 2 (.tmp 50) (.tmp 53)), none⟩,
 .op 12 ⟨some 55, (.loadN 2 (.tmp 54)), none⟩,
 .op 13 ⟨some 56, (.callv (.tmp 43) [(.tmp 49), (.tmp 55)]), none⟩,
 .op 14 ⟨some 57, (.bin .lss .prim (.tmp 56) (.con (.int .i64 0))), none⟩,
 .op 15 ⟨some 58, (.un .not (.tmp 57)), none⟩])
 (.cond (.tmp 58)
 .ret
 .skip))
 (.seq (.dregion [[], [], [], [2, 1], [], [], [], [6, 5], [], [], [], [10, 9], [9, 10, 11, 8], [8, 11, 10, 9, 12], [], [], [], [16, 15], [15, 16, 17, 14], [14, 17, 16, 15, 18], [18, 15, 16, 17, 14, 19, 13, 12, 11, 10, 9, 8, 1, 2, 3, 0], [0, 3, 2, 1, 8, 9, 10, 11, 12, 13, 19, 14, 17, 16, 15, 18, 20], [21, 20, 19, 18, 17, 16, 15, 14, 13, 12, 11, 10, 9, 8, 3, 2, 1, 0, 5, 6, 7, 4], [4, 7, 6, 5, 0, 1, 2, 3, 8, 9, 10, 11, 12, 13, 14, 15, 16, 17, 18, 19, 20, 21, 22]] [.op 0 ⟨some 59, (.move (.tmp 0)), none⟩,
 .op 1 ⟨some 60, (.move (.tmp 3)), none⟩,
 .op 2 ⟨some 61, (.move (.tmp 10)), none⟩,
 .op 3 ⟨some 62, (.bin .add .prim (.tmp 60) (.tmp 61)), none⟩,
 .op 4 ⟨some 63, (.move (.tmp 0)), none⟩,
 .op 5 ⟨some 64, (.move (.tmp 3)), none⟩,
 .op 6 ⟨some 65, (.move (.tmp 11)), none⟩,
 .op 7 ⟨some 66, (.bin .add .prim (.tmp 64) (.tmp 65)), none⟩,
 .op 8 ⟨some 67, (.move (.tmp 0)), none⟩,
 .op 9 ⟨some 68, (.move (.tmp 3)), none⟩,
 .op 10 ⟨some 69, (.move (.tmp 11)), none⟩,
 .op 11 ⟨some 70, (.bin .add .prim (.tmp 68) (.tmp 69)), none⟩,
 .op 12 ⟨some 71, (.indexAddrS 2 (.tmp 67) (.tmp 70)), none⟩,
 .op 13 ⟨some 72, (.loadN 2 (.tmp 71)), none⟩,
 .op 14 ⟨some 73, (.move (.tmp 0)), none⟩,
 .op 15 ⟨some 74, (.move (.tmp 3)), none⟩,
 .op 16 ⟨some 75, (.move (.tmp 10)), none⟩,
 .op 17 ⟨some 76, (.bin .add .prim (.tmp 74) (.tmp 75)), none⟩,
 .op 18 ⟨some 77, (.indexAddrS 2 (.tmp 73) (.tmp 76)), none⟩,
 .op 19 ⟨some 78, (.loadN 2 (.tmp 77)), none⟩,
 .op 20 ⟨some 79, (.indexAddrS 2 (.tmp 59) (.tmp 62)), none⟩,
 .op 21 ⟨none, (.store 2 (.tmp 79) (.tmp 72)), none⟩,
 .op 22 ⟨some 80, (.indexAddrS 2 (.tmp 63) (.tmp 66)), none⟩,
 .op 23 ⟨none, (.store 2 (.tmp 80) (.tmp 78)), none⟩])
 (.region [⟨some 81, (.move (.tmp 11)), none⟩,
 ⟨some 10, (.move (.tmp 81)), none⟩]))))))))))⟩
theorem F144_ok : cfn tab F144.body Try.f144 = some F144 := by kernel_rfl

/- slices.nextPowerOfTwo -/
def F145 : AFn := ⟨7, [.tmp 2],
 (.seq (.region [⟨some 2, (.move (.con (.int .u64 0))), none⟩])
 (.seq (.region [⟨some 3, (.move (.tmp 0)), none⟩,
 ⟨some 4, (.toInt .u64 (.tmp 3)), none⟩,
 ⟨some 5, (.call 116 [(.tmp 4)]), none⟩,
 ⟨some 6, (.bin .shl .prim (.con (.int .u64 1)) (.tmp 5)), none⟩,
 ⟨some 2, (.move (.tmp 6)), none⟩])
 .ret))⟩
theorem F145_ok : cfn tab F145.body Try.f145 = some F145 := by kernel_rfl

/- (*slices.xorshift).Next -/
def F146 : AFn := ⟨33, [.tmp 2],
 (.seq (.region [⟨some 2, (.move (.con (.int .u64 0))), none⟩])
 (.seq (.dregion [[], [0], [0, 1], [], [3], [3, 4], [4, 3, 5], [5, 3, 4, 6, 1, 0, 2], [7, 6, 5, 4, 3, 2, 1, 0], [0, 1, 2, 3, 4, 5, 6, 7, 8]] [.op 0 ⟨some 3, (.move (.tmp 0)), none⟩,
 .op 1 ⟨some 4, (.nilCheck (.tmp 3)), none⟩,
 .op 2 ⟨some 5, (.load1 (.tmp 4)), none⟩,
 .op 3 ⟨some 6, (.move (.tmp 0)), none⟩,
 .op 4 ⟨some 7, (.nilCheck (.tmp 6)), none⟩,
 .op 5 ⟨some 8, (.load1 (.tmp 7)), none⟩,
 .op 6 ⟨some 9, (.bin .shl .prim (.tmp 8) (.con (.int .u64 13))), none⟩,
 .op 7 ⟨some 10, (.bin .xor .prim (.tmp 5) (.tmp 9)), none⟩,
 .op 8 ⟨some 11, (.nilCheck (.tmp 3)), none⟩,
 .op 9 ⟨none, (.store 1 (.tmp 11) (.tmp 10)), none⟩])
 (.seq (.dregion [[], [0], [0, 1], [], [3], [3, 4], [4, 3, 5], [5, 3, 4, 6, 1, 0, 2], [7, 6, 5, 4, 3, 2, 1, 0], [0, 1, 2, 3, 4, 5, 6, 7, 8]] [.op 0 ⟨some 12, (.move (.tmp 0)), none⟩,
 .op 1 ⟨some 13, (.nilCheck (.tmp 12)), none⟩,
 .op 2 ⟨some 14, (.load1 (.tmp 13)), none⟩,
 .op 3 ⟨some 15, (.move (.tmp 0)), none⟩,
 .op 4 ⟨some 16, (.nilCheck (.tmp 15)), none⟩,
 .op 5 ⟨some 17, (.load1 (.tmp 16)), none⟩,
 .op 6 ⟨some 18, (.bin .shr .prim (.tmp 17) (.con (.int .u64 7))), none⟩,
 .op 7 ⟨some 19, (.bin .xor .prim (.tmp 14) (.tmp 18)), none⟩,
 .op 8 ⟨some 20, (.nilCheck (.tmp 12)), none⟩,
 .op 9 ⟨none, (.store 1 (.tmp 20) (.tmp 19)), none⟩])
 (.seq (.dregion [[], [0], [0, 1], [], [3], [3, 4], [4, 3, 5], [5, 3, 4, 6, 1, 0, 2], [7, 6, 5, 4, 3, 2, 1, 0], [0, 1, 2, 3, 4, 5, 6, 7, 8]] [.op 0 ⟨some 21, (.move (.tmp 0)), none⟩,
 .op 1 ⟨some 22, (.nilCheck (.tmp 21)), none⟩,
 .op 2 ⟨some 23, (.load1 (.tmp 22)), none⟩,
 .op 3 ⟨some 24, (.move (.tmp 0)), none⟩,
 .op 4 ⟨some 25, (.nilCheck (.tmp 24)), none⟩,
 .op 5 ⟨some 26, (.load1 (.tmp 25)), none⟩,
 .op 6 ⟨some 27, (.bin .shl .prim (.tmp 26) (.con (.int .u64 17))), none⟩,
 .op 7 ⟨some 28, (.bin .xor .prim (.tmp 23) (.tmp 27)), none⟩,
 .op 8 ⟨some 29, (.nilCheck (.tmp 21)), none⟩,
 .op 9 ⟨none, (.store 1 (.tmp 29) (.tmp 28)), none⟩])
 (.seq (.region [⟨some 30, (.move (.tmp 0)), none⟩,
 ⟨some 31, (.nilCheck (.tmp 30)), none⟩,
 ⟨some 32, (.load1 (.tmp 31)), none⟩,
 ⟨some 2, (.move (.tmp 32)), none⟩])
 .ret)))))⟩
theorem F146_ok : cfn tab F146.body Try.f146 = some F146 := by kernel_rfl

/- slices.medianAdjacentCmpFunc[milestone/order.ranked] -/
def F147 : AFn := ⟨18, [.tmp 8],
 (.seq (.region [⟨some 8, (.move (.con (.int .i64 0))), none⟩])
 (.seq (.region [⟨some 9, (.move (.tmp 0)), none⟩,
 ⟨some 10, (.move (.tmp 1)), none⟩,
 ⟨some 11, (.bin .sub .prim (.tmp 10) (.con (.int .i64 1))), none⟩,
 ⟨some 12, (.move (.tmp 1)), none⟩,
 ⟨some 13, (.move (.tmp 1)), none⟩,
 ⟨some 14, (.bin .add .prim (.tmp 13) (.con (.int .i64 1))), none⟩,
 ⟨some 15, (.move (.tmp 2)), none⟩,
 ⟨some 16, (.move (.tmp 3)), none⟩,
 ⟨some 17, (.call 148 [(.tmp 9), (.tmp 11), (.tmp 12), (.tmp 14), (.tmp 15), (.tmp 16)]), none⟩,
 ⟨some 8, (.move (.tmp 17)), none⟩])
 .ret))⟩
theorem F147_ok : cfn tab F147.body Try.f147 = some F147 := by kernel_rfl

/- slices.medianCmpFunc[milestone/order.ranked] -/
def F148 : AFn := ⟨41, [.tmp 12],
 (.seq (.region [⟨some 12, (.move (.con (.int .i64 0))), none⟩])
 (.seq (.region [⟨some 14, (.move (.tmp 0)), none⟩,
 ⟨some 15, (.move (.tmp 1)), none⟩,
 ⟨some 16, (.move (.tmp 2)), none⟩,
 ⟨some 17, (.move (.tmp 4)), none⟩,
 ⟨some 18, (.move (.tmp 5)), none⟩,
 ⟨some 19, (.call 157 [(.tmp 14), (.tmp 15), (.tmp 16), (.tmp 17), (.tmp 18)]), none⟩,
 ⟨some 13, (.move (.tmp 19)), none⟩,
 ⟨some 20, (.extract (.tmp 13) 0), none⟩,
 ⟨some 21, (.extract (.tmp 13) 1), none⟩,
 ⟨some 1, (.move (.tmp 20)), none⟩,
 ⟨some 2, (.move (.tmp 21)), none⟩])
 (.seq (.region [⟨some 23, (.move (.tmp 0)), none⟩,
 ⟨some 24, (.move (.tmp 2)), none⟩,
 ⟨some 25, (.move (.tmp 3)), none⟩,
 ⟨some 26, (.move (.tmp 4)), none⟩,
 ⟨some 27, (.move (.tmp 5)), none⟩,
 ⟨some 28, (.call 157 [(.tmp 23), (.tmp 24), (.tmp 25), (.tmp 26), (.tmp 27)]), none⟩,
 ⟨some 22, (.move (.tmp 28)), none⟩,
 ⟨some 29, (.extract (.tmp 22) 0), none⟩,
 ⟨some 30, (.extract (.tmp 22) 1), none⟩,
 ⟨some 2, (.move (.tmp 29)), none⟩,
 ⟨some 3, (.move (.tmp 30)), none⟩])
 (.seq (.region [⟨some 32, (.move (.tmp 0)), none⟩,
 ⟨some 33, (.move (.tmp 1)), none⟩,
 ⟨some 34, (.move (.tmp 2)), none⟩,
 ⟨some 35, (.move (.tmp 4)), none⟩,
 ⟨some 36, (.move (.tmp 5)), none⟩,
 ⟨some 37, (.call 157 [(.tmp 32), (.tmp 33), (.tmp 34), (.tmp 35), (.tmp 36)]), none⟩,
 ⟨some 31, (.move (.tmp 37)), none⟩,
 ⟨some 38, (.extract (.tmp 31) 0), none⟩,
 ⟨some 39, (.extract (.tmp 31) 1), none⟩,
 ⟨some 1, (.move (.tmp 38)), none⟩,
 ⟨some 2, (.move (.tmp 39)), none⟩])
 (.seq (.region [⟨some 40, (.move (.tmp 2)), none⟩,
 ⟨some 12, (.move (.tmp 40)), none⟩])
 .ret)))))⟩
theorem F148_ok : cfn tab F148.body Try.f148 = some F148 := by kernel_rfl

/- slices.order2CmpFunc[milestone/order.ranked] -/
def F157 : AFn := ⟨32, [.tmp 10, .tmp 11],
 (.seq (.region [⟨some 10, (.move (.con (.int .i64 0))), none⟩,
 ⟨some 11, (.move (.con (.int .i64 0))), none⟩])
 (.seq (.seq (.dregion [[], [], [], [2, 1], [1, 2, 3], [], [], [6, 5], [5, 6, 7], [7, 6, 5, 8, 3, 2, 1, 4, 0], [0, 4, 1, 2, 3, 8, 5, 6, 7, 9]] [.op 0 ⟨some 12, (.move (.tmp 4)), none⟩,
 .op 1 ⟨some 13, (.move (.tmp 0)), none⟩,
 .op 2 ⟨some 14, (.move (.tmp 2)), none⟩,
 .op 3 ⟨some 15, (.indexAddrS 2 (.tmp 13) (.tmp 14)), none⟩,
 .op 4 ⟨some 16, (.loadN 2 (.tmp 15)), none⟩,
 .op 5 ⟨some 17, (.move (.tmp 0)), none⟩,
 .op 6 ⟨some 18, (.move (.tmp 1)), none⟩,
 .op 7 ⟨some 19, (.indexAddrS 2 (.tmp 17) (.tmp 18)), none⟩,
 .op 8 ⟨some 20, (.loadN 2 (.tmp 19)), none⟩,
 .op 9 ⟨some 21, (.callv (.tmp 12) [(.tmp 16), (.tmp 20)]), none⟩,
 .op 10 ⟨some 22, (.bin .lss .prim (.tmp 21) (.con (.int .i64 0))), none⟩])
 (.cond (.tmp 22)
 (.seq (.region [⟨some 23, (.move (.tmp 3)), none⟩,
 ⟨some 24, (.nilCheck (.tmp 23)), none⟩,
 ⟨some 25, (.load1 (.tmp 24)), none⟩,
 ⟨some 26, (.bin .add .prim (.tmp 25) (.con (.int .i64 1))), none⟩,
 ⟨some 27, (.nilCheck (.tmp 23)), none⟩,
 ⟨none, (.store 1 (.tmp 27) (.tmp 26)), none⟩])
 (.seq (.region [⟨some 28, (.move (.tmp 2)), none⟩,
 ⟨some 29, (.move (.tmp 1)), none⟩,
 ⟨some 10, (.move (.tmp 28)), none⟩,
 ⟨some 11, (.move (.tmp 29)), none⟩])
 .ret))
 .skip))
 (.seq (.region [⟨some 30, (.move (.tmp 1)), none⟩,
 ⟨some 31, (.move (.tmp 2)), none⟩,
 ⟨some 10, (.move (.tmp 30)), none⟩,
 ⟨some 11, (.move (.tmp 31)), none⟩])
 .ret)))⟩
theorem F157_ok : cfn tab F157.body Try.f157 = some F157 := by kernel_rfl

end Go.Proofs.Ytknhlpmmalcchaa
