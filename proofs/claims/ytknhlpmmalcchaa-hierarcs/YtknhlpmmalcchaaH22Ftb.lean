/- Functions of the program as the interpreter takes them (printed by a program). -/
import Derived.Test.YtknhlpmmalcchaaH22Ft
set_option linter.all false
set_option linter.unusedVariables false
set_option linter.unusedSimpArgs false
namespace Go.Proofs.Ytknhlpmmalcchaa
open Go Go.VAI Go.Proofs
/- (milestone/hier.checker).vertex -/
def F97 : AFn := ⟨122, [.tmp 4],
 (.seq (.region [⟨some 2, (.box 6 (.tmp 0)), none⟩,
 ⟨some 4, (.move (.con (.bool false))), none⟩])
 (.seq (.seq (.dregion [[], [], [1], [1, 2], [], [4, 2, 1, 3], [3, 1, 2, 4, 5], [5, 4, 2, 1, 3, 6, 0], [0, 6, 3, 1, 2, 4, 5, 7], [7, 5, 4, 2, 1, 3, 6, 0, 8], [8, 0, 6, 3, 1, 2, 4, 5, 7, 9], [8, 0, 6, 3, 1, 2, 4, 5, 7, 9], [9, 7, 5, 4, 2, 1, 3, 6, 0, 8, 11], [11, 8, 0, 6, 3, 1, 2, 4, 5, 7, 9, 12], [8, 0, 6, 3, 1, 2, 4, 5, 7, 9], [14, 12, 9, 7, 5, 4, 2, 1, 3, 6, 0, 8, 11, 13], [13, 11, 8, 0, 6, 3, 1, 2, 4, 5, 7, 9, 12, 14, 15], [15, 14, 12, 11, 13, 16, 9, 7, 5, 4, 2, 1, 3, 6, 0, 8, 10], [10, 8, 0, 6, 3, 1, 2, 4, 5, 7, 9, 16, 13, 11, 12, 14, 15, 17], [17, 15, 14, 12, 11, 13, 16, 10, 18, 8, 0, 6, 3, 1, 2, 4, 5, 7, 9], [9, 7, 5, 4, 2, 1, 3, 6, 0, 8, 18, 10, 16, 13, 11, 12, 14, 15, 17, 19], [19, 17, 15, 14, 12, 11, 13, 16, 10, 18, 8, 0, 6, 3, 1, 2, 4, 5, 7, 9, 20], [20, 9, 7, 5, 4, 2, 1, 3, 6, 0, 8, 18, 10, 16, 13, 11, 12, 14, 15, 17, 19, 21], [21, 19, 17, 15, 14, 12, 11, 13, 16, 10, 18, 8, 0, 6, 3, 1, 2, 4, 5, 7, 9, 20, 22], [19, 17, 15, 14, 12, 11, 13, 16, 10, 18, 8, 0, 6, 3, 1, 2, 4, 5, 7, 9, 20], [24, 22, 20, 9, 7, 5, 4, 2, 1, 3, 6, 0, 8, 18, 10, 16, 13, 11, 12, 14, 15, 17, 19, 21, 23], [23, 21, 19, 17, 15, 14, 12, 11, 13, 16, 10, 18, 8, 0, 6, 3, 1, 2, 4, 5, 7, 9, 20, 22, 24, 25], [25, 24, 22, 20, 9, 7, 5, 4, 2, 1, 3, 6, 0, 8, 18, 10, 16, 13, 11, 12, 14, 15, 17, 19, 21, 23, 26], [26, 23, 21, 19, 17, 15, 14, 12, 11, 13, 16, 10, 18, 8, 0, 6, 3, 1, 2, 4, 5, 7, 9, 20, 22, 24, 25, 27], [27, 25, 24, 22, 20, 9, 7, 5, 4, 2, 1, 3, 6, 0, 8, 18, 10, 16, 13, 11, 12, 14, 15, 17, 19, 21, 23, 26, 28], [28, 26, 23, 21, 19, 17, 15, 14, 12, 11, 13, 16, 10, 18, 8, 0, 6, 3, 1, 2, 4, 5, 7, 9, 20, 22, 24, 25, 27, 29], [29, 27, 25, 24, 22, 20, 9, 7, 5, 4, 2, 1, 3, 6, 0, 8, 18, 10, 16, 13, 11, 12, 14, 15, 17, 19, 21, 23, 26, 28, 30], [27, 25, 24, 22, 20, 9, 7, 5, 4, 2, 1, 3, 6, 0, 8, 18, 10, 16, 13, 11, 12, 14, 15, 17, 19, 21, 23, 26, 28], [32, 30, 28, 26, 23, 21, 19, 17, 15, 14, 12, 11, 13, 16, 10, 18, 8, 0, 6, 3, 1, 2, 4, 5, 7, 9, 20, 22, 24, 25, 27, 29, 31], [31, 29, 27, 25, 24, 22, 20, 9, 7, 5, 4, 2, 1, 3, 6, 0, 8, 18, 10, 16, 13, 11, 12, 14, 15, 17, 19, 21, 23, 26, 28, 30, 32, 33], [33, 32, 30, 28, 26, 23, 21, 19, 17, 15, 14, 12, 11, 13, 16, 10, 18, 8, 0, 6, 3, 1, 2, 4, 5, 7, 9, 20, 22, 24, 25, 27, 29, 31, 34], [34, 31, 29, 27, 25, 24, 22, 20, 9, 7, 5, 4, 2, 1, 3, 6, 0, 8, 18, 10, 16, 13, 11, 12, 14, 15, 17, 19, 21, 23, 26, 28, 30, 32, 33, 35], [35, 33, 32, 30, 29, 31, 34, 36, 27, 25, 24, 22, 20, 9, 7, 5, 4, 2, 1, 3, 6, 0, 8, 18, 10, 16, 13, 11, 12, 14, 15, 17, 19, 21, 23, 26, 28], [28, 26, 23, 21, 22, 24, 25, 27, 36, 34, 31, 29, 30, 32, 33, 35, 37, 19, 17, 15, 14, 12, 11, 13, 16, 10, 18, 8, 0, 6, 3, 1, 2, 4, 5, 7, 9, 20]] [.op 0 ⟨some 11, (.loadN 6 (.tmp 2)), none⟩,
 .op 1 ⟨some 12, (.fieldAddr 0 (.tmp 2)), none⟩,
 .op 2 ⟨some 13, (.fieldAddr 4 (.tmp 12)), none⟩,
 .op 3 ⟨some 14, (.load1 (.tmp 13)), none⟩,
 .op 4 ⟨some 15, (.move (.tmp 1)), none⟩,
 .op 5 ⟨some 16, (.indexAddrS 1 (.tmp 14) (.tmp 15)), none⟩,
 .op 6 ⟨some 17, (.load1 (.tmp 16)), none⟩,
 .op 7 ⟨some 18, (.call 128 [(.tmp 11), (.tmp 17)]), none⟩,
 .op 8 ⟨some 19, (.un .not (.tmp 18)), none⟩,
 .op 9 ⟨some 20, (.move (.tmp 19)), none⟩,
 .op 10 ⟨some 21, (.loadN 6 (.tmp 2)), some (20, false)⟩,
 .op 11 ⟨some 22, (.fieldAddr 0 (.tmp 2)), some (20, false)⟩,
 .op 12 ⟨some 23, (.fieldAddr 5 (.tmp 22)), some (20, false)⟩,
 .op 13 ⟨some 24, (.load1 (.tmp 23)), some (20, false)⟩,
 .op 14 ⟨some 25, (.move (.tmp 1)), some (20, false)⟩,
 .op 15 ⟨some 26, (.indexAddrS 1 (.tmp 24) (.tmp 25)), some (20, false)⟩,
 .op 16 ⟨some 27, (.load1 (.tmp 26)), some (20, false)⟩,
 .op 17 ⟨some 28, (.call 128 [(.tmp 21), (.tmp 27)]), some (20, false)⟩,
 .op 18 ⟨some 29, (.un .not (.tmp 28)), some (20, false)⟩,
 .op 19 ⟨some 30, (.pick (.tmp 20) (.con (.bool true)) (.tmp 29)), none⟩,
 .op 20 ⟨some 31, (.move (.tmp 30)), none⟩,
 .op 21 ⟨some 32, (.fieldAddr 0 (.tmp 2)), some (31, false)⟩,
 .op 22 ⟨some 33, (.fieldAddr 2 (.tmp 32)), some (31, false)⟩,
 .op 23 ⟨some 34, (.load1 (.tmp 33)), some (31, false)⟩,
 .op 24 ⟨some 35, (.move (.tmp 1)), some (31, false)⟩,
 .op 25 ⟨some 36, (.indexAddrS 1 (.tmp 34) (.tmp 35)), some (31, false)⟩,
 .op 26 ⟨some 37, (.load1 (.tmp 36)), some (31, false)⟩,
 .op 27 ⟨some 38, (.bin .lss .prim (.tmp 37) (.con (.int .i64 0))), some (31, false)⟩,
 .op 28 ⟨some 39, (.move (.tmp 38)), some (31, false)⟩,
 .op 29 ⟨some 40, (.fieldAddr 0 (.tmp 2)), some (39, true)⟩,
 .op 30 ⟨some 41, (.fieldAddr 5 (.tmp 40)), some (39, true)⟩,
 .op 31 ⟨some 42, (.load1 (.tmp 41)), some (39, true)⟩,
 .op 32 ⟨some 43, (.move (.tmp 1)), some (39, true)⟩,
 .op 33 ⟨some 44, (.indexAddrS 1 (.tmp 42) (.tmp 43)), some (39, true)⟩,
 .op 34 ⟨some 45, (.load1 (.tmp 44)), some (39, true)⟩,
 .op 35 ⟨some 46, (.lenS (.tmp 45)), some (39, true)⟩,
 .op 36 ⟨some 47, (.bin .gtr .prim (.tmp 46) (.con (.int .i64 0))), some (39, true)⟩,
 .op 37 ⟨some 48, (.pick (.tmp 39) (.tmp 47) (.con (.bool false))), some (31, false)⟩,
 .op 38 ⟨some 49, (.pick (.tmp 31) (.con (.bool true)) (.tmp 48)), none⟩])
 (.cond (.tmp 49)
 (.seq (.region [⟨some 4, (.move (.con (.bool false))), none⟩])
 .ret)
 .skip))
 (.seq (.seq (.region [⟨some 50, (.fieldAddr 0 (.tmp 2)), none⟩,
 ⟨some 51, (.fieldAddr 4 (.tmp 50)), none⟩,
 ⟨some 52, (.load1 (.tmp 51)), none⟩,
 ⟨some 53, (.move (.tmp 1)), none⟩,
 ⟨some 54, (.indexAddrS 1 (.tmp 52) (.tmp 53)), none⟩,
 ⟨some 55, (.load1 (.tmp 54)), none⟩,
 ⟨some 56, (.lenS (.tmp 55)), none⟩,
 ⟨some 57, (.move (.con (.int .i64 0))), none⟩])
 (.join [false, true, true, false, true] (.block 0 (.loop [false, true, true, false, false, false, false, false, false, false, false, false, false, false, false, false, false, false, false, false, false, false, false, false, false, false, false, false, false, false, false, false, false, false, false, false, false, false, false, false, false, false, false, false, false, false, false, false, false, false, false, false, false, false, false, true, true, true] [false, true, true, false, true]
 (.seq (.region [⟨some 58, (.bin .lss .prim (.tmp 57) (.tmp 56)), none⟩])
 (.seq (.cond (.tmp 58)
 .skip
 (.exit 0))
 (.seq (.block 1 (.seq (.region [⟨some 59, (.indexAddrS 1 (.tmp 55) (.tmp 57)), none⟩,
 ⟨some 60, (.load1 (.tmp 59)), none⟩,
 ⟨some 6, (.move (.tmp 60)), none⟩])
 (.seq (.region [⟨some 61, (.fieldAddr 0 (.tmp 2)), none⟩,
 ⟨some 62, (.fieldAddr 3 (.tmp 61)), none⟩,
 ⟨some 63, (.load1 (.tmp 62)), none⟩,
 ⟨some 64, (.move (.tmp 6)), none⟩,
 ⟨some 65, (.indexAddrS 7 (.tmp 63) (.tmp 64)), none⟩,
 ⟨some 66, (.loadN 7 (.tmp 65)), none⟩,
 ⟨some 7, (.alloc [(.int .i64 0), (.int .i64 0), (.int .i64 0), (.int .i64 0), (.int .i64 0), (.int .i64 0), (.int .i64 0)]), none⟩,
 ⟨none, (.store 7 (.tmp 7) (.tmp 66)), none⟩])
 (.seq (.region [⟨some 67, (.fieldAddr 0 (.tmp 7)), none⟩,
 ⟨some 68, (.load1 (.tmp 67)), none⟩,
 ⟨some 69, (.move (.tmp 1)), none⟩,
 ⟨some 70, (.bin .neq .prim (.tmp 68) (.tmp 69)), none⟩,
 ⟨some 71, (.move (.tmp 70)), none⟩,
 ⟨some 72, (.fieldAddr 1 (.tmp 7)), some (71, false)⟩,
 ⟨some 73, (.load1 (.tmp 72)), some (71, false)⟩,
 ⟨some 74, (.move (.tmp 1)), some (71, false)⟩,
 ⟨some 75, (.bin .neq .prim (.tmp 73) (.tmp 74)), some (71, false)⟩,
 ⟨some 76, (.move (.tmp 75)), some (71, false)⟩,
 ⟨some 77, (.loadN 6 (.tmp 2)), some (76, true)⟩,
 ⟨some 78, (.fieldAddr 1 (.tmp 7)), some (76, true)⟩,
 ⟨some 79, (.load1 (.tmp 78)), some (76, true)⟩,
 ⟨some 80, (.move (.tmp 1)), some (76, true)⟩,
 ⟨some 81, (.call 129 [(.tmp 77), (.tmp 79), (.tmp 80)]), some (76, true)⟩,
 ⟨some 82, (.un .not (.tmp 81)), some (76, true)⟩,
 ⟨some 83, (.pick (.tmp 76) (.tmp 82) (.con (.bool false))), some (71, false)⟩,
 ⟨some 84, (.pick (.tmp 71) (.con (.bool true)) (.tmp 83)), none⟩])
 (.cond (.tmp 84)
 (.seq (.region [⟨some 4, (.move (.con (.bool false))), none⟩])
 .ret)
 .skip)))))
 (.region [⟨some 85, (.bin .add .prim (.tmp 57) (.con (.int .i64 1))), none⟩,
 ⟨some 57, (.move (.tmp 85)), none⟩]))))))))
 (.seq (.seq (.region [⟨some 86, (.fieldAddr 0 (.tmp 2)), none⟩,
 ⟨some 87, (.fieldAddr 5 (.tmp 86)), none⟩,
 ⟨some 88, (.load1 (.tmp 87)), none⟩,
 ⟨some 89, (.move (.tmp 1)), none⟩,
 ⟨some 90, (.indexAddrS 1 (.tmp 88) (.tmp 89)), none⟩,
 ⟨some 91, (.load1 (.tmp 90)), none⟩,
 ⟨some 92, (.lenS (.tmp 91)), none⟩,
 ⟨some 93, (.move (.con (.int .i64 0))), none⟩])
 (.join [false, false, false, false, true] (.block 2 (.loop [false, true, true, false, false, false, false, false, false, false, false, false, false, false, false, false, false, false, false, false, false, false, false, false, false, false, false, false, false, false, false, false, false, false, false, false, false, false, false, false, false, false, false, false, false, false, false, false, false, false, false, false, false, false, false, false, false, false, false, false, false, false, false, false, false, false, false, false, false, false, false, false, false, false, false, false, false, false, false, false, false, false, false, false, false, false, false, false, false, false, false, true, true, true] [false, false, false, false, true]
 (.seq (.region [⟨some 94, (.bin .lss .prim (.tmp 93) (.tmp 92)), none⟩])
 (.seq (.cond (.tmp 94)
 .skip
 (.exit 2))
 (.seq (.block 3 (.seq (.region [⟨some 95, (.indexAddrS 1 (.tmp 91) (.tmp 93)), none⟩,
 ⟨some 96, (.load1 (.tmp 95)), none⟩,
 ⟨some 9, (.move (.tmp 96)), none⟩])
 (.seq (.region [⟨some 97, (.fieldAddr 0 (.tmp 2)), none⟩,
 ⟨some 98, (.fieldAddr 3 (.tmp 97)), none⟩,
 ⟨some 99, (.load1 (.tmp 98)), none⟩,
 ⟨some 100, (.move (.tmp 9)), none⟩,
 ⟨some 101, (.indexAddrS 7 (.tmp 99) (.tmp 100)), none⟩,
 ⟨some 102, (.loadN 7 (.tmp 101)), none⟩,
 ⟨some 10, (.alloc [(.int .i64 0), (.int .i64 0), (.int .i64 0), (.int .i64 0), (.int .i64 0), (.int .i64 0), (.int .i64 0)]), none⟩,
 ⟨none, (.store 7 (.tmp 10) (.tmp 102)), none⟩])
 (.seq (.region [⟨some 103, (.fieldAddr 1 (.tmp 10)), none⟩,
 ⟨some 104, (.load1 (.tmp 103)), none⟩,
 ⟨some 105, (.move (.tmp 1)), none⟩,
 ⟨some 106, (.bin .neq .prim (.tmp 104) (.tmp 105)), none⟩,
 ⟨some 107, (.move (.tmp 106)), none⟩,
 ⟨some 108, (.fieldAddr 0 (.tmp 10)), some (107, false)⟩,
 ⟨some 109, (.load1 (.tmp 108)), some (107, false)⟩,
 ⟨some 110, (.move (.tmp 1)), some (107, false)⟩,
 ⟨some 111, (.bin .eql .prim (.tmp 109) (.tmp 110)), some (107, false)⟩,
 ⟨some 112, (.pick (.tmp 107) (.con (.bool true)) (.tmp 111)), none⟩,
 ⟨some 113, (.move (.tmp 112)), none⟩,
 ⟨some 114, (.loadN 6 (.tmp 2)), some (113, false)⟩,
 ⟨some 115, (.fieldAddr 0 (.tmp 10)), some (113, false)⟩,
 ⟨some 116, (.load1 (.tmp 115)), some (113, false)⟩,
 ⟨some 117, (.move (.tmp 1)), some (113, false)⟩,
 ⟨some 118, (.call 129 [(.tmp 114), (.tmp 116), (.tmp 117)]), some (113, false)⟩,
 ⟨some 119, (.un .not (.tmp 118)), some (113, false)⟩,
 ⟨some 120, (.pick (.tmp 113) (.con (.bool true)) (.tmp 119)), none⟩])
 (.cond (.tmp 120)
 (.seq (.region [⟨some 4, (.move (.con (.bool false))), none⟩])
 .ret)
 .skip)))))
 (.region [⟨some 121, (.bin .add .prim (.tmp 93) (.con (.int .i64 1))), none⟩,
 ⟨some 93, (.move (.tmp 121)), none⟩]))))))))
 (.seq (.region [⟨some 4, (.move (.con (.bool true))), none⟩])
 .ret)))))⟩
theorem F97_ok : cfn tab F97.body Try.f97 = some F97 := by kernel_rfl

/- milestone/milestoneref1.right -/
def F106 : AFn := ⟨45, [.tmp 4],
 (.seq (.region [⟨some 2, (.box 4 (.tmp 0)), none⟩,
 ⟨some 4, (.move (.con (.bool false))), none⟩])
 (.seq (.region [⟨some 5, (.fieldAddr 0 (.tmp 2)), none⟩,
 ⟨some 6, (.load1 (.tmp 5)), none⟩,
 ⟨some 7, (.bin .geq .prim (.tmp 6) (.con (.int .i64 0))), none⟩,
 ⟨some 8, (.move (.tmp 7)), none⟩,
 ⟨some 9, (.fieldAddr 0 (.tmp 2)), some (8, true)⟩,
 ⟨some 10, (.load1 (.tmp 9)), some (8, true)⟩,
 ⟨some 11, (.move (.tmp 1)), some (8, true)⟩,
 ⟨some 12, (.bin .lss .prim (.tmp 10) (.tmp 11)), some (8, true)⟩,
 ⟨some 13, (.pick (.tmp 8) (.tmp 12) (.con (.bool false))), none⟩,
 ⟨some 14, (.move (.tmp 13)), none⟩,
 ⟨some 15, (.fieldAddr 1 (.tmp 2)), some (14, true)⟩,
 ⟨some 16, (.load1 (.tmp 15)), some (14, true)⟩,
 ⟨some 17, (.bin .geq .prim (.tmp 16) (.con (.int .i64 0))), some (14, true)⟩,
 ⟨some 18, (.pick (.tmp 14) (.tmp 17) (.con (.bool false))), none⟩,
 ⟨some 19, (.move (.tmp 18)), none⟩,
 ⟨some 20, (.fieldAddr 1 (.tmp 2)), some (19, true)⟩,
 ⟨some 21, (.load1 (.tmp 20)), some (19, true)⟩,
 ⟨some 22, (.move (.tmp 1)), some (19, true)⟩,
 ⟨some 23, (.bin .lss .prim (.tmp 21) (.tmp 22)), some (19, true)⟩,
 ⟨some 24, (.pick (.tmp 19) (.tmp 23) (.con (.bool false))), none⟩,
 ⟨some 25, (.move (.tmp 24)), none⟩,
 ⟨some 26, (.fieldAddr 2 (.tmp 2)), some (25, true)⟩,
 ⟨some 27, (.load1 (.tmp 26)), some (25, true)⟩,
 ⟨some 28, (.bin .geq .prim (.tmp 27) (.con (.int .i64 0))), some (25, true)⟩,
 ⟨some 29, (.pick (.tmp 25) (.tmp 28) (.con (.bool false))), none⟩,
 ⟨some 30, (.move (.tmp 29)), none⟩,
 ⟨some 31, (.fieldAddr 2 (.tmp 2)), some (30, true)⟩,
 ⟨some 32, (.load1 (.tmp 31)), some (30, true)⟩,
 ⟨some 33, (.bin .lss .prim (.tmp 32) (.con (.int .i64 5))), some (30, true)⟩,
 ⟨some 34, (.pick (.tmp 30) (.tmp 33) (.con (.bool false))), none⟩,
 ⟨some 35, (.move (.tmp 34)), none⟩,
 ⟨some 36, (.fieldAddr 3 (.tmp 2)), some (35, true)⟩,
 ⟨some 37, (.load1 (.tmp 36)), some (35, true)⟩,
 ⟨some 38, (.bin .geq .prim (.tmp 37) (.con (.int .i64 0))), some (35, true)⟩,
 ⟨some 39, (.pick (.tmp 35) (.tmp 38) (.con (.bool false))), none⟩,
 ⟨some 40, (.move (.tmp 39)), none⟩,
 ⟨some 41, (.fieldAddr 3 (.tmp 2)), some (40, true)⟩,
 ⟨some 42, (.load1 (.tmp 41)), some (40, true)⟩,
 ⟨some 43, (.bin .leq .prim (.tmp 42) (.con (.int .i64 2147483647))), some (40, true)⟩,
 ⟨some 44, (.pick (.tmp 40) (.tmp 43) (.con (.bool false))), none⟩,
 ⟨some 4, (.move (.tmp 44)), none⟩])
 .ret))⟩
theorem F106_ok : cfn tab F106.body Try.f106 = some F106 := by kernel_rfl

/- milestone/milestoneref11.edge -/
def F107 : AFn := ⟨61, [.tmp 4],
 (.seq (.region [⟨some 2, (.box 6 (.tmp 0)), none⟩,
 ⟨some 3, (.box 7 (.tmp 1)), none⟩,
 ⟨some 4, (.move (.con (.bool false))), none⟩])
 (.seq (.seq (.region [⟨some 6, (.fieldAddr 4 (.tmp 3)), none⟩,
 ⟨some 7, (.load1 (.tmp 6)), none⟩,
 ⟨some 8, (.bin .lss .prim (.tmp 7) (.con (.int .i64 0))), none⟩,
 ⟨some 9, (.move (.tmp 8)), none⟩,
 ⟨some 10, (.fieldAddr 4 (.tmp 3)), some (9, false)⟩,
 ⟨some 11, (.load1 (.tmp 10)), some (9, false)⟩,
 ⟨some 12, (.fieldAddr 0 (.tmp 2)), some (9, false)⟩,
 ⟨some 13, (.fieldAddr 1 (.tmp 12)), some (9, false)⟩,
 ⟨some 14, (.load1 (.tmp 13)), some (9, false)⟩,
 ⟨some 15, (.lenS (.tmp 14)), some (9, false)⟩,
 ⟨some 16, (.bin .geq .prim (.tmp 11) (.tmp 15)), some (9, false)⟩,
 ⟨some 17, (.pick (.tmp 9) (.con (.bool true)) (.tmp 16)), none⟩,
 ⟨some 18, (.move (.tmp 17)), none⟩,
 ⟨some 19, (.fieldAddr 5 (.tmp 3)), some (18, false)⟩,
 ⟨some 20, (.load1 (.tmp 19)), some (18, false)⟩,
 ⟨some 21, (.bin .neq .prim (.tmp 20) (.con (.int .i64 0))), some (18, false)⟩,
 ⟨some 22, (.pick (.tmp 18) (.con (.bool true)) (.tmp 21)), none⟩,
 ⟨some 23, (.move (.tmp 22)), none⟩,
 ⟨some 24, (.fieldAddr 6 (.tmp 3)), some (23, false)⟩,
 ⟨some 25, (.load1 (.tmp 24)), some (23, false)⟩,
 ⟨some 26, (.bin .neq .prim (.tmp 25) (.con (.int .i64 0))), some (23, false)⟩,
 ⟨some 27, (.pick (.tmp 23) (.con (.bool true)) (.tmp 26)), none⟩])
 (.cond (.tmp 27)
 (.seq (.region [⟨some 4, (.move (.con (.bool false))), none⟩])
 .ret)
 .skip))
 (.seq (.region [⟨some 28, (.fieldAddr 0 (.tmp 2)), none⟩,
 ⟨some 29, (.fieldAddr 1 (.tmp 28)), none⟩,
 ⟨some 30, (.load1 (.tmp 29)), none⟩,
 ⟨some 31, (.fieldAddr 4 (.tmp 3)), none⟩,
 ⟨some 32, (.load1 (.tmp 31)), none⟩,
 ⟨some 33, (.indexAddrS 4 (.tmp 30) (.tmp 32)), none⟩,
 ⟨some 34, (.loadN 4 (.tmp 33)), none⟩,
 ⟨some 5, (.alloc [(.int .i64 0), (.int .i64 0), (.int .i64 0), (.int .i64 0)]), none⟩,
 ⟨none, (.store 4 (.tmp 5) (.tmp 34)), none⟩])
 (.seq (.region [⟨some 35, (.fieldAddr 0 (.tmp 5)), none⟩,
 ⟨some 36, (.load1 (.tmp 35)), none⟩,
 ⟨some 37, (.fieldAddr 0 (.tmp 3)), none⟩,
 ⟨some 38, (.load1 (.tmp 37)), none⟩,
 ⟨some 39, (.bin .eql .prim (.tmp 36) (.tmp 38)), none⟩,
 ⟨some 40, (.move (.tmp 39)), none⟩,
 ⟨some 41, (.fieldAddr 1 (.tmp 5)), some (40, true)⟩,
 ⟨some 42, (.load1 (.tmp 41)), some (40, true)⟩,
 ⟨some 43, (.fieldAddr 1 (.tmp 3)), some (40, true)⟩,
 ⟨some 44, (.load1 (.tmp 43)), some (40, true)⟩,
 ⟨some 45, (.bin .eql .prim (.tmp 42) (.tmp 44)), some (40, true)⟩,
 ⟨some 46, (.pick (.tmp 40) (.tmp 45) (.con (.bool false))), none⟩,
 ⟨some 47, (.move (.tmp 46)), none⟩,
 ⟨some 48, (.fieldAddr 2 (.tmp 5)), some (47, true)⟩,
 ⟨some 49, (.load1 (.tmp 48)), some (47, true)⟩,
 ⟨some 50, (.fieldAddr 2 (.tmp 3)), some (47, true)⟩,
 ⟨some 51, (.load1 (.tmp 50)), some (47, true)⟩,
 ⟨some 52, (.bin .eql .prim (.tmp 49) (.tmp 51)), some (47, true)⟩,
 ⟨some 53, (.pick (.tmp 47) (.tmp 52) (.con (.bool false))), none⟩,
 ⟨some 54, (.move (.tmp 53)), none⟩,
 ⟨some 55, (.fieldAddr 3 (.tmp 5)), some (54, true)⟩,
 ⟨some 56, (.load1 (.tmp 55)), some (54, true)⟩,
 ⟨some 57, (.fieldAddr 3 (.tmp 3)), some (54, true)⟩,
 ⟨some 58, (.load1 (.tmp 57)), some (54, true)⟩,
 ⟨some 59, (.bin .eql .prim (.tmp 56) (.tmp 58)), some (54, true)⟩,
 ⟨some 60, (.pick (.tmp 54) (.tmp 59) (.con (.bool false))), none⟩,
 ⟨some 4, (.move (.tmp 60)), none⟩])
 .ret))))⟩
theorem F107_ok : cfn tab F107.body Try.f107 = some F107 := by kernel_rfl

/- milestone/milestoneref11.above -/
def F108 : AFn := ⟨34, [.tmp 6],
 (.seq (.region [⟨some 3, (.box 6 (.tmp 0)), none⟩,
 ⟨some 6, (.move (.con (.bool false))), none⟩])
 (.seq (.dregion [[], [0], [], [2, 0, 1], [1, 0, 2, 3], [3, 2, 0, 1, 4], [4, 1, 0, 2, 3, 5], [5, 3, 2, 0, 1, 4, 6], [6, 4, 1, 0, 2, 3, 5, 7], [5, 3, 2, 0, 1, 4, 6], [9, 7, 5, 3, 2, 0, 1, 4, 6, 8], [8, 6, 4, 1, 0, 2, 3, 5, 7, 9, 10], [10, 9, 7, 5, 3, 2, 0, 1, 4, 6, 8, 11], [11, 8, 6, 4, 1, 0, 2, 3, 5, 7, 9, 10, 12], [12, 10, 9, 7, 5, 3, 2, 0, 1, 4, 6, 8, 11, 13], [13, 11, 8, 6, 4, 1, 0, 2, 3, 5, 7, 9, 10, 12, 14], [12, 10, 9, 7, 5, 3, 2, 0, 1, 4, 6, 8, 11, 13], [16, 14, 12, 10, 9, 7, 5, 3, 2, 0, 1, 4, 6, 8, 11, 13, 15], [15, 13, 11, 8, 6, 4, 1, 0, 2, 3, 5, 7, 9, 10, 12, 14, 16, 17], [12, 10, 9, 7, 5, 3, 2, 0, 1, 4, 6, 8, 11, 13], [13, 11, 8, 6, 4, 1, 0, 2, 3, 5, 7, 9, 10, 12, 19], [12, 10, 9, 7, 5, 3, 2, 0, 1, 4, 6, 8, 11, 13], [21, 19, 12, 10, 9, 7, 5, 3, 2, 0, 1, 4, 6, 8, 11, 13, 20], [20, 13, 11, 8, 6, 4, 1, 0, 2, 3, 5, 7, 9, 10, 12, 19, 21, 22], [22, 21, 19, 20, 23, 17, 16, 14, 12, 10, 9, 7, 5, 3, 2, 0, 1, 4, 6, 8, 11, 13, 15, 18], [18, 15, 14, 16, 17, 23, 20, 19, 21, 22, 24, 12, 10, 9, 7, 5, 3, 2, 0, 1, 4, 6, 8, 11, 13], [13, 11, 8, 7, 9, 10, 12, 24, 22, 21, 19, 20, 23, 17, 16, 14, 15, 18, 25, 5, 3, 2, 0, 1, 4, 6], [6, 4, 1, 0, 2, 3, 5, 25, 18, 15, 14, 16, 17, 23, 20, 19, 21, 22, 24, 12, 10, 9, 7, 8, 11, 13, 26]] [.op 0 ⟨some 7, (.fieldAddr 2 (.tmp 3)), none⟩,
 .op 1 ⟨some 8, (.load1 (.tmp 7)), none⟩,
 .op 2 ⟨some 9, (.move (.tmp 1)), none⟩,
 .op 3 ⟨some 10, (.indexAddrS 1 (.tmp 8) (.tmp 9)), none⟩,
 .op 4 ⟨some 11, (.load1 (.tmp 10)), none⟩,
 .op 5 ⟨some 12, (.bin .lss .prim (.tmp 11) (.con (.int .i64 0))), none⟩,
 .op 6 ⟨some 13, (.move (.tmp 12)), none⟩,
 .op 7 ⟨some 14, (.fieldAddr 2 (.tmp 3)), some (13, false)⟩,
 .op 8 ⟨some 15, (.load1 (.tmp 14)), some (13, false)⟩,
 .op 9 ⟨some 16, (.move (.tmp 2)), some (13, false)⟩,
 .op 10 ⟨some 17, (.indexAddrS 1 (.tmp 15) (.tmp 16)), some (13, false)⟩,
 .op 11 ⟨some 18, (.load1 (.tmp 17)), some (13, false)⟩,
 .op 12 ⟨some 19, (.bin .geq .prim (.tmp 18) (.con (.int .i64 0))), some (13, false)⟩,
 .op 13 ⟨some 20, (.move (.tmp 19)), some (13, false)⟩,
 .op 14 ⟨some 21, (.fieldAddr 2 (.tmp 3)), some (20, true)⟩,
 .op 15 ⟨some 22, (.load1 (.tmp 21)), some (20, true)⟩,
 .op 16 ⟨some 23, (.move (.tmp 1)), some (20, true)⟩,
 .op 17 ⟨some 24, (.indexAddrS 1 (.tmp 22) (.tmp 23)), some (20, true)⟩,
 .op 18 ⟨some 25, (.load1 (.tmp 24)), some (20, true)⟩,
 .op 19 ⟨some 26, (.fieldAddr 2 (.tmp 3)), some (20, true)⟩,
 .op 20 ⟨some 27, (.load1 (.tmp 26)), some (20, true)⟩,
 .op 21 ⟨some 28, (.move (.tmp 2)), some (20, true)⟩,
 .op 22 ⟨some 29, (.indexAddrS 1 (.tmp 27) (.tmp 28)), some (20, true)⟩,
 .op 23 ⟨some 30, (.load1 (.tmp 29)), some (20, true)⟩,
 .op 24 ⟨some 31, (.bin .gtr .prim (.tmp 25) (.tmp 30)), some (20, true)⟩,
 .op 25 ⟨some 32, (.pick (.tmp 20) (.tmp 31) (.con (.bool false))), some (13, false)⟩,
 .op 26 ⟨some 33, (.pick (.tmp 13) (.con (.bool true)) (.tmp 32)), none⟩,
 .op 27 ⟨some 6, (.move (.tmp 33)), none⟩])
 .ret))⟩
theorem F108_ok : cfn tab F108.body Try.f108 = some F108 := by kernel_rfl

/- (*milestone/adj.Adj).is -/
def F109 : AFn := ⟨16, [.tmp 4],
 (.seq (.region [⟨some 4, (.move (.con (.bool false))), none⟩])
 (.seq (.region [⟨some 5, (.move (.tmp 1)), none⟩,
 ⟨some 6, (.bin .geq .prim (.tmp 5) (.con (.int .i64 0))), none⟩,
 ⟨some 7, (.move (.tmp 6)), none⟩,
 ⟨some 8, (.move (.tmp 1)), some (7, true)⟩,
 ⟨some 9, (.move (.tmp 0)), some (7, true)⟩,
 ⟨some 10, (.nilCheck (.tmp 9)), some (7, true)⟩,
 ⟨some 11, (.fieldAddr 2 (.tmp 10)), some (7, true)⟩,
 ⟨some 12, (.load1 (.tmp 11)), some (7, true)⟩,
 ⟨some 13, (.lenS (.tmp 12)), some (7, true)⟩,
 ⟨some 14, (.bin .lss .prim (.tmp 8) (.tmp 13)), some (7, true)⟩,
 ⟨some 15, (.pick (.tmp 7) (.tmp 14) (.con (.bool false))), none⟩,
 ⟨some 4, (.move (.tmp 15)), none⟩])
 .ret))⟩
theorem F109_ok : cfn tab F109.body Try.f109 = some F109 := by kernel_rfl

/- (*milestone/adj.ends).add -/
def F110 : AFn := ⟨26, [],
 (.dregion [[], [], [], [2], [2, 3], [3, 2, 4], [], [6], [6, 7, 4, 2, 3, 5], [], [9], [9, 10], [10, 9, 11], [], [13], [5, 3, 2, 4, 7, 6, 8, 13, 14, 11, 9, 10, 12], [14, 13, 15, 11, 9, 10, 12, 8, 7, 6, 5, 4, 3, 2, 0], [0, 2, 3, 4, 5, 6, 7, 8, 12, 10, 9, 11, 15, 13, 14, 16], [16, 14, 13, 15, 11, 9, 10, 12, 8, 7, 6, 5, 4, 3, 2, 0, 17], [18, 17, 16, 15, 14, 13, 12, 11, 10, 9, 8, 7, 6, 5, 4, 3, 2, 0, 1], [1, 0, 2, 3, 4, 5, 6, 7, 8, 9, 10, 11, 12, 13, 14, 15, 16, 17, 18, 19], [19, 18, 17, 16, 15, 14, 13, 12, 11, 10, 9, 8, 7, 6, 5, 4, 3, 2, 0, 1, 20]] [.op 0 ⟨some 6, (.move (.tmp 0)), none⟩,
 .op 1 ⟨some 7, (.move (.tmp 0)), none⟩,
 .op 2 ⟨some 8, (.move (.tmp 0)), none⟩,
 .op 3 ⟨some 9, (.nilCheck (.tmp 8)), none⟩,
 .op 4 ⟨some 10, (.fieldAddr 0 (.tmp 9)), none⟩,
 .op 5 ⟨some 11, (.load1 (.tmp 10)), none⟩,
 .op 6 ⟨some 12, (.move (.tmp 1)), none⟩,
 .op 7 ⟨some 13, (.buildSlice [(.int .i64 0)] 1 [(0, 1, (.tmp 12))]), none⟩,
 .op 9 ⟨some 15, (.move (.tmp 0)), none⟩,
 .op 10 ⟨some 16, (.nilCheck (.tmp 15)), none⟩,
 .op 11 ⟨some 17, (.fieldAddr 1 (.tmp 16)), none⟩,
 .op 12 ⟨some 18, (.load1 (.tmp 17)), none⟩,
 .op 13 ⟨some 19, (.move (.tmp 2)), none⟩,
 .op 14 ⟨some 20, (.buildSlice [(.int .i64 0)] 1 [(0, 1, (.tmp 19))]), none⟩,
 .op 8 ⟨some 14, (.append 1 8 (.tmp 11) (.tmp 13)), none⟩,
 .re 12 ⟨some 18, (.load1 (.tmp 17)), none⟩,
 .op 15 ⟨some 21, (.append 1 8 (.tmp 18) (.tmp 20)), none⟩,
 .op 16 ⟨some 22, (.nilCheck (.tmp 6)), none⟩,
 .op 17 ⟨some 23, (.fieldAddr 0 (.tmp 22)), none⟩,
 .op 18 ⟨none, (.store 1 (.tmp 23) (.tmp 14)), none⟩,
 .op 19 ⟨some 24, (.nilCheck (.tmp 7)), none⟩,
 .op 20 ⟨some 25, (.fieldAddr 1 (.tmp 24)), none⟩,
 .op 21 ⟨none, (.store 1 (.tmp 25) (.tmp 21)), none⟩])⟩
theorem F110_ok : cfn tab F110.body Try.f110 = some F110 := by kernel_rfl

/- (*milestone/adj.Adj).side -/
def F111 : AFn := ⟨16, [.cell 2 true 6],
 (.seq (.region [⟨some 6, (.alloc [.nilSlice, .nilSlice]), none⟩])
 (.seq (.seq (.region [⟨some 7, (.move (.tmp 0)), none⟩,
 ⟨some 8, (.move (.tmp 2)), none⟩,
 ⟨some 9, (.call 109 [(.tmp 7), (.tmp 8)]), none⟩,
 ⟨some 10, (.un .not (.tmp 9)), none⟩])
 (.cond (.tmp 10)
 (.seq (.region [⟨some 11, (.build [.nilSlice, .nilSlice] []), none⟩,
 ⟨none, (.store 2 (.tmp 6) (.tmp 11)), none⟩])
 .ret)
 .skip))
 (.seq (.region [⟨some 12, (.move (.tmp 1)), none⟩,
 ⟨some 13, (.move (.tmp 2)), none⟩,
 ⟨some 14, (.indexAddrS 2 (.tmp 12) (.tmp 13)), none⟩,
 ⟨some 15, (.loadN 2 (.tmp 14)), none⟩,
 ⟨none, (.store 2 (.tmp 6) (.tmp 15)), none⟩])
 .ret)))⟩
theorem F111_ok : cfn tab F111.body Try.f111 = some F111 := by kernel_rfl

/- math/bits.OnesCount32 -/
def F112 : AFn := ⟨21, [.tmp 2],
 (.seq (.region [⟨some 2, (.move (.con (.int .i64 0))), none⟩])
 (.seq (.dregion [[], [0], [0, 1], [], [3], [3, 4], [4, 3, 5], [5, 3, 4, 6, 1, 0, 2], [], [8], [8, 9], [9, 8, 10], [10, 8, 9, 11, 2, 0, 1, 6, 4, 3, 5, 7], [], [13], [13, 14], [14, 13, 15, 7, 5, 3, 4, 6, 1, 0, 2, 11, 9, 8, 10, 12], [12, 10, 8, 9, 11, 2, 0, 1, 6, 4, 3, 5, 7, 15, 13, 14, 16], [16, 14, 13, 15, 7, 5, 3, 4, 6, 1, 0, 2, 11, 9, 8, 10, 12, 17]] [.op 0 ⟨some 3, (.move (.tmp 0)), none⟩,
 .op 1 ⟨some 4, (.bin .shr .prim (.tmp 3) (.con (.int .u64 24))), none⟩,
 .op 2 ⟨some 5, (.indexStr (.con (.str ⟨#[0, 1, 1, 2, 1, 2, 2, 3, 1, 2, 2, 3, 2, 3, 3, 4, 1, 2, 2, 3, 2, 3, 3, 4, 2, 3, 3, 4, 3, 4, 4, 5, 1, 2, 2, 3, 2, 3, 3, 4, 2, 3, 3, 4, 3, 4, 4, 5, 2, 3, 3, 4, 3, 4, 4, 5, 3, 4, 4, 5, 4, 5, 5, 6, 1, 2, 2, 3, 2, 3, 3, 4, 2, 3, 3, 4, 3, 4, 4, 5, 2, 3, 3, 4, 3, 4, 4, 5, 3, 4, 4, 5, 4, 5, 5, 6, 2, 3, 3, 4, 3, 4, 4, 5, 3, 4, 4, 5, 4, 5, 5, 6, 3, 4, 4, 5, 4, 5, 5, 6, 4, 5, 5, 6, 5, 6, 6, 7, 1, 2, 2, 3, 2, 3, 3, 4, 2, 3, 3, 4, 3, 4, 4, 5, 2, 3, 3, 4, 3, 4, 4, 5, 3, 4, 4, 5, 4, 5, 5, 6, 2, 3, 3, 4, 3, 4, 4, 5, 3, 4, 4, 5, 4, 5, 5, 6, 3, 4, 4, 5, 4, 5, 5, 6, 4, 5, 5, 6, 5, 6, 6, 7, 2, 3, 3, 4, 3, 4, 4, 5, 3, 4, 4, 5, 4, 5, 5, 6, 3, 4, 4, 5, 4, 5, 5, 6, 4, 5, 5, 6, 5, 6, 6, 7, 3, 4, 4, 5, 4, 5, 5, 6, 4, 5, 5, 6, 5, 6, 6, 7, 4, 5, 5, 6, 5, 6, 6, 7, 5, 6, 6, 7, 6, 7, 7, 8]⟩)) (.tmp 4)), none⟩,
 .op 3 ⟨some 6, (.move (.tmp 0)), none⟩,
 .op 4 ⟨some 7, (.bin .shr .prim (.tmp 6) (.con (.int .u64 16))), none⟩,
 .op 5 ⟨some 8, (.bin .and .prim (.tmp 7) (.con (.int .u32 255))), none⟩,
 .op 6 ⟨some 9, (.indexStr (.con (.str ⟨#[0, 1, 1, 2, 1, 2, 2, 3, 1, 2, 2, 3, 2, 3, 3, 4, 1, 2, 2, 3, 2, 3, 3, 4, 2, 3, 3, 4, 3, 4, 4, 5, 1, 2, 2, 3, 2, 3, 3, 4, 2, 3, 3, 4, 3, 4, 4, 5, 2, 3, 3, 4, 3, 4, 4, 5, 3, 4, 4, 5, 4, 5, 5, 6, 1, 2, 2, 3, 2, 3, 3, 4, 2, 3, 3, 4, 3, 4, 4, 5, 2, 3, 3, 4, 3, 4, 4, 5, 3, 4, 4, 5, 4, 5, 5, 6, 2, 3, 3, 4, 3, 4, 4, 5, 3, 4, 4, 5, 4, 5, 5, 6, 3, 4, 4, 5, 4, 5, 5, 6, 4, 5, 5, 6, 5, 6, 6, 7, 1, 2, 2, 3, 2, 3, 3, 4, 2, 3, 3, 4, 3, 4, 4, 5, 2, 3, 3, 4, 3, 4, 4, 5, 3, 4, 4, 5, 4, 5, 5, 6, 2, 3, 3, 4, 3, 4, 4, 5, 3, 4, 4, 5, 4, 5, 5, 6, 3, 4, 4, 5, 4, 5, 5, 6, 4, 5, 5, 6, 5, 6, 6, 7, 2, 3, 3, 4, 3, 4, 4, 5, 3, 4, 4, 5, 4, 5, 5, 6, 3, 4, 4, 5, 4, 5, 5, 6, 4, 5, 5, 6, 5, 6, 6, 7, 3, 4, 4, 5, 4, 5, 5, 6, 4, 5, 5, 6, 5, 6, 6, 7, 4, 5, 5, 6, 5, 6, 6, 7, 5, 6, 6, 7, 6, 7, 7, 8]⟩)) (.tmp 8)), none⟩,
 .op 7 ⟨some 10, (.bin .add .prim (.tmp 5) (.tmp 9)), none⟩,
 .op 8 ⟨some 11, (.move (.tmp 0)), none⟩,
 .op 9 ⟨some 12, (.bin .shr .prim (.tmp 11) (.con (.int .u64 8))), none⟩,
 .op 10 ⟨some 13, (.bin .and .prim (.tmp 12) (.con (.int .u32 255))), none⟩,
 .op 11 ⟨some 14, (.indexStr (.con (.str ⟨#[0, 1, 1, 2, 1, 2, 2, 3, 1, 2, 2, 3, 2, 3, 3, 4, 1, 2, 2, 3, 2, 3, 3, 4, 2, 3, 3, 4, 3, 4, 4, 5, 1, 2, 2, 3, 2, 3, 3, 4, 2, 3, 3, 4, 3, 4, 4, 5, 2, 3, 3, 4, 3, 4, 4, 5, 3, 4, 4, 5, 4, 5, 5, 6, 1, 2, 2, 3, 2, 3, 3, 4, 2, 3, 3, 4, 3, 4, 4, 5, 2, 3, 3, 4, 3, 4, 4, 5, 3, 4, 4, 5, 4, 5, 5, 6, 2, 3, 3, 4, 3, 4, 4, 5, 3, 4, 4, 5, 4, 5, 5, 6, 3, 4, 4, 5, 4, 5, 5, 6, 4, 5, 5, 6, 5, 6, 6, 7, 1, 2, 2, 3, 2, 3, 3, 4, 2, 3, 3, 4, 3, 4, 4, 5, 2, 3, 3, 4, 3, 4, 4, 5, 3, 4, 4, 5, 4, 5, 5, 6, 2, 3, 3, 4, 3, 4, 4, 5, 3, 4, 4, 5, 4, 5, 5, 6, 3, 4, 4, 5, 4, 5, 5, 6, 4, 5, 5, 6, 5, 6, 6, 7, 2, 3, 3, 4, 3, 4, 4, 5, 3, 4, 4, 5, 4, 5, 5, 6, 3, 4, 4, 5, 4, 5, 5, 6, 4, 5, 5, 6, 5, 6, 6, 7, 3, 4, 4, 5, 4, 5, 5, 6, 4, 5, 5, 6, 5, 6, 6, 7, 4, 5, 5, 6, 5, 6, 6, 7, 5, 6, 6, 7, 6, 7, 7, 8]⟩)) (.tmp 13)), none⟩,
 .op 12 ⟨some 15, (.bin .add .prim (.tmp 10) (.tmp 14)), none⟩,
 .op 13 ⟨some 16, (.move (.tmp 0)), none⟩,
 .op 14 ⟨some 17, (.bin .and .prim (.tmp 16) (.con (.int .u32 255))), none⟩,
 .op 15 ⟨some 18, (.indexStr (.con (.str ⟨#[0, 1, 1, 2, 1, 2, 2, 3, 1, 2, 2, 3, 2, 3, 3, 4, 1, 2, 2, 3, 2, 3, 3, 4, 2, 3, 3, 4, 3, 4, 4, 5, 1, 2, 2, 3, 2, 3, 3, 4, 2, 3, 3, 4, 3, 4, 4, 5, 2, 3, 3, 4, 3, 4, 4, 5, 3, 4, 4, 5, 4, 5, 5, 6, 1, 2, 2, 3, 2, 3, 3, 4, 2, 3, 3, 4, 3, 4, 4, 5, 2, 3, 3, 4, 3, 4, 4, 5, 3, 4, 4, 5, 4, 5, 5, 6, 2, 3, 3, 4, 3, 4, 4, 5, 3, 4, 4, 5, 4, 5, 5, 6, 3, 4, 4, 5, 4, 5, 5, 6, 4, 5, 5, 6, 5, 6, 6, 7, 1, 2, 2, 3, 2, 3, 3, 4, 2, 3, 3, 4, 3, 4, 4, 5, 2, 3, 3, 4, 3, 4, 4, 5, 3, 4, 4, 5, 4, 5, 5, 6, 2, 3, 3, 4, 3, 4, 4, 5, 3, 4, 4, 5, 4, 5, 5, 6, 3, 4, 4, 5, 4, 5, 5, 6, 4, 5, 5, 6, 5, 6, 6, 7, 2, 3, 3, 4, 3, 4, 4, 5, 3, 4, 4, 5, 4, 5, 5, 6, 3, 4, 4, 5, 4, 5, 5, 6, 4, 5, 5, 6, 5, 6, 6, 7, 3, 4, 4, 5, 4, 5, 5, 6, 4, 5, 5, 6, 5, 6, 6, 7, 4, 5, 5, 6, 5, 6, 6, 7, 5, 6, 6, 7, 6, 7, 7, 8]⟩)) (.tmp 17)), none⟩,
 .op 16 ⟨some 19, (.bin .add .prim (.tmp 15) (.tmp 18)), none⟩,
 .op 17 ⟨some 20, (.toInt .i64 (.tmp 19)), none⟩,
 .op 18 ⟨some 2, (.move (.tmp 20)), none⟩])
 .ret))⟩
theorem F112_ok : cfn tab F112.body Try.f112 = some F112 := by kernel_rfl

/- math/bits.OnesCount64 -/
def F113 : AFn := ⟨35, [.tmp 2],
 (.seq (.region [⟨some 2, (.move (.con (.int .i64 0))), none⟩])
 (.seq (.region [⟨some 3, (.move (.tmp 0)), none⟩,
 ⟨some 4, (.bin .shr .prim (.tmp 3) (.con (.int .u64 1))), none⟩,
 ⟨some 5, (.bin .and .prim (.tmp 4) (.con (.int .u64 6148914691236517205))), none⟩,
 ⟨some 6, (.move (.tmp 0)), none⟩,
 ⟨some 7, (.bin .and .prim (.tmp 6) (.con (.int .u64 6148914691236517205))), none⟩,
 ⟨some 8, (.bin .add .prim (.tmp 5) (.tmp 7)), none⟩,
 ⟨some 0, (.move (.tmp 8)), none⟩])
 (.seq (.region [⟨some 9, (.move (.tmp 0)), none⟩,
 ⟨some 10, (.bin .shr .prim (.tmp 9) (.con (.int .u64 2))), none⟩,
 ⟨some 11, (.bin .and .prim (.tmp 10) (.con (.int .u64 3689348814741910323))), none⟩,
 ⟨some 12, (.move (.tmp 0)), none⟩,
 ⟨some 13, (.bin .and .prim (.tmp 12) (.con (.int .u64 3689348814741910323))), none⟩,
 ⟨some 14, (.bin .add .prim (.tmp 11) (.tmp 13)), none⟩,
 ⟨some 0, (.move (.tmp 14)), none⟩])
 (.seq (.region [⟨some 15, (.move (.tmp 0)), none⟩,
 ⟨some 16, (.bin .shr .prim (.tmp 15) (.con (.int .u64 4))), none⟩,
 ⟨some 17, (.move (.tmp 0)), none⟩,
 ⟨some 18, (.bin .add .prim (.tmp 16) (.tmp 17)), none⟩,
 ⟨some 19, (.bin .and .prim (.tmp 18) (.con (.int .u64 1085102592571150095))), none⟩,
 ⟨some 0, (.move (.tmp 19)), none⟩])
 (.seq (.region [⟨some 20, (.move (.tmp 0)), none⟩,
 ⟨some 21, (.move (.tmp 0)), none⟩,
 ⟨some 22, (.bin .shr .prim (.tmp 21) (.con (.int .u64 8))), none⟩,
 ⟨some 23, (.bin .add .prim (.tmp 20) (.tmp 22)), none⟩,
 ⟨some 0, (.move (.tmp 23)), none⟩])
 (.seq (.region [⟨some 24, (.move (.tmp 0)), none⟩,
 ⟨some 25, (.move (.tmp 0)), none⟩,
 ⟨some 26, (.bin .shr .prim (.tmp 25) (.con (.int .u64 16))), none⟩,
 ⟨some 27, (.bin .add .prim (.tmp 24) (.tmp 26)), none⟩,
 ⟨some 0, (.move (.tmp 27)), none⟩])
 (.seq (.region [⟨some 28, (.move (.tmp 0)), none⟩,
 ⟨some 29, (.move (.tmp 0)), none⟩,
 ⟨some 30, (.bin .shr .prim (.tmp 29) (.con (.int .u64 32))), none⟩,
 ⟨some 31, (.bin .add .prim (.tmp 28) (.tmp 30)), none⟩,
 ⟨some 0, (.move (.tmp 31)), none⟩])
 (.seq (.region [⟨some 32, (.move (.tmp 0)), none⟩,
 ⟨some 33, (.toInt .i64 (.tmp 32)), none⟩,
 ⟨some 34, (.bin .and .prim (.tmp 33) (.con (.int .i64 127))), none⟩,
 ⟨some 2, (.move (.tmp 34)), none⟩])
 .ret))))))))⟩
theorem F113_ok : cfn tab F113.body Try.f113 = some F113 := by kernel_rfl

/- (milestone/adj.ends).list -/
def F114 : AFn := ⟨13, [.tmp 2],
 (.seq (.region [⟨some 1, (.box 2 (.tmp 0)), none⟩,
 ⟨some 2, (.move (.con .nilSlice)), none⟩])
 (.seq (.region [⟨some 4, (.fieldAddr 0 (.tmp 1)), none⟩,
 ⟨some 5, (.load1 (.tmp 4)), none⟩,
 ⟨some 6, (.lenS (.tmp 5)), none⟩,
 ⟨some 3, (.move (.tmp 6)), none⟩])
 (.seq (.region [⟨some 7, (.fieldAddr 0 (.tmp 1)), none⟩,
 ⟨some 8, (.load1 (.tmp 7)), none⟩,
 ⟨some 9, (.move (.tmp 3)), none⟩,
 ⟨some 10, (.move (.tmp 3)), none⟩,
 ⟨some 11, (.slice 1 (.tmp 8) none (some (.tmp 9)) (some (.tmp 10))), none⟩,
 ⟨some 12, (.call 70 [(.tmp 11)]), none⟩,
 ⟨some 2, (.move (.tmp 12)), none⟩])
 .ret)))⟩
theorem F114_ok : cfn tab F114.body Try.f114 = some F114 := by kernel_rfl

/- slices.pdqsortCmpFunc[milestone/order.ranked] -/
def F115 : AFn := ⟨148, [],
 (.seq (.region [⟨some 10, (.move (.con (.bool true))), none⟩])
 (.seq (.region [⟨some 11, (.move (.con (.bool true))), none⟩])
 (.block 0 (.loop [true, true, true, true, true, false, false, false, false, false, true, true] []
 (.block 1 (.seq (.region [⟨some 21, (.move (.tmp 2)), none⟩,
 ⟨some 22, (.move (.tmp 1)), none⟩,
 ⟨some 23, (.bin .sub .prim (.tmp 21) (.tmp 22)), none⟩,
 ⟨some 12, (.move (.tmp 23)), none⟩])
 (.seq (.seq (.region [⟨some 24, (.move (.tmp 12)), none⟩,
 ⟨some 25, (.bin .leq .prim (.tmp 24) (.con (.int .i64 12))), none⟩])
 (.cond (.tmp 25)
 (.seq (.region [⟨some 26, (.move (.tmp 0)), none⟩,
 ⟨some 27, (.move (.tmp 1)), none⟩,
 ⟨some 28, (.move (.tmp 2)), none⟩,
 ⟨some 29, (.move (.tmp 4)), none⟩,
 ⟨some 30, (.call 131 [(.tmp 26), (.tmp 27), (.tmp 28), (.tmp 29)]), none⟩])
 .ret)
 .skip))
 (.seq (.seq (.region [⟨some 31, (.move (.tmp 3)), none⟩,
 ⟨some 32, (.bin .eql .prim (.tmp 31) (.con (.int .i64 0))), none⟩])
 (.cond (.tmp 32)
 (.seq (.region [⟨some 33, (.move (.tmp 0)), none⟩,
 ⟨some 34, (.move (.tmp 1)), none⟩,
 ⟨some 35, (.move (.tmp 2)), none⟩,
 ⟨some 36, (.move (.tmp 4)), none⟩,
 ⟨some 37, (.call 132 [(.tmp 33), (.tmp 34), (.tmp 35), (.tmp 36)]), none⟩])
 .ret)
 .skip))
 (.seq (.seq (.region [⟨some 38, (.move (.tmp 10)), none⟩,
 ⟨some 39, (.un .not (.tmp 38)), none⟩])
 (.join [true, true, true, true, true, false, false, false, false, false, true, true, true] (.cond (.tmp 39)
 (.seq (.region [⟨some 40, (.move (.tmp 0)), none⟩,
 ⟨some 41, (.move (.tmp 1)), none⟩,
 ⟨some 42, (.move (.tmp 2)), none⟩,
 ⟨some 43, (.move (.tmp 4)), none⟩,
 ⟨some 44, (.call 133 [(.tmp 40), (.tmp 41), (.tmp 42), (.tmp 43)]), none⟩])
 (.region [⟨some 45, (.move (.tmp 3)), none⟩,
 ⟨some 46, (.bin .sub .prim (.tmp 45) (.con (.int .i64 1))), none⟩,
 ⟨some 3, (.move (.tmp 46)), none⟩]))
 .skip)))
 (.seq (.region [⟨some 48, (.move (.tmp 0)), none⟩,
 ⟨some 49, (.move (.tmp 1)), none⟩,
 ⟨some 50, (.move (.tmp 2)), none⟩,
 ⟨some 51, (.move (.tmp 4)), none⟩,
 ⟨some 52, (.call 134 [(.tmp 48), (.tmp 49), (.tmp 50), (.tmp 51)]), none⟩,
 ⟨some 47, (.move (.tmp 52)), none⟩,
 ⟨some 53, (.extract (.tmp 47) 0), none⟩,
 ⟨some 54, (.extract (.tmp 47) 1), none⟩,
 ⟨some 13, (.move (.tmp 53)), none⟩,
 ⟨some 14, (.move (.tmp 54)), none⟩])
 (.seq (.seq (.region [⟨some 55, (.move (.tmp 14)), none⟩,
 ⟨some 56, (.bin .eql .prim (.tmp 55) (.con (.int .i64 2))), none⟩])
 (.join [true, true, true, true, true, false, false, false, false, false, true, true, true, true, true] (.cond (.tmp 56)
 (.seq (.region [⟨some 57, (.move (.tmp 0)), none⟩,
 ⟨some 58, (.move (.tmp 1)), none⟩,
 ⟨some 59, (.move (.tmp 2)), none⟩,
 ⟨some 60, (.move (.tmp 4)), none⟩,
 ⟨some 61, (.call 135 [(.tmp 57), (.tmp 58), (.tmp 59), (.tmp 60)]), none⟩])
 (.seq (.region [⟨some 62, (.move (.tmp 2)), none⟩,
 ⟨some 63, (.bin .sub .prim (.tmp 62) (.con (.int .i64 1))), none⟩,
 ⟨some 64, (.move (.tmp 13)), none⟩,
 ⟨some 65, (.move (.tmp 1)), none⟩,
 ⟨some 66, (.bin .sub .prim (.tmp 64) (.tmp 65)), none⟩,
 ⟨some 67, (.bin .sub .prim (.tmp 63) (.tmp 66)), none⟩,
 ⟨some 13, (.move (.tmp 67)), none⟩])
 (.region [⟨some 14, (.move (.con (.int .i64 1))), none⟩])))
 .skip)))
 (.seq (.seq (.region [⟨some 68, (.move (.tmp 10)), none⟩,
 ⟨some 69, (.move (.tmp 68)), none⟩,
 ⟨some 70, (.move (.tmp 11)), some (69, true)⟩,
 ⟨some 71, (.pick (.tmp 69) (.tmp 70) (.con (.bool false))), none⟩,
 ⟨some 72, (.move (.tmp 71)), none⟩,
 ⟨some 73, (.move (.tmp 14)), some (72, true)⟩,
 ⟨some 74, (.bin .eql .prim (.tmp 73) (.con (.int .i64 1))), some (72, true)⟩,
 ⟨some 75, (.pick (.tmp 72) (.tmp 74) (.con (.bool false))), none⟩])
 (.join [true, true, true, true, true, false, false, false, false, false, true, true, true, true] (.cond (.tmp 75)
 (.seq (.region [⟨some 76, (.move (.tmp 0)), none⟩,
 ⟨some 77, (.move (.tmp 1)), none⟩,
 ⟨some 78, (.move (.tmp 2)), none⟩,
 ⟨some 79, (.move (.tmp 4)), none⟩,
 ⟨some 80, (.call 136 [(.tmp 76), (.tmp 77), (.tmp 78), (.tmp 79)]), none⟩])
 (.cond (.tmp 80)
 .ret
 .skip))
 .skip)))
 (.seq (.seq (.dregion [[], [0], [0, 1], [1, 0, 2], [1, 0, 2], [1, 0, 2], [2, 0, 1, 5], [5, 6, 2, 0, 1, 4], [4, 1, 0, 2, 6, 5, 7], [1, 0, 2], [1, 0, 2], [10, 2, 0, 1, 9], [9, 1, 0, 2, 10, 11], [11, 10, 9, 12, 7, 5, 6, 4, 8, 2, 0, 1, 3], [3, 1, 0, 2, 8, 4, 6, 5, 7, 12, 9, 10, 11, 13], [13, 11, 10, 9, 12, 7, 5, 6, 4, 8, 2, 0, 1, 3, 14], [14, 3, 8, 4, 6, 5, 7, 12, 9, 10, 11, 13, 15, 1, 0, 2]] [.op 0 ⟨some 81, (.move (.tmp 1)), none⟩,
 .op 1 ⟨some 82, (.bin .gtr .prim (.tmp 81) (.con (.int .i64 0))), none⟩,
 .op 2 ⟨some 83, (.move (.tmp 82)), none⟩,
 .op 3 ⟨some 84, (.move (.tmp 4)), some (83, true)⟩,
 .op 4 ⟨some 85, (.move (.tmp 0)), some (83, true)⟩,
 .op 5 ⟨some 86, (.move (.tmp 1)), some (83, true)⟩,
 .op 6 ⟨some 87, (.bin .sub .prim (.tmp 86) (.con (.int .i64 1))), some (83, true)⟩,
 .op 7 ⟨some 88, (.indexAddrS 2 (.tmp 85) (.tmp 87)), some (83, true)⟩,
 .op 8 ⟨some 89, (.loadN 2 (.tmp 88)), some (83, true)⟩,
 .op 9 ⟨some 90, (.move (.tmp 0)), some (83, true)⟩,
 .op 10 ⟨some 91, (.move (.tmp 13)), some (83, true)⟩,
 .op 11 ⟨some 92, (.indexAddrS 2 (.tmp 90) (.tmp 91)), some (83, true)⟩,
 .op 12 ⟨some 93, (.loadN 2 (.tmp 92)), some (83, true)⟩,
 .op 13 ⟨some 94, (.callv (.tmp 84) [(.tmp 89), (.tmp 93)]), some (83, true)⟩,
 .op 14 ⟨some 95, (.bin .lss .prim (.tmp 94) (.con (.int .i64 0))), some (83, true)⟩,
 .op 15 ⟨some 96, (.un .not (.tmp 95)), some (83, true)⟩,
 .op 16 ⟨some 97, (.pick (.tmp 83) (.tmp 96) (.con (.bool false))), none⟩])
 (.cond (.tmp 97)
 (.seq (.region [⟨some 98, (.move (.tmp 0)), none⟩,
 ⟨some 99, (.move (.tmp 1)), none⟩,
 ⟨some 100, (.move (.tmp 2)), none⟩,
 ⟨some 101, (.move (.tmp 13)), none⟩,
 ⟨some 102, (.move (.tmp 4)), none⟩,
 ⟨some 103, (.call 137 [(.tmp 98), (.tmp 99), (.tmp 100), (.tmp 101), (.tmp 102)]), none⟩,
 ⟨some 15, (.move (.tmp 103)), none⟩])
 (.seq (.region [⟨some 104, (.move (.tmp 15)), none⟩,
 ⟨some 1, (.move (.tmp 104)), none⟩])
 (.exit 1)))
 .skip))
 (.seq (.region [⟨some 106, (.move (.tmp 0)), none⟩,
 ⟨some 107, (.move (.tmp 1)), none⟩,
 ⟨some 108, (.move (.tmp 2)), none⟩,
 ⟨some 109, (.move (.tmp 13)), none⟩,
 ⟨some 110, (.move (.tmp 4)), none⟩,
 ⟨some 111, (.call 138 [(.tmp 106), (.tmp 107), (.tmp 108), (.tmp 109), (.tmp 110)]), none⟩,
 ⟨some 105, (.move (.tmp 111)), none⟩,
 ⟨some 112, (.extract (.tmp 105) 0), none⟩,
 ⟨some 113, (.extract (.tmp 105) 1), none⟩,
 ⟨some 16, (.move (.tmp 112)), none⟩,
 ⟨some 17, (.move (.tmp 113)), none⟩])
 (.seq (.region [⟨some 114, (.move (.tmp 17)), none⟩,
 ⟨some 11, (.move (.tmp 114)), none⟩])
 (.seq (.region [⟨some 115, (.move (.tmp 16)), none⟩,
 ⟨some 116, (.move (.tmp 1)), none⟩,
 ⟨some 117, (.bin .sub .prim (.tmp 115) (.tmp 116)), none⟩,
 ⟨some 118, (.move (.tmp 2)), none⟩,
 ⟨some 119, (.move (.tmp 16)), none⟩,
 ⟨some 120, (.bin .sub .prim (.tmp 118) (.tmp 119)), none⟩,
 ⟨some 18, (.move (.tmp 117)), none⟩,
 ⟨some 19, (.move (.tmp 120)), none⟩])
 (.seq (.region [⟨some 121, (.move (.tmp 12)), none⟩,
 ⟨some 122, (.bin .quo .prim (.tmp 121) (.con (.int .i64 8))), none⟩,
 ⟨some 20, (.move (.tmp 122)), none⟩])
 (.seq (.region [⟨some 123, (.move (.tmp 18)), none⟩,
 ⟨some 124, (.move (.tmp 19)), none⟩,
 ⟨some 125, (.bin .lss .prim (.tmp 123) (.tmp 124)), none⟩])
 (.cond (.tmp 125)
 (.seq (.region [⟨some 126, (.move (.tmp 18)), none⟩,
 ⟨some 127, (.move (.tmp 20)), none⟩,
 ⟨some 128, (.bin .geq .prim (.tmp 126) (.tmp 127)), none⟩,
 ⟨some 10, (.move (.tmp 128)), none⟩])
 (.seq (.region [⟨some 129, (.move (.tmp 0)), none⟩,
 ⟨some 130, (.move (.tmp 1)), none⟩,
 ⟨some 131, (.move (.tmp 16)), none⟩,
 ⟨some 132, (.move (.tmp 3)), none⟩,
 ⟨some 133, (.move (.tmp 4)), none⟩,
 ⟨some 134, (.call 115 [(.tmp 129), (.tmp 130), (.tmp 131), (.tmp 132), (.tmp 133)]), none⟩])
 (.region [⟨some 135, (.move (.tmp 16)), none⟩,
 ⟨some 136, (.bin .add .prim (.tmp 135) (.con (.int .i64 1))), none⟩,
 ⟨some 1, (.move (.tmp 136)), none⟩])))
 (.seq (.region [⟨some 137, (.move (.tmp 19)), none⟩,
 ⟨some 138, (.move (.tmp 20)), none⟩,
 ⟨some 139, (.bin .geq .prim (.tmp 137) (.tmp 138)), none⟩,
 ⟨some 10, (.move (.tmp 139)), none⟩])
 (.seq (.region [⟨some 140, (.move (.tmp 0)), none⟩,
 ⟨some 141, (.move (.tmp 16)), none⟩,
 ⟨some 142, (.bin .add .prim (.tmp 141) (.con (.int .i64 1))), none⟩,
 ⟨some 143, (.move (.tmp 2)), none⟩,
 ⟨some 144, (.move (.tmp 3)), none⟩,
 ⟨some 145, (.move (.tmp 4)), none⟩,
 ⟨some 146, (.call 115 [(.tmp 140), (.tmp 142), (.tmp 143), (.tmp 144), (.tmp 145)]), none⟩])
 (.region [⟨some 147, (.move (.tmp 16)), none⟩,
 ⟨some 2, (.move (.tmp 147)), none⟩]))))))))))))))))))))))⟩
theorem F115_ok : cfn tab F115.body Try.f115 = some F115 := by kernel_rfl

/- math/bits.Len -/
def F116 : AFn := ⟨8, [.tmp 2],
 (.seq (.region [⟨some 2, (.move (.con (.int .i64 0))), none⟩])
 (.seq (.cond (.con (.bool false))
 (.seq (.region [⟨some 3, (.move (.tmp 0)), none⟩,
 ⟨some 4, (.toInt .u32 (.tmp 3)), none⟩,
 ⟨some 5, (.call 139 [(.tmp 4)]), none⟩,
 ⟨some 2, (.move (.tmp 5)), none⟩])
 .ret)
 .skip)
 (.seq (.region [⟨some 6, (.move (.tmp 0)), none⟩,
 ⟨some 7, (.call 140 [(.tmp 6)]), none⟩,
 ⟨some 2, (.move (.tmp 7)), none⟩])
 .ret)))⟩
theorem F116_ok : cfn tab F116.body Try.f116 = some F116 := by kernel_rfl

/- cmp.Or[int] -/
def F117 : AFn := ⟨18, [.tmp 2],
 (.seq (.region [⟨some 2, (.move (.con (.int .i64 0))), none⟩])
 (.seq (.region [⟨some 3, (.move (.con (.int .i64 0))), none⟩])
 (.seq (.seq (.region [⟨some 6, (.move (.tmp 0)), none⟩,
 ⟨some 7, (.lenS (.tmp 6)), none⟩,
 ⟨some 8, (.move (.con (.int .i64 0))), none⟩])
 (.join [false, false, true, true] (.block 0 (.loop [false, false, false, true, false, false, true, true, true] [false, false, true, true]
 (.seq (.region [⟨some 9, (.bin .lss .prim (.tmp 8) (.tmp 7)), none⟩])
 (.seq (.cond (.tmp 9)
 .skip
 (.exit 0))
 (.seq (.block 1 (.seq (.region [⟨some 10, (.indexAddrS 1 (.tmp 6) (.tmp 8)), none⟩,
 ⟨some 11, (.load1 (.tmp 10)), none⟩,
 ⟨some 5, (.move (.tmp 11)), none⟩])
 (.seq (.region [⟨some 12, (.move (.tmp 5)), none⟩,
 ⟨some 13, (.move (.tmp 3)), none⟩,
 ⟨some 14, (.bin .neq .prim (.tmp 12) (.tmp 13)), none⟩])
 (.cond (.tmp 14)
 (.seq (.region [⟨some 15, (.move (.tmp 5)), none⟩,
 ⟨some 2, (.move (.tmp 15)), none⟩])
 .ret)
 .skip))))
 (.region [⟨some 16, (.bin .add .prim (.tmp 8) (.con (.int .i64 1))), none⟩,
 ⟨some 8, (.move (.tmp 16)), none⟩]))))))))
 (.seq (.region [⟨some 17, (.move (.tmp 3)), none⟩,
 ⟨some 2, (.move (.tmp 17)), none⟩])
 .ret))))⟩
theorem F117_ok : cfn tab F117.body Try.f117 = some F117 := by kernel_rfl

/- cmp.Compare[int] -/
def F118 : AFn := ⟨20, [.tmp 4],
 (.seq (.region [⟨some 4, (.move (.con (.int .i64 0))), none⟩])
 (.seq (.region [⟨some 7, (.move (.tmp 0)), none⟩,
 ⟨some 8, (.call 141 [(.tmp 7)]), none⟩,
 ⟨some 5, (.move (.tmp 8)), none⟩])
 (.seq (.region [⟨some 9, (.move (.tmp 1)), none⟩,
 ⟨some 10, (.call 141 [(.tmp 9)]), none⟩,
 ⟨some 6, (.move (.tmp 10)), none⟩])
 (.seq (.seq (.region [⟨some 11, (.move (.tmp 5)), none⟩])
 (.cond (.tmp 11)
 (.seq (.seq (.region [⟨some 12, (.move (.tmp 6)), none⟩])
 (.cond (.tmp 12)
 (.seq (.region [⟨some 4, (.move (.con (.int .i64 0))), none⟩])
 .ret)
 .skip))
 (.seq (.region [⟨some 4, (.move (.con (.int .i64 (-1)))), none⟩])
 .ret))
 .skip))
 (.seq (.seq (.region [⟨some 13, (.move (.tmp 6)), none⟩])
 (.cond (.tmp 13)
 (.seq (.region [⟨some 4, (.move (.con (.int .i64 1))), none⟩])
 .ret)
 .skip))
 (.seq (.seq (.region [⟨some 14, (.move (.tmp 0)), none⟩,
 ⟨some 15, (.move (.tmp 1)), none⟩,
 ⟨some 16, (.bin .lss .prim (.tmp 14) (.tmp 15)), none⟩])
 (.cond (.tmp 16)
 (.seq (.region [⟨some 4, (.move (.con (.int .i64 (-1)))), none⟩])
 .ret)
 .skip))
 (.seq (.seq (.region [⟨some 17, (.move (.tmp 0)), none⟩,
 ⟨some 18, (.move (.tmp 1)), none⟩,
 ⟨some 19, (.bin .gtr .prim (.tmp 17) (.tmp 18)), none⟩])
 (.cond (.tmp 19)
 (.seq (.region [⟨some 4, (.move (.con (.int .i64 1))), none⟩])
 .ret)
 .skip))
 (.seq (.region [⟨some 4, (.move (.con (.int .i64 0))), none⟩])
 .ret))))))))⟩
theorem F118_ok : cfn tab F118.body Try.f118 = some F118 := by kernel_rfl

/- (milestone/hier.key).by -/
def F120 : AFn := ⟨22, [.tmp 4],
 (.seq (.region [⟨some 2, (.box 3 (.tmp 0)), none⟩,
 ⟨some 3, (.box 3 (.tmp 1)), none⟩,
 ⟨some 4, (.move (.con (.int .i64 0))), none⟩])
 (.seq (.dregion [[], [0], [], [2], [2, 3, 0, 1], [], [5], [], [7], [1, 0, 3, 2, 4, 7, 8, 5, 6], [], [10], [], [12], [6, 5, 8, 7, 4, 2, 3, 0, 1, 9, 12, 13, 10, 11], [11, 10, 13, 12, 14, 6, 5, 8, 7, 9, 1, 0, 3, 2, 4], [4, 2, 3, 0, 1, 9, 7, 8, 5, 6, 14, 12, 13, 10, 11, 15], [15, 11, 10, 13, 12, 14, 6, 5, 8, 7, 9, 1, 0, 3, 2, 4, 16]] [.op 0 ⟨some 5, (.fieldAddr 0 (.tmp 2)), none⟩,
 .op 1 ⟨some 6, (.load1 (.tmp 5)), none⟩,
 .op 2 ⟨some 7, (.fieldAddr 0 (.tmp 3)), none⟩,
 .op 3 ⟨some 8, (.load1 (.tmp 7)), none⟩,
 .op 5 ⟨some 10, (.fieldAddr 1 (.tmp 2)), none⟩,
 .op 6 ⟨some 11, (.load1 (.tmp 10)), none⟩,
 .op 7 ⟨some 12, (.fieldAddr 1 (.tmp 3)), none⟩,
 .op 8 ⟨some 13, (.load1 (.tmp 12)), none⟩,
 .op 10 ⟨some 15, (.fieldAddr 2 (.tmp 2)), none⟩,
 .op 11 ⟨some 16, (.load1 (.tmp 15)), none⟩,
 .op 12 ⟨some 17, (.fieldAddr 2 (.tmp 3)), none⟩,
 .op 13 ⟨some 18, (.load1 (.tmp 17)), none⟩,
 .op 4 ⟨some 9, (.call 118 [(.tmp 6), (.tmp 8)]), none⟩,
 .re 6 ⟨some 11, (.load1 (.tmp 10)), none⟩,
 .re 8 ⟨some 13, (.load1 (.tmp 12)), none⟩,
 .re 11 ⟨some 16, (.load1 (.tmp 15)), none⟩,
 .re 13 ⟨some 18, (.load1 (.tmp 17)), none⟩,
 .op 9 ⟨some 14, (.call 118 [(.tmp 11), (.tmp 13)]), none⟩,
 .re 11 ⟨some 16, (.load1 (.tmp 15)), none⟩,
 .re 13 ⟨some 18, (.load1 (.tmp 17)), none⟩,
 .op 14 ⟨some 19, (.call 118 [(.tmp 16), (.tmp 18)]), none⟩,
 .op 15 ⟨some 20, (.buildSlice [(.int .i64 0), (.int .i64 0), (.int .i64 0)] 3 [(0, 1, (.tmp 9)), (1, 1, (.tmp 14)), (2, 1, (.tmp 19))]), none⟩,
 .op 16 ⟨some 21, (.call 117 [(.tmp 20)]), none⟩,
 .op 17 ⟨some 4, (.move (.tmp 21)), none⟩])
 .ret))⟩
theorem F120_ok : cfn tab F120.body Try.f120 = some F120 := by kernel_rfl

/- (*milestone/hier.builder).add -/
def F121 : AFn := ⟨33, [],
 (.seq (.region [⟨some 3, (.box 7 (.tmp 1)), none⟩])
 (.seq (.dregion [[], [0], [0, 1], [1, 0, 2], [], [4], [], [6], [], [8], [8, 9, 6, 7, 4, 5], [], [11], [11, 12], [12, 11, 13], [13, 11, 12, 14], [14, 12, 11, 13, 15], [15, 13, 11, 12, 14, 16, 5, 4, 7, 6, 9, 8, 10, 2, 0, 1, 3]] [.op 0 ⟨some 4, (.move (.tmp 0)), none⟩,
 .op 1 ⟨some 5, (.nilCheck (.tmp 4)), none⟩,
 .op 2 ⟨some 6, (.fieldAddr 6 (.tmp 5)), none⟩,
 .op 3 ⟨some 7, (.load1 (.tmp 6)), none⟩,
 .op 4 ⟨some 8, (.fieldAddr 0 (.tmp 3)), none⟩,
 .op 5 ⟨some 9, (.load1 (.tmp 8)), none⟩,
 .op 6 ⟨some 10, (.fieldAddr 1 (.tmp 3)), none⟩,
 .op 7 ⟨some 11, (.load1 (.tmp 10)), none⟩,
 .op 8 ⟨some 12, (.fieldAddr 2 (.tmp 3)), none⟩,
 .op 9 ⟨some 13, (.load1 (.tmp 12)), none⟩,
 .op 10 ⟨some 14, (.build [(.int .i64 0), (.int .i64 0), (.int .i64 0)] [(0, 1, (.tmp 9)), (1, 1, (.tmp 11)), (2, 1, (.tmp 13))]), none⟩,
 .op 11 ⟨some 15, (.move (.tmp 0)), none⟩,
 .op 12 ⟨some 16, (.nilCheck (.tmp 15)), none⟩,
 .op 13 ⟨some 17, (.fieldAddr 0 (.tmp 16)), none⟩,
 .op 14 ⟨some 18, (.fieldAddr 3 (.tmp 17)), none⟩,
 .op 15 ⟨some 19, (.load1 (.tmp 18)), none⟩,
 .op 16 ⟨some 20, (.lenS (.tmp 19)), none⟩,
 .op 17 ⟨none, (.mapUpdate (.many [.int, .int, .int]) (.tmp 7) (.tmp 14) (.tmp 20)), none⟩])
 (.dregion [[], [], [1], [1, 2], [2, 1, 3], [3, 1, 2, 4], [], [6], [6, 7, 4, 2, 1, 3, 5], [8, 7, 6, 5, 4, 3, 2, 1, 0], [0, 1, 2, 3, 4, 5, 6, 7, 8, 9], [9, 8, 7, 6, 5, 4, 3, 2, 1, 0, 10], [10, 0, 1, 2, 3, 4, 5, 6, 7, 8, 9, 11]] [.op 0 ⟨some 21, (.move (.tmp 0)), none⟩,
 .op 1 ⟨some 22, (.move (.tmp 0)), none⟩,
 .op 2 ⟨some 23, (.nilCheck (.tmp 22)), none⟩,
 .op 3 ⟨some 24, (.fieldAddr 0 (.tmp 23)), none⟩,
 .op 4 ⟨some 25, (.fieldAddr 3 (.tmp 24)), none⟩,
 .op 5 ⟨some 26, (.load1 (.tmp 25)), none⟩,
 .op 6 ⟨some 27, (.loadN 7 (.tmp 3)), none⟩,
 .op 7 ⟨some 28, (.buildSlice [(.int .i64 0), (.int .i64 0), (.int .i64 0), (.int .i64 0), (.int .i64 0), (.int .i64 0), (.int .i64 0)] 1 [(0, 7, (.tmp 27))]), none⟩,
 .op 8 ⟨some 29, (.append 7 56 (.tmp 26) (.tmp 28)), none⟩,
 .op 9 ⟨some 30, (.nilCheck (.tmp 21)), none⟩,
 .op 10 ⟨some 31, (.fieldAddr 0 (.tmp 30)), none⟩,
 .op 11 ⟨some 32, (.fieldAddr 3 (.tmp 31)), none⟩,
 .op 12 ⟨none, (.store 1 (.tmp 32) (.tmp 29)), none⟩])))⟩
theorem F121_ok : cfn tab F121.body Try.f121 = some F121 := by kernel_rfl

/- (*milestone/hier.builder).goes$1 -/
def F122 : AFn := ⟨20, [.tmp 4],
 (.seq (.region [⟨some 3, (.box 3 (.tmp 0)), none⟩,
 ⟨some 4, (.move (.con (.bool false))), none⟩])
 (.seq (.dregion [[], [0], [], [2, 0, 1], [1, 0, 2, 3], [3, 2, 0, 1, 4], [4, 1, 0, 2, 3, 5], [5, 3, 2, 0, 1, 4, 6], [6, 4, 1, 0, 2, 3, 5, 7], [3, 2, 0, 1, 4], [4, 1, 0, 2, 3, 9], [9, 10, 7, 5, 3, 2, 0, 1, 4, 6, 8], [8, 6, 4, 1, 0, 2, 3, 5, 7, 10, 9, 11], [11, 9, 10, 7, 5, 3, 2, 0, 1, 4, 6, 8, 12], [12, 8, 6, 5, 7, 10, 9, 11, 13, 3, 2, 0, 1, 4], [4, 1, 0, 2, 3, 13, 11, 9, 10, 7, 5, 6, 8, 12, 14]] [.op 0 ⟨some 5, (.fieldAddr 0 (.tmp 3)), none⟩,
 .op 1 ⟨some 6, (.load1 (.tmp 5)), none⟩,
 .op 2 ⟨some 7, (.load1 (.tmp 1)), none⟩,
 .op 3 ⟨some 8, (.bin .eql .prim (.tmp 6) (.tmp 7)), none⟩,
 .op 4 ⟨some 9, (.move (.tmp 8)), none⟩,
 .op 5 ⟨some 10, (.load1 (.tmp 2)), some (9, true)⟩,
 .op 6 ⟨some 11, (.nilCheck (.tmp 10)), some (9, true)⟩,
 .op 7 ⟨some 12, (.fieldAddr 7 (.tmp 11)), some (9, true)⟩,
 .op 8 ⟨some 13, (.load1 (.tmp 12)), some (9, true)⟩,
 .op 9 ⟨some 14, (.fieldAddr 1 (.tmp 3)), some (9, true)⟩,
 .op 10 ⟨some 15, (.load1 (.tmp 14)), some (9, true)⟩,
 .op 11 ⟨some 16, (.indexAddrS 1 (.tmp 13) (.tmp 15)), some (9, true)⟩,
 .op 12 ⟨some 17, (.load1 (.tmp 16)), some (9, true)⟩,
 .op 13 ⟨some 18, (.un .not (.tmp 17)), some (9, true)⟩,
 .op 14 ⟨some 19, (.pick (.tmp 9) (.tmp 18) (.con (.bool false))), none⟩,
 .op 15 ⟨some 4, (.move (.tmp 19)), none⟩])
 .ret))⟩
theorem F122_ok : cfn tab F122.body Try.f122 = some F122 := by kernel_rfl

/- (*milestone/hier.builder).goes$2 -/
def F123 : AFn := ⟨26, [.tmp 4],
 (.seq (.region [⟨some 3, (.box 3 (.tmp 0)), none⟩,
 ⟨some 4, (.move (.con (.bool false))), none⟩])
 (.seq (.dregion [[], [0], [], [2, 0, 1], [1, 0, 2, 3], [3, 2, 0, 1, 4], [4, 1, 0, 2, 3, 5], [3, 2, 0, 1, 4], [7, 5, 3, 2, 0, 1, 4, 6], [6, 5, 7, 8, 3, 2, 0, 1, 4], [4, 1, 0, 2, 3, 8, 7, 5, 6, 9], [9, 6, 5, 7, 8, 3, 2, 0, 1, 4, 10], [10, 4, 1, 0, 2, 3, 8, 7, 5, 6, 9, 11], [11, 9, 6, 5, 7, 8, 3, 2, 0, 1, 4, 10, 12], [12, 10, 4, 1, 0, 2, 3, 8, 7, 5, 6, 9, 11, 13], [9, 6, 5, 7, 8, 3, 2, 0, 1, 4, 10], [10, 4, 1, 0, 2, 3, 8, 7, 5, 6, 9, 15], [15, 16, 13, 11, 9, 6, 5, 7, 8, 3, 2, 0, 1, 4, 10, 12, 14], [14, 12, 10, 4, 1, 0, 2, 3, 8, 7, 5, 6, 9, 11, 13, 16, 15, 17], [17, 15, 16, 13, 11, 9, 6, 5, 7, 8, 3, 2, 0, 1, 4, 10, 12, 14, 18], [18, 14, 12, 11, 13, 16, 15, 17, 19, 9, 6, 5, 7, 8, 3, 2, 0, 1, 4, 10], [10, 4, 1, 0, 2, 3, 8, 7, 5, 6, 9, 19, 17, 15, 16, 13, 11, 12, 14, 18, 20]] [.op 0 ⟨some 5, (.fieldAddr 1 (.tmp 3)), none⟩,
 .op 1 ⟨some 6, (.load1 (.tmp 5)), none⟩,
 .op 2 ⟨some 7, (.load1 (.tmp 1)), none⟩,
 .op 3 ⟨some 8, (.bin .eql .prim (.tmp 6) (.tmp 7)), none⟩,
 .op 4 ⟨some 9, (.move (.tmp 8)), none⟩,
 .op 5 ⟨some 10, (.fieldAddr 0 (.tmp 3)), some (9, true)⟩,
 .op 6 ⟨some 11, (.load1 (.tmp 10)), some (9, true)⟩,
 .op 7 ⟨some 12, (.load1 (.tmp 1)), some (9, true)⟩,
 .op 8 ⟨some 13, (.bin .neq .prim (.tmp 11) (.tmp 12)), some (9, true)⟩,
 .op 9 ⟨some 14, (.pick (.tmp 9) (.tmp 13) (.con (.bool false))), none⟩,
 .op 10 ⟨some 15, (.move (.tmp 14)), none⟩,
 .op 11 ⟨some 16, (.load1 (.tmp 2)), some (15, true)⟩,
 .op 12 ⟨some 17, (.nilCheck (.tmp 16)), some (15, true)⟩,
 .op 13 ⟨some 18, (.fieldAddr 7 (.tmp 17)), some (15, true)⟩,
 .op 14 ⟨some 19, (.load1 (.tmp 18)), some (15, true)⟩,
 .op 15 ⟨some 20, (.fieldAddr 0 (.tmp 3)), some (15, true)⟩,
 .op 16 ⟨some 21, (.load1 (.tmp 20)), some (15, true)⟩,
 .op 17 ⟨some 22, (.indexAddrS 1 (.tmp 19) (.tmp 21)), some (15, true)⟩,
 .op 18 ⟨some 23, (.load1 (.tmp 22)), some (15, true)⟩,
 .op 19 ⟨some 24, (.un .not (.tmp 23)), some (15, true)⟩,
 .op 20 ⟨some 25, (.pick (.tmp 15) (.tmp 24) (.con (.bool false))), none⟩,
 .op 21 ⟨some 4, (.move (.tmp 25)), none⟩])
 .ret))⟩
theorem F123_ok : cfn tab F123.body Try.f123 = some F123 := by kernel_rfl

/- (*milestone/hier.builder).around -/
def F124 : AFn := ⟨81, [],
 (.seq (.dregion [[], [0], [0, 1], [1, 0, 2], [2, 0, 1, 3], [], [5, 3, 1, 0, 2, 4], [4, 2, 0, 1, 3, 5, 6], [], [8], [8, 9], [9, 8, 10], [10, 8, 9, 11], [], [13, 11, 9, 8, 10, 12], [12, 10, 8, 9, 11, 13, 14], [], [], [17, 6, 5, 3, 1, 0, 2, 4, 7, 16], [16, 7, 4, 2, 0, 1, 3, 5, 6, 18, 14, 13, 11, 9, 8, 10, 12, 15, 17]] [.op 0 ⟨some 10, (.move (.tmp 0)), none⟩,
 .op 1 ⟨some 11, (.nilCheck (.tmp 10)), none⟩,
 .op 2 ⟨some 12, (.fieldAddr 0 (.tmp 11)), none⟩,
 .op 3 ⟨some 13, (.fieldAddr 3 (.tmp 12)), none⟩,
 .op 4 ⟨some 14, (.load1 (.tmp 13)), none⟩,
 .op 5 ⟨some 15, (.move (.tmp 1)), none⟩,
 .op 6 ⟨some 16, (.indexAddrS 7 (.tmp 14) (.tmp 15)), none⟩,
 .op 7 ⟨some 17, (.loadN 7 (.tmp 16)), none⟩,
 .op 8 ⟨some 18, (.move (.tmp 0)), none⟩,
 .op 9 ⟨some 19, (.nilCheck (.tmp 18)), none⟩,
 .op 10 ⟨some 20, (.fieldAddr 0 (.tmp 19)), none⟩,
 .op 11 ⟨some 21, (.fieldAddr 3 (.tmp 20)), none⟩,
 .op 12 ⟨some 22, (.load1 (.tmp 21)), none⟩,
 .op 13 ⟨some 23, (.move (.tmp 2)), none⟩,
 .op 14 ⟨some 24, (.indexAddrS 7 (.tmp 22) (.tmp 23)), none⟩,
 .op 15 ⟨some 25, (.loadN 7 (.tmp 24)), none⟩,
 .op 16 ⟨some 6, (.alloc [(.int .i64 0), (.int .i64 0), (.int .i64 0), (.int .i64 0), (.int .i64 0), (.int .i64 0), (.int .i64 0)]), none⟩,
 .op 17 ⟨some 7, (.alloc [(.int .i64 0), (.int .i64 0), (.int .i64 0), (.int .i64 0), (.int .i64 0), (.int .i64 0), (.int .i64 0)]), none⟩,
 .op 18 ⟨none, (.store 7 (.tmp 6) (.tmp 17)), none⟩,
 .re 12 ⟨some 22, (.load1 (.tmp 21)), none⟩,
 .re 15 ⟨some 25, (.loadN 7 (.tmp 24)), none⟩,
 .op 19 ⟨none, (.store 7 (.tmp 7) (.tmp 25)), none⟩])
 (.seq (.seq (.region [⟨some 26, (.fieldAddr 2 (.tmp 6)), none⟩,
 ⟨some 27, (.load1 (.tmp 26)), none⟩,
 ⟨some 28, (.fieldAddr 2 (.tmp 7)), none⟩,
 ⟨some 29, (.load1 (.tmp 28)), none⟩,
 ⟨some 30, (.bin .neq .prim (.tmp 27) (.tmp 29)), none⟩])
 (.cond (.tmp 30)
 .ret
 .skip))
 (.seq (.dregion [[], [0], [0, 1], [1, 0, 2], [], [4], [], [6], [], [8], [8, 9, 6, 7, 4, 5], [5, 4, 7, 6, 9, 8, 10, 2, 0, 1, 3], [3, 1, 0, 2, 10, 8, 9, 6, 7, 4, 5, 11], [11, 5, 4, 7, 6, 9, 8, 10, 2, 0, 1, 3, 12], [11, 5, 4, 7, 6, 9, 8, 10, 2, 0, 1, 3, 12], [12, 3, 1, 0, 2, 10, 8, 9, 6, 7, 4, 5, 11, 13], [13, 15, 12, 3, 1, 0, 2, 10, 8, 9, 6, 7, 4, 5, 11, 14]] [.op 0 ⟨some 32, (.move (.tmp 0)), none⟩,
 .op 1 ⟨some 33, (.nilCheck (.tmp 32)), none⟩,
 .op 2 ⟨some 34, (.fieldAddr 6 (.tmp 33)), none⟩,
 .op 3 ⟨some 35, (.load1 (.tmp 34)), none⟩,
 .op 4 ⟨some 36, (.fieldAddr 0 (.tmp 6)), none⟩,
 .op 5 ⟨some 37, (.load1 (.tmp 36)), none⟩,
 .op 6 ⟨some 38, (.fieldAddr 1 (.tmp 7)), none⟩,
 .op 7 ⟨some 39, (.load1 (.tmp 38)), none⟩,
 .op 8 ⟨some 40, (.fieldAddr 2 (.tmp 6)), none⟩,
 .op 9 ⟨some 41, (.load1 (.tmp 40)), none⟩,
 .op 10 ⟨some 42, (.build [(.int .i64 0), (.int .i64 0), (.int .i64 0)] [(0, 1, (.tmp 37)), (1, 1, (.tmp 39)), (2, 1, (.tmp 41))]), none⟩,
 .op 11 ⟨some 43, (.lookup (.many [.int, .int, .int]) (.int .i64 0) (.tmp 35) (.tmp 42) true), none⟩,
 .op 12 ⟨some 31, (.move (.tmp 43)), none⟩,
 .op 13 ⟨some 44, (.extract (.tmp 31) 0), none⟩,
 .op 14 ⟨some 45, (.extract (.tmp 31) 1), none⟩,
 .op 15 ⟨some 8, (.move (.tmp 44)), none⟩,
 .op 16 ⟨some 9, (.move (.tmp 45)), none⟩])
 (.seq (.dregion [[], [0], [0, 1], [1, 0, 2], [2, 0, 1, 3], [3, 1, 0, 2, 4], [4, 2, 0, 1, 3, 5], [5, 3, 1, 0, 2, 4, 6], [1, 0, 2], [8, 6, 4, 2, 0, 1, 3, 5, 7], [7, 5, 3, 1, 0, 2, 4, 6, 8, 9], [9, 8, 6, 4, 2, 0, 1, 3, 5, 7, 10], [1, 0, 2], [2, 0, 1, 12], [1, 0, 2], [2, 0, 1, 14], [14, 15, 12, 1, 0, 2, 13], [13, 12, 15, 14, 16, 10, 7, 5, 3, 1, 0, 2, 4, 6, 8, 9, 11], [11, 9, 8, 6, 4, 3, 5, 7, 10, 16, 14, 15, 12, 13, 17, 1, 0, 2]] [.op 0 ⟨some 46, (.move (.tmp 9)), none⟩,
 .op 1 ⟨some 47, (.un .not (.tmp 46)), none⟩,
 .op 2 ⟨some 48, (.move (.tmp 47)), none⟩,
 .op 3 ⟨some 49, (.move (.tmp 0)), some (48, false)⟩,
 .op 4 ⟨some 50, (.nilCheck (.tmp 49)), some (48, false)⟩,
 .op 5 ⟨some 51, (.fieldAddr 0 (.tmp 50)), some (48, false)⟩,
 .op 6 ⟨some 52, (.fieldAddr 3 (.tmp 51)), some (48, false)⟩,
 .op 7 ⟨some 53, (.load1 (.tmp 52)), some (48, false)⟩,
 .op 8 ⟨some 54, (.move (.tmp 8)), some (48, false)⟩,
 .op 9 ⟨some 55, (.indexAddrS 7 (.tmp 53) (.tmp 54)), some (48, false)⟩,
 .op 10 ⟨some 56, (.fieldAddr 3 (.tmp 55)), some (48, false)⟩,
 .op 11 ⟨some 57, (.load1 (.tmp 56)), some (48, false)⟩,
 .op 12 ⟨some 58, (.fieldAddr 3 (.tmp 6)), some (48, false)⟩,
 .op 13 ⟨some 59, (.load1 (.tmp 58)), some (48, false)⟩,
 .op 14 ⟨some 60, (.fieldAddr 3 (.tmp 7)), some (48, false)⟩,
 .op 15 ⟨some 61, (.load1 (.tmp 60)), some (48, false)⟩,
 .op 16 ⟨some 62, (.bin .add .prim (.tmp 59) (.tmp 61)), some (48, false)⟩,
 .op 17 ⟨some 63, (.bin .gtr .prim (.tmp 57) (.tmp 62)), some (48, false)⟩,
 .op 18 ⟨some 64, (.pick (.tmp 48) (.con (.bool true)) (.tmp 63)), none⟩])
 (.cond (.tmp 64)
 (.region [⟨some 65, (.move (.tmp 0)), none⟩,
 ⟨some 66, (.fieldAddr 0 (.tmp 6)), none⟩,
 ⟨some 67, (.load1 (.tmp 66)), none⟩,
 ⟨some 68, (.fieldAddr 1 (.tmp 7)), none⟩,
 ⟨some 69, (.load1 (.tmp 68)), none⟩,
 ⟨some 70, (.fieldAddr 2 (.tmp 6)), none⟩,
 ⟨some 71, (.load1 (.tmp 70)), none⟩,
 ⟨some 72, (.fieldAddr 3 (.tmp 6)), none⟩,
 ⟨some 73, (.load1 (.tmp 72)), none⟩,
 ⟨some 74, (.fieldAddr 3 (.tmp 7)), none⟩,
 ⟨some 75, (.load1 (.tmp 74)), none⟩,
 ⟨some 76, (.bin .add .prim (.tmp 73) (.tmp 75)), none⟩,
 ⟨some 77, (.move (.tmp 1)), none⟩,
 ⟨some 78, (.move (.tmp 2)), none⟩,
 ⟨some 79, (.build [(.int .i64 0), (.int .i64 0), (.int .i64 0), (.int .i64 0), (.int .i64 0), (.int .i64 0), (.int .i64 0)] [(0, 1, (.tmp 67)), (1, 1, (.tmp 69)), (2, 1, (.tmp 71)), (3, 1, (.tmp 76)), (4, 1, (.con (.int .i64 (-1)))), (5, 1, (.tmp 77)), (6, 1, (.tmp 78))]), none⟩,
 ⟨some 80, (.call 121 [(.tmp 65), (.tmp 79)]), none⟩])
 .skip)))))⟩
theorem F124_ok : cfn tab F124.body Try.f124 = some F124 := by kernel_rfl

/- (milestone/net.checker).edge -/
def F125 : AFn := ⟨38, [.tmp 4],
 (.seq (.region [⟨some 2, (.box 1 (.tmp 0)), none⟩,
 ⟨some 3, (.box 4 (.tmp 1)), none⟩,
 ⟨some 4, (.move (.con (.bool false))), none⟩])
 (.seq (.region [⟨some 6, (.loadN 1 (.tmp 2)), none⟩,
 ⟨some 7, (.mkFunc (.func 143) [(.tmp 6)] []), none⟩,
 ⟨some 5, (.move (.tmp 7)), none⟩])
 (.seq (.region [⟨some 8, (.move (.tmp 5)), none⟩,
 ⟨some 9, (.fieldAddr 0 (.tmp 3)), none⟩,
 ⟨some 10, (.load1 (.tmp 9)), none⟩,
 ⟨some 11, (.callv (.tmp 8) [(.tmp 10)]), none⟩,
 ⟨some 12, (.move (.tmp 11)), none⟩,
 ⟨some 13, (.move (.tmp 5)), some (12, true)⟩,
 ⟨some 14, (.fieldAddr 1 (.tmp 3)), some (12, true)⟩,
 ⟨some 15, (.load1 (.tmp 14)), some (12, true)⟩,
 ⟨some 16, (.callv (.tmp 13) [(.tmp 15)]), some (12, true)⟩,
 ⟨some 17, (.pick (.tmp 12) (.tmp 16) (.con (.bool false))), none⟩,
 ⟨some 18, (.move (.tmp 17)), none⟩,
 ⟨some 19, (.fieldAddr 2 (.tmp 3)), some (18, true)⟩,
 ⟨some 20, (.load1 (.tmp 19)), some (18, true)⟩,
 ⟨some 21, (.bin .geq .prim (.tmp 20) (.con (.int .i64 0))), some (18, true)⟩,
 ⟨some 22, (.pick (.tmp 18) (.tmp 21) (.con (.bool false))), none⟩,
 ⟨some 23, (.move (.tmp 22)), none⟩,
 ⟨some 24, (.fieldAddr 2 (.tmp 3)), some (23, true)⟩,
 ⟨some 25, (.load1 (.tmp 24)), some (23, true)⟩,
 ⟨some 26, (.bin .lss .prim (.tmp 25) (.con (.int .i64 5))), some (23, true)⟩,
 ⟨some 27, (.pick (.tmp 23) (.tmp 26) (.con (.bool false))), none⟩,
 ⟨some 28, (.move (.tmp 27)), none⟩,
 ⟨some 29, (.fieldAddr 3 (.tmp 3)), some (28, true)⟩,
 ⟨some 30, (.load1 (.tmp 29)), some (28, true)⟩,
 ⟨some 31, (.bin .geq .prim (.tmp 30) (.con (.int .i64 0))), some (28, true)⟩,
 ⟨some 32, (.pick (.tmp 28) (.tmp 31) (.con (.bool false))), none⟩,
 ⟨some 33, (.move (.tmp 32)), none⟩,
 ⟨some 34, (.fieldAddr 3 (.tmp 3)), some (33, true)⟩,
 ⟨some 35, (.load1 (.tmp 34)), some (33, true)⟩,
 ⟨some 36, (.bin .leq .prim (.tmp 35) (.con (.int .i64 2147483647))), some (33, true)⟩,
 ⟨some 37, (.pick (.tmp 33) (.tmp 36) (.con (.bool false))), none⟩,
 ⟨some 4, (.move (.tmp 37)), none⟩])
 .ret)))⟩
theorem F125_ok : cfn tab F125.body Try.f125 = some F125 := by kernel_rfl

/- (milestone/hier.checker).edge -/
def F126 : AFn := ⟨46, [.tmp 4],
 (.seq (.region [⟨some 2, (.box 6 (.tmp 0)), none⟩,
 ⟨some 3, (.box 7 (.tmp 1)), none⟩,
 ⟨some 4, (.move (.con (.bool false))), none⟩])
 (.seq (.seq (.region [⟨some 5, (.fieldAddr 4 (.tmp 3)), none⟩,
 ⟨some 6, (.load1 (.tmp 5)), none⟩,
 ⟨some 7, (.bin .lss .prim (.tmp 6) (.con (.int .i64 0))), none⟩,
 ⟨some 8, (.move (.tmp 7)), none⟩,
 ⟨some 9, (.fieldAddr 4 (.tmp 3)), some (8, false)⟩,
 ⟨some 10, (.load1 (.tmp 9)), some (8, false)⟩,
 ⟨some 11, (.fieldAddr 0 (.tmp 2)), some (8, false)⟩,
 ⟨some 12, (.fieldAddr 0 (.tmp 11)), some (8, false)⟩,
 ⟨some 13, (.fieldAddr 1 (.tmp 12)), some (8, false)⟩,
 ⟨some 14, (.load1 (.tmp 13)), some (8, false)⟩,
 ⟨some 15, (.lenS (.tmp 14)), some (8, false)⟩,
 ⟨some 16, (.bin .geq .prim (.tmp 10) (.tmp 15)), some (8, false)⟩,
 ⟨some 17, (.pick (.tmp 8) (.con (.bool true)) (.tmp 16)), none⟩,
 ⟨some 18, (.move (.tmp 17)), none⟩,
 ⟨some 19, (.fieldAddr 5 (.tmp 3)), some (18, false)⟩,
 ⟨some 20, (.load1 (.tmp 19)), some (18, false)⟩,
 ⟨some 21, (.bin .neq .prim (.tmp 20) (.con (.int .i64 0))), some (18, false)⟩,
 ⟨some 22, (.pick (.tmp 18) (.con (.bool true)) (.tmp 21)), none⟩,
 ⟨some 23, (.move (.tmp 22)), none⟩,
 ⟨some 24, (.fieldAddr 6 (.tmp 3)), some (23, false)⟩,
 ⟨some 25, (.load1 (.tmp 24)), some (23, false)⟩,
 ⟨some 26, (.bin .neq .prim (.tmp 25) (.con (.int .i64 0))), some (23, false)⟩,
 ⟨some 27, (.pick (.tmp 23) (.con (.bool true)) (.tmp 26)), none⟩])
 (.cond (.tmp 27)
 (.seq (.region [⟨some 4, (.move (.con (.bool false))), none⟩])
 .ret)
 .skip))
 (.seq (.dregion [[], [0], [0, 1], [1, 0, 2], [], [4], [4, 5, 2, 0, 1, 3], [3, 1, 0, 2, 5, 4, 6], [], [8], [], [10], [], [12], [], [14], [14, 15, 12, 13, 10, 11, 8, 9], [9, 8, 11, 10, 13, 12, 15, 14, 16, 6, 4, 5, 2, 0, 1, 3, 7], [7, 3, 1, 0, 2, 5, 4, 6, 16, 14, 15, 12, 13, 10, 11, 8, 9, 17]] [.op 0 ⟨some 28, (.fieldAddr 0 (.tmp 2)), none⟩,
 .op 1 ⟨some 29, (.fieldAddr 0 (.tmp 28)), none⟩,
 .op 2 ⟨some 30, (.fieldAddr 1 (.tmp 29)), none⟩,
 .op 3 ⟨some 31, (.load1 (.tmp 30)), none⟩,
 .op 4 ⟨some 32, (.fieldAddr 4 (.tmp 3)), none⟩,
 .op 5 ⟨some 33, (.load1 (.tmp 32)), none⟩,
 .op 6 ⟨some 34, (.indexAddrS 4 (.tmp 31) (.tmp 33)), none⟩,
 .op 7 ⟨some 35, (.loadN 4 (.tmp 34)), none⟩,
 .op 8 ⟨some 36, (.fieldAddr 0 (.tmp 3)), none⟩,
 .op 9 ⟨some 37, (.load1 (.tmp 36)), none⟩,
 .op 10 ⟨some 38, (.fieldAddr 1 (.tmp 3)), none⟩,
 .op 11 ⟨some 39, (.load1 (.tmp 38)), none⟩,
 .op 12 ⟨some 40, (.fieldAddr 2 (.tmp 3)), none⟩,
 .op 13 ⟨some 41, (.load1 (.tmp 40)), none⟩,
 .op 14 ⟨some 42, (.fieldAddr 3 (.tmp 3)), none⟩,
 .op 15 ⟨some 43, (.load1 (.tmp 42)), none⟩,
 .op 16 ⟨some 44, (.build [(.int .i64 0), (.int .i64 0), (.int .i64 0), (.int .i64 0)] [(0, 1, (.tmp 37)), (1, 1, (.tmp 39)), (2, 1, (.tmp 41)), (3, 1, (.tmp 43))]), none⟩,
 .op 17 ⟨some 45, (.bin .eql (.flat [.int, .int, .int, .int]) (.tmp 35) (.tmp 44)), none⟩,
 .op 18 ⟨some 4, (.move (.tmp 45)), none⟩])
 .ret)))⟩
theorem F126_ok : cfn tab F126.body Try.f126 = some F126 := by kernel_rfl

/- (milestone/hier.checker).two -/
def F127 : AFn := ⟨96, [.tmp 4],
 (.seq (.region [⟨some 2, (.box 6 (.tmp 0)), none⟩,
 ⟨some 4, (.move (.con (.bool false))), none⟩])
 (.seq (.region [⟨some 8, (.fieldAddr 0 (.tmp 2)), none⟩,
 ⟨some 9, (.fieldAddr 3 (.tmp 8)), none⟩,
 ⟨some 10, (.load1 (.tmp 9)), none⟩,
 ⟨some 11, (.move (.tmp 1)), none⟩,
 ⟨some 12, (.indexAddrS 7 (.tmp 10) (.tmp 11)), none⟩,
 ⟨some 13, (.loadN 7 (.tmp 12)), none⟩,
 ⟨some 5, (.alloc [(.int .i64 0), (.int .i64 0), (.int .i64 0), (.int .i64 0), (.int .i64 0), (.int .i64 0), (.int .i64 0)]), none⟩,
 ⟨none, (.store 7 (.tmp 5) (.tmp 13)), none⟩])
 (.seq (.seq (.region [⟨some 14, (.fieldAddr 4 (.tmp 5)), none⟩,
 ⟨some 15, (.load1 (.tmp 14)), none⟩,
 ⟨some 16, (.bin .neq .prim (.tmp 15) (.con (.int .i64 (-1)))), none⟩,
 ⟨some 17, (.move (.tmp 16)), none⟩,
 ⟨some 18, (.fieldAddr 5 (.tmp 5)), some (17, false)⟩,
 ⟨some 19, (.load1 (.tmp 18)), some (17, false)⟩,
 ⟨some 20, (.bin .lss .prim (.tmp 19) (.con (.int .i64 0))), some (17, false)⟩,
 ⟨some 21, (.pick (.tmp 17) (.con (.bool true)) (.tmp 20)), none⟩,
 ⟨some 22, (.move (.tmp 21)), none⟩,
 ⟨some 23, (.fieldAddr 5 (.tmp 5)), some (22, false)⟩,
 ⟨some 24, (.load1 (.tmp 23)), some (22, false)⟩,
 ⟨some 25, (.move (.tmp 1)), some (22, false)⟩,
 ⟨some 26, (.bin .geq .prim (.tmp 24) (.tmp 25)), some (22, false)⟩,
 ⟨some 27, (.pick (.tmp 22) (.con (.bool true)) (.tmp 26)), none⟩,
 ⟨some 28, (.move (.tmp 27)), none⟩,
 ⟨some 29, (.fieldAddr 6 (.tmp 5)), some (28, false)⟩,
 ⟨some 30, (.load1 (.tmp 29)), some (28, false)⟩,
 ⟨some 31, (.bin .lss .prim (.tmp 30) (.con (.int .i64 0))), some (28, false)⟩,
 ⟨some 32, (.pick (.tmp 28) (.con (.bool true)) (.tmp 31)), none⟩,
 ⟨some 33, (.move (.tmp 32)), none⟩,
 ⟨some 34, (.fieldAddr 6 (.tmp 5)), some (33, false)⟩,
 ⟨some 35, (.load1 (.tmp 34)), some (33, false)⟩,
 ⟨some 36, (.move (.tmp 1)), some (33, false)⟩,
 ⟨some 37, (.bin .geq .prim (.tmp 35) (.tmp 36)), some (33, false)⟩,
 ⟨some 38, (.pick (.tmp 33) (.con (.bool true)) (.tmp 37)), none⟩])
 (.cond (.tmp 38)
 (.seq (.region [⟨some 4, (.move (.con (.bool false))), none⟩])
 .ret)
 .skip))
 (.seq (.dregion [[], [0], [0, 1], [], [3], [3, 4, 1, 0, 2], [2, 0, 1, 4, 3, 5], [], [7], [7, 8], [], [10], [10, 11, 8, 7, 9], [9, 7, 8, 11, 10, 12], [], [], [15, 5, 3, 4, 1, 0, 2, 6, 14], [14, 6, 2, 0, 1, 4, 3, 5, 16, 12, 10, 11, 8, 7, 9, 13, 15]] [.op 0 ⟨some 39, (.fieldAddr 0 (.tmp 2)), none⟩,
 .op 1 ⟨some 40, (.fieldAddr 3 (.tmp 39)), none⟩,
 .op 2 ⟨some 41, (.load1 (.tmp 40)), none⟩,
 .op 3 ⟨some 42, (.fieldAddr 5 (.tmp 5)), none⟩,
 .op 4 ⟨some 43, (.load1 (.tmp 42)), none⟩,
 .op 5 ⟨some 44, (.indexAddrS 7 (.tmp 41) (.tmp 43)), none⟩,
 .op 6 ⟨some 45, (.loadN 7 (.tmp 44)), none⟩,
 .op 7 ⟨some 46, (.fieldAddr 0 (.tmp 2)), none⟩,
 .op 8 ⟨some 47, (.fieldAddr 3 (.tmp 46)), none⟩,
 .op 9 ⟨some 48, (.load1 (.tmp 47)), none⟩,
 .op 10 ⟨some 49, (.fieldAddr 6 (.tmp 5)), none⟩,
 .op 11 ⟨some 50, (.load1 (.tmp 49)), none⟩,
 .op 12 ⟨some 51, (.indexAddrS 7 (.tmp 48) (.tmp 50)), none⟩,
 .op 13 ⟨some 52, (.loadN 7 (.tmp 51)), none⟩,
 .op 14 ⟨some 6, (.alloc [(.int .i64 0), (.int .i64 0), (.int .i64 0), (.int .i64 0), (.int .i64 0), (.int .i64 0), (.int .i64 0)]), none⟩,
 .op 15 ⟨some 7, (.alloc [(.int .i64 0), (.int .i64 0), (.int .i64 0), (.int .i64 0), (.int .i64 0), (.int .i64 0), (.int .i64 0)]), none⟩,
 .op 16 ⟨none, (.store 7 (.tmp 6) (.tmp 45)), none⟩,
 .re 9 ⟨some 48, (.load1 (.tmp 47)), none⟩,
 .re 11 ⟨some 50, (.load1 (.tmp 49)), none⟩,
 .re 13 ⟨some 52, (.loadN 7 (.tmp 51)), none⟩,
 .op 17 ⟨none, (.store 7 (.tmp 7) (.tmp 52)), none⟩])
 (.seq (.region [⟨some 53, (.fieldAddr 2 (.tmp 6)), none⟩,
 ⟨some 54, (.load1 (.tmp 53)), none⟩,
 ⟨some 55, (.fieldAddr 2 (.tmp 5)), none⟩,
 ⟨some 56, (.load1 (.tmp 55)), none⟩,
 ⟨some 57, (.bin .eql .prim (.tmp 54) (.tmp 56)), none⟩,
 ⟨some 58, (.move (.tmp 57)), none⟩,
 ⟨some 59, (.fieldAddr 2 (.tmp 7)), some (58, true)⟩,
 ⟨some 60, (.load1 (.tmp 59)), some (58, true)⟩,
 ⟨some 61, (.fieldAddr 2 (.tmp 5)), some (58, true)⟩,
 ⟨some 62, (.load1 (.tmp 61)), some (58, true)⟩,
 ⟨some 63, (.bin .eql .prim (.tmp 60) (.tmp 62)), some (58, true)⟩,
 ⟨some 64, (.pick (.tmp 58) (.tmp 63) (.con (.bool false))), none⟩,
 ⟨some 65, (.move (.tmp 64)), none⟩,
 ⟨some 66, (.fieldAddr 0 (.tmp 6)), some (65, true)⟩,
 ⟨some 67, (.load1 (.tmp 66)), some (65, true)⟩,
 ⟨some 68, (.fieldAddr 0 (.tmp 5)), some (65, true)⟩,
 ⟨some 69, (.load1 (.tmp 68)), some (65, true)⟩,
 ⟨some 70, (.bin .eql .prim (.tmp 67) (.tmp 69)), some (65, true)⟩,
 ⟨some 71, (.pick (.tmp 65) (.tmp 70) (.con (.bool false))), none⟩,
 ⟨some 72, (.move (.tmp 71)), none⟩,
 ⟨some 73, (.fieldAddr 1 (.tmp 6)), some (72, true)⟩,
 ⟨some 74, (.load1 (.tmp 73)), some (72, true)⟩,
 ⟨some 75, (.fieldAddr 0 (.tmp 7)), some (72, true)⟩,
 ⟨some 76, (.load1 (.tmp 75)), some (72, true)⟩,
 ⟨some 77, (.bin .eql .prim (.tmp 74) (.tmp 76)), some (72, true)⟩,
 ⟨some 78, (.pick (.tmp 72) (.tmp 77) (.con (.bool false))), none⟩,
 ⟨some 79, (.move (.tmp 78)), none⟩,
 ⟨some 80, (.fieldAddr 1 (.tmp 7)), some (79, true)⟩,
 ⟨some 81, (.load1 (.tmp 80)), some (79, true)⟩,
 ⟨some 82, (.fieldAddr 1 (.tmp 5)), some (79, true)⟩,
 ⟨some 83, (.load1 (.tmp 82)), some (79, true)⟩,
 ⟨some 84, (.bin .eql .prim (.tmp 81) (.tmp 83)), some (79, true)⟩,
 ⟨some 85, (.pick (.tmp 79) (.tmp 84) (.con (.bool false))), none⟩,
 ⟨some 86, (.move (.tmp 85)), none⟩,
 ⟨some 87, (.fieldAddr 3 (.tmp 5)), some (86, true)⟩,
 ⟨some 88, (.load1 (.tmp 87)), some (86, true)⟩,
 ⟨some 89, (.fieldAddr 3 (.tmp 6)), some (86, true)⟩,
 ⟨some 90, (.load1 (.tmp 89)), some (86, true)⟩,
 ⟨some 91, (.fieldAddr 3 (.tmp 7)), some (86, true)⟩,
 ⟨some 92, (.load1 (.tmp 91)), some (86, true)⟩,
 ⟨some 93, (.bin .add .prim (.tmp 90) (.tmp 92)), some (86, true)⟩,
 ⟨some 94, (.bin .eql .prim (.tmp 88) (.tmp 93)), some (86, true)⟩,
 ⟨some 95, (.pick (.tmp 86) (.tmp 94) (.con (.bool false))), none⟩,
 ⟨some 4, (.move (.tmp 95)), none⟩])
 .ret)))))⟩
theorem F127_ok : cfn tab F127.body Try.f127 = some F127 := by kernel_rfl

/- (milestone/hier.checker).once -/
def F128 : AFn := ⟨33, [.tmp 4],
 (.seq (.region [⟨some 2, (.box 6 (.tmp 0)), none⟩,
 ⟨some 4, (.move (.con (.bool false))), none⟩])
 (.seq (.region [⟨some 8, .mkMap, none⟩,
 ⟨some 5, (.move (.tmp 8)), none⟩])
 (.seq (.seq (.region [⟨some 9, (.move (.tmp 1)), none⟩,
 ⟨some 10, (.lenS (.tmp 9)), none⟩,
 ⟨some 11, (.move (.con (.int .i64 0))), none⟩])
 (.join [false, false, false, false, true] (.block 0 (.loop [false, false, true, false, false, true, false, false, false, true, true, true] [false, false, false, false, true]
 (.seq (.region [⟨some 12, (.bin .lss .prim (.tmp 11) (.tmp 10)), none⟩])
 (.seq (.cond (.tmp 12)
 .skip
 (.exit 0))
 (.seq (.block 1 (.seq (.region [⟨some 13, (.indexAddrS 1 (.tmp 9) (.tmp 11)), none⟩,
 ⟨some 14, (.load1 (.tmp 13)), none⟩,
 ⟨some 7, (.move (.tmp 14)), none⟩])
 (.seq (.seq (.region [⟨some 15, (.move (.tmp 7)), none⟩,
 ⟨some 16, (.bin .lss .prim (.tmp 15) (.con (.int .i64 0))), none⟩,
 ⟨some 17, (.move (.tmp 16)), none⟩,
 ⟨some 18, (.move (.tmp 7)), some (17, false)⟩,
 ⟨some 19, (.fieldAddr 0 (.tmp 2)), some (17, false)⟩,
 ⟨some 20, (.fieldAddr 3 (.tmp 19)), some (17, false)⟩,
 ⟨some 21, (.load1 (.tmp 20)), some (17, false)⟩,
 ⟨some 22, (.lenS (.tmp 21)), some (17, false)⟩,
 ⟨some 23, (.bin .geq .prim (.tmp 18) (.tmp 22)), some (17, false)⟩,
 ⟨some 24, (.pick (.tmp 17) (.con (.bool true)) (.tmp 23)), none⟩,
 ⟨some 25, (.move (.tmp 24)), none⟩,
 ⟨some 26, (.move (.tmp 5)), some (25, false)⟩,
 ⟨some 27, (.move (.tmp 7)), some (25, false)⟩,
 ⟨some 28, (.lookup (.one .int) (.bool false) (.tmp 26) (.tmp 27) false), some (25, false)⟩,
 ⟨some 29, (.pick (.tmp 25) (.con (.bool true)) (.tmp 28)), none⟩])
 (.cond (.tmp 29)
 (.seq (.region [⟨some 4, (.move (.con (.bool false))), none⟩])
 .ret)
 .skip))
 (.region [⟨some 30, (.move (.tmp 5)), none⟩,
 ⟨some 31, (.move (.tmp 7)), none⟩,
 ⟨none, (.mapUpdate (.one .int) (.tmp 30) (.tmp 31) (.con (.bool true))), none⟩]))))
 (.region [⟨some 32, (.bin .add .prim (.tmp 11) (.con (.int .i64 1))), none⟩,
 ⟨some 11, (.move (.tmp 32)), none⟩]))))))))
 (.seq (.region [⟨some 4, (.move (.con (.bool true))), none⟩])
 .ret))))⟩
theorem F128_ok : cfn tab F128.body Try.f128 = some F128 := by kernel_rfl

/- (milestone/hier.checker).above -/
def F129 : AFn := ⟨34, [.tmp 6],
 (.seq (.region [⟨some 3, (.box 6 (.tmp 0)), none⟩,
 ⟨some 6, (.move (.con (.bool false))), none⟩])
 (.seq (.region [⟨some 8, (.fieldAddr 0 (.tmp 3)), none⟩,
 ⟨some 9, (.fieldAddr 2 (.tmp 8)), none⟩,
 ⟨some 10, (.load1 (.tmp 9)), none⟩,
 ⟨some 7, (.move (.tmp 10)), none⟩])
 (.seq (.dregion [[], [], [1, 0], [0, 1, 2], [2, 1, 0, 3], [3, 0, 1, 2, 4], [4, 2, 1, 0, 3, 5], [4, 2, 1, 0, 3, 5], [7, 5, 3, 0, 1, 2, 4, 6], [6, 4, 2, 1, 0, 3, 5, 7, 8], [8, 7, 5, 3, 0, 1, 2, 4, 6, 9], [9, 6, 4, 2, 1, 0, 3, 5, 7, 8, 10], [10, 8, 7, 5, 3, 0, 1, 2, 4, 6, 9, 11], [10, 8, 7, 5, 3, 0, 1, 2, 4, 6, 9, 11], [13, 11, 9, 6, 4, 2, 1, 0, 3, 5, 7, 8, 10, 12], [12, 10, 8, 7, 5, 3, 0, 1, 2, 4, 6, 9, 11, 13, 14], [10, 8, 7, 5, 3, 0, 1, 2, 4, 6, 9, 11], [10, 8, 7, 5, 3, 0, 1, 2, 4, 6, 9, 11], [17, 11, 9, 6, 4, 2, 1, 0, 3, 5, 7, 8, 10, 16], [16, 10, 8, 7, 5, 3, 0, 1, 2, 4, 6, 9, 11, 17, 18], [18, 17, 16, 19, 14, 13, 11, 9, 6, 4, 2, 1, 0, 3, 5, 7, 8, 10, 12, 15], [15, 12, 13, 14, 19, 16, 17, 18, 20, 10, 8, 7, 5, 3, 0, 1, 2, 4, 6, 9, 11], [11, 9, 6, 7, 8, 10, 20, 18, 17, 16, 19, 14, 13, 12, 15, 21, 4, 2, 1, 0, 3, 5], [5, 3, 0, 1, 2, 4, 21, 15, 12, 13, 14, 19, 16, 17, 18, 20, 10, 8, 7, 6, 9, 11, 22]] [.op 0 ⟨some 11, (.move (.tmp 7)), none⟩,
 .op 1 ⟨some 12, (.move (.tmp 1)), none⟩,
 .op 2 ⟨some 13, (.indexAddrS 1 (.tmp 11) (.tmp 12)), none⟩,
 .op 3 ⟨some 14, (.load1 (.tmp 13)), none⟩,
 .op 4 ⟨some 15, (.bin .lss .prim (.tmp 14) (.con (.int .i64 0))), none⟩,
 .op 5 ⟨some 16, (.move (.tmp 15)), none⟩,
 .op 6 ⟨some 17, (.move (.tmp 7)), some (16, false)⟩,
 .op 7 ⟨some 18, (.move (.tmp 2)), some (16, false)⟩,
 .op 8 ⟨some 19, (.indexAddrS 1 (.tmp 17) (.tmp 18)), some (16, false)⟩,
 .op 9 ⟨some 20, (.load1 (.tmp 19)), some (16, false)⟩,
 .op 10 ⟨some 21, (.bin .geq .prim (.tmp 20) (.con (.int .i64 0))), some (16, false)⟩,
 .op 11 ⟨some 22, (.move (.tmp 21)), some (16, false)⟩,
 .op 12 ⟨some 23, (.move (.tmp 7)), some (22, true)⟩,
 .op 13 ⟨some 24, (.move (.tmp 1)), some (22, true)⟩,
 .op 14 ⟨some 25, (.indexAddrS 1 (.tmp 23) (.tmp 24)), some (22, true)⟩,
 .op 15 ⟨some 26, (.load1 (.tmp 25)), some (22, true)⟩,
 .op 16 ⟨some 27, (.move (.tmp 7)), some (22, true)⟩,
 .op 17 ⟨some 28, (.move (.tmp 2)), some (22, true)⟩,
 .op 18 ⟨some 29, (.indexAddrS 1 (.tmp 27) (.tmp 28)), some (22, true)⟩,
 .op 19 ⟨some 30, (.load1 (.tmp 29)), some (22, true)⟩,
 .op 20 ⟨some 31, (.bin .gtr .prim (.tmp 26) (.tmp 30)), some (22, true)⟩,
 .op 21 ⟨some 32, (.pick (.tmp 22) (.tmp 31) (.con (.bool false))), some (16, false)⟩,
 .op 22 ⟨some 33, (.pick (.tmp 16) (.con (.bool true)) (.tmp 32)), none⟩,
 .op 23 ⟨some 6, (.move (.tmp 33)), none⟩])
 .ret)))⟩
theorem F129_ok : cfn tab F129.body Try.f129 = some F129 := by kernel_rfl

/- slices.insertionSortCmpFunc[milestone/order.ranked] -/
def F131 : AFn := ⟨53, [],
 (.seq (.region [⟨some 10, (.move (.tmp 1)), none⟩,
 ⟨some 11, (.bin .add .prim (.tmp 10) (.con (.int .i64 1))), none⟩,
 ⟨some 8, (.move (.tmp 11)), none⟩])
 (.block 0 (.loop [true, true, true, true, false, false, false, false, true] []
 (.seq (.seq (.region [⟨some 12, (.move (.tmp 8)), none⟩,
 ⟨some 13, (.move (.tmp 2)), none⟩,
 ⟨some 14, (.bin .lss .prim (.tmp 12) (.tmp 13)), none⟩])
 (.cond (.tmp 14)
 .skip
 (.exit 0)))
 (.seq (.block 1 (.seq (.region [⟨some 17, (.move (.tmp 8)), none⟩,
 ⟨some 9, (.move (.tmp 17)), none⟩])
 (.block 2 (.loop [true, true, true, true, false, false, false, false, true, true] [true, true, true, true, false, false, false, false, true]
 (.seq (.seq (.dregion [[], [], [1, 0], [0, 1, 2], [2, 1, 0, 3], [2, 1, 0, 3], [2, 1, 0, 3], [6, 3, 0, 1, 2, 5], [5, 2, 1, 0, 3, 6, 7], [2, 1, 0, 3], [2, 1, 0, 3], [3, 0, 1, 2, 10], [10, 11, 3, 0, 1, 2, 9], [9, 2, 1, 0, 3, 11, 10, 12], [12, 10, 11, 9, 13, 7, 6, 5, 8, 3, 0, 1, 2, 4], [4, 2, 1, 0, 3, 8, 5, 6, 7, 13, 9, 11, 10, 12, 14], [14, 12, 10, 11, 9, 13, 7, 6, 5, 8, 4, 15, 2, 1, 0, 3]] [.op 0 ⟨some 18, (.move (.tmp 9)), none⟩,
 .op 1 ⟨some 19, (.move (.tmp 1)), none⟩,
 .op 2 ⟨some 20, (.bin .gtr .prim (.tmp 18) (.tmp 19)), none⟩,
 .op 3 ⟨some 21, (.move (.tmp 20)), none⟩,
 .op 4 ⟨some 22, (.move (.tmp 3)), some (21, true)⟩,
 .op 5 ⟨some 23, (.move (.tmp 0)), some (21, true)⟩,
 .op 6 ⟨some 24, (.move (.tmp 9)), some (21, true)⟩,
 .op 7 ⟨some 25, (.indexAddrS 2 (.tmp 23) (.tmp 24)), some (21, true)⟩,
 .op 8 ⟨some 26, (.loadN 2 (.tmp 25)), some (21, true)⟩,
 .op 9 ⟨some 27, (.move (.tmp 0)), some (21, true)⟩,
 .op 10 ⟨some 28, (.move (.tmp 9)), some (21, true)⟩,
 .op 11 ⟨some 29, (.bin .sub .prim (.tmp 28) (.con (.int .i64 1))), some (21, true)⟩,
 .op 12 ⟨some 30, (.indexAddrS 2 (.tmp 27) (.tmp 29)), some (21, true)⟩,
 .op 13 ⟨some 31, (.loadN 2 (.tmp 30)), some (21, true)⟩,
 .op 14 ⟨some 32, (.callv (.tmp 22) [(.tmp 26), (.tmp 31)]), some (21, true)⟩,
 .op 15 ⟨some 33, (.bin .lss .prim (.tmp 32) (.con (.int .i64 0))), some (21, true)⟩,
 .op 16 ⟨some 34, (.pick (.tmp 21) (.tmp 33) (.con (.bool false))), none⟩])
 (.cond (.tmp 34)
 .skip
 (.exit 2)))
 (.seq (.block 3 (.dregion [[], [], [], [], [3], [], [], [6], [6, 7, 5], [5, 7, 6, 8], [], [], [11, 10], [10, 11, 12], [12, 11, 10, 13, 9, 8, 7, 6, 5, 1, 0], [0, 1, 5, 6, 7, 8, 9, 13, 10, 11, 12, 14], [15, 14, 13, 12, 11, 10, 9, 8, 7, 6, 5, 1, 0, 3, 4, 2], [2, 4, 3, 0, 1, 5, 6, 7, 8, 9, 10, 11, 12, 13, 14, 15, 16]] [.op 0 ⟨some 37, (.move (.tmp 0)), none⟩,
 .op 1 ⟨some 38, (.move (.tmp 9)), none⟩,
 .op 2 ⟨some 39, (.move (.tmp 0)), none⟩,
 .op 3 ⟨some 40, (.move (.tmp 9)), none⟩,
 .op 4 ⟨some 41, (.bin .sub .prim (.tmp 40) (.con (.int .i64 1))), none⟩,
 .op 5 ⟨some 42, (.move (.tmp 0)), none⟩,
 .op 6 ⟨some 43, (.move (.tmp 9)), none⟩,
 .op 7 ⟨some 44, (.bin .sub .prim (.tmp 43) (.con (.int .i64 1))), none⟩,
 .op 8 ⟨some 45, (.indexAddrS 2 (.tmp 42) (.tmp 44)), none⟩,
 .op 9 ⟨some 46, (.loadN 2 (.tmp 45)), none⟩,
 .op 10 ⟨some 47, (.move (.tmp 0)), none⟩,
 .op 11 ⟨some 48, (.move (.tmp 9)), none⟩,
 .op 12 ⟨some 49, (.indexAddrS 2 (.tmp 47) (.tmp 48)), none⟩,
 .op 13 ⟨some 50, (.loadN 2 (.tmp 49)), none⟩,
 .op 14 ⟨some 51, (.indexAddrS 2 (.tmp 37) (.tmp 38)), none⟩,
 .op 15 ⟨none, (.store 2 (.tmp 51) (.tmp 46)), none⟩,
 .op 16 ⟨some 52, (.indexAddrS 2 (.tmp 39) (.tmp 41)), none⟩,
 .op 17 ⟨none, (.store 2 (.tmp 52) (.tmp 50)), none⟩]))
 (.region [⟨some 35, (.move (.tmp 9)), none⟩,
 ⟨some 36, (.bin .sub .prim (.tmp 35) (.con (.int .i64 1))), none⟩,
 ⟨some 9, (.move (.tmp 36)), none⟩])))))))
 (.region [⟨some 15, (.move (.tmp 8)), none⟩,
 ⟨some 16, (.bin .add .prim (.tmp 15) (.con (.int .i64 1))), none⟩,
 ⟨some 8, (.move (.tmp 16)), none⟩]))))))⟩
theorem F131_ok : cfn tab F131.body Try.f131 = some F131 := by kernel_rfl

/- math/bits.Len32 -/
def F139 : AFn := ⟨19, [.tmp 2],
 (.seq (.region [⟨some 2, (.move (.con (.int .i64 0))), none⟩])
 (.seq (.seq (.region [⟨some 3, (.move (.tmp 0)), none⟩,
 ⟨some 4, (.bin .geq .prim (.tmp 3) (.con (.int .u32 65536))), none⟩])
 (.join [true, false, true] (.cond (.tmp 4)
 (.seq (.region [⟨some 5, (.move (.tmp 0)), none⟩,
 ⟨some 6, (.bin .shr .prim (.tmp 5) (.con (.int .u64 16))), none⟩,
 ⟨some 0, (.move (.tmp 6)), none⟩])
 (.region [⟨some 2, (.move (.con (.int .i64 16))), none⟩]))
 .skip)))
 (.seq (.seq (.region [⟨some 7, (.move (.tmp 0)), none⟩,
 ⟨some 8, (.bin .geq .prim (.tmp 7) (.con (.int .u32 256))), none⟩])
 (.join [true, false, true] (.cond (.tmp 8)
 (.seq (.region [⟨some 9, (.move (.tmp 0)), none⟩,
 ⟨some 10, (.bin .shr .prim (.tmp 9) (.con (.int .u64 8))), none⟩,
 ⟨some 0, (.move (.tmp 10)), none⟩])
 (.region [⟨some 11, (.move (.tmp 2)), none⟩,
 ⟨some 12, (.bin .add .prim (.tmp 11) (.con (.int .i64 8))), none⟩,
 ⟨some 2, (.move (.tmp 12)), none⟩]))
 .skip)))
 (.seq (.region [⟨some 13, (.move (.tmp 2)), none⟩,
 ⟨some 14, (.move (.tmp 0)), none⟩,
 ⟨some 15, (.toInt .u8 (.tmp 14)), none⟩,
 ⟨some 16, (.indexStr (.con (.str ⟨#[0, 1, 2, 2, 3, 3, 3, 3, 4, 4, 4, 4, 4, 4, 4, 4, 5, 5, 5, 5, 5, 5, 5, 5, 5, 5, 5, 5, 5, 5, 5, 5, 6, 6, 6, 6, 6, 6, 6, 6, 6, 6, 6, 6, 6, 6, 6, 6, 6, 6, 6, 6, 6, 6, 6, 6, 6, 6, 6, 6, 6, 6, 6, 6, 7, 7, 7, 7, 7, 7, 7, 7, 7, 7, 7, 7, 7, 7, 7, 7, 7, 7, 7, 7, 7, 7, 7, 7, 7, 7, 7, 7, 7, 7, 7, 7, 7, 7, 7, 7, 7, 7, 7, 7, 7, 7, 7, 7, 7, 7, 7, 7, 7, 7, 7, 7, 7, 7, 7, 7, 7, 7, 7, 7, 7, 7, 7, 7, 8, 8, 8, 8, 8, 8, 8, 8, 8, 8, 8, 8, 8, 8, 8, 8, 8, 8, 8, 8, 8, 8, 8, 8, 8, 8, 8, 8, 8, 8, 8, 8, 8, 8, 8, 8, 8, 8, 8, 8, 8, 8, 8, 8, 8, 8, 8, 8, 8, 8, 8, 8, 8, 8, 8, 8, 8, 8, 8, 8, 8, 8, 8, 8, 8, 8, 8, 8, 8, 8, 8, 8, 8, 8, 8, 8, 8, 8, 8, 8, 8, 8, 8, 8, 8, 8, 8, 8, 8, 8, 8, 8, 8, 8, 8, 8, 8, 8, 8, 8, 8, 8, 8, 8, 8, 8, 8, 8, 8, 8, 8, 8, 8, 8, 8, 8, 8, 8, 8, 8, 8, 8, 8, 8, 8, 8, 8, 8]⟩)) (.tmp 15)), none⟩,
 ⟨some 17, (.toInt .i64 (.tmp 16)), none⟩,
 ⟨some 18, (.bin .add .prim (.tmp 13) (.tmp 17)), none⟩,
 ⟨some 2, (.move (.tmp 18)), none⟩])
 .ret))))⟩
theorem F139_ok : cfn tab F139.body Try.f139 = some F139 := by kernel_rfl

/- math/bits.Len64 -/
def F140 : AFn := ⟨25, [.tmp 2],
 (.seq (.region [⟨some 2, (.move (.con (.int .i64 0))), none⟩])
 (.seq (.seq (.region [⟨some 3, (.move (.tmp 0)), none⟩,
 ⟨some 4, (.bin .geq .prim (.tmp 3) (.con (.int .u64 4294967296))), none⟩])
 (.join [true, false, true] (.cond (.tmp 4)
 (.seq (.region [⟨some 5, (.move (.tmp 0)), none⟩,
 ⟨some 6, (.bin .shr .prim (.tmp 5) (.con (.int .u64 32))), none⟩,
 ⟨some 0, (.move (.tmp 6)), none⟩])
 (.region [⟨some 2, (.move (.con (.int .i64 32))), none⟩]))
 .skip)))
 (.seq (.seq (.region [⟨some 7, (.move (.tmp 0)), none⟩,
 ⟨some 8, (.bin .geq .prim (.tmp 7) (.con (.int .u64 65536))), none⟩])
 (.join [true, false, true] (.cond (.tmp 8)
 (.seq (.region [⟨some 9, (.move (.tmp 0)), none⟩,
 ⟨some 10, (.bin .shr .prim (.tmp 9) (.con (.int .u64 16))), none⟩,
 ⟨some 0, (.move (.tmp 10)), none⟩])
 (.region [⟨some 11, (.move (.tmp 2)), none⟩,
 ⟨some 12, (.bin .add .prim (.tmp 11) (.con (.int .i64 16))), none⟩,
 ⟨some 2, (.move (.tmp 12)), none⟩]))
 .skip)))
 (.seq (.seq (.region [⟨some 13, (.move (.tmp 0)), none⟩,
 ⟨some 14, (.bin .geq .prim (.tmp 13) (.con (.int .u64 256))), none⟩])
 (.join [true, false, true] (.cond (.tmp 14)
 (.seq (.region [⟨some 15, (.move (.tmp 0)), none⟩,
 ⟨some 16, (.bin .shr .prim (.tmp 15) (.con (.int .u64 8))), none⟩,
 ⟨some 0, (.move (.tmp 16)), none⟩])
 (.region [⟨some 17, (.move (.tmp 2)), none⟩,
 ⟨some 18, (.bin .add .prim (.tmp 17) (.con (.int .i64 8))), none⟩,
 ⟨some 2, (.move (.tmp 18)), none⟩]))
 .skip)))
 (.seq (.region [⟨some 19, (.move (.tmp 2)), none⟩,
 ⟨some 20, (.move (.tmp 0)), none⟩,
 ⟨some 21, (.toInt .u8 (.tmp 20)), none⟩,
 ⟨some 22, (.indexStr (.con (.str ⟨#[0, 1, 2, 2, 3, 3, 3, 3, 4, 4, 4, 4, 4, 4, 4, 4, 5, 5, 5, 5, 5, 5, 5, 5, 5, 5, 5, 5, 5, 5, 5, 5, 6, 6, 6, 6, 6, 6, 6, 6, 6, 6, 6, 6, 6, 6, 6, 6, 6, 6, 6, 6, 6, 6, 6, 6, 6, 6, 6, 6, 6, 6, 6, 6, 7, 7, 7, 7, 7, 7, 7, 7, 7, 7, 7, 7, 7, 7, 7, 7, 7, 7, 7, 7, 7, 7, 7, 7, 7, 7, 7, 7, 7, 7, 7, 7, 7, 7, 7, 7, 7, 7, 7, 7, 7, 7, 7, 7, 7, 7, 7, 7, 7, 7, 7, 7, 7, 7, 7, 7, 7, 7, 7, 7, 7, 7, 7, 7, 8, 8, 8, 8, 8, 8, 8, 8, 8, 8, 8, 8, 8, 8, 8, 8, 8, 8, 8, 8, 8, 8, 8, 8, 8, 8, 8, 8, 8, 8, 8, 8, 8, 8, 8, 8, 8, 8, 8, 8, 8, 8, 8, 8, 8, 8, 8, 8, 8, 8, 8, 8, 8, 8, 8, 8, 8, 8, 8, 8, 8, 8, 8, 8, 8, 8, 8, 8, 8, 8, 8, 8, 8, 8, 8, 8, 8, 8, 8, 8, 8, 8, 8, 8, 8, 8, 8, 8, 8, 8, 8, 8, 8, 8, 8, 8, 8, 8, 8, 8, 8, 8, 8, 8, 8, 8, 8, 8, 8, 8, 8, 8, 8, 8, 8, 8, 8, 8, 8, 8, 8, 8, 8, 8, 8, 8, 8, 8]⟩)) (.tmp 21)), none⟩,
 ⟨some 23, (.toInt .i64 (.tmp 22)), none⟩,
 ⟨some 24, (.bin .add .prim (.tmp 19) (.tmp 23)), none⟩,
 ⟨some 2, (.move (.tmp 24)), none⟩])
 .ret)))))⟩
theorem F140_ok : cfn tab F140.body Try.f140 = some F140 := by kernel_rfl

/- cmp.isNaN[int] -/
def F141 : AFn := ⟨6, [.tmp 2],
 (.seq (.region [⟨some 2, (.move (.con (.bool false))), none⟩])
 (.seq (.region [⟨some 3, (.move (.tmp 0)), none⟩,
 ⟨some 4, (.move (.tmp 0)), none⟩,
 ⟨some 5, (.bin .neq .prim (.tmp 3) (.tmp 4)), none⟩,
 ⟨some 2, (.move (.tmp 5)), none⟩])
 .ret))⟩
theorem F141_ok : cfn tab F141.body Try.f141 = some F141 := by kernel_rfl

/- (milestone/net.checker).vertex -/
def F143 : AFn := ⟨13, [.tmp 4],
 (.seq (.region [⟨some 2, (.box 1 (.tmp 0)), none⟩,
 ⟨some 4, (.move (.con (.bool false))), none⟩])
 (.seq (.region [⟨some 5, (.move (.tmp 1)), none⟩,
 ⟨some 6, (.bin .geq .prim (.tmp 5) (.con (.int .i64 0))), none⟩,
 ⟨some 7, (.move (.tmp 6)), none⟩,
 ⟨some 8, (.move (.tmp 1)), some (7, true)⟩,
 ⟨some 9, (.fieldAddr 0 (.tmp 2)), some (7, true)⟩,
 ⟨some 10, (.load1 (.tmp 9)), some (7, true)⟩,
 ⟨some 11, (.bin .lss .prim (.tmp 8) (.tmp 10)), some (7, true)⟩,
 ⟨some 12, (.pick (.tmp 7) (.tmp 11) (.con (.bool false))), none⟩,
 ⟨some 4, (.move (.tmp 12)), none⟩])
 .ret))⟩
theorem F143_ok : cfn tab F143.body Try.f143 = some F143 := by kernel_rfl

end Go.Proofs.Ytknhlpmmalcchaa
